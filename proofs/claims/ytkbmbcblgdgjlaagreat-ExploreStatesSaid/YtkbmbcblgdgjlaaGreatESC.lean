/- Own text: what the proof of exploreStates_holds uses, part 3: rules, models and their proofs, plain laws. -/
import Derived.Test.YtkbmbcblgdgjlaaGreatESB
set_option linter.unusedVariables false
set_option linter.unusedSimpArgs false
namespace Go.Proofs.YtkbmbcblgdgjlaaGreat
open Go Go.RowKit
section
open Go Go.RowKit
attribute [local irreducible] ewp owp hwp hwq hws Ev Evg Fn retPost loud loudS Res1
/-- The blocks that are new. -/
def nw (w w' : World) : Nat → Prop := fun k => w.heap.size ≤ k ∧ k < w'.heap.size
theorem chunks_fct {w : World} {F G : Nat → Prop} : ∀ {xs : List Fct} {cells : List Value}, Chunks w F cells xs → Chunks w G cells xs
  | [], _, h => h
  | _ :: _, _, ⟨cs, rest, he, hr, hc⟩ => ⟨cs, rest, he, hr, chunks_fct hc⟩
theorem chunks_int' {w : World} {F G : Nat → Prop} : ∀ {xs : List Int} {cells : List Value}, Chunks w F cells xs → Chunks w G cells xs
  | [], _, h => h
  | _ :: _, _, ⟨cs, rest, he, hr, hc⟩ => ⟨cs, rest, he, hr, chunks_int' hc⟩
theorem cloneIntsN {w : World} {sv : Value} {xs : List Int} (hs : V w sv xs) (hl : xs.length ≤ 1000000) : Fn Tryz.prog 55 [sv] w fun v w' => Vb w' (nw w w') v xs ∧ Ext w w' :=
  (cloneInts hs (by omega)).mono fun v w' ⟨ho, hE⟩ => ⟨by
    obtain ⟨cells, q1, q2, q3⟩ := id ho
    have ho' : Own w' w.heap.size (fun _ => False) 3 v xs := ⟨cells, q1, chunks_int' q2, fun _ _ h => h⟩
    exact ho'.vb.mono fun k hk => ho.lt k (hk.resolve_left id), hE⟩
theorem cloneFactsN {w : World} {sv : Value} {xs : List Fct} (hs : V w sv xs) (hl : xs.length ≤ 1000000) : Fn Tryz.prog 84 [sv] w fun v w' => Vb w' (nw w w') v xs ∧ Ext w w' :=
  (cloneFacts hs (by omega)).mono fun v w' ⟨ho, hE⟩ => ⟨by
    obtain ⟨cells, q1, q2, q3⟩ := id ho
    have ho' : Own w' w.heap.size (fun _ => False) 123 v xs := ⟨cells, q1, chunks_fct q2, fun _ _ h => h⟩
    exact ho'.vb.mono fun k hk => ho.lt k (hk.resolve_left id), hE⟩
theorem Vb.nwext {α : Type} [Rp α] {w w' w'' : World} {v : Value} {x : α} (h : Vb w' (nw w w') v x) (hE : Ext w' w'') : Vb w'' (nw w w') v x := h.agree (hE.agree fun _ hk => hk.2)
theorem genCopied {w : World} {tv : Value} {t : Tsk} (ht : V w tv t) (hl1 : t.vars.length ≤ 1000000) (hl2 : t.init.length ≤ 1000000) (hl3 : t.goal.length ≤ 1000000) (hl4 : t.ops.length ≤ 1000000)
    (hl5 : ∀ (i : Nat) o, t.ops[i]? = some o → o.pre.length ≤ 1000000 ∧ o.effs.length ≤ 1000000 ∧ ∀ (j : Nat) e, o.effs[j]? = some e → e.cond.length ≤ 1000000) :
    Fn Tryz.prog 80 [tv] w fun v w' => Vb w' (nw w w') v t ∧ Ext w w' := by
  obtain ⟨cs, rfl, a, b, c, d, rfl, hvars, hinit, hgoal, hops⟩ := ht
  obtain ⟨Av, cv, rfl⟩ := hvars.form
  obtain ⟨Ai, ci, rfl⟩ := hinit.form
  obtain ⟨Ag, cg, rfl⟩ := hgoal.form
  obtain ⟨Ao, co, rfl⟩ := hops.form
  refine fn_enter Tryz.func80 rfl Tryz.ntmps80 rfl ?_
  repeat (first | refine e_go ?_ | refine ewp_true rfl ?_ | refine ewp_false rfl ?_)
  refine owp_box rfl rfl fun w1 hN1 => ?_
  refine owp_alloc rfl fun w2 hN2 => ?_
  have hE2 : Ext w w2 := hN1.ext.trans' hN2.ext
  have hz1 : w1.heap.size = w.heap.size + 1 := hN1.size
  have hz2 : w2.heap.size = w1.heap.size + 1 := hN2.size
  have hb1 : Blk w2 w.heap.size 26 [.slice Av t.vars.length cv, .slice Ai t.init.length ci, .slice Ag t.goal.length cg, .slice Ao t.ops.length co] := hN1.blk.ext hN2.ext
  have hres : Blk w2 w1.heap.size 26 [.slice none 0 0, .slice none 0 0, .slice none 0 0, .slice none 0 0] := hN2.blk
  ((refine o_z ?_))
  refine ewp_cut (fun l' w' => ∃ g3 av bv cv', subs l' [(1, .pointer (some ⟨w.heap.size, 0, none⟩)), (2, .pointer (some ⟨w1.heap.size, 0, none⟩)), (3, .pointer (some ⟨g3, 0, none⟩))] ∧ Ext w2 w' ∧ w2.heap.size ≤ g3 ∧ Blk w' g3 26 [av, bv, cv', .slice none 0 0] ∧
    Vb w' (fun k => nw w2 w' k ∧ k ≠ g3) av t.vars ∧ Vb w' (fun k => nw w2 w' k ∧ k ≠ g3) bv t.init ∧ Vb w' (fun k => nw w2 w' k ∧ k ≠ g3) cv' t.goal) ?_ ?_
  · have q0 : ∀ w', Ext w2 w' → Blk w' w.heap.size 26 [.slice Av t.vars.length cv, .slice Ai t.init.length ci, .slice Ag t.goal.length cg, .slice Ao t.ops.length co] := fun w' h => hb1.ext h
    refine ewp_drawS (Ext w2) ?_
    refine hws_q (i := 0) rfl (by kernel_rfl) (by kernel_rfl) (by kernel_rfl) rfl rfl (evg fun _ _ => ev_fieldAddr rfl) (Below.refl _ _) ?_
    refine hws_q (i := 1) rfl (by kernel_rfl) (by kernel_rfl) (by kernel_rfl) rfl rfl (evg fun _ hS => ev_load1 rfl ((hb1.ext hS).cell rfl)) (Below.refl _ _) ?_
    refine hws_q (i := 3) rfl (by kernel_rfl) (by kernel_rfl) (by kernel_rfl) rfl rfl (evg fun _ _ => ev_fieldAddr rfl) (Below.refl _ _) ?_
    refine hws_q (i := 4) rfl (by kernel_rfl) (by kernel_rfl) (by kernel_rfl) rfl rfl (evg fun _ hS => ev_load1 rfl ((hb1.ext hS).cell rfl)) (Below.refl _ _) ?_
    refine hws_q (i := 6) rfl (by kernel_rfl) (by kernel_rfl) (by kernel_rfl) rfl rfl (evg fun _ _ => ev_fieldAddr rfl) (Below.refl _ _) ?_
    refine hws_q (i := 7) rfl (by kernel_rfl) (by kernel_rfl) (by kernel_rfl) rfl rfl (evg fun _ hS => ev_load1 rfl ((hb1.ext hS).cell rfl)) (Below.refl _ _) ?_
    refine hws_two (i := 2) (j := 10) (by kernel_rfl) rfl rfl ?_ ?_
    · refine owp_call rfl rfl (cloneIntsN (hvars.ext hE2) hl1) ?_
      rintro av w3 ⟨hav, hE3⟩
      refine owp_loudS hE3 ?_
      refine hws_two (i := 5) (j := 10) (by kernel_rfl) rfl rfl ?_ ?_
      · refine owp_call rfl rfl (cloneIntsN (hinit.ext (hE2.trans' hE3)) hl2) ?_
        rintro bv w4 ⟨hbv, hE4⟩
        refine owp_loudS (hE3.trans' hE4) ?_
        refine hws_two (i := 8) (j := 10) (by kernel_rfl) rfl rfl ?_ ?_
        · refine owp_call rfl rfl (cloneFactsN (hgoal.ext (hE2.trans' (hE3.trans' hE4))) hl3) ?_
          rintro cv' w5 ⟨hcv, hE5⟩
          refine owp_loudS (hE3.trans' (hE4.trans' hE5)) ?_
          refine hws_ord [(9, true), (10, false), (11, false)] (by kernel_rfl) rfl (by kernel_rfl) (hE3.trans' (hE4.trans' hE5)) ?_
          obtain ⟨Aa, ca, rfl⟩ := hav.form
          obtain ⟨Ab, cb, rfl⟩ := hbv.form
          obtain ⟨Ac, cc, rfl⟩ := hcv.form
          refine hwp_o rfl ?_
          refine hwq_ev (fun _ _ => ev_build rfl rfl) rfl ?_
          refine hwp_loud rfl ?_
          refine owp_alloc rfl fun w6 hN6 => ?_
          refine owp_loud (hE3.trans' (hE4.trans' (hE5.trans' hN6.ext))) ?_
          refine hwp_loud rfl ?_
          refine owp_store rfl rfl hN6.blk rfl (Nat.le_refl _) (by simp [Value.cells, Value.oneCell', setParts, setFrom]) fun w7 hU => ?_
          refine owp_loudE (hwp_nilT ?_)
          have hE7 : Ext w5 w7 := (hN6.upd hU).ext
          have s3 := hE3.size; have s4 := hE4.size; have s5 := hE5.size; have s7 := hE7.size
          refine ⟨w5.heap.size, _, _, _, ⟨rfl, rfl, rfl, trivial⟩, hE3.trans' (hE4.trans' (hE5.trans' hE7)), by omega, hU.blk, ?_, ?_, ?_⟩
          · exact ((((hav.nwext hE4).agree (hE5.agree fun k hk => by have := hk.2; omega)).agree (hE7.agree fun k hk => by have := hk.2; omega)).mono fun k hk => ⟨⟨by have := hk.1; omega, by have := hk.2; omega⟩, by have := hk.2; omega⟩)
          · exact ((hbv.nwext hE5).agree (hE7.agree fun k hk => by have := hk.2; omega)).mono fun k hk => ⟨⟨by have := hk.1; omega, by have := hk.2; omega⟩, by have := hk.2; omega⟩
          · exact (hcv.nwext hE7).mono fun k hk => ⟨⟨by have := hk.1; omega, by have := hk.2; omega⟩, by have := hk.2; omega⟩
        · refine owp_alloc rfl fun w5 hN => ?_
          have hE5 := hN.ext
          refine owp_loudS (hE3.trans' (hE4.trans' hE5)) ?_
          refine hws_ord [(8, false), (9, true), (11, false)] (by kernel_rfl) rfl (by kernel_rfl) (hE3.trans' (hE4.trans' hE5)) ?_
          refine hwp_loud rfl ?_
          refine owp_call rfl rfl (cloneFactsN (hgoal.ext (hE2.trans' (hE3.trans' (hE4.trans' hE5)))) hl3) ?_
          rintro cv' w6 ⟨hcv, hE6⟩
          refine owp_loud (hE3.trans' (hE4.trans' (hE5.trans' hE6))) ?_
          have hg3 := hN.blk.ext hE6
          obtain ⟨Aa, ca, rfl⟩ := hav.form
          obtain ⟨Ab, cb, rfl⟩ := hbv.form
          obtain ⟨Ac, cc, rfl⟩ := hcv.form
          refine hwp_o rfl ?_
          refine hwq_ev (fun _ _ => ev_build rfl rfl) rfl ?_
          refine hwp_loud rfl ?_
          refine owp_store rfl rfl hg3 rfl (Nat.le_refl _) (by simp [Value.cells, Value.oneCell', setParts, setFrom]) fun w7 hU => ?_
          refine owp_loudE (hwp_nilT ?_)
          have s3 := hE3.size; have s4 := hE4.size; have s5 := hE5.size; have s6 := hE6.size; have s7 := hU.size; have sN := hN.size
          refine ⟨_, _, _, _, ⟨rfl, rfl, rfl, trivial⟩, (hE3.trans' (hE4.trans' (hE5.trans' hE6))).trans (hU.below (by omega)), by omega, hU.blk, ?_, ?_, ?_⟩
          · exact (hav.agree fun k hk => (hU.other k (by have := hk.2; omega)).trans ((hE4.trans' (hE5.trans' hE6)).block k hk.2)).mono fun k hk => ⟨⟨by have := hk.1; omega, by have := hk.2; omega⟩, by have := hk.2; omega⟩
          · exact (hbv.agree fun k hk => (hU.other k (by have := hk.2; omega)).trans ((hE5.trans' hE6).block k hk.2)).mono fun k hk => ⟨⟨by have := hk.1; omega, by have := hk.2; omega⟩, by have := hk.2; omega⟩
          · exact (hcv.agree fun k hk => hU.other k (by have := hk.1; omega)).mono fun k hk => ⟨⟨by have := hk.1; omega, by have := hk.2; omega⟩, by have := hk.1; omega⟩
      · refine owp_alloc rfl fun w4 hN => ?_
        have hE4 := hN.ext
        refine owp_loudS (hE3.trans' hE4) ?_
        refine hws_ord [(5, false), (8, false), (9, true), (11, false)] (by kernel_rfl) rfl (by kernel_rfl) (hE3.trans' hE4) ?_
        refine hwp_loud rfl ?_
        refine owp_call rfl rfl (cloneIntsN (hinit.ext (hE2.trans' (hE3.trans' hE4))) hl2) ?_
        rintro bv w5 ⟨hbv, hE5⟩
        refine owp_loud (hE3.trans' (hE4.trans' hE5)) ?_
        refine hwp_loud rfl ?_
        refine owp_call rfl rfl (cloneFactsN (hgoal.ext (hE2.trans' (hE3.trans' (hE4.trans' hE5)))) hl3) ?_
        rintro cv' w6 ⟨hcv, hE6⟩
        refine owp_loud (hE3.trans' (hE4.trans' (hE5.trans' hE6))) ?_
        have hg3 := (hN.blk.ext hE5).ext hE6
        obtain ⟨Aa, ca, rfl⟩ := hav.form
        obtain ⟨Ab, cb, rfl⟩ := hbv.form
        obtain ⟨Ac, cc, rfl⟩ := hcv.form
        refine hwp_o rfl ?_
        refine hwq_ev (fun _ _ => ev_build rfl rfl) rfl ?_
        refine hwp_loud rfl ?_
        refine owp_store rfl rfl hg3 rfl (Nat.le_refl _) (by simp [Value.cells, Value.oneCell', setParts, setFrom]) fun w7 hU => ?_
        refine owp_loudE (hwp_nilT ?_)
        have s3 := hE3.size; have s4 := hE4.size; have s5 := hE5.size; have s6 := hE6.size; have s7 := hU.size; have sN := hN.size
        refine ⟨_, _, _, _, ⟨rfl, rfl, rfl, trivial⟩, (hE3.trans' (hE4.trans' (hE5.trans' hE6))).trans (hU.below (by omega)), by omega, hU.blk, ?_, ?_, ?_⟩
        · exact (hav.agree fun k hk => (hU.other k (by have := hk.2; omega)).trans ((hE4.trans' (hE5.trans' hE6)).block k hk.2)).mono fun k hk => ⟨⟨by have := hk.1; omega, by have := hk.2; omega⟩, by have := hk.2; omega⟩
        · exact (hbv.agree fun k hk => (hU.other k (by have := hk.1; omega)).trans (hE6.block k hk.2)).mono fun k hk => ⟨⟨by have := hk.1; omega, by have := hk.2; omega⟩, by have := hk.1; omega⟩
        · exact (hcv.agree fun k hk => hU.other k (by have := hk.1; omega)).mono fun k hk => ⟨⟨by have := hk.1; omega, by have := hk.2; omega⟩, by have := hk.1; omega⟩
    · refine owp_alloc rfl fun w3 hN => ?_
      have hE3 := hN.ext
      refine owp_loudS hE3 ?_
      refine hws_ord [(2, false), (5, false), (8, false), (9, true), (11, false)] (by kernel_rfl) rfl (by kernel_rfl) hE3 ?_
      refine hwp_loud rfl ?_
      refine owp_call rfl rfl (cloneIntsN (hvars.ext (hE2.trans' hE3)) hl1) ?_
      rintro av w4 ⟨hav, hE4⟩
      refine owp_loud (hE3.trans' hE4) ?_
      refine hwp_loud rfl ?_
      refine owp_call rfl rfl (cloneIntsN (hinit.ext (hE2.trans' (hE3.trans' hE4))) hl2) ?_
      rintro bv w5 ⟨hbv, hE5⟩
      refine owp_loud (hE3.trans' (hE4.trans' hE5)) ?_
      refine hwp_loud rfl ?_
      refine owp_call rfl rfl (cloneFactsN (hgoal.ext (hE2.trans' (hE3.trans' (hE4.trans' hE5)))) hl3) ?_
      rintro cv' w6 ⟨hcv, hE6⟩
      refine owp_loud (hE3.trans' (hE4.trans' (hE5.trans' hE6))) ?_
      have hg3 := ((hN.blk.ext hE4).ext hE5).ext hE6
      obtain ⟨Aa, ca, rfl⟩ := hav.form
      obtain ⟨Ab, cb, rfl⟩ := hbv.form
      obtain ⟨Ac, cc, rfl⟩ := hcv.form
      refine hwp_o rfl ?_
      refine hwq_ev (fun _ _ => ev_build rfl rfl) rfl ?_
      refine hwp_loud rfl ?_
      refine owp_store rfl rfl hg3 rfl (Nat.le_refl _) (by simp [Value.cells, Value.oneCell', setParts, setFrom]) fun w7 hU => ?_
      refine owp_loudE (hwp_nilT ?_)
      have s3 := hE3.size; have s4 := hE4.size; have s5 := hE5.size; have s6 := hE6.size; have s7 := hU.size; have sN := hN.size
      refine ⟨_, _, _, _, ⟨rfl, rfl, rfl, trivial⟩, (hE3.trans' (hE4.trans' (hE5.trans' hE6))).trans (hU.below (by omega)), by omega, hU.blk, ?_, ?_, ?_⟩
      · exact (hav.agree fun k hk => (hU.other k (by have := hk.1; omega)).trans ((hE5.trans' hE6).block k hk.2)).mono fun k hk => ⟨⟨by have := hk.1; omega, by have := hk.2; omega⟩, by have := hk.1; omega⟩
      · exact (hbv.agree fun k hk => (hU.other k (by have := hk.1; omega)).trans (hE6.block k hk.2)).mono fun k hk => ⟨⟨by have := hk.1; omega, by have := hk.2; omega⟩, by have := hk.1; omega⟩
      · exact (hcv.agree fun k hk => hU.other k (by have := hk.1; omega)).mono fun k hk => ⟨⟨by have := hk.1; omega, by have := hk.2; omega⟩, by have := hk.1; omega⟩
  · rintro l' w3 ⟨g3, av, bv, cv', hsub, hE3, hg3, hb3, hav, hbv, hcv⟩
    refine ewp_sub _ hsub ?_
    clear hsub
    replace hb1 := hb1.ext hE3
    replace hres := hres.ext hE3
    have hE03 : Ext w w3 := hE2.trans' hE3
    have hg3z : g3 < w3.heap.size := hb3.lt
    repeat (first | refine e_go ?_ | refine ewp_true rfl ?_ | refine ewp_false rfl ?_)
    ((repeat (first | refine e_go ?_ | refine ewp_true rfl ?_ | refine ewp_false rfl ?_)) <;> (refine o_fa rfl rfl ?_ <;> refine o_ld rfl rfl ?_ <;> refine o_ln rfl rfl ?_ <;> refine o_mv rfl rfl ?_ <;> (refine o_z ?_)) <;> (repeat (first | refine e_go ?_ | refine ewp_true rfl ?_ | refine ewp_false rfl ?_)))
    refine ewp_range t.ops.length (by omega) (fun _ : Unit => [(2, .pointer (some ⟨w1.heap.size, 0, none⟩)), (3, .pointer (some ⟨g3, 0, none⟩)), (20, .slice Ao t.ops.length co)])
      (fun k _ w' => Below w2.heap.size w2 w' ∧ w3.heap.size ≤ w'.heap.size ∧ (∀ q, q < w3.heap.size → q ≠ g3 → w'.heap[q]? = w3.heap[q]?) ∧ ∃ (ov : Value) (G : Nat → Prop), Blk w' g3 26 [av, bv, cv', ov] ∧ (∀ q, G q → w3.heap.size ≤ q ∧ q < w'.heap.size) ∧ Own w' w3.heap.size G 61 ov (t.ops.take k)) ()
      ⟨hE3, Nat.le_refl _, fun _ _ _ => rfl, .slice none 0 0, fun _ => False, hb3, fun _ h => h.elim, Own.nil _ _ _ _⟩ ⟨rfl, rfl, rfl, rfl, rfl, trivial⟩ (fun _ => ⟨rfl, rfl⟩) ⟨rfl, rfl, rfl⟩ ⟨rfl, rfl⟩ ?_ ?_
    · rintro k _ w4 hk ⟨hB4, hz34, hkeep, ov, G, hb3, hG, hown⟩
      have hE04 : Ext w w4 := hE2.trans (hB4.mono (by omega))
      obtain ⟨o, ho⟩ := some_of_lt hk
      obtain ⟨hp5, hq5, hc5⟩ := hl5 k o ho
      obtain ⟨b2, o2, ce, rfl, _, _, hd1, p, q, rfl, hp, hq, hc, hn⟩ := (hops.ext hE04).elem ho
      obtain ⟨Ap, cp, rfl⟩ := hp.form
      obtain ⟨Aq, cq, rfl⟩ := hq.form
      obtain ⟨Aov, cov, rfl⟩ := hown.form
      ((repeat (first | refine e_go ?_ | refine ewp_true rfl ?_ | refine ewp_false rfl ?_)) <;> (refine o_ia rfl rfl rfl ?_ <;> refine o_la rfl rfl ?_) <;> (repeat (first | refine e_go ?_ | refine ewp_true rfl ?_ | refine ewp_false rfl ?_)))
      refine owp_local rfl rfl rfl (by simp [Value.cells, Value.oneCell']) fun w5 hN5 => ?_
      have hb2 : Blk w5 w4.heap.size 61 [.string o.name, .int .i64 o.cost, .slice Ap o.pre.length cp, .slice Aq o.effs.length cq] := hN5.blk
      have hz5 := hN5.size
      ((refine o_z ?_))
      repeat (first | refine e_go ?_ | refine ewp_true rfl ?_ | refine ewp_false rfl ?_)
      clear hd1
      (refine o_fa rfl rfl ?_ <;> refine o_ld rfl rfl ?_)
      refine owp_call rfl rfl (cloneFactsN (hp.ext hN5.ext) hp5) ?_
      rintro pv w6 ⟨hpv, hE6⟩
      obtain ⟨Ap', cp', rfl⟩ := hpv.form
      replace hb2 := hb2.ext hE6
      (refine o_fa rfl rfl ?_)
      refine owp_store rfl rfl hb2 rfl (show 0 + 2 + 1 ≤ 4 by decide) (by simp [Value.cells, Value.oneCell']) fun w7 hU7 => ?_
      have hE47 : Ext w4 w7 := (hN5.ext.trans' hE6).trans (hU7.below (Nat.le_refl _))
      replace hb2 : Blk w7 w4.heap.size 61 [.string o.name, .int .i64 o.cost, .slice Ap' o.pre.length cp', .slice Aq o.effs.length cq] := hU7.blk
      have hpv7 : Vb w7 (nw w5 w6) (.slice Ap' o.pre.length cp') o.pre := hpv.agree fun q hq => hU7.other q (by have := hq.1; omega)
      ((refine o_z ?_))
      repeat (first | refine e_go ?_ | refine ewp_true rfl ?_ | refine ewp_false rfl ?_)
      ((repeat (first | refine e_go ?_ | refine ewp_true rfl ?_ | refine ewp_false rfl ?_)) <;> (refine o_as rfl rfl ?_ <;> (refine o_z ?_)) <;> (repeat (first | refine e_go ?_ | refine ewp_true rfl ?_ | refine ewp_false rfl ?_)) <;> (refine o_fa rfl rfl ?_ <;> refine o_ld rfl rfl ?_ <;> refine o_ln rfl rfl ?_ <;> refine o_mv rfl rfl ?_ <;> (refine o_z ?_)) <;> (repeat (first | refine e_go ?_ | refine ewp_true rfl ?_ | refine ewp_false rfl ?_)))
      refine ewp_range o.effs.length (by omega) (fun ev : Value => [(2, .pointer (some ⟨w1.heap.size, 0, none⟩)), (3, .pointer (some ⟨g3, 0, none⟩)), (5, .pointer (some ⟨w4.heap.size, 0, none⟩)), (6, ev), (20, .slice (some ⟨b2, o2, none⟩) t.ops.length co), (21, .int .i64 (t.ops.length : Int)), (22, .int .i64 (k : Int)), (31, .slice Aq o.effs.length cq)])
        (fun i ev w' => Ext w7 w' ∧ ∃ H : Nat → Prop, (∀ q, H q → w7.heap.size ≤ q ∧ q < w'.heap.size) ∧ Own w' w7.heap.size H 76 ev (o.effs.take i)) (.slice none 0 0)
        ⟨Below.refl _ _, fun _ => False, fun _ h => h.elim, Own.nil _ _ _ _⟩ ⟨rfl, rfl, rfl, rfl, rfl, rfl, rfl, rfl, rfl, rfl, trivial⟩ (fun _ => ⟨rfl, rfl⟩) ⟨rfl, rfl, rfl⟩ ⟨rfl, rfl⟩ ?_ ?_
      · rintro i ev w8 hi ⟨hE8, H, hH, hev⟩
        obtain ⟨e, he⟩ := some_of_lt hi
        have hce := hc5 i e he
        obtain ⟨b3, o3, ce, rfl, _, _, hd1, cv8, rfl, hcn, hr1, hr2⟩ := (hq.ext (hE47.trans' hE8)).elem he
        obtain ⟨Acn, ccn, rfl⟩ := hcn.form
        ((repeat (first | refine e_go ?_ | refine ewp_true rfl ?_ | refine ewp_false rfl ?_)) <;> (refine o_ia rfl rfl rfl ?_ <;> refine o_la rfl rfl ?_) <;> (repeat (first | refine e_go ?_ | refine ewp_true rfl ?_ | refine ewp_false rfl ?_)))
        refine owp_local rfl rfl rfl (by simp [Value.cells, Value.oneCell']) fun w9 hN9 => ?_
        have hb4 : Blk w9 w8.heap.size 76 [.slice Acn e.cond.length ccn, .int .i64 e.var, .int .i64 e.val] := hN9.blk
        have hz9 := hN9.size
        ((refine o_z ?_))
        repeat (first | refine e_go ?_ | refine ewp_true rfl ?_ | refine ewp_false rfl ?_)
        clear hd1
        (refine o_fa rfl rfl ?_ <;> refine o_ld rfl rfl ?_)
        refine owp_call rfl rfl (cloneFactsN (hcn.ext hN9.ext) hce) ?_
        rintro cw w10 ⟨hcw, hE10⟩
        obtain ⟨Acw, ccw, rfl⟩ := hcw.form
        replace hb4 := hb4.ext hE10
        (refine o_fa rfl rfl ?_)
        refine owp_store rfl rfl hb4 rfl (show 0 + 0 + 1 ≤ 3 by decide) (by simp [Value.cells, Value.oneCell']) fun w11 hU11 => ?_
        replace hb4 : Blk w11 w8.heap.size 76 [.slice Acw e.cond.length ccw, .int .i64 e.var, .int .i64 e.val] := hU11.blk
        have hE811 : Ext w8 w11 := (hN9.ext.trans' hE10).trans (hU11.below (Nat.le_refl _))
        have hE711 : Ext w7 w11 := hE8.trans' hE811
        have hcw11 : Vb w11 (nw w9 w10) (.slice Acw e.cond.length ccw) e.cond := hcw.agree fun q hq => hU11.other q (by have := hq.1; omega)
        have s10 := hE10.size
        have s11 := hU11.size
        have hne : ∀ g, ev.ownBlock = some g → ¬ (H g ∨ nw w9 w10 g) := fun g hg h => by
          have hlt := (hev.lt g hg).2
          rcases h with h | h
          · obtain ⟨_, _, _, h3⟩ := hev; exact h3 g hg h
          · have := h.1; omega
        have hev11 : Own w11 w7.heap.size (fun q => H q ∨ nw w9 w10 q) 76 ev _ := (hev.ext hE811 fun q hq => (hH q hq).2).mono (fun q hq => .inl hq) hne
        have hH11 : ∀ q, (H q ∨ nw w9 w10 q) → w7.heap.size ≤ q ∧ q < w11.heap.size := fun q hq => by
          rcases hq with hq | hq
          · have := hH q hq; omega
          · have h1 := hq.1; have h2 := hq.2; have := hE8.size; omega
        have hil : (o.effs.take i).length ≤ 1000000 := by rw [List.length_take]; omega
        ((refine o_z ?_))
        repeat (first | refine e_go ?_ | refine ewp_true rfl ?_ | refine ewp_false rfl ?_)
        (refine o_mv rfl rfl ?_ <;> refine o_la rfl rfl ?_)
        refine owp_append1 (a := e) rfl rfl rfl hev11 (fun q hq => (hH11 q hq).2) hE711.size ⟨_, rfl, _, rfl, hcw11.mono fun q hq => .inr hq, hr1, hr2⟩ (by decide) (by decide) (by omega) (by omega) ⟨rfl, rfl⟩ fun ev' w12 hev12 hK12 => ?_
        (refine o_as rfl rfl ?_ <;> (refine o_z ?_))
        repeat (first | refine e_go ?_ | refine ewp_true rfl ?_ | refine ewp_false rfl ?_)
        exact ⟨ev', ⟨rfl, rfl, rfl, rfl, rfl, rfl, rfl, rfl, rfl, rfl, trivial⟩, hE711.trans (hev11.fits (Nat.le_refl _) hE711.size hK12), _, fun q hq => ⟨(hH11 q hq).1, Nat.lt_of_lt_of_le (hH11 q hq).2 hK12.size⟩, by rw [List.take_add_one, he]; simpa using hev12⟩
      rintro ev w12 ⟨hE12, H, hH, hev⟩
      rw [List.take_length] at hev
      obtain ⟨Aev, cev, rfl⟩ := hev.form
      replace hb2 := hb2.ext hE12
      repeat (first | refine e_go ?_ | refine ewp_true rfl ?_ | refine ewp_false rfl ?_)
      (refine o_mv rfl rfl ?_ <;> refine o_fa rfl rfl ?_)
      refine owp_store rfl rfl hb2 rfl (show 0 + 3 + 1 ≤ 4 by decide) (by simp [Value.cells, Value.oneCell']) fun w13 hU13 => ?_
      replace hb2 : Blk w13 w4.heap.size 61 [.string o.name, .int .i64 o.cost, .slice Ap' o.pre.length cp', .slice Aev o.effs.length cev] := hU13.blk
      have hE413 : Ext w4 w13 := (hE47.trans' hE12).trans (hU13.below (Nat.le_refl _))
      have s6 := hE6.size
      have s7 := hU7.size
      have s12 := hE12.size
      have s13 := hU13.size
      have hb3' := hb3.ext hE413
      have hg3lt := hb3.lt
      have hpv13 : Vb w13 (nw w5 w6) (.slice Ap' o.pre.length cp') o.pre := hpv7.agree fun q hq => (hU13.other q (by have := hq.1; omega)).trans (hE12.block q (by have := hq.2; omega))
      have hev13 : Vb w13 (fun q => H q ∨ (Value.slice Aev o.effs.length cev).ownBlock = some q) (.slice Aev o.effs.length cev) o.effs := hev.vb.agree fun q hq => hU13.other q (by
        rcases hq with hq | hq
        · have := (hH q hq).1; omega
        · have := (hev.lt q hq).1; omega)
      have hne : ∀ g, (Value.slice Aov (t.ops.take k).length cov).ownBlock = some g → ¬ (G g ∨ w4.heap.size ≤ g ∧ g < w13.heap.size) := fun g hg h => by
        have hlt := (hown.lt g hg).2
        rcases h with h | h
        · obtain ⟨_, _, _, h3⟩ := hown; exact h3 g hg h
        · omega
      have hown13 : Own w13 w3.heap.size (fun q => G q ∨ w4.heap.size ≤ q ∧ q < w13.heap.size) 61 _ _ := (hown.ext hE413 fun q hq => (hG q hq).2).mono (fun q hq => .inl hq) hne
      have hG13 : ∀ q, (G q ∨ w4.heap.size ≤ q ∧ q < w13.heap.size) → w3.heap.size ≤ q ∧ q < w13.heap.size := fun q hq => by
        have := hE413.size
        rcases hq with hq | hq
        · have := hG q hq; omega
        · omega
      have hopr : Vb w13 (fun q => G q ∨ w4.heap.size ≤ q ∧ q < w13.heap.size) (.agg #[.string o.name, .int .i64 o.cost, .slice Ap' o.pre.length cp', .slice Aev o.effs.length cev]) o :=
        ⟨[.string o.name, .int .i64 o.cost, .slice Ap' o.pre.length cp', .slice Aev o.effs.length cev], rfl, _, _, rfl, hpv13.mono fun q hq => .inr (by have h1 := hq.1; have h2 := hq.2; omega), hev13.mono fun q hq => .inr (by
          rcases hq with hq | hq
          · have := hH q hq; omega
          · have := hev.lt q hq; omega), hc, hn⟩
      have hkl : (t.ops.take k).length ≤ 1000000 := by rw [List.length_take]; omega
      ((refine o_z ?_))
      repeat (first | refine e_go ?_ | refine ewp_true rfl ?_ | refine ewp_false rfl ?_)
      have hbx := hb2
      clear hb1
      have hb1 := hb3'
      (refine o_fa rfl rfl ?_ <;> refine o_ld rfl rfl ?_ <;> refine o_la rfl rfl ?_)
      refine owp_append1 (a := o) rfl rfl rfl hown13 (fun q hq => (hG13 q hq).2) (by have := hE413.size; omega) hopr (by decide) (by decide) (by omega) (by omega) ⟨rfl, rfl⟩ fun ov' w14 hov14 hK14 => ?_
      obtain ⟨Aov', cov', rfl⟩ := hov14.form
      have hb3k := hK14.blk hb3' (hown13.blk_ne hb3' (by decide))
      (refine o_fa rfl rfl ?_)
      refine owp_store rfl rfl hb3k rfl (show 0 + 3 + 1 ≤ 4 by decide) (by simp [Value.cells, Value.oneCell']) fun w15 hU15 => ?_
      ((refine o_z ?_))
      repeat (first | refine e_go ?_ | refine ewp_true rfl ?_ | refine ewp_false rfl ?_)
      have hB14 : Below w3.heap.size w13 w14 := hown13.fits (Nat.le_refl _) (by have := hE413.size; omega) hK14
      have sz14 := hK14.size
      have sz15 := hU15.size
      refine ⟨(), ⟨rfl, rfl, rfl, rfl, rfl, trivial⟩, ?_, ?_, ?_, _, (fun q => G q ∨ w4.heap.size ≤ q ∧ q < w13.heap.size), hU15.blk, fun q hq => ?_, ?_⟩
      · exact hB4.trans (((hE413.mono (by omega)).trans (hB14.mono (by omega))).trans (hU15.below (by omega)))
      · have := hE413.size; omega
      · intro q hq hne'
        rw [hU15.other q hne', hB14.block q hq, hE413.block q (by omega), hkeep q hq hne']
      · have := hG13 q hq; omega
      · have hne15 := hov14.blk_ne hb3k (by decide)
        rw [List.take_add_one, ho]
        refine hov14.agree (hU15.agree ?_) fun g hg => hU15.other g fun he => hne15 (he ▸ hg)
        rintro (h | h)
        · have := (hG g3 h).1; omega
        · omega
    rintro _ w4 ⟨hB4, hz34, hkeep, ov, G, hb3, hG, hown⟩
    rw [List.take_length] at hown
    obtain ⟨Aov, cov, rfl⟩ := hown.form
    have hresz := hres.lt
    replace hres := hres.keep (hkeep _ hresz (by omega))
    clear hb1
    have hb1 := hb3
    repeat (first | refine e_go ?_ | refine ewp_true rfl ?_ | refine ewp_false rfl ?_)
    obtain ⟨Aa, ca, rfl⟩ := hav.form
    obtain ⟨Ab, cb, rfl⟩ := hbv.form
    obtain ⟨Ac, cc, rfl⟩ := hcv.form
    (refine o_la rfl rfl ?_)
    refine owp_store rfl rfl hres rfl (Nat.le_refl _) (by simp [Value.cells, Value.oneCell']) fun w5 hU => ?_
    ((refine o_z ?_))
    repeat (first | refine e_go ?_ | refine ewp_true rfl ?_ | refine ewp_false rfl ?_)
    have hE4 : Ext w w4 := hE2.trans (hB4.mono (by omega))
    have s5 := hU.size
    have s04 := hE4.size
    have hcl : ∀ {α : Type} [Rp α] {v : Value} {x : α}, Vb w3 (fun k => nw w2 w3 k ∧ k ≠ g3) v x → Vb w5 (nw w w5) v x := fun h => (h.agree fun q hq => (hU.other q (by have := hq.1.1; omega)).trans (hkeep q hq.1.2 hq.2)).mono fun q hq => ⟨by have := hq.1.1; omega, by have := hq.1.2; omega⟩
    have hovv : Vb w5 (nw w w5) (.slice Aov t.ops.length cov) t.ops := (hown.vb.agree fun q hq => hU.other q (by
      rcases hq with hq | hq
      · have := (hG q hq).1; omega
      · have := (hown.lt q hq).1; omega)).mono fun q hq => by
        rcases hq with hq | hq
        · have := hG q hq; exact ⟨by omega, by omega⟩
        · have := hown.lt q hq; exact ⟨by omega, by omega⟩
    refine ret1v rfl (res_cell rfl rfl hU.blk.cellsAt) ⟨⟨_, rfl, _, _, _, _, rfl, hcl hav, hcl hbv, hcl hcv, hovv⟩, hE4.trans (hU.below (by omega))⟩
end
section
theorem bof_iff {p : Prop} : bof p = true ↔ p := ⟨fun h => Classical.byContradiction fun hn => (by rw [bof_f hn] at h; exact Bool.noConfusion h), bof_t⟩
theorem bof_false {p : Prop} : bof p = false ↔ ¬ p := by
  rw [← Bool.not_eq_true, bof_iff]
theorem factsOk_lt {vars : List Int} {f : List Fct} (h : FactsOk vars f) : ∀ (j i : Nat) (x y : Fct), i < j → f[i]? = some x → f[j]? = some y → x.var < y.var
  | 0, i, _, _, hij, _, _ => by omega
  | j + 1, i, x, y, hij, hx, hy => by
    by_cases he : i = j
    · subst he; exact h.2 i x y hx hy
    · obtain ⟨z, hz⟩ := some_of_lt (l := f) (k := j) (by have := lt_of_some hy; omega)
      have h1 := factsOk_lt h j i x z (by omega) hx hz
      have h2 := h.2 j z y hz hy
      omega
theorem factsOk_ge {vars : List Int} {f : List Fct} (h : FactsOk vars f) : ∀ (i : Nat) (x : Fct), f[i]? = some x → (i : Int) ≤ x.var
  | 0, x, hx => (h.1 0 x hx).1
  | i + 1, x, hx => by
    obtain ⟨z, hz⟩ := some_of_lt (l := f) (k := i) (by have := lt_of_some hx; omega)
    have h1 := factsOk_ge h i z hz
    have h2 := h.2 i z x hz hx
    omega
theorem factsOk_len {vars : List Int} {f : List Fct} (h : FactsOk vars f) : f.length ≤ vars.length := by
  rcases Nat.eq_zero_or_pos f.length with h0 | h0
  · omega
  · obtain ⟨x, hx⟩ := some_of_lt (l := f) (k := f.length - 1) (by omega)
    have h1 := factsOk_ge h _ x hx
    obtain ⟨h2, h3, y, hy, _⟩ := h.1 _ x hx
    have := lt_of_some hy
    omega
theorem conds_mem {t : Tsk} {f : List Fct} : f ∈ conds t ↔ f = t.goal ∨ ∃ (i : Nat) (o : Opr), t.ops[i]? = some o ∧ (f = o.pre ∨ ∃ (j : Nat) (e : Eff), o.effs[j]? = some e ∧ f = e.cond) := by
  unfold conds opConds
  rw [List.mem_cons, List.mem_flatMap]
  constructor
  · rintro (h | ⟨o, ho, hf⟩)
    · exact .inl h
    · obtain ⟨i, hi⟩ := List.getElem?_of_mem ho
      refine .inr ⟨i, o, hi, ?_⟩
      rcases List.mem_cons.1 hf with h | h
      · exact .inl h
      · obtain ⟨e, he, rfl⟩ := List.mem_map.1 h
        obtain ⟨j, hj⟩ := List.getElem?_of_mem he
        exact .inr ⟨j, e, hj, rfl⟩
  · rintro (h | ⟨i, o, ho, h⟩)
    · exact .inl h
    · refine .inr ⟨o, List.mem_of_getElem? ho, ?_⟩
      rcases h with rfl | ⟨j, e, he, rfl⟩
      · exact List.mem_cons_self
      · exact List.mem_cons_of_mem _ (List.mem_map.2 ⟨e, List.mem_of_getElem? he, rfl⟩)
theorem check_ok {t : Tsk} : checkN t = 0 ↔ TaskOk t := by
  unfold checkN
  constructor
  · intro h
    by_cases h1 : Large t
    · rw [if_pos (bof_iff.2 h1)] at h; cases h
    rw [if_neg (fun hh => h1 (bof_iff.1 hh))] at h
    by_cases h2 : VarsOk t ∧ CostsOk t
    case neg => rw [if_pos (bof_false.2 h2)] at h; cases h
    rw [if_neg (fun hh => bof_false.1 hh h2)] at h
    by_cases h3 : StateOk t.vars t.init ∧ CondsOk t ∧ EffsOk t
    case neg => rw [if_pos (bof_false.2 h3)] at h; cases h
    rw [if_neg (fun hh => bof_false.1 hh h3)] at h
    by_cases h4 : NamesOk t
    case neg => rw [if_pos (bof_false.2 h4)] at h; cases h
    have hc : ∀ f ∈ conds t, FactsOk t.vars f := fun f hf => by
      obtain ⟨i, hi⟩ := List.getElem?_of_mem hf
      exact h3.2.1 i f hi
    have hl : t.vars.length ≤ 64 ∧ t.ops.length ≤ 4096 ∧ (∀ (i : Nat) (o : Opr), t.ops[i]? = some o → o.effs.length ≤ 64) := by
      unfold Large at h1
      refine ⟨Nat.le_of_not_lt fun h => h1 (.inl h), Nat.le_of_not_lt fun h => h1 (.inr (.inl h)), fun i o ho => Nat.le_of_not_lt fun h => h1 (.inr (.inr (.inl ⟨i, o, ho, h⟩)))⟩
    exact ⟨hl.1, hl.2.1, h2.1, h3.1, hc _ (conds_mem.2 (.inl rfl)), fun i o ho => ⟨(h2.2 i o ho).1, (h2.2 i o ho).2, hl.2.2 i o ho, h4 i o ho, hc _ (conds_mem.2 (.inr ⟨i, o, ho, .inl rfl⟩)), fun j e he => ⟨hc _ (conds_mem.2 (.inr ⟨i, o, ho, .inr ⟨j, e, he, rfl⟩⟩)), h3.2.2 i o ho j e he⟩⟩⟩
  · rintro ⟨h1, h2, h3, h4, h5, h6⟩
    have hc : ∀ f ∈ conds t, FactsOk t.vars f := fun f hf => by
      rcases conds_mem.1 hf with rfl | ⟨i, o, ho, rfl | ⟨j, e, he, rfl⟩⟩
      · exact h5
      · exact (h6 i o ho).2.2.2.2.1
      · exact ((h6 i o ho).2.2.2.2.2 j e he).1
    have hL : ¬ Large t := by
      rintro (h | h | ⟨i, o, ho, h⟩ | ⟨f, hf, h⟩)
      · omega
      · omega
      · have := (h6 i o ho).2.2.1; omega
      · have := factsOk_len (hc f hf); omega
    have hV : VarsOk t ∧ CostsOk t := ⟨h3, fun i o ho => ⟨(h6 i o ho).1, (h6 i o ho).2.1⟩⟩
    have hS : StateOk t.vars t.init ∧ CondsOk t ∧ EffsOk t := ⟨h4, fun i f hf => hc f (List.mem_of_getElem? hf), fun i o ho j e he => ((h6 i o ho).2.2.2.2.2 j e he).2⟩
    have hN : NamesOk t := fun i o ho => (h6 i o ho).2.2.2.1
    rw [if_neg (fun hh => hL (bof_iff.1 hh)), if_neg (fun hh => bof_false.1 hh hV), if_neg (fun hh => bof_false.1 hh hS), if_neg (fun hh => bof_false.1 hh hN)]
theorem TaskOk.vars {t : Tsk} (h : TaskOk t) : VarsOk t := h.2.2.1
end
section
/-- The operators' preconditions are right. -/
def PreOk (t : Tsk) : Prop := ∀ (i : Nat) o, t.ops[i]? = some o → FactsOk t.vars o.pre
theorem TaskOk.pre {t : Tsk} (h : TaskOk t) : PreOk t := fun i o ho => (h.2.2.2.2.2 i o ho).2.2.2.2.1
theorem preOf_ok {t : Tsk} (h : PreOk t) (op : Int) : FactsOk t.vars (preOf t op) := by
  unfold preOf
  cases ho : t.ops[op.toNat]? with
  | none => exact ⟨fun i x hx => by simp at hx, fun i x y hx => by simp at hx⟩
  | some o => exact h _ o ho
theorem factOn_some {l : List Fct} {v : Int} {f : Fct} (h : factOn l v = some f) : f ∈ l ∧ f.var = v := by
  unfold factOn at h
  exact ⟨List.mem_of_find?_eq_some h, by simpa using List.find?_some h⟩
theorem factOn_none {l : List Fct} {v : Int} (h : factOn l v = none) : ∀ f ∈ l, f.var ≠ v := by
  unfold factOn at h
  rw [List.find?_eq_none] at h
  intro f hf
  simpa using h f hf
theorem factOn_uniq {vars : List Int} {l : List Fct} (hl : FactsOk vars l) {f g : Fct} (hf : f ∈ l) (hg : g ∈ l) (he : f.var = g.var) : f = g := by
  obtain ⟨i, hi⟩ := List.getElem?_of_mem hf
  obtain ⟨j, hj⟩ := List.getElem?_of_mem hg
  rcases Nat.lt_trichotomy i j with h | h | h
  · have := factsOk_lt hl j i f g h hi hj; omega
  · subst h; rw [hi] at hj; injection hj
  · have := factsOk_lt hl i j g f h hj hi; omega
theorem TaskOk.fits {t : Tsk} (h : TaskOk t) : FitsVals t := by
  intro i o ho v f hf hv
  obtain ⟨h1, h2⟩ := factOn_some hf
  obtain ⟨j, hj⟩ := List.getElem?_of_mem h1
  obtain ⟨g1, g2, n, g3, g4⟩ := (h.pre i o ho).1 j f hj
  rw [h2] at g3
  exact ⟨g2, n, by simpa using g3, g4⟩
def hf (t : Tsk) (s : List Int) (v : Nat) (op : Int) : Bool := (preOf t op).all fun f => decide (f.var < (v : Int)) || hasB s f
theorem hf_iff {t : Tsk} {s : List Int} {v : Nat} {op : Int} : hf t s v op = true ↔ ∀ f ∈ preOf t op, f.var < (v : Int) ∨ hasB s f = true := by
  unfold hf
  simp [List.all_eq_true]
theorem hf_none {t : Tsk} {s : List Int} {v : Nat} {op : Int} (h : factOn (preOf t op) (v : Int) = none) : hf t s v op = hf t s (v + 1) op := by
  rw [Bool.eq_iff_iff, hf_iff, hf_iff]
  constructor
  · intro hh f hm
    rcases hh f hm with h1 | h1
    · exact .inl (by omega)
    · exact .inr h1
  · intro hh f hm
    have := factOn_none h f hm
    rcases hh f hm with h1 | h1
    · exact .inl (by omega)
    · exact .inr h1
theorem hf_some {t : Tsk} {s : List Int} {v : Nat} {op : Int} {f : Fct} (hp : PreOk t) (h : factOn (preOf t op) (v : Int) = some f) : hf t s v op = (hasB s f && hf t s (v + 1) op) := by
  obtain ⟨h1, h2⟩ := factOn_some h
  rw [Bool.eq_iff_iff, Bool.and_eq_true, hf_iff, hf_iff]
  constructor
  · intro hh
    refine ⟨(hh f h1).resolve_left (by omega), fun g hg => ?_⟩
    rcases hh g hg with h3 | h3
    · exact .inl (by omega)
    · exact .inr h3
  · rintro ⟨h3, hh⟩ g hg
    rcases hh g hg with h4 | h4
    · by_cases he : g.var = (v : Int)
      · have : g = f := factOn_uniq (preOf_ok hp op) hg h1 (by omega)
        subst this; exact .inr h3
      · exact .inl (by omega)
    · exact .inr h4
theorem hf_same {t : Tsk} {s : List Int} {ops : List Int} : ∀ (k v : Nat), (∀ x, v ≤ x → x < v + k → tests t ops x = false) → ∀ op ∈ ops, hf t s v op = hf t s (v + k) op
  | 0, _, _, _, _ => rfl
  | k + 1, v, h, op, ho => by
    have h0 := h v (Nat.le_refl _) (by omega)
    unfold tests at h0
    rw [List.any_eq_false] at h0
    have h1 := h0 op ho
    have h2 : factOn (preOf t op) (v : Int) = none := by simpa using h1
    rw [hf_none h2, hf_same k (v + 1) (fun x hx1 hx2 => h x (by omega) (by omega)) op ho]
    congr 1; omega
theorem split_perm {a b c : Int → Bool} {p : Int → Bool} (h : ∀ x, p x = if a x = true then b x else if c x = true then b x else false) (hac : ∀ x, a x = true → c x = false) :
    ∀ l : List Int, (l.filter p).Perm ((l.filter a).filter b ++ (l.filter c).filter b)
  | [] => by simp
  | x :: l => by
    have ih := split_perm h hac l
    have hx := h x
    cases ha : a x
    · cases hc : c x
      · simp only [ha, hc] at hx
        simpa [List.filter_cons, ha, hc, hx] using ih
      · simp only [ha, hc] at hx
        cases hb : b x
        · rw [hb] at hx
          simpa [List.filter_cons, ha, hc, hb, hx] using ih
        · rw [hb] at hx
          simp only [List.filter_cons, ha, hc, hb, hx, if_true, Bool.false_eq_true, if_false]
          exact (ih.cons x).trans (List.perm_middle.symm)
    · have hc := hac x ha
      simp only [ha] at hx
      cases hb : b x
      · rw [hb] at hx
        simpa [List.filter_cons, ha, hc, hb, hx] using ih
      · rw [hb] at hx
        simp only [List.filter_cons, ha, hc, hb, hx, if_true, Bool.false_eq_true, if_false, List.cons_append]
        exact ih.cons x
theorem hf_end {t : Tsk} {s : List Int} (hp : PreOk t) (op : Int) : hf t s t.vars.length op = true := by
  rw [hf_iff]
  intro f hfm
  obtain ⟨i, hi⟩ := List.getElem?_of_mem hfm
  obtain ⟨h1, h2, n, h3, _⟩ := (preOf_ok hp op).1 i f hi
  have := lt_of_some h3
  exact .inl (by omega)
theorem nextV_spec (t : Tsk) (ops : List Int) {v : Nat} (h : v ≤ t.vars.length) : v ≤ nextV t ops v ∧ nextV t ops v ≤ t.vars.length ∧ (∀ u, v ≤ u → u < nextV t ops v → tests t ops u = false) ∧ (nextV t ops v < t.vars.length → tests t ops (nextV t ops v) = true) := by
  obtain ⟨h1, h2, h3, h4⟩ := nextF_spec t ops (t.vars.length - v) v
  exact ⟨h1, by unfold nextV; omega, h3, fun h => h4 (by unfold nextV at h; omega)⟩
theorem StateOk.at {vars s : List Int} (h : StateOk vars s) {u : Nat} (hu : u < vars.length) : ∃ (x : Nat) (n : Int), s[u]? = some (x : Int) ∧ vars[u]? = some n ∧ (x : Int) < n ∧ atN s u = x := by
  obtain ⟨y, hy⟩ := some_of_lt (l := s) (k := u) (by rw [h.1]; exact hu)
  obtain ⟨n, hn⟩ := some_of_lt hu
  obtain ⟨h1, h2⟩ := h.2 u y n hy hn
  obtain ⟨x, rfl⟩ := Int.eq_ofNat_of_zero_le h1
  exact ⟨x, n, hy, hn, h2, by simp [atN, hy]⟩
theorem coll_mkT {t : Tsk} {s : List Int} (hp : PreOk t) (hs : StateOk t.vars s) : ∀ (fuel : Nat) (ops : List Int) (v : Nat), v ≤ t.vars.length → t.vars.length < fuel + v →
    (coll s (mkT t fuel ops v)).Perm (ops.filter (hf t s v)) ∧ Fits s (mkT t fuel ops v) := by
  intro fuel
  induction fuel with
  | zero => intro ops v h1 h2; omega
  | succ fuel ih =>
    intro ops v h1 h2
    obtain ⟨g1, g2, g3, g4⟩ := nextV_spec t ops h1
    have hsame := hf_same (t := t) (s := s) (ops := ops) (nextV t ops v - v) v (fun x hx1 hx2 => g3 x hx1 (by omega))
    rw [show v + (nextV t ops v - v) = nextV t ops v from by omega] at hsame
    have hfil : ops.filter (hf t s v) = ops.filter (hf t s (nextV t ops v)) := List.filter_congr hsame
    rw [hfil]
    unfold mkT
    by_cases he : ops.isEmpty = true
    · rw [if_pos he]
      have : ops = [] := by simpa using he
      subst this
      exact ⟨by simp [coll], trivial⟩
    rw [if_neg he]
    by_cases hn : nextV t ops v = t.vars.length
    · rw [if_pos hn, hn]
      have : ops.filter (hf t s t.vars.length) = ops := List.filter_eq_self.2 fun x _ => hf_end hp x
      rw [this]
      exact ⟨List.Perm.refl _, trivial⟩
    rw [if_neg hn]
    obtain ⟨x, n, q1, q2, q3, q4⟩ := hs.at (u := nextV t ops v) (by omega)
    have i1 := ih (ops.filter (valB t (nextV t ops v) x)) (nextV t ops v + 1) (by omega) (by omega)
    have i2 := ih (ops.filter (restB t (nextV t ops v))) (nextV t ops v + 1) (by omega) (by omega)
    refine ⟨?_, ⟨x, q1, by rw [q2]; simp; omega⟩, by rw [q4]; exact i1.2, i2.2⟩
    rw [coll, q4]
    refine (i1.1.append i2.1).trans (split_perm (a := valB t (nextV t ops v) x) (c := restB t (nextV t ops v)) (fun op => ?_) (fun op h => ?_) ops).symm
    · unfold valB restB
      cases ho : factOn (preOf t op) (nextV t ops v : Int) with
      | none => rw [hf_none ho]; simp
      | some f =>
        rw [hf_some hp ho]
        obtain ⟨_, hv⟩ := factOn_some ho
        rw [hasB_eq (s := s) hv q1]
        by_cases hx : f.val = (x : Int)
        · simp [hx]
        · simp [hx, Ne.symm hx]
    · unfold valB at h
      unfold restB
      cases ho : factOn (preOf t op) (nextV t ops v : Int) with
      | none => rw [ho] at h; simp at h
      | some f => rfl
/-- All operators, and the tree of a task. -/
def allOps (t : Tsk) : List Int := (List.range t.ops.length).map fun i : Nat => (i : Int)
def treeOf (t : Tsk) : Tr := mkT t (t.vars.length + 1) (allOps t) 0
theorem all_congr {α : Type} {p q : α → Bool} : ∀ {l : List α}, (∀ x ∈ l, p x = q x) → l.all p = l.all q
  | [], _ => rfl
  | x :: l, h => by rw [List.all_cons, List.all_cons, h x List.mem_cons_self, all_congr fun y hy => h y (List.mem_cons_of_mem _ hy)]
theorem appl_eq {t : Tsk} (hp : PreOk t) (s : List Int) : appl t s = (allOps t).filter (hf t s 0) := by
  unfold appl applK allOps
  rw [List.filter_map]
  congr 1
  refine List.filter_congr fun i hi => ?_
  obtain ⟨o, ho⟩ := some_of_lt (l := t.ops) (k := i) (List.mem_range.1 hi)
  simp only [Function.comp, hf, preOf, holdsB, Int.toNat_natCast, ho]
  refine all_congr fun f hfm => ?_
  obtain ⟨j, hj⟩ := List.getElem?_of_mem hfm
  have := ((hp i o ho).1 j f hj).1
  have : decide (f.var < ((0 : Nat) : Int)) = false := decide_eq_false (by omega)
  rw [this, Bool.false_or]
theorem appl_sorted (t : Tsk) (s : List Int) : (appl t s).Pairwise fun x y => decide (x ≤ y) = true := by
  unfold appl applK
  refine List.Pairwise.map _ (fun a b h => ?_) (List.Pairwise.filter _ List.pairwise_lt_range)
  exact decide_eq_true (by omega)
theorem sortL_perm {l m : List Int} (h : l.Perm m) (hm : m.Pairwise fun x y => decide (x ≤ y) = true) : sortL l = m := by
  refine List.Perm.eq_of_pairwise (le := fun x y : Int => decide (x ≤ y) = true) (fun a b _ _ h1 h2 => ?_) (List.pairwise_mergeSort (fun a b c h1 h2 => ?_) (fun a b => ?_) l) hm ((List.mergeSort_perm _ _).trans h)
  · have := of_decide_eq_true h1; have := of_decide_eq_true h2; omega
  · have := of_decide_eq_true h1; have := of_decide_eq_true h2; exact decide_eq_true (by omega)
  · simp; omega
theorem findL_tree {t : Tsk} {s : List Int} (hp : PreOk t) (hs : StateOk t.vars s) : findL t (treeOf t) s = appl t s := by
  unfold findL
  rw [if_pos (bof_t hs)]
  refine sortL_perm ?_ (appl_sorted t s)
  rw [appl_eq hp]
  exact (coll_mkT hp hs _ _ 0 (Nat.zero_le _) (by omega)).1
theorem fits_tree {t : Tsk} {s : List Int} (hp : PreOk t) (hs : StateOk t.vars s) : Fits s (treeOf t) := (coll_mkT hp hs _ _ 0 (Nat.zero_le _) (by omega)).2
theorem coll_len (t : Tsk) (s : List Int) : ∀ (fuel : Nat) (ops : List Int) (v : Nat), (coll s (mkT t fuel ops v)).length ≤ ops.length := by
  intro fuel
  induction fuel with
  | zero => intro ops v; exact Nat.zero_le _
  | succ fuel ih =>
    intro ops v
    unfold mkT
    by_cases he : ops.isEmpty = true
    · rw [if_pos he]; exact Nat.zero_le _
    rw [if_neg he]
    by_cases hn : nextV t ops v = t.vars.length
    · rw [if_pos hn]; exact Nat.le_refl _
    rw [if_neg hn, coll, List.length_append]
    refine Nat.le_trans (Nat.add_le_add (ih _ _) (ih _ _)) ?_
    generalize nextV t ops v = u
    generalize atN s u = x
    clear he hn ih
    induction ops with
    | nil => simp
    | cons op ops ih2 =>
      have hac : valB t u x op = true → restB t u op = false := by
        unfold valB restB
        cases factOn (preOf t op) (u : Int) <;> simp
      rw [List.filter_cons, List.filter_cons]
      cases ha : valB t u x op
      · cases hc : restB t u op <;> simp <;> omega
      · rw [hac ha]; simp; omega
theorem allOps_len (t : Tsk) : (allOps t).length = t.ops.length := by simp [allOps]
theorem tree_len (t : Tsk) (s : List Int) : (coll s (treeOf t)).length ≤ t.ops.length := by
  have := coll_len t s (t.vars.length + 1) (allOps t) 0
  rwa [allOps_len] at this
end
section
open Go Go.RowKit
attribute [local irreducible] ewp owp hwp hwq hws Ev Evg Fn retPost loud loudS Res1
theorem allOps_step : ∀ k, ((List.range (k + 1)).map fun i : Nat => (i : Int)) = ((List.range k).map fun i : Nat => (i : Int)) ++ [(k : Int)] := fun k => by
  rw [List.range_succ, List.map_append]; rfl
theorem genNew {w : World} {tv : Value} {t : Tsk} (ht : V w tv t) : Fn Tryz.prog 42 [tv] w fun v w' => Ext w w' ∧
    ((TaskOk t ∧ ∃ gv, v = .tuple #[gv, .nilIface] ∧ GenR w' (nw w w') gv t (treeOf t)) ∨ (¬ TaskOk t ∧ v = .tuple #[.pointer none, errV (checkN t)])) := by
  have ht0 := ht
  obtain ⟨cs, rfl, a, b, c, d, rfl, hvars, hinit, hgoal, hops⟩ := ht
  refine fn_enter Tryz.func42 rfl Tryz.ntmps42 rfl ?_
  repeat (first | refine e_go ?_ | refine ewp_true rfl ?_ | refine ewp_false rfl ?_)
  refine owp_box rfl rfl fun w1 hN1 => ?_
  have hE1 : Ext w w1 := hN1.ext
  have hb1 : Blk w1 w.heap.size 26 [a, b, c, d] := hN1.blk
  have ht1 := ht0.ext hE1
  (refine o_as rfl rfl ?_ <;> refine o_as rfl rfl ?_ <;> (refine o_z ?_))
  repeat (first | refine e_go ?_ | refine ewp_true rfl ?_ | refine ewp_false rfl ?_)
  (refine o_la rfl rfl ?_)
  refine owp_call rfl rfl (taskCheck ht1) ?_
  rintro _ w2 ⟨rfl, hE2⟩
  have hE02 : Ext w w2 := hE1.trans' hE2
  have hb1 := hb1.ext hE2
  by_cases hok : TaskOk t
  case neg =>
    have hne : checkN t ≠ 0 := fun h => hok (check_ok.1 h)
    rw [errV_pos hne]
    (refine o_as rfl rfl ?_ <;> (refine o_z ?_))
    repeat (first | refine e_go ?_ | refine ewp_true rfl ?_ | refine ewp_false rfl ?_)
    ((repeat (first | refine e_go ?_ | refine ewp_true rfl ?_ | refine ewp_false rfl ?_)) <;> (refine o_mv rfl rfl ?_ <;> (first | refine o_ep rfl rfl ?_ | refine o_eq rfl rfl ?_) <;> (refine o_z ?_)) <;> (repeat (first | refine e_go ?_ | refine ewp_true rfl ?_ | refine ewp_false rfl ?_)))
    ((repeat (first | refine e_go ?_ | refine ewp_true rfl ?_ | refine ewp_false rfl ?_)) <;> (refine o_mv rfl rfl ?_ <;> refine o_as rfl rfl ?_ <;> refine o_as rfl rfl ?_ <;> (refine o_z ?_)) <;> (repeat (first | refine e_go ?_ | refine ewp_true rfl ?_ | refine ewp_false rfl ?_)))
    exact ret2 rfl (res_tmp rfl) (res_tmp rfl) ⟨hE02, .inr ⟨hok, rfl⟩⟩
  rw [check_ok.2 hok, errV_zero]
  (refine o_as rfl rfl ?_ <;> (refine o_z ?_))
  repeat (first | refine e_go ?_ | refine ewp_true rfl ?_ | refine ewp_false rfl ?_)
  ((repeat (first | refine e_go ?_ | refine ewp_true rfl ?_ | refine ewp_false rfl ?_)) <;> (refine o_mv rfl rfl ?_ <;> (first | refine o_ep rfl rfl ?_ | refine o_eq rfl rfl ?_) <;> (refine o_z ?_)) <;> (repeat (first | refine e_go ?_ | refine ewp_true rfl ?_ | refine ewp_false rfl ?_)))
  have hpre := hok.pre
  have hl1 : t.vars.length ≤ 64 := hok.1
  have hl4 : t.ops.length ≤ 4096 := hok.2.1
  have hcp := genCopied (ht1.ext hE2) (by omega) (by rw [hok.2.2.2.1.1]; omega) (by have := factsOk_len hok.2.2.2.2.1; omega) (by omega) (fun i o ho => by
    obtain ⟨_, _, h3, _, h5, h6⟩ := hok.2.2.2.2.2 i o ho
    exact ⟨by have := factsOk_len h5; omega, by omega, fun j e he => by have := factsOk_len (h6 j e he).1; omega⟩)
  (refine o_la rfl rfl ?_)
  refine owp_call rfl rfl hcp ?_
  rintro cvv w3 ⟨hcv, hE3⟩
  obtain ⟨cs', rfl, a', b', c', d', rfl, hvars', hinit', hgoal', hops'⟩ := hcv
  (refine o_bd rfl rfl rfl ?_)
  refine owp_box rfl rfl fun w4 hN4 => ?_
  have hbg : Blk w4 w3.heap.size 129 [a', b', c', d', .pointer none] := hN4.blk
  have hE34 : Ext w3 w4 := hN4.ext
  have s2 := hE02.size
  have s3 := hE3.size
  have s4 : w4.heap.size = w3.heap.size + 1 := hN4.size
  obtain ⟨Ao, co, rfl⟩ := hops'.form
  (refine o_as rfl rfl ?_ <;> (refine o_z ?_))
  repeat (first | refine e_go ?_ | refine ewp_true rfl ?_ | refine ewp_false rfl ?_)
  ((repeat (first | refine e_go ?_ | refine ewp_true rfl ?_ | refine ewp_false rfl ?_)) <;> (refine o_as rfl rfl ?_ <;> (refine o_z ?_)) <;> (repeat (first | refine e_go ?_ | refine ewp_true rfl ?_ | refine ewp_false rfl ?_)))
  clear hb1
  have hb1 := hbg
  ((repeat (first | refine e_go ?_ | refine ewp_true rfl ?_ | refine ewp_false rfl ?_)) <;> (refine o_mv rfl rfl ?_ <;> refine o_nc rfl rfl ?_ <;> refine o_fa rfl rfl ?_ <;> refine o_fa rfl rfl ?_ <;> refine o_ld rfl rfl ?_ <;> refine o_ln rfl rfl ?_ <;> refine o_mv rfl rfl ?_ <;> (refine o_z ?_)) <;> (repeat (first | refine e_go ?_ | refine ewp_true rfl ?_ | refine ewp_false rfl ?_)))
  refine ewp_range t.ops.length (by omega) (fun v : Value => [(1, .pointer (some ⟨w.heap.size, 0, none⟩)), (5, .pointer (some ⟨w3.heap.size, 0, none⟩)), (6, v)]) (fun k v w' => Ext w4 w' ∧ Own w' w4.heap.size (fun _ => False) 3 v ((List.range k).map fun i : Nat => (i : Int))) (.slice none 0 0)
    ⟨Below.refl _ _, Own.nil _ _ _ _⟩ ⟨rfl, rfl, rfl, rfl, rfl, trivial⟩ (fun _ => ⟨rfl, rfl⟩) ⟨rfl, rfl, rfl⟩ ⟨rfl, rfl⟩ ?_ ?_
  · rintro k v w5 hk ⟨hE5, hown⟩
    ((repeat (first | refine e_go ?_ | refine ewp_true rfl ?_ | refine ewp_false rfl ?_)) <;> (refine o_mv rfl rfl ?_ <;> refine o_as rfl rfl ?_ <;> (refine o_z ?_)) <;> (repeat (first | refine e_go ?_ | refine ewp_true rfl ?_ | refine ewp_false rfl ?_)))
    (refine o_mv rfl rfl ?_ <;> refine o_mv rfl rfl ?_)
    refine owp_append1 (a := (k : Int)) rfl rfl rfl hown (fun _ h => h.elim) hE5.size ⟨rfl, by omega, by omega⟩ (by decide) (by decide) (by simp; omega) (by simp; omega) ⟨rfl, rfl⟩ fun v' w6 hown6 hK => ?_
    (refine o_as rfl rfl ?_ <;> (refine o_z ?_))
    repeat (first | refine e_go ?_ | refine ewp_true rfl ?_ | refine ewp_false rfl ?_)
    exact ⟨v', ⟨rfl, rfl, rfl, rfl, rfl, trivial⟩, hE5.trans (hown.fits (Nat.le_refl _) hE5.size hK), by rw [allOps_step]; exact hown6⟩
  rintro v w5 ⟨hE5, hown⟩
  have s5 := hE5.size
  have hE35 := hE34.trans' hE5
  have hbg5 := hbg.ext hE5
  have hB5 : GenB w5 (All w5) (.pointer (some ⟨w3.heap.size, 0, none⟩)) t := ⟨_, _, _, _, _, _, rfl, by show _ < _; omega, hbg5, (hvars'.agree (hE35.agree fun _ h => h.2)).mono fun k hk => by have := hk.2; show _ < _; omega, (hinit'.agree (hE35.agree fun _ h => h.2)).mono fun k hk => by have := hk.2; show _ < _; omega, (hgoal'.agree (hE35.agree fun _ h => h.2)).mono fun k hk => by have := hk.2; show _ < _; omega, (hops'.agree (hE35.agree fun _ h => h.2)).mono fun k hk => by have := hk.2; show _ < _; omega⟩
  have hov : Vb w5 (nw w4 w5) v (allOps t) := hown.vb.mono fun k hk => hown.lt k (hk.resolve_left id)
  have hbuild := genBuild t hok.vars hok.fits hl1 (t.vars.length + 1) w5 _ v (allOps t) 0 (nw w4 w5) hB5 hov (fun k hk => hk.2) (fun op hop => by
    obtain ⟨i, hi, rfl⟩ := List.mem_map.1 hop
    have := List.mem_range.1 hi
    exact ⟨by omega, by omega⟩) (by rw [allOps_len]; omega) (Nat.zero_le _) (by omega)
  repeat (first | refine e_go ?_ | refine ewp_true rfl ?_ | refine ewp_false rfl ?_)
  (refine o_mv rfl rfl ?_ <;> refine o_mv rfl rfl ?_ <;> refine o_mv rfl rfl ?_)
  refine owp_call rfl rfl hbuild ?_
  rintro p w6 ⟨hT, hE6⟩
  obtain ⟨rp, rfl⟩ := hT.form
  have s6 := hE6.size
  (refine o_nc rfl rfl ?_ <;> refine o_fa rfl rfl ?_)
  refine owp_store rfl rfl (hbg5.ext hE6) rfl (Nat.le_refl _) (by simp [Value.cells, Value.oneCell']) fun w7 hU => ?_
  ((refine o_z ?_))
  repeat (first | refine e_go ?_ | refine ewp_true rfl ?_ | refine ewp_false rfl ?_)
  ((repeat (first | refine e_go ?_ | refine ewp_true rfl ?_ | refine ewp_false rfl ?_)) <;> (refine o_mv rfl rfl ?_ <;> refine o_as rfl rfl ?_ <;> refine o_as rfl rfl ?_ <;> (refine o_z ?_)) <;> (repeat (first | refine e_go ?_ | refine ewp_true rfl ?_ | refine ewp_false rfl ?_)))
  have hE36 := hE35.trans' hE6
  have s7 := hU.size
  have hcl : ∀ {α : Type} [Rp α] {v : Value} {x : α}, Vb w3 (nw w2 w3) v x → Vb w7 (nw w w7) v x := fun h => ((h.agree (hE36.agree fun _ h => h.2)).agree fun q hq => hU.other q (by have := hq.2; omega)).mono fun k hk => ⟨by have := hk.1; omega, by have := hk.2; omega⟩
  refine ret2 rfl (res_tmp rfl) (res_tmp rfl) ⟨(((hE02.trans' hE3).trans' hE36).trans (hU.below (by omega))), .inl ⟨hok, _, rfl, _, _, _, _, _, _, rfl, ⟨by omega, by omega⟩, hU.blk, hcl hvars', hcl hinit', hcl hgoal', hcl hops', ?_⟩⟩
  refine TrR.mono (fun k hk => ?_) (TrR.agree (fun q hq => hU.other q ?_) hT)
  · rcases hk with hk | hk
    · exact ⟨by have := hk.1; omega, by have := hk.2; omega⟩
    · exact ⟨by omega, by omega⟩
  · rcases hq with hk | hk
    · have := hk.1; omega
    · omega
end
section
open Go Go.RowKit
theorem TaskOk.effs {t : Tsk} (h : TaskOk t) {s : List Int} (hs : StateOk t.vars s) : ∀ (i : Nat) o, t.ops[i]? = some o → EffsIn s o.effs := fun i o ho j e he => by
  obtain ⟨h1, _, y, hy, _⟩ := ((h.2.2.2.2.2 i o ho).2.2.2.2.2 j e he).2
  refine ⟨h1, ?_⟩
  have := (List.getElem?_eq_some_iff.1 hy).1
  rw [hs.1]
  simp only at h1 this
  omega
end
section
open Go Go.RowKit
attribute [local irreducible] ewp owp hwp hwq hws Ev Evg Fn retPost loud loudS Res1
theorem GenR.mono {w : World} {F G : Nat → Prop} {gv : Value} {t : Tsk} {T : Tr} (h : GenR w F gv t T) (hk : ∀ k, F k → G k) : GenR w G gv t T := by
  obtain ⟨gb, a, b, c, d, r, h1, h2, h3, h4, h5, h6, h7, h8⟩ := h
  exact ⟨gb, a, b, c, d, r, h1, hk _ h2, h3, h4.mono hk, h5.mono hk, h6.mono hk, h7.mono hk, TrR.mono hk h8⟩
theorem GenR.agree {w w' : World} {F : Nat → Prop} {gv : Value} {t : Tsk} {T : Tr} (h : GenR w F gv t T) (ha : Agree F w w') : GenR w' F gv t T := by
  obtain ⟨gb, a, b, c, d, r, h1, h2, h3, h4, h5, h6, h7, h8⟩ := h
  exact ⟨gb, a, b, c, d, r, h1, h2, h3.keep (ha gb h2), h4.agree ha, h5.agree ha, h6.agree ha, h7.agree ha, TrR.agree ha h8⟩
theorem GenR.form {w : World} {F : Nat → Prop} {gv : Value} {t : Tsk} {T : Tr} (h : GenR w F gv t T) : ∃ gb, gv = .pointer (some ⟨gb, 0, none⟩) := by
  obtain ⟨gb, a, b, c, d, r, h1, _⟩ := h
  exact ⟨gb, h1⟩
/-- What a generator of a right task finds. -/
noncomputable def appS (t : Tsk) (s : List Int) : List Int := if bof (StateOk t.vars s) = true then appl t s else []
theorem appS_ok {t : Tsk} {s : List Int} (h : StateOk t.vars s) : appS t s = appl t s := by unfold appS; rw [if_pos (bof_t h)]
theorem appS_no {t : Tsk} {s : List Int} (h : ¬ StateOk t.vars s) : appS t s = [] := by unfold appS; rw [bof_f h]; rfl
theorem findL_appS {t : Tsk} (hp : PreOk t) (s : List Int) : findL t (treeOf t) s = appS t s := by
  by_cases h : StateOk t.vars s
  · rw [findL_tree hp h, appS_ok h]
  · rw [appS_no h]; unfold findL; rw [bof_f h]; rfl
theorem appl_mem {t : Tsk} {s : List Int} {x : Int} (h : x ∈ appl t s) : ∃ (j : Nat) (o : Opr), x = (j : Int) ∧ t.ops[j]? = some o ∧ holdsB o.pre s = true := by
  unfold appl applK at h
  obtain ⟨j, hj, rfl⟩ := List.mem_map.1 h
  obtain ⟨h1, h2⟩ := List.mem_filter.1 hj
  obtain ⟨o, ho⟩ := some_of_lt (List.mem_range.1 h1)
  rw [ho] at h2
  exact ⟨j, o, rfl, ho, h2⟩
theorem appS_mem {t : Tsk} {s : List Int} {x : Int} (h : x ∈ appS t s) : StateOk t.vars s ∧ x ∈ appl t s := by
  by_cases hs : StateOk t.vars s
  · rw [appS_ok hs] at h; exact ⟨hs, h⟩
  · rw [appS_no hs] at h; cases h
theorem appl_len (t : Tsk) (s : List Int) : (appl t s).length ≤ t.ops.length := applK_len t s _
theorem appS_len (t : Tsk) (s : List Int) : (appS t s).length ≤ t.ops.length := by
  by_cases hs : StateOk t.vars s
  · rw [appS_ok hs]; exact appl_len t s
  · rw [appS_no hs]; exact Nat.zero_le _
section
variable {w : World} {gv sv : Value} {t : Tsk} {s : List Int}
theorem applT (hok : TaskOk t) (hg : GenR w (All w) gv t (treeOf t)) (hs : V w sv s) (hsl : s.length ≤ 1000000) :
    Fn Tryz.prog 87 [gv, sv] w fun v w' => Ext w w' ∧ Own w' w.heap.size (All w) 3 v (appS t s) := by
  have := genApplicable hg hs (fits_tree hok.pre) (by have := tree_len t s; have := hok.2.1; omega) hsl
  rwa [findL_appS hok.pre] at this
end
/-- A nil generator. -/
theorem nilFind {w : World} {sv : Value} : Fn Tryz.prog 113 [.pointer none, sv] w fun v w' => v = .tuple #[.slice none 0 0, .int .i64 0] ∧ Ext w w' := by
  refine fn_enter Tryz.func113 rfl Tryz.ntmps113 rfl ?_
  ((repeat (first | refine e_go ?_ | refine ewp_true rfl ?_ | refine ewp_false rfl ?_)) <;> (refine o_as rfl rfl ?_ <;> refine o_as rfl rfl ?_ <;> (refine o_z ?_)) <;> (repeat (first | refine e_go ?_ | refine ewp_true rfl ?_ | refine ewp_false rfl ?_)))
  (refine o_mv rfl rfl ?_ <;> refine o_pn rfl rfl ?_ <;> refine o_mv rfl rfl ?_ <;> (first | (refine owp_yes rfl rfl ?_; refine o_mv rfl rfl ?_) | refine owp_no rfl rfl rfl rfl ?_) <;> (first | (refine owp_yes rfl rfl ?_; refine o_nc rfl rfl ?_) | refine owp_no rfl rfl rfl rfl ?_) <;> (first | (refine owp_yes rfl rfl ?_; refine o_fa rfl rfl ?_) | refine owp_no rfl rfl rfl rfl ?_) <;> (first | (refine owp_yes rfl rfl ?_; refine o_fa rfl rfl ?_) | refine owp_no rfl rfl rfl rfl ?_) <;> (first | (refine owp_yes rfl rfl ?_; refine o_ld rfl rfl ?_) | refine owp_no rfl rfl rfl rfl ?_) <;> (first | (refine owp_yes rfl rfl ?_; refine o_mv rfl rfl ?_) | refine owp_no rfl rfl rfl rfl ?_))
  refine owp_no rfl rfl rfl rfl ?_
  ((first | (refine owp_yes rfl rfl ?_; (first | refine o_nt rfl rfl ?_ | refine o_nf rfl rfl ?_ | refine o_nn rfl rfl ?_)) | refine owp_no rfl rfl rfl rfl ?_) <;> (first | refine o_pt rfl rfl rfl ?_ | refine o_pf rfl rfl rfl ?_) <;> (refine o_z ?_))
  repeat (first | refine e_go ?_ | refine ewp_true rfl ?_ | refine ewp_false rfl ?_)
  ((repeat (first | refine e_go ?_ | refine ewp_true rfl ?_ | refine ewp_false rfl ?_)) <;> (refine o_as rfl rfl ?_ <;> refine o_as rfl rfl ?_ <;> (refine o_z ?_)) <;> (repeat (first | refine e_go ?_ | refine ewp_true rfl ?_ | refine ewp_false rfl ?_)))
  exact ret2 rfl (res_tmp rfl) (res_tmp rfl) ⟨rfl, Below.refl _ _⟩
theorem nilApplicable {w : World} {sv : Value} : Fn Tryz.prog 87 [.pointer none, sv] w fun v w' => v = .slice none 0 0 ∧ Ext w w' := by
  refine fn_enter Tryz.func87 rfl Tryz.ntmps87 rfl ?_
  ((repeat (first | refine e_go ?_ | refine ewp_true rfl ?_ | refine ewp_false rfl ?_)) <;> (refine o_as rfl rfl ?_ <;> (refine o_z ?_)) <;> (repeat (first | refine e_go ?_ | refine ewp_true rfl ?_ | refine ewp_false rfl ?_)) <;> (refine o_mv rfl rfl ?_ <;> refine o_mv rfl rfl ?_) <;> (repeat (first | refine e_go ?_ | refine ewp_true rfl ?_ | refine ewp_false rfl ?_)))
  refine owp_call rfl rfl nilFind ?_
  rintro _ w1 ⟨rfl, hE⟩
  (refine o_mv rfl rfl ?_ <;> refine o_ex rfl rfl rfl ?_ <;> refine o_ex rfl rfl rfl ?_ <;> refine o_as rfl rfl ?_ <;> refine o_as rfl rfl ?_ <;> (refine o_z ?_))
  repeat (first | refine e_go ?_ | refine ewp_true rfl ?_ | refine ewp_false rfl ?_)
  ((repeat (first | refine e_go ?_ | refine ewp_true rfl ?_ | refine ewp_false rfl ?_)) <;> (refine o_mv rfl rfl ?_ <;> refine o_as rfl rfl ?_ <;> (refine o_z ?_)) <;> (repeat (first | refine e_go ?_ | refine ewp_true rfl ?_ | refine ewp_false rfl ?_)))
  exact ret1 rfl rfl ⟨rfl, hE⟩
end
section
open Go Go.RowKit
section
variable {P : Program} {l : Env} {w : World} {dst : Option Tmp} {ty : TypeId} {pos : String} {aft : Array Edge}
theorem ev_chk_add {t u : TypeId} {x y : Operand} {a b c : Int} (hx : opv l x = some (.int .i64 a)) (hy : opv l y = some (.int .i64 b)) (he : chkI (a + b) = some c) : Ev P ⟨dst, .binOp .add t x y u, ty, pos, aft, none⟩ l w (.int .i64 c) := by
  obtain ⟨rfl, h⟩ := chkI_some he
  exact ev_add hx hy h
theorem ev_chk_sub {t u : TypeId} {x y : Operand} {a b c : Int} (hx : opv l x = some (.int .i64 a)) (hy : opv l y = some (.int .i64 b)) (he : chkI (a - b) = some c) : Ev P ⟨dst, .binOp .sub t x y u, ty, pos, aft, none⟩ l w (.int .i64 c) := by
  obtain ⟨rfl, h⟩ := chkI_some he
  exact ev_sub hx hy h
theorem ev_chk_mul {t u : TypeId} {x y : Operand} {a b c : Int} (hx : opv l x = some (.int .i64 a)) (hy : opv l y = some (.int .i64 b)) (he : chkI (a * b) = some c) : Ev P ⟨dst, .binOp .mul t x y u, ty, pos, aft, none⟩ l w (.int .i64 c) := by
  obtain ⟨rfl, h⟩ := chkI_some he
  exact ev_mul hx hy h
theorem ev_quoE {t u : TypeId} {x y : Operand} {a b c : Int} (hx : opv l x = some (.int .i64 a)) (hy : opv l y = some (.int .i64 b)) (he : quoI a b = some c) (hr : inI64 a) : Ev P ⟨dst, .binOp .quo t x y u, ty, pos, aft, none⟩ l w (.int .i64 c) := by
  obtain ⟨h1, h2, rfl⟩ := quoI_some he
  exact ev_quo hx hy h1 h2 hr.2
theorem ev_iaE {t e : TypeId} [TSlice P t e] {z : Value} {size bytes : Nat} [TInfo P e z size bytes] {x i : Operand} {k : IntKind} {A : Option Addr} {b o m c j : Nat} {q : Int} (hx : opv l x = some (.slice A m c)) (hq : opv l i = some (.int k q)) (hA : A = some ⟨b, o, none⟩) (hj : q = (j : Int)) (hlt : j < m) :
    Ev P ⟨dst, .indexAddr t x i, ty, pos, aft, none⟩ l w (.pointer (some ⟨b, o + j * size, none⟩)) := by
  subst hA
  exact ev_indexAddr hx hq hj hlt
theorem ev_faE {t : TypeId} {f off : Nat} [TField P t f off] {x : Operand} {p : Option Addr} {b o : Nat} (hx : opv l x = some (.pointer p)) (hA : p = some ⟨b, o, none⟩) : Ev P ⟨dst, .fieldAddr t x f, ty, pos, aft, none⟩ l w (.pointer (some ⟨b, o + off, none⟩)) := by
  subst hA
  exact ev_fieldAddr hx
theorem ev_ncE {x : Operand} {p : Option Addr} {ad : Addr} (hx : opv l x = some (.pointer p)) (hA : p = some ad) : Ev P ⟨dst, .nilCheck x, ty, pos, aft, none⟩ l w (.pointer p) := by
  subst hA
  exact ev_nilck hx
theorem ev_miE {x : Operand} {n : Int} [TInt P 45 .i64] (hx : opv l x = some (.int .i64 n)) (hn : n ≠ 0) : Ev P ⟨dst, .makeInterface 45 x, ty, pos, aft, none⟩ l w (errV n) := by
  rw [errV_pos hn]
  exact ev_mkiface hx
theorem ev_errE {t u : TypeId} [TIface P t] {x : Operand} {n : Int} (hx : opv l x = some (errV n)) : Ev P ⟨dst, .binOp .eql t x (.const .nilIface) u, ty, pos, aft, none⟩ l w (.bool (decide (n = 0))) := by
  by_cases h : n = 0
  · subst h
    rw [errV_zero] at hx
    exact ev_errnil hx
  · rw [errV_pos h] at hx
    simpa [h] using ev_errnil' (P := P) (w := w) (dst := dst) (ty := ty) (pos := pos) (aft := aft) (t := t) (u := u) hx
theorem ev_errN {t u : TypeId} [TIface P t] {x : Operand} {n : Int} (hx : opv l x = some (errV n)) : Ev P ⟨dst, .binOp .neq t x (.const .nilIface) u, ty, pos, aft, none⟩ l w (.bool (decide (n ≠ 0))) := by
  by_cases h : n = 0
  · subst h
    rw [errV_zero] at hx
    exact ev_errnnil hx
  · rw [errV_pos h] at hx
    simpa [h] using ev_errnnil' (P := P) (w := w) (dst := dst) (ty := ty) (pos := pos) (aft := aft) (t := t) (u := u) hx
theorem ev_ptrE {t e u : TypeId} [TPtr P t e] {x : Operand} {p : Option Addr} {b : Bool} (hq : p.isNone = b) (hx : opv l x = some (.pointer p)) : Ev P ⟨dst, .binOp .eql t x (.const (.pointer none)) u, ty, pos, aft, none⟩ l w (.bool (decide (b = true))) := by
  subst hq
  have := ev_ptrnil (P := P) (w := w) (dst := dst) (ty := ty) (pos := pos) (aft := aft) (t := t) (u := u) hx
  cases hb : p.isNone <;> simpa [hb] using this
theorem ev_ptrN {t e u : TypeId} [TPtr P t e] {x : Operand} {p : Option Addr} {b : Bool} (hq : p.isNone = b) (hx : opv l x = some (.pointer p)) : Ev P ⟨dst, .binOp .neq t x (.const (.pointer none)) u, ty, pos, aft, none⟩ l w (.bool (decide (b = false))) := by
  subst hq
  have := ev_ptrnnil (P := P) (w := w) (dst := dst) (ty := ty) (pos := pos) (aft := aft) (t := t) (u := u) hx
  cases hb : p.isNone <;> simpa [hb] using this
end
section
variable {P : Program} {n : Nat} {ops : Array Oper} {Q : Post} {rest : List Oper} {l : Env} {w : World} {d : Tmp} {ty : TypeId} {pos : String} {aft : Array Edge}
theorem o_adE {t u : TypeId} {x y : Operand} {a b c : Int} (hx : opv l x = some (.int .i64 a)) (hy : opv l y = some (.int .i64 b)) (hd : Nat.blt d n = true) (h : owp P n ops Q rest ((d, .int .i64 c) :: l) w) (he : chkI (a + b) = some c := by assumption) : owp P n ops Q (⟨some d, .binOp .add t x y u, ty, pos, aft, none⟩ :: rest) l w := owp_ev (ev_chk_add hx hy he) hd h
theorem o_sbE {t u : TypeId} {x y : Operand} {a b c : Int} (hx : opv l x = some (.int .i64 a)) (hy : opv l y = some (.int .i64 b)) (hd : Nat.blt d n = true) (h : owp P n ops Q rest ((d, .int .i64 c) :: l) w) (he : chkI (a - b) = some c := by assumption) : owp P n ops Q (⟨some d, .binOp .sub t x y u, ty, pos, aft, none⟩ :: rest) l w := owp_ev (ev_chk_sub hx hy he) hd h
theorem o_mlE {t u : TypeId} {x y : Operand} {a b c : Int} (hx : opv l x = some (.int .i64 a)) (hy : opv l y = some (.int .i64 b)) (hd : Nat.blt d n = true) (h : owp P n ops Q rest ((d, .int .i64 c) :: l) w) (he : chkI (a * b) = some c := by assumption) : owp P n ops Q (⟨some d, .binOp .mul t x y u, ty, pos, aft, none⟩ :: rest) l w := owp_ev (ev_chk_mul hx hy he) hd h
theorem o_quE {t u : TypeId} {x y : Operand} {a b c : Int} (hx : opv l x = some (.int .i64 a)) (hy : opv l y = some (.int .i64 b)) (hd : Nat.blt d n = true) (h : owp P n ops Q rest ((d, .int .i64 c) :: l) w) (he : quoI a b = some c := by assumption) (hr : inI64 a := by assumption) : owp P n ops Q (⟨some d, .binOp .quo t x y u, ty, pos, aft, none⟩ :: rest) l w := owp_ev (ev_quoE hx hy he hr) hd h
theorem o_iaE {t e : TypeId} [TSlice P t e] {z : Value} {size bytes : Nat} [TInfo P e z size bytes] {x i : Operand} {k : IntKind} {A : Option Addr} {b o m c j : Nat} {q : Int} (hx : opv l x = some (.slice A m c)) (hq : opv l i = some (.int k q)) (hd : Nat.blt d n = true) (h : owp P n ops Q rest ((d, .pointer (some ⟨b, o + j * size, none⟩)) :: l) w) (hA : A = some ⟨b, o, none⟩ := by assumption) (hj : q = (j : Int) := by rfl) (hlt : j < m := by assumption) : owp P n ops Q (⟨some d, .indexAddr t x i, ty, pos, aft, none⟩ :: rest) l w := owp_ev (ev_iaE hx hq hA hj hlt) hd h
theorem o_faE {t : TypeId} {f off : Nat} [TField P t f off] {x : Operand} {p : Option Addr} {b o : Nat} (hx : opv l x = some (.pointer p)) (hd : Nat.blt d n = true) (h : owp P n ops Q rest ((d, .pointer (some ⟨b, o + off, none⟩)) :: l) w) (hA : p = some ⟨b, o, none⟩ := by assumption) : owp P n ops Q (⟨some d, .fieldAddr t x f, ty, pos, aft, none⟩ :: rest) l w := owp_ev (ev_faE hx hA) hd h
theorem o_ncE {x : Operand} {p : Option Addr} {ad : Addr} (hx : opv l x = some (.pointer p)) (hd : Nat.blt d n = true) (h : owp P n ops Q rest ((d, .pointer p) :: l) w) (hA : p = some ad := by assumption) : owp P n ops Q (⟨some d, .nilCheck x, ty, pos, aft, none⟩ :: rest) l w := owp_ev (ev_ncE hx hA) hd h
theorem o_cutH {t e : TypeId} [TSlice P t e] {z : Value} {size bytes : Nat} [TInfo P e z size bytes] {A A' : Option Addr} {m c m' c' : Nat} {q : Int} {k : IntKind} {x y : Operand} (hx : opv l x = some (.slice A m c)) (hy : opv l y = some (.int k q)) (hd : Nat.blt d n = true) (h : owp P n ops Q rest ((d, .slice A' m' c') :: l) w) (hc : CutB size A m c 0 q A' m' c' := by assumption) : owp P n ops Q (⟨some d, .slice t x none (some y) none, ty, pos, aft, none⟩ :: rest) l w := owp_ev (ev_cutH hx hy hc) hd h
theorem o_miE [TInt P 45 .i64] {x : Operand} {q : Int} (hx : opv l x = some (.int .i64 q)) (hd : Nat.blt d n = true) (h : owp P n ops Q rest ((d, errV q) :: l) w) (hn : q ≠ 0 := by decide) : owp P n ops Q (⟨some d, .makeInterface 45 x, ty, pos, aft, none⟩ :: rest) l w := owp_ev (ev_miE hx hn) hd h
theorem o_erS {t u : TypeId} [TIface P t] {x : Operand} {k : Int} (hx : opv l x = some (errV k)) (hd : Nat.blt d n = true) (ht : k = 0 → owp P n ops Q rest ((d, .bool true) :: l) w) (hf : ¬ (k = 0) → owp P n ops Q rest ((d, .bool false) :: l) w) : owp P n ops Q (⟨some d, .binOp .eql t x (.const .nilIface) u, ty, pos, aft, none⟩ :: rest) l w := owp_split (ev_errE hx) hd ht hf
theorem o_rnS {t u : TypeId} [TIface P t] {x : Operand} {k : Int} (hx : opv l x = some (errV k)) (hd : Nat.blt d n = true) (ht : k ≠ 0 → owp P n ops Q rest ((d, .bool true) :: l) w) (hf : ¬ (k ≠ 0) → owp P n ops Q rest ((d, .bool false) :: l) w) : owp P n ops Q (⟨some d, .binOp .neq t x (.const .nilIface) u, ty, pos, aft, none⟩ :: rest) l w := owp_split (ev_errN hx) hd ht hf
theorem o_pnS {t e u : TypeId} [TPtr P t e] {x : Operand} {p : Option Addr} {b : Bool} (hq : p.isNone = b) (hx : opv l x = some (.pointer p)) (hd : Nat.blt d n = true) (ht : b = true → owp P n ops Q rest ((d, .bool true) :: l) w) (hf : ¬ (b = true) → owp P n ops Q rest ((d, .bool false) :: l) w) : owp P n ops Q (⟨some d, .binOp .eql t x (.const (.pointer none)) u, ty, pos, aft, none⟩ :: rest) l w := owp_split (ev_ptrE hq hx) hd ht hf
theorem o_pqS {t e u : TypeId} [TPtr P t e] {x : Operand} {p : Option Addr} {b : Bool} (hq : p.isNone = b) (hx : opv l x = some (.pointer p)) (hd : Nat.blt d n = true) (ht : b = false → owp P n ops Q rest ((d, .bool true) :: l) w) (hf : ¬ (b = false) → owp P n ops Q rest ((d, .bool false) :: l) w) : owp P n ops Q (⟨some d, .binOp .neq t x (.const (.pointer none)) u, ty, pos, aft, none⟩ :: rest) l w := owp_split (ev_ptrN hq hx) hd ht hf
variable {S : World → Prop} {r : List (Nat × Bool)} {i : Nat}
theorem h_adE {t u : TypeId} {x y : Operand} {a b c : Int} (hi : ops[i]? = some ⟨some d, .binOp .add t x y u, ty, pos, aft, none⟩) (hx : opv l x = some (.int .i64 a)) (hy : opv l y = some (.int .i64 b)) (hd : Nat.blt d n = true) (h : hwp P n ops Q S r ((d, .int .i64 c) :: l) w) (he : chkI (a + b) = some c := by assumption) : hwp P n ops Q S ((i, true) :: r) l w := hwp_o hi (hwq_ev (fun _ _ => ev_chk_add hx hy he) hd h)
theorem g_adE {t u : TypeId} {x y : Operand} {a b c : Int} (hx : opv l x = some (.int .i64 a)) (hy : opv l y = some (.int .i64 b)) (hd : Nat.blt d n = true) (h : hwp P n ops Q S r ((d, .int .i64 c) :: l) w) (he : chkI (a + b) = some c := by assumption) : hwq P n ops Q S ⟨some d, .binOp .add t x y u, ty, pos, aft, none⟩ r l w := hwq_ev (fun _ _ => ev_chk_add hx hy he) hd h
theorem h_sbE {t u : TypeId} {x y : Operand} {a b c : Int} (hi : ops[i]? = some ⟨some d, .binOp .sub t x y u, ty, pos, aft, none⟩) (hx : opv l x = some (.int .i64 a)) (hy : opv l y = some (.int .i64 b)) (hd : Nat.blt d n = true) (h : hwp P n ops Q S r ((d, .int .i64 c) :: l) w) (he : chkI (a - b) = some c := by assumption) : hwp P n ops Q S ((i, true) :: r) l w := hwp_o hi (hwq_ev (fun _ _ => ev_chk_sub hx hy he) hd h)
theorem h_iaE {t e : TypeId} [TSlice P t e] {z : Value} {size bytes : Nat} [TInfo P e z size bytes] {x i' : Operand} {k : IntKind} {A : Option Addr} {b o m c j : Nat} {q : Int} (hi : ops[i]? = some ⟨some d, .indexAddr t x i', ty, pos, aft, none⟩) (hx : opv l x = some (.slice A m c)) (hq : opv l i' = some (.int k q)) (hd : Nat.blt d n = true) (h : hwp P n ops Q S r ((d, .pointer (some ⟨b, o + j * size, none⟩)) :: l) w) (hA : A = some ⟨b, o, none⟩ := by assumption) (hj : q = (j : Int) := by rfl) (hlt : j < m := by assumption) : hwp P n ops Q S ((i, true) :: r) l w := hwp_o hi (hwq_ev (fun _ _ => ev_iaE hx hq hA hj hlt) hd h)
theorem g_iaE {t e : TypeId} [TSlice P t e] {z : Value} {size bytes : Nat} [TInfo P e z size bytes] {x i' : Operand} {k : IntKind} {A : Option Addr} {b o m c j : Nat} {q : Int} (hx : opv l x = some (.slice A m c)) (hq : opv l i' = some (.int k q)) (hd : Nat.blt d n = true) (h : hwp P n ops Q S r ((d, .pointer (some ⟨b, o + j * size, none⟩)) :: l) w) (hA : A = some ⟨b, o, none⟩ := by assumption) (hj : q = (j : Int) := by rfl) (hlt : j < m := by assumption) : hwq P n ops Q S ⟨some d, .indexAddr t x i', ty, pos, aft, none⟩ r l w := hwq_ev (fun _ _ => ev_iaE hx hq hA hj hlt) hd h
end
end
section
open Go Go.RowKit
/-- How a function that turns objects stands to its beginning: what is read only (0) or foreign (1) is as it was. -/
def Bm (w0 : World) (O0 : Lab) (w : World) (O : Lab) : Prop := St (fun j => j ≠ 0 ∧ j ≠ 1) w0 O0 w O
section
variable {T : Nat → Prop} {w w' w0 : World} {O O' O0 : Lab}
theorem Bm.st (h : Bm w0 O0 w O) (hS : St T w O w' O') (h0 : ¬ T 0 := by decide) (h1 : ¬ T 1 := by decide) : Bm w0 O0 w' O' :=
  St.comp h hS fun j hj => ⟨fun e => h0 (e ▸ hj), fun e => h1 (e ▸ hj)⟩
theorem Bm.refl : Bm w O w O := St.refl _ _ _
/-- A function's own labels for those of its caller: T are the labels of the objects that it may turn. -/
structure Lbl (f : Nat → Nat) (T : Nat → Prop) : Prop where
  z : f 0 = 0
  nz : ∀ j, f j = 0 → j = 0
  o : ∀ j, ¬ T j → f j = 0 ∨ f j = 1
theorem Lbl.none : Lbl (fun j => if j = 0 then 0 else 1) nT := ⟨rfl, fun j h => by by_cases hj : j = 0 <;> simp_all, fun j _ => by by_cases hj : j = 0 <;> simp_all⟩
theorem Lbl.one {i : Nat} (hi : i ≠ 0) : Lbl (fun j => if j = 0 then 0 else if j = i then 2 else 1) (eT i) :=
  ⟨rfl, fun j h => by by_cases hj : j = 0 <;> simp_all; split at h <;> simp_all, fun j h => by by_cases hj : j = 0 <;> by_cases hk : j = i <;> simp_all⟩
theorem Lbl.fr0 {f : Nat → Nat} (h : Lbl f T) : ∀ k, Fr 0 w O k → Fr 0 w (fun k => f (O k)) k := fun k hk => ⟨hk.1, by show f (O k) = 0; rw [hk.2]; exact h.z⟩
theorem Bm.leave {f : Nat → Nat} (g : Nat → Nat) (hf : Lbl f T) (hg : g 0 = 0) (h : Bm w (fun k => f (O k)) w' O') :
    ∃ O'', St T w O w' O'' ∧ (∀ k, Fr 0 w' O' k → Fr 0 w' O'' k) ∧ ∀ j, j ≠ 0 → j ≠ 1 → ∀ k, Fr j w' O' k → Fr (g j) w' O'' k := by
  classical
  have key : ∀ k, k < w.heap.size → ¬ T (O k) → w'.heap[k]? = w.heap[k]? ∧ O' k = f (O k) := fun k hk ht =>
    h.same k hk (by rcases hf.o _ ht with e | e <;> simp [e])
  refine ⟨fun k => if k < w.heap.size ∧ ¬ T (O k) then O k else g (O' k), ⟨h.os, h.tape, h.output, h.size, fun k hk ht => ⟨(key k hk ht).1, if_pos ⟨hk, ht⟩⟩⟩, fun k hk => ⟨hk.1, ?_⟩, fun j h0 h1 k hk => ⟨hk.1, ?_⟩⟩
  · by_cases hc : k < w.heap.size ∧ ¬ T (O k)
    · show (if _ then _ else _) = _
      rw [if_pos hc]
      exact hf.nz _ ((key k hc.1 hc.2).2.symm.trans hk.2)
    · show (if _ then _ else _) = _
      rw [if_neg hc, hk.2, hg]
  · by_cases hc : k < w.heap.size ∧ ¬ T (O k)
    · have h2 := (key k hc.1 hc.2).2.symm.trans hk.2
      rcases hf.o _ hc.2 with e | e <;> rw [e] at h2 <;> omega
    · show (if _ then _ else _) = _
      rw [if_neg hc, hk.2]
theorem l_callM {P : Program} {n : Nat} {ops : Array Oper} {Q : Post} {rest : List Oper} {l : Env} {w : World} {d : Tmp} {ty : TypeId} {pos : String} {aft : Array Edge} {f : FuncId} [Callable P f] {xs : List Operand} {vs : List Value} {ts : Array TypeId} {O : Lab} {R : Value → World → Lab → Prop}
    (hc : Fn P f vs w fun v w' => ∃ O', St T w O w' O' ∧ R v w' O') (hx : opvs l xs = some vs) (hd : Nat.blt d n = true)
    (h : ∀ v w' O', St T w O w' O' → R v w' O' → owp P n ops Q rest ((d, v) :: l) w') : owp P n ops Q (⟨some d, .call { callee := .value (.func f), args := xs.toArray, argTypes := ts }, ty, pos, aft, none⟩ :: rest) l w :=
  owp_call hx hd hc fun v w' ⟨O', hS, hR⟩ => h v w' O' hS hR
end
/-- A function's beginning: its own labels. -/
def Ent (T : Nat → Prop) (O O0 : Lab) : Prop := ∃ f, Lbl f T ∧ O0 = fun k => f (O k)
theorem ent0 {w : World} {O : Lab} : ∃ O0, Ent nT O O0 ∧ ∀ k, Fr 0 w O k → Fr 0 w O0 k := ⟨_, ⟨_, Lbl.none, rfl⟩, Lbl.none.fr0⟩
theorem ent1 {w : World} {O : Lab} {i : Nat} (hi : i ≠ 0) : ∃ O0, Ent (eT i) O O0 ∧ (∀ k, Fr 0 w O k → Fr 0 w O0 k) ∧ ∀ k, Fr i w O k → Fr 2 w O0 k :=
  ⟨_, ⟨_, Lbl.one hi, rfl⟩, (Lbl.one hi).fr0, fun k hk => ⟨hk.1, by simp [hk.2, hi]⟩⟩
theorem Ent.leave {T : Nat → Prop} {w w' : World} {O O0 O' : Lab} (h : Ent T O O0) (g : Nat → Nat) (hg : g 0 = 0) (hB : Bm w O0 w' O') :
    ∃ O'', St T w O w' O'' ∧ (∀ k, Fr 0 w' O' k → Fr 0 w' O'' k) ∧ ∀ j, j ≠ 0 → j ≠ 1 → ∀ k, Fr j w' O' k → Fr (g j) w' O'' k := by
  obtain ⟨f, hf, rfl⟩ := h
  exact Bm.leave g hf hg hB
theorem ret0 {P : Program} {l : Env} {w : World} {fn : Func} {R : Value → World → Prop} (hr : fn.results = #[]) (h : R (.tuple #[]) w) : retPost P fn R .ret l w := ⟨_, fun n a d ha => by simp [results_rv, hr], h⟩
theorem ret0n {P : Program} {l : Env} {w : World} {fn : Func} {R : Value → World → Prop} (hr : fn.results = #[]) (h : R (.tuple #[]) w) : retPost P fn R .normal l w := ⟨_, fun n a d ha => by simp [results_rv, hr], h⟩
theorem ret4 {P : Program} {l : Env} {w : World} {fn : Func} {R : Value → World → Prop} {r s q p : ResultVar} {v u x y : Value} (hr : fn.results = #[r, s, q, p]) (h1 : Res1 P l w r v) (h2 : Res1 P l w s u) (h3 : Res1 P l w q x) (h4 : Res1 P l w p y) (h : R (.tuple #[v, u, x, y]) w) : retPost P fn R .ret l w :=
  ⟨_, fun n a d ha => by simp [results_rv, hr, h1 n a d ha, h2 n a d ha, h3 n a d ha, h4 n a d ha], h⟩
/-- A kind of object: its blocks lie in M, what it reads only in F. -/
class Ow (α : Type) where
  R : World → (Nat → Prop) → (Nat → Prop) → Value → α → Prop
  agree : ∀ {w w' : World} {F M : Nat → Prop} {v : Value} {x : α}, R w F M v x → Agree F w w' → Agree M w w' → R w' F M v x
  mono : ∀ {w : World} {F M F' M' : Nat → Prop} {v : Value} {x : α}, R w F M v x → (∀ k, F k → F' k) → (∀ k, M k → M' k) → (∀ k, F' k → ¬ M' k) → R w F' M' v x
/-- Objects behind pointers. -/
class OwP (α : Type) [Ow α] : Prop where
  ptr : ∀ {w : World} {F M : Nat → Prop} {v : Value} {x : α}, Ow.R w F M v x → ∃ g, v = .pointer (some ⟨g, 0, none⟩)
def Ob {α : Type} [Ow α] (i : Nat) (w : World) (O : Lab) (v : Value) (x : α) : Prop := Ow.R w (Fr 0 w O) (Fr i w O) v x ∧ i ≠ 0
theorem frNe {i j : Nat} (h : i ≠ j) {w : World} {O : Lab} : ∀ k, Fr i w O k → ¬ Fr j w O k := fun _ h1 h2 => h (h1.2.symm.trans h2.2)
theorem frNe0 {j : Nat} (h : j ≠ 0) {w : World} {O : Lab} : ∀ k, Fr 0 w O k → ¬ Fr j w O k := frNe (Ne.symm h)
section
variable {α : Type} [Ow α] {T : Nat → Prop} {i : Nat} {w w' : World} {O O' : Lab} {v : Value} {x : α}
theorem Ob.st (h : Ob i w O v x) (hS : St T w O w' O') (h0 : ¬ T 0 := by decide) (hi : ¬ T i := by decide) : Ob i w' O' v x :=
  ⟨Ow.mono (Ow.agree h.1 (hS.agree h0) (hS.agree hi)) (hS.fr h0) (hS.fr hi) (frNe0 h.2), h.2⟩
theorem Ob.ptr [OwP α] (h : Ob i w O v x) : ∃ g, v = .pointer (some ⟨g, 0, none⟩) := OwP.ptr h.1
theorem Ob.leave {j : Nat} (h : Ob i w O v x) (h1 : ∀ k, Fr 0 w O k → Fr 0 w O' k) (h2 : ∀ k, Fr i w O k → Fr j w O' k) (hj : j ≠ 0) : Ob j w O' v x := ⟨Ow.mono h.1 h1 h2 (frNe0 hj), hj⟩
end
/-- A pointer to an object, or nil. -/
def Obo {α : Type} [Ow α] (i : Nat) (w : World) (O : Lab) (v : Value) : Option α → Prop
  | none => v = .pointer none
  | some x => Ob i w O v x
theorem Obo.st {α : Type} [Ow α] {T : Nat → Prop} {i : Nat} {w w' : World} {O O' : Lab} {v : Value} {x : Option α} (h : Obo i w O v x) (hS : St T w O w' O') (h0 : ¬ T 0 := by decide) (hi : ¬ T i := by decide) : Obo i w' O' v x := by
  cases x with
  | none => exact h
  | some x => exact Ob.st h hS h0 hi
theorem Obo.ptrq {α : Type} [Ow α] [OwP α] {i : Nat} {w : World} {O : Lab} {v : Value} : ∀ {x : Option α}, Obo i w O v x → ∃ pp, v = .pointer pp ∧ pp.isNone = x.isNone
  | none, h => ⟨none, h, rfl⟩
  | some _, h => by obtain ⟨g, rfl⟩ := Ob.ptr h; exact ⟨_, rfl, rfl⟩
theorem Obo.back {α : Type} [Ow α] {i : Nat} {w : World} {O : Lab} {v : Value} {x : Option α} {a : α} (h : Ob i w O v a) (e : x = some a) : Obo i w O v x := by subst e; exact h
theorem ptr_inj {a b : Option Addr} (h : Value.pointer a = .pointer b) : a = b := by injection h
/-- A row whose own block lies in M. -/
def RwM {α : Type} [Rp α] (w : World) (F M : Nat → Prop) (e : TypeId) (v : Value) (xs : List α) : Prop := Own w 0 F e v xs ∧ ∀ g, v.ownBlock = some g → M g
section
variable {α : Type} [Rp α] {i : Nat} {w w' : World} {O O' : Lab} {v : Value} {xs : List α} {e : TypeId} {F M F' M' : Nat → Prop}
theorem RwM.agree (h : RwM w F M e v xs) (h1 : Agree F w w') (h2 : Agree M w w') : RwM w' F M e v xs := ⟨h.1.agree h1 fun g hg => h2 g (h.2 g hg), h.2⟩
theorem RwM.mono (h : RwM w F M e v xs) (h1 : ∀ k, F k → F' k) (h2 : ∀ k, M k → M' k) (h3 : ∀ k, F' k → ¬ M' k) : RwM w F' M' e v xs :=
  ⟨h.1.mono h1 fun g hg hf => h3 g hf (h2 g (h.2 g hg)), fun g hg => h2 g (h.2 g hg)⟩
theorem RwM.rw (h : RwM w F M e v xs) (h1 : ∀ k, F k → Fr 0 w O k) (h2 : ∀ k, M k → Fr i w O k) (hi : i ≠ 0) : Rw i w O e v xs :=
  ⟨h.1.mono h1 fun g hg hf => frNe0 hi g hf (h2 g (h.2 g hg)), fun g hg => (h2 g (h.2 g hg)).2, hi⟩
theorem Rw.m (h : Rw i w O e v xs) (h1 : ∀ k, Fr 0 w O k → F k) (h2 : ∀ k, Fr i w O k → M k) (h3 : ∀ k, F k → ¬ M k) : RwM w F M e v xs :=
  ⟨h.1.mono h1 fun g hg hf => h3 g hf (h2 g ⟨(h.1.lt g hg).2, h.2.1 g hg⟩), fun g hg => h2 g ⟨(h.1.lt g hg).2, h.2.1 g hg⟩⟩
end
/-- The beginning of a row. -/
theorem cutRw {α : Type} [Rp α] {i : Nat} {w : World} {O : Lab} {e : TypeId} {A : Option Addr} {m c : Nat} {q : Int} {xs u : List α} (h : Rw i w O e (.slice A m c) xs) (he : cutI xs 0 q = some u) : Rw i w O e (.slice A u.length c) u ∧ CutB (Rp.size α) A m c 0 q A u.length c := by
  obtain ⟨a, b, ha, rfl, h1, h2, rfl⟩ := cutI_some he
  obtain rfl : a = 0 := by omega
  obtain ⟨hm, hc, hc2⟩ := h.len
  have hl : ((xs.take b).drop 0).length = b := by simp; omega
  rw [hl]
  have hob : (Value.slice A b c).ownBlock = (Value.slice A m c).ownBlock := by cases A <;> rfl
  refine ⟨⟨?_, by rw [hob]; exact h.2.1, h.2.2⟩, 0, b, rfl, rfl, Nat.zero_le _, by omega, hc, ?_⟩
  · obtain ⟨cells, o1, o2, o3⟩ := h.1
    refine ⟨cells.take (b * Rp.size α), ⟨by rw [List.length_take, o2.length, hl, Nat.min_eq_left (Nat.mul_le_mul_right _ h2)], ?_⟩, by simpa using o2.take b, by rw [hob]; exact o3⟩
    rcases o1.2 with ⟨hv, hn⟩ | ⟨g, cap, cur, hv, hg, hh, hnc, hcm, hcs, hcur⟩
    · injection hv with e1 e2 e3
      have : b = 0 := by omega
      subst this
      exact .inl ⟨by rw [e1, e3], hl⟩
    · injection hv with e1 e2 e3
      refine .inr ⟨g, cap, cur, by rw [e1, e3, hl], hg, hh, by omega, hcm, hcs, ?_⟩
      rw [hl, ← hcur, List.take_take, Nat.min_eq_left (Nat.mul_le_mul_right _ h2)]
  · have : (A.map (·.add (0 * Rp.size α))) = A := by
      cases A with
      | none => rfl
      | some ad => obtain ⟨b', o', p'⟩ := ad; simp [Addr.add]
    split <;> simp_all
/-- The parts of an object get labels of their own. -/
def part (O : Lab) (i : Nat) (L : Lab) (ls : List Nat) : Lab := fun k => if O k = i then ls.getD (L k) (ls.headD 2) else O k
/-- Labels become one label. -/
def whole (O : Lab) (i : Nat) (ls : List Nat) : Lab := fun k => if O k ∈ ls then i else O k
section
variable {i : Nat} {w : World} {O L : Lab} {ls : List Nat}
theorem part_st (h : i ≠ 0) : St (eT i) w O w (part O i L ls) := ⟨rfl, rfl, rfl, Nat.le_refl _, fun _ _ hk => ⟨rfl, if_neg hk⟩⟩
theorem part_fr0 (h : i ≠ 0) : ∀ k, Fr 0 w O k → Fr 0 w (part O i L ls) k := fun k hk => ⟨hk.1, by unfold part; rw [if_neg (fun e => h (e.symm.trans hk.2))]; exact hk.2⟩
theorem part_fr {j q : Nat} (hj : ls[j]? = some q) : ∀ k, (Fr i w O k ∧ L k = j) → Fr q w (part O i L ls) k := fun k hk => ⟨hk.1.1, by unfold part; rw [if_pos hk.1.2, hk.2]; simp [hj]⟩
theorem part_all (hl : ls ≠ []) : ∀ k, Fr i w O k → ∃ q, q ∈ ls ∧ Fr q w (part O i L ls) k := fun k hk => by
  refine ⟨part O i L ls k, ?_, hk.1, rfl⟩
  unfold part
  rw [if_pos hk.2]
  cases h : ls[L k]? with
  | some q => rw [List.getD_eq_getElem?_getD, h]; exact List.mem_of_getElem? h
  | none =>
    rw [List.getD_eq_getElem?_getD, h]
    cases ls with
    | nil => exact absurd rfl hl
    | cons a l => simp
theorem whole_st : St (· ∈ ls) w O w (whole O i ls) := ⟨rfl, rfl, rfl, Nat.le_refl _, fun _ _ hk => ⟨rfl, if_neg hk⟩⟩
theorem whole_fr0 (h : ¬ 0 ∈ ls) : ∀ k, Fr 0 w O k → Fr 0 w (whole O i ls) k := fun k hk => ⟨hk.1, by unfold whole; rw [if_neg (by rw [hk.2]; exact h)]; exact hk.2⟩
theorem whole_all : ∀ q, q ∈ ls → ∀ k, Fr q w O k → Fr i w (whole O i ls) k := fun q hq k hk => ⟨hk.1, by unfold whole; rw [if_pos (by rw [hk.2]; exact hq)]⟩
theorem whole_fr {j q : Nat} (hj : ls.idxOf q = j) (hq : q ∈ ls) : ∀ k, Fr q w O k → Fr i w (whole O i ls) k ∧ ls.idxOf (O k) = j := fun k hk => ⟨⟨hk.1, by unfold whole; rw [if_pos (by rw [hk.2]; exact hq)]⟩, by rw [hk.2]; exact hj⟩
end
theorem Vb.cells1 {α : Type} [Rp α] {w : World} {F : Nat → Prop} {v : Value} {x : α} (h : Vb w F v x) (ha : Rp.isAgg α = false := by rfl) : Rp.R w F [v] x := by
  unfold Vb at h
  rw [ha] at h
  exact h
/-- What lies in blocks of some labels, or is read only. -/
def FrS (ls : List Nat) (w : World) (O : Lab) : Nat → Prop := fun k => k < w.heap.size ∧ (O k = 0 ∨ O k ∈ ls)
section
variable {α : Type} [Rp α] {T : Nat → Prop} {i l : Nat} {ls ls' lo : List Nat} {w w' : World} {O O' : Lab} {v : Value} {x : α} {xs : List α} {e : TypeId}
theorem St.agreeS (hS : St T w O w' O') (h0 : ¬ T 0) (hl : ∀ q ∈ ls, ¬ T q) : Agree (FrS ls w O) w w' := fun k hk => (hS.same k hk.1 (by rcases hk.2 with e | e; rw [e]; exact h0; exact hl _ e)).1
theorem Vb.stS (h : Vb w (FrS ls w O) v x) (hS : St T w O w' O') (h0 : ¬ T 0 := by decide) (hl : ∀ q ∈ ls, ¬ T q := by decide) : Vb w' (FrS ls w' O') v x :=
  (h.agree (hS.agreeS h0 hl)).mono fun k hk => by
    have := (hS.same k hk.1 (by rcases hk.2 with e | e; rw [e]; exact h0; exact hl _ e)).2
    exact ⟨Nat.lt_of_lt_of_le hk.1 hS.size, by rw [this]; exact hk.2⟩
theorem Rw.lend (h : Rw l w O e v xs) (ls : List Nat) (hl : l ∈ ls) : Vb w (FrS ls w O) v xs := h.1.vb.mono fun k hk => by
  rcases hk with hk | hk
  · exact ⟨hk.1, .inl hk.2⟩
  · exact ⟨(h.1.lt k hk).2, .inr (by rw [h.2.1 k hk]; exact hl)⟩
/-- Labels that become one, and one that becomes several. -/
theorem Vb.shutS (h : Vb w (FrS ls w O) v x) (hS : St (· ∈ lo) w O w O') (hz : ∀ k, Fr 0 w O k → Fr 0 w O' k) (ha : ∀ q, q ∈ lo → ∀ k, Fr q w O k → Fr i w O' k) (ls' : List Nat) (hl : ∀ q ∈ ls, q ∈ lo ∧ i ∈ ls' ∨ ¬ q ∈ lo ∧ q ∈ ls') : Vb w (FrS ls' w O') v x := h.mono fun k hk => by
  refine ⟨hk.1, ?_⟩
  rcases hk.2 with e | e
  · exact .inl (hz k ⟨hk.1, e⟩).2
  · rcases hl _ e with ⟨h1, h2⟩ | ⟨h1, h2⟩
    · right; rw [(ha _ h1 k ⟨hk.1, rfl⟩).2]; exact h2
    · right; rw [(hS.same k hk.1 h1).2]; exact h2
theorem Vb.opnS (h : Vb w (FrS ls w O) v x) (hS : St (eT i) w O w O') (hi : i ≠ 0) (ha : ∀ k, Fr i w O k → ∃ q, q ∈ lo ∧ Fr q w O' k) (ls' : List Nat) (hl : (∀ q ∈ ls, q ≠ i → q ∈ ls') ∧ ∀ q ∈ lo, q ∈ ls') : Vb w (FrS ls' w O') v x := h.mono fun k hk => by
  refine ⟨hk.1, ?_⟩
  by_cases hq : O k = i
  · obtain ⟨q, h1, h2⟩ := ha k ⟨hk.1, hq⟩
    right; rw [h2.2]; exact hl.2 q h1
  · rw [(hS.same k hk.1 hq).2]
    rcases hk.2 with e | e
    · exact .inl e
    · exact .inr (hl.1 _ e hq)
end
end
section
open Go Go.RowKit
/-- As wpAnyG, but what holds behind an operation depends on what has come up. -/
def wpAnyX (P : Program) (ops : Array Oper) (Q : Exit → Act → World → Prop) (S : Array Bool → World → Prop) : Nat → Array Bool → Act → World → Prop
  | 0, listed, a, w => Region.ready .any ops listed = [] ∧ Q .normal a w
  | fuel + 1, listed, a, w =>
    (Region.ready .any ops listed = [] → Q .normal a w) ∧
    ∀ i ∈ Region.ready .any ops listed, wpOp P ops Q i (fun a' w' => (isLast ops i = false → S (listed.setIfInBounds i true) w') ∧ wpAnyX P ops Q S fuel (listed.setIfInBounds i true) a' w') a w
theorem wpAny_of_X {P : Program} {ops : Array Oper} {Q : Exit → Act → World → Prop} {S : Array Bool → World → Prop} : ∀ (fuel : Nat) (listed : Array Bool) (a : Act) (w : World), wpAnyX P ops Q S fuel listed a w → wpAny P .any ops Q fuel listed a w
  | 0, _, _, _, h => h
  | fuel + 1, _, _, _, h => ⟨h.1, fun i hi => wpOp_mono (fun a' w' h' => wpAny_of_X fuel _ a' w' h'.2) (h.2 i hi)⟩
theorem wpAnyX_first {P : Program} {ops : Array Oper} {Q : Exit → Act → World → Prop} {S : Array Bool → World → Prop} {Si : World → Prop} {i : Nat} {oi : Oper} {v : Value} (hi : ops[i]? = some oi) (hsel : ∀ (j : Nat) (o : Oper) cs b, ops[j]? = some o → o.op ≠ .select cs b)
    (hQ : ∀ c a w, Q (.panic c) (a.put oi.dst v) w → Q (.panic c) a w) (hinv : ∀ listed w, S (listed.setIfInBounds i true) w → S listed w) (hinv' : ∀ listed w, S listed w → S (listed.setIfInBounds i true) w)
    (hSi : ∀ listed w, Closed ops listed → i ∈ Region.ready .any ops listed → S listed w → Si w) :
    ∀ (fuel : Nat) (listed : Array Bool) (a : Act) (w : World), Closed ops listed →
      (∀ j oj, ops[j]? = some oj → j ≠ i → listed.getD j true = false → (∀ e ∈ oj.after, Region.binds .any e = true → e.on ≠ i) → oi.apart ops oj = true) →
      i ∈ Region.ready .any ops listed → YieldsIf P ops Si oi v a → S listed w →
      wpAnyX P ops Q S fuel (listed.setIfInBounds i true) (a.put oi.dst v) w → wpAnyX P ops Q S (fuel + 1) listed a w := by
  intro fuel
  induction fuel with
  | zero =>
    intro listed a w hcl _ hr hy hS H
    refine ⟨fun h => (by rw [h] at hr; cases hr), fun j hj => ?_⟩
    by_cases hji : j = i
    · subst hji; exact hy.wpOp hi (hSi _ _ hcl hr hS) ⟨fun _ => hinv' _ _ hS, H⟩
    · have := ready_mono hj hji
      rw [H.1] at this
      cases this
  | succ fuel ih =>
    intro listed a w hcl hfree hr hy hS H
    refine ⟨fun h => (by rw [h] at hr; cases hr), fun j hj => ?_⟩
    by_cases hji : j = i
    · subst hji; exact hy.wpOp hi (hSi _ _ hcl hr hS) ⟨fun _ => hinv' _ _ hS, H⟩
    · have h1 := H.2 j (ready_mono hj hji)
      obtain ⟨hjun, oj, hoj, hall⟩ := mem_ready.1 hj
      have hnot : ∀ e ∈ oj.after, Region.binds .any e = true → e.on ≠ i := fun e he hb heq => by
        have h1 := hall e he hb
        have h0 := (mem_ready.1 hr).1
        rw [heq] at h1
        rcases Nat.lt_or_ge i listed.size with h' | h'
        · simp [h'] at h0 h1; rw [h0] at h1; cases h1
        · simp [Array.getElem?_eq_none h'] at h1
      have hap := hfree j oj hoj hji hjun hnot
      have hrj : i ∈ Region.ready .any ops (listed.setIfInBounds j true) := ready_mono hr (Ne.symm hji)
      have hil : i < ops.size := by
        rcases Nat.lt_or_ge i ops.size with h | h
        · exact h
        · rw [Array.getElem?_eq_none h] at hi; cases hi
      have hnl : isLast ops j = false := by
        cases hl : isLast ops j with
        | false => rfl
        | true =>
          exfalso
          have h4 := List.all_eq_true.1 hl i (List.mem_range.2 hil)
          rw [Bool.or_eq_true] at h4
          rcases h4 with h4 | h4
          · exact hji (by simpa using h4 : i = j).symm
          · have h5 := comesB_listed hcl ops.size j i oj hoj hall h4
            have h6 := (mem_ready.1 hr).1
            rcases Nat.lt_or_ge i listed.size with h' | h'
            · simp [h'] at h5 h6; rw [h6] at h5; cases h5
            · simp [Array.getElem?_eq_none h'] at h5
      have hfree' : ∀ k ok, ops[k]? = some ok → k ≠ i → (listed.setIfInBounds j true).getD k true = false →
          (∀ e ∈ ok.after, Region.binds .any e = true → e.on ≠ i) → oi.apart ops ok = true := fun k ok hk hki hun hno => by
        refine hfree k ok hk hki ?_ hno
        by_cases hjk : j = k
        · subst hjk; exact hjun
        · rw [getD_set_ne true hjk] at hun; exact hun
      have h2 := wpOp_putIf hoj hap (fun cs b => hsel i oi cs b hi) (fun cs b => hsel j oj cs b hoj) hQ hy h1
      refine wpOp_mono (fun a' w' h3 => ?_) h2
      have hS' : S (listed.setIfInBounds j true) w' := hinv _ _ (by
        have := h3.2.1 hnl
        rwa [Array.setIfInBounds_comm _ _ (Ne.symm hji)] at this)
      refine ⟨fun _ => hS', ih (listed.setIfInBounds j true) a' w' (hcl.set hj) hfree' hrj h3.1 hS' ?_⟩
      rw [Array.setIfInBounds_comm _ _ hji]
      exact h3.2.2
theorem wpAnyX_mono {P : Program} {ops : Array Oper} {Q : Exit → Act → World → Prop} {S S' : Array Bool → World → Prop} (P0 : Array Bool → Prop) (hP : ∀ listed i, P0 listed → P0 (listed.setIfInBounds i true)) (hS : ∀ listed w, P0 listed → S' listed w → S listed w) :
    ∀ (fuel : Nat) (listed : Array Bool) (a : Act) (w : World), P0 listed → wpAnyX P ops Q S' fuel listed a w → wpAnyX P ops Q S fuel listed a w
  | 0, _, _, _, _, h => h
  | fuel + 1, listed, _, _, hp, h => ⟨h.1, fun i hi => wpOp_mono (fun a' w' h' => ⟨fun hl => hS _ _ (hP _ i hp) (h'.1 hl), wpAnyX_mono P0 hP hS fuel _ a' w' (hP _ i hp) h'.2⟩) (h.2 i hi)⟩
/-- The labels that may have been touched, by what has come up. -/
def tcs (acts : List (Nat × List Nat)) (listed : Array Bool) : List Nat := (acts.filter fun p => listed.getD p.1 false).flatMap (·.2)
/-- The labels that may be touched before an operation. -/
def tci (ops : Array Oper) (acts : List (Nat × List Nat)) (i : Nat) : List Nat := (acts.filter fun p => !comesB ops ops.size p.1 i).flatMap (·.2)
def Sx (acts : List (Nat × List Nat)) (w0 : World) (O0 : Lab) (listed : Array Bool) (w : World) : Prop := ∃ d O', St (· ∈ tcs acts listed) w0 O0 (dr w d) O'
theorem St.mono {T T' : Nat → Prop} {w w' : World} {O O' : Lab} (h : St T w O w' O') (ht : ∀ i, T i → T' i) : St T' w O w' O' :=
  ⟨h.os, h.tape, h.output, h.size, fun k hk hn => h.same k hk fun e => hn (ht _ e)⟩
theorem St.lst {T : Nat → Prop} {w w' : World} {O O' : Lab} (h : St T w O w' O') (ls : List Nat) (ht : ∀ i, T i → i ∈ ls) : St (· ∈ ls) w O w' O' := h.mono ht
theorem St.cmp {T : Nat → Prop} {ls : List Nat} {w w' w'' : World} {O O' O'' : Lab} (h : St (· ∈ ls) w O w' O') (k : St T w' O' w'' O'') (ls' : List Nat) (ht : ∀ i, T i → i ∈ ls') (hl : (ls.all (ls'.contains ·)) = true) : St (· ∈ ls') w O w'' O'' :=
  St.comp (h.mono fun q hq => by simpa using List.all_eq_true.1 hl q hq) (k.mono ht) fun _ h => h
theorem tcs_inv {acts : List (Nat × List Nat)} {i : Nat} (hi : (acts.any (·.1 == i)) = false) (listed : Array Bool) : tcs acts (listed.setIfInBounds i true) = tcs acts listed := by
  unfold tcs
  congr 1
  apply List.filter_congr
  intro p hp
  have : p.1 ≠ i := fun e => by
    have h2 : (acts.any (·.1 == i)) = true := List.any_eq_true.2 ⟨p, hp, by simp [e]⟩
    rw [hi] at h2; cases h2
  exact getD_set_ne false (Ne.symm this)
theorem tcs_sub {ops : Array Oper} {acts : List (Nat × List Nat)} {i : Nat} {listed : Array Bool} (hb : (acts.all fun p => (ops[p.1]?).isSome) = true) (hcl : Closed ops listed) (hr : i ∈ Region.ready .any ops listed) : ∀ q, q ∈ tcs acts listed → q ∈ tci ops acts i := by
  intro q hq
  unfold tcs at hq
  unfold tci
  rw [List.mem_flatMap] at hq ⊢
  obtain ⟨p, hp, hq⟩ := hq
  rw [List.mem_filter] at hp
  refine ⟨p, List.mem_filter.2 ⟨hp.1, ?_⟩, hq⟩
  cases hc : comesB ops ops.size p.1 i with
  | false => rfl
  | true =>
    exfalso
    have hp2 := hp.2
    have hs := List.all_eq_true.1 hb p hp.1
    obtain ⟨o, ho⟩ := Option.isSome_iff_exists.1 hs
    have h5 := comesB_listed hcl ops.size p.1 i o ho (fun e he hbi => hcl p.1 o hp2 ho e he hbi) hc
    have h6 := (mem_ready.1 hr).1
    rcases Nat.lt_or_ge i listed.size with h' | h'
    · simp [h'] at h5 h6; rw [h6] at h5; cases h5
    · simp [Array.getElem?_eq_none h'] at h5
/-- The rest of a region, by what has come up so far. -/
def hwx (P : Program) (n : Nat) (ops : Array Oper) (Q : Post) (acts : List (Nat × List Nat)) (w0 : World) (O0 : Lab) (fuel : Nat) (listed : Array Bool) (l : Env) (w : World) : Prop :=
  Closed ops listed → ∀ a d, Ok n a l → wpAnyX P ops (lift n Q) (Sx acts w0 O0) fuel listed a (dr w d)
def loudX (P : Program) (n : Nat) (ops : Array Oper) (Q : Post) (acts : List (Nat × List Nat)) (w0 : World) (O0 : Lab) (i : Nat) (fuel : Nat) (listed : Array Bool) : Post
  | .normal, l, w => (isLast ops i = false → Sx acts w0 O0 (listed.setIfInBounds i true) w) ∧ hwx P n ops Q acts w0 O0 fuel (listed.setIfInBounds i true) l w
  | _, _, _ => False
abbrev SS (w0 : World) (O0 : Lab) (ls : List Nat) : World → Prop := fun w' => ∃ O', St (· ∈ ls) w0 O0 w' O'
theorem Sx.dr {acts : List (Nat × List Nat)} {w0 w : World} {O0 : Lab} {listed : Array Bool} (h : Sx acts w0 O0 listed w) (d : Nat) : Sx acts w0 O0 listed (dr w d) := by
  obtain ⟨e, O', h⟩ := h
  exact ⟨e, O', h⟩
theorem pre_soundX {P : Program} {ops : Array Oper} {Q Q' : Exit → Act → World → Prop} {acts : List (Nat × List Nat)} {w0 : World} {O0 : Lab} {fuel : Nat} (ls : List Nat) (hs : Region.noSelect ops = true) (hb : (acts.all fun p => (ops[p.1]?).isSome) = true) (hQ : ∀ c a w, ¬ Q (.panic c) a w) :
    ∀ (ord : List (Nat × Bool)) (listed : Array Bool) (a : Act) (w : World), Closed ops listed → ordPre ops listed ord = true → (ord.all fun p => (tci ops acts p.1).all (ls.contains ·) && !acts.any (·.1 == p.1)) = true → Sx acts w0 O0 listed w →
      (∀ a w, Closed ops (listAll listed ord) → Q' .normal a w → wpAnyX P ops Q (Sx acts w0 O0) fuel (listAll listed ord) a w) → wpOrd P ops Q' (fun w' => ∃ d', SS w0 O0 ls (dr w' d')) ord a w → wpAnyX P ops Q (Sx acts w0 O0) (ord.length + fuel) listed a w
  | [], listed, a, w, hcl, _, _, _, hk, h => by rw [List.length_nil, Nat.zero_add]; exact hk a w hcl h
  | (i, true) :: r, listed, a, w, hcl, hc, hl, hS, hk, h => by
    simp only [ordPre, Bool.and_eq_true] at hc
    rw [List.all_cons, Bool.and_eq_true, Bool.and_eq_true] at hl
    obtain ⟨o, v, ho, hy, hr⟩ := h
    have hi : i ∈ Region.ready .any ops listed := by simpa using hc.1
    have hna : (acts.any (·.1 == i)) = false := by simpa using hl.1.2
    have e1 : ∀ listed w, Sx acts w0 O0 (listed.setIfInBounds i true) w → Sx acts w0 O0 listed w := fun listed w h => by unfold Sx at *; rwa [tcs_inv hna] at h
    have e2 : ∀ listed w, Sx acts w0 O0 listed w → Sx acts w0 O0 (listed.setIfInBounds i true) w := fun listed w h => by unfold Sx at *; rwa [tcs_inv hna]
    have := wpAnyX_first ho (Region.noSelect_spec hs) (fun c a w hq => (hQ c _ _ hq).elim) e1 e2 (fun listed w hc hr ⟨d, O', hS⟩ => (⟨d, O', hS.mono fun q hq => by
        have := List.all_eq_true.1 hl.1.1 q (tcs_sub hb hc hr q hq)
        simpa using this⟩ : ∃ d', SS w0 O0 ls (Proofs.YtkbmbcblgdgjlaaGreat.dr w d'))) (r.length + fuel) listed a w hcl (Region.free_spec ho hc.2.1) hi hy hS (pre_soundX ls hs hb hQ r _ _ w (hcl.set hi) hc.2.2 hl.2 (e2 _ _ hS) hk hr)
    rwa [List.length_cons, show r.length + 1 + fuel = r.length + fuel + 1 from by omega]
  | (i, false) :: r, listed, a, w, hcl, hc, _, _, _, _ => by simp [ordPre] at hc
section
variable {P : Program} {n : Nat} {ops : Array Oper} {Q : Post} {acts : List (Nat × List Nat)} {w0 : World} {O0 : Lab} {l : Env} {w : World}
/-- Operations that only read come up: under what may be touched before them. -/
theorem x_pre0 {fuel tot : Nat} {listed : Array Bool} (ls : List Nat) (ord : List (Nat × Bool)) (hs : (Region.noSelect ops && (acts.all fun p => (ops[p.1]?).isSome) && ordPre ops listed ord && (ord.all fun p => (tci ops acts p.1).all (ls.contains ·) && !acts.any (·.1 == p.1))) = true) (hl : ord.length + fuel = tot)
    (h : hwp P n ops (thn (hwx P n ops Q acts w O0 fuel (listAll listed ord)) fun _ _ _ => False) (SS w O0 ls) ord l w) : hwx P n ops Q acts w O0 tot listed l w := fun hcl a e ha => by
  subst hl
  simp only [Bool.and_eq_true] at hs
  obtain ⟨⟨⟨h1, h2⟩, h3⟩, h4⟩ := hs
  refine pre_soundX (P := P) ls h1 h2 (Q := lift n Q) (fun c a w hq => hq.1) ord listed a (dr w e) hcl h3 (by simpa using h4) ⟨w.drawn, O0, St.refl _ _ _⟩ ?_ (h a e ha)
  rintro a' w' hcl' ⟨_, l', w₀, d', rfl, ho, hh⟩
  exact hh hcl' a' d' ho
theorem loudX_op {fuel i : Nat} {o : Oper} {listed : Array Bool} (hi : ops[i]? = some o) (hr : i ∈ Region.ready .any ops listed) (h : owp P n ops (loudX P n ops Q acts w0 O0 i fuel listed) [o] l w) (hcl : Closed ops listed) (a : Act) (e : Nat) (ha : Ok n a l) :
    wpOp P ops (lift n Q) i (fun a' w' => (isLast ops i = false → Sx acts w0 O0 (listed.setIfInBounds i true) w') ∧ wpAnyX P ops (lift n Q) (Sx acts w0 O0) fuel (listed.setIfInBounds i true) a' w') a (dr w e) := by
  have h1 := h a e ha
  unfold wpList at h1
  unfold wpOp
  simp only [hi]
  have conv : ∀ a' w', lift n (loudX P n ops Q acts w0 O0 i fuel listed) .normal a' w' → (isLast ops i = false → Sx acts w0 O0 (listed.setIfInBounds i true) w') ∧ wpAnyX P ops (lift n Q) (Sx acts w0 O0) fuel (listed.setIfInBounds i true) a' w' := by
    rintro a' w' ⟨_, l', w₀, d', rfl, ho, hS, hh⟩
    exact ⟨fun hl => (hS hl).dr d', hh (hcl.set hr) a' d' ho⟩
  have nope : ∀ e' a' w', lift n (loudX P n ops Q acts w0 O0 i fuel listed) e' a' w' → e' = .normal := by
    rintro e' a' w' ⟨hn, l', w₀, d', rfl, ho, hh⟩
    cases e' <;> first | rfl | exact hh.elim
  by_cases hw : Region.wanted o (yielded ops a.tmps) = true
  · rw [if_pos hw] at h1
    rw [if_pos hw]
    rcases h1 with h1 | ⟨h1, a0, w0, h2⟩
    · refine .inl ?_
      unfold Oper.wp at *
      generalize (execOp a.eval o).run P (dr w e) = res at *
      cases res with
      | ok nx w' =>
        cases nx <;> simp only [Oper.upon] at h1 ⊢ <;>
          first
            | exact conv _ _ h1
            | exact Calls.mono h1 (fun en w'' he => by
                cases en with
                | returned v => exact conv _ _ he
                | panicked c => exact absurd (nope _ _ _ he) (by simp)
                | outgrown => obtain ⟨a0, w0, hq⟩ := he; exact absurd (nope _ _ _ hq) (by simp))
            | exact Rows.mono h1 (fun _ _ he => conv _ _ he)
            | exact h1.elim
      | halt x w' => cases x <;> simp only [Oper.upon] at h1 ⊢ <;> first | exact h1.elim | exact absurd (nope _ _ _ h1) (by simp)
    · exact absurd (nope _ _ _ h2) (by simp)
  · rw [if_neg hw] at h1
    rw [if_neg hw]
    exact conv _ _ h1
theorem x_one {fuel i : Nat} {oi : Oper} {listed : Array Bool} (hr : Region.ready .any ops listed = [i]) (hi : ops[i]? = some oi) (h1 : owp P n ops (loudX P n ops Q acts w0 O0 i fuel listed) [oi] l w) : hwx P n ops Q acts w0 O0 (fuel + 1) listed l w := fun hcl a e ha => by
  refine ⟨fun h0 => by rw [hr] at h0; simp at h0, fun k hk => ?_⟩
  have hk' := hk
  rw [hr] at hk
  have : k = i := by simpa using hk
  subst this
  exact loudX_op hi hk' h1 hcl a e ha
theorem x_two {fuel i j : Nat} {oi oj : Oper} {listed : Array Bool} (hr : Region.ready .any ops listed = [i, j]) (hi : ops[i]? = some oi) (hj : ops[j]? = some oj)
    (h1 : owp P n ops (loudX P n ops Q acts w0 O0 i fuel listed) [oi] l w) (h2 : owp P n ops (loudX P n ops Q acts w0 O0 j fuel listed) [oj] l w) : hwx P n ops Q acts w0 O0 (fuel + 1) listed l w := fun hcl a e ha => by
  refine ⟨fun h0 => by rw [hr] at h0; simp at h0, fun k hk => ?_⟩
  have hk' := hk
  rw [hr] at hk
  have : k = i ∨ k = j := by simpa using hk
  rcases this with rfl | rfl
  · exact loudX_op hi hk' h1 hcl a e ha
  · exact loudX_op hj hk' h2 hcl a e ha
theorem x_go {fuel i : Nat} {listed : Array Bool} {ls : List Nat} {O' : Lab} (acts' : List (Nat × List Nat)) (hZ : St (· ∈ ls) w0 O0 w O') (hs : (ls.all ((tcs acts (listed.setIfInBounds i true)).contains ·) && acts'.all (acts.contains ·)) = true) (h2 : hwx P n ops Q acts' w O' fuel (listed.setIfInBounds i true) l w) : owp P n ops (loudX P n ops Q acts w0 O0 i fuel listed) [] l w := by
  rw [Bool.and_eq_true] at hs
  have hls : ∀ q, q ∈ ls → q ∈ tcs acts (listed.setIfInBounds i true) := fun q hq => by simpa using List.all_eq_true.1 hs.1 q hq
  have hac : ∀ p, p ∈ acts' → p ∈ acts := fun q hq => by simpa using List.all_eq_true.1 hs.2 q hq
  refine owp_nil ⟨fun _ => ⟨w.drawn, O', hZ.mono hls⟩, fun hcl a d ha => ?_⟩
  refine wpAnyX_mono (fun listed' => ∀ j, (listed.setIfInBounds i true).getD j false = true → listed'.getD j false = true) (fun listed' k h j hj => getD_set_true (h j hj)) ?_ _ _ _ _ (fun j hj => hj) (h2 hcl a d ha)
  rintro listed' v hp ⟨e, O'', hS⟩
  refine ⟨e, O'', ((hZ.mono fun q hq => ?_).comp (hS.mono fun q hq => ?_) fun _ h => h : St (· ∈ tcs acts listed') w0 O0 _ O'')⟩
  · have := hls q hq
    unfold tcs at this ⊢
    rw [List.mem_flatMap] at this ⊢
    obtain ⟨p, h1, h3⟩ := this
    rw [List.mem_filter] at h1
    exact ⟨p, List.mem_filter.2 ⟨h1.1, hp _ h1.2⟩, h3⟩
  · unfold tcs at hq ⊢
    rw [List.mem_flatMap] at hq ⊢
    obtain ⟨p, h1, h3⟩ := hq
    rw [List.mem_filter] at h1
    exact ⟨p, List.mem_filter.2 ⟨hac _ h1.1, h1.2⟩, h3⟩
theorem x_end0 {fuel i : Nat} {listed : Array Bool} (hl : isLast ops i = true) (h2 : hwx P n ops Q acts w0 O0 fuel (listed.setIfInBounds i true) l w) : owp P n ops (loudX P n ops Q acts w0 O0 i fuel listed) [] l w := owp_nil ⟨(fun h => by rw [hl] at h; exact Bool.noConfusion h), h2⟩
theorem x_nil {listed : Array Bool} (hr : Region.ready .any ops listed = []) (h : Q .normal l w) : hwx P n ops Q acts w0 O0 0 listed l w := fun _ _ _ ha => ⟨hr, lift_mk trivial ha h⟩
/-- What comes before an operation in every order, as the bits of a number; each operation once. -/
def maskOf (ms : List Nat) (o : Oper) : Nat := o.after.toList.foldl (fun m e => if Region.binds .any e = true then m ||| (2 ^ e.on ||| ms.getD e.on 0) else m) 0
def masksFrom : List Oper → List Nat → List Nat
  | [], ms => ms
  | o :: r, ms => masksFrom r (ms ++ [maskOf ms o])
def bef (ops : Array Oper) (j k : Nat) : Bool := ((masksFrom ops.toList []).getD j 0).testBit k
theorem comesB_succ {ops : Array Oper} : ∀ (f j k : Nat), comesB ops f j k = true → comesB ops (f + 1) j k = true
  | 0, j, k, h => by simp [comesB] at h
  | f + 1, j, k, h => by
    rw [comesB] at h ⊢
    cases hj : ops[j]? with
    | none => rw [hj] at h; simp at h
    | some o =>
      rw [hj] at h
      simp only [Option.any_some, Array.any_eq_true'] at h ⊢
      obtain ⟨e, he, h⟩ := h
      refine ⟨e, he, ?_⟩
      simp only [Bool.and_eq_true, Bool.or_eq_true] at h ⊢
      refine ⟨h.1, h.2.imp id fun h => comesB_succ f e.on k h⟩
theorem comesB_le {ops : Array Oper} {f g j k : Nat} (h : comesB ops f j k = true) (hl : f ≤ g) : comesB ops g j k = true := by
  induction hl with
  | refl => exact h
  | step _ ih => exact comesB_succ _ _ _ ih
theorem mask_fold {ms : List Nat} {k : Nat} : ∀ (l : List Edge) (m : Nat), (l.foldl (fun m e => if Region.binds .any e = true then m ||| (2 ^ e.on ||| ms.getD e.on 0) else m) m).testBit k = true → m.testBit k = true ∨ ∃ e ∈ l, Region.binds .any e = true ∧ (e.on = k ∨ (ms.getD e.on 0).testBit k = true)
  | [], m, h => .inl h
  | e :: l, m, h => by
    rw [List.foldl_cons] at h
    rcases mask_fold l _ h with h | ⟨e', h1, h2⟩
    · by_cases hb : Region.binds .any e = true
      · rw [if_pos hb, Nat.testBit_or, Nat.testBit_or, Nat.testBit_two_pow, Bool.or_eq_true, Bool.or_eq_true] at h
        rcases h with h | h | h
        · exact .inl h
        · exact .inr ⟨e, List.mem_cons_self, hb, .inl (by simpa using h)⟩
        · exact .inr ⟨e, List.mem_cons_self, hb, .inr h⟩
      · rw [if_neg hb] at h; exact .inl h
    · exact .inr ⟨e', List.mem_cons_of_mem _ h1, h2⟩
theorem masks_ok {ops : Array Oper} : ∀ (rest pre : List Oper) (ms : List Nat), ops.toList = pre ++ rest → ms.length = pre.length → (∀ a k, (ms.getD a 0).testBit k = true → comesB ops (a + 1) a k = true) → (masksFrom rest ms).length = ops.size ∧ ∀ a k, ((masksFrom rest ms).getD a 0).testBit k = true → comesB ops (a + 1) a k = true
  | [], pre, ms, h1, h2, h3 => ⟨by rw [masksFrom, h2, ← Array.length_toList, h1, List.append_nil], h3⟩
  | o :: rest, pre, ms, h1, h2, h3 => by
    refine masks_ok rest (pre ++ [o]) (ms ++ [maskOf ms o]) (by rw [h1, List.append_assoc]; rfl) (by simp [h2]) fun a k hk => ?_
    by_cases ha : a < ms.length
    · rw [List.getD_eq_getElem?_getD, List.getElem?_append_left ha, ← List.getD_eq_getElem?_getD] at hk; exact h3 a k hk
    · by_cases ha2 : a = ms.length
      · subst ha2
        have : (ms ++ [maskOf ms o]).getD ms.length 0 = maskOf ms o := by simp
        rw [this] at hk
        rcases mask_fold _ _ hk with h | ⟨e, he, hb, h⟩
        · simp at h
        · have ho : ops[ms.length]? = some o := by rw [← Array.getElem?_toList, h1, h2]; simp
          rw [comesB, ho]
          simp only [Option.any_some, Array.any_eq_true', Bool.and_eq_true, Bool.or_eq_true]
          refine ⟨e, by simpa using he, hb, ?_⟩
          rcases h with h | h
          · exact .inl (by simpa using h)
          · have hlt : e.on < ms.length := by
              rcases Nat.lt_or_ge e.on ms.length with h' | h'
              · exact h'
              · rw [List.getD_eq_getElem?_getD, List.getElem?_eq_none h'] at h; simp at h
            exact .inr (comesB_le (h3 _ _ h) hlt)
      · rw [List.getD_eq_getElem?_getD, List.getElem?_eq_none (by simp; omega)] at hk; simp at hk
theorem bef_comes {ops : Array Oper} {j k : Nat} (h : bef ops j k = true) : comesB ops ops.size j k = true := by
  obtain ⟨h1, h2⟩ := masks_ok (ops := ops) ops.toList [] [] (by simp) rfl (fun a k h => by simp at h)
  refine comesB_le (h2 j k h) ?_
  rcases Nat.lt_or_ge j ops.size with h' | h'
  · exact h'
  · unfold bef at h
    rw [List.getD_eq_getElem?_getD, List.getElem?_eq_none (by omega)] at h; simp at h
theorem x_pre {fuel tot : Nat} {listed : Array Bool} (ls : List Nat) (ord : List (Nat × Bool)) (hs : (Region.noSelect ops && (acts.all fun p => (ops[p.1]?).isSome) && ordPre ops listed ord && (ord.all fun p => (acts.all fun q => q.2.all (ls.contains ·) || bef ops q.1 p.1) && !acts.any (·.1 == p.1))) = true) (hl : ord.length + fuel = tot)
    (h : hwp P n ops (thn (hwx P n ops Q acts w O0 fuel (listAll listed ord)) fun _ _ _ => False) (SS w O0 ls) ord l w) : hwx P n ops Q acts w O0 tot listed l w := by
  refine x_pre0 ls ord ?_ hl h
  simp only [Bool.and_eq_true] at hs ⊢
  refine ⟨hs.1, List.all_eq_true.2 fun p hp => ?_⟩
  have h1 := List.all_eq_true.1 hs.2 p hp
  rw [Bool.and_eq_true] at h1 ⊢
  refine ⟨List.all_eq_true.2 fun q hq => ?_, h1.2⟩
  unfold tci at hq
  rw [List.mem_flatMap] at hq
  obtain ⟨a, ha, hqa⟩ := hq
  rw [List.mem_filter] at ha
  have h2 := List.all_eq_true.1 h1.1 a ha.1
  rw [Bool.or_eq_true] at h2
  rcases h2 with h2 | h2
  · exact List.all_eq_true.1 h2 q hqa
  · have := ha.2; rw [bef_comes h2] at this; simp at this
theorem x_end {fuel i : Nat} {listed : Array Bool} (hl : ((List.range ops.size).all fun k => k == i || bef ops i k) = true) (h2 : hwx P n ops Q acts w0 O0 fuel (listed.setIfInBounds i true) l w) : owp P n ops (loudX P n ops Q acts w0 O0 i fuel listed) [] l w := by
  refine x_end0 ?_ h2
  refine List.all_eq_true.2 fun k hk => ?_
  have := List.all_eq_true.1 hl k hk
  rw [Bool.or_eq_true] at this ⊢
  exact this.imp id bef_comes
theorem ewp_drawX [hm : Mixed P] {id : Nat} {L : List Oper} (acts : List (Nat × List Nat)) (O : Lab) (h : hwx P n L.toArray Q acts w O L.toArray.size (Array.replicate L.toArray.size false) l w) : ewp P n (.region id L.toArray true) Q l w := fun a d ha =>
  wp_region_any hm.eq (wpAny_of_X _ _ _ _ (h (fun m om hm => by
      simp only [Array.getD_eq_getD_getElem?, Array.getElem?_replicate] at hm
      split at hm <;> simp at hm) a (d + 1) ha))
end
end
section
open Go Go.RowKit
attribute [local irreducible] ewp owp hwp hwq hws Ev Evg Fn retPost loud loudS Res1
section
variable {w : World} {A : Nat → Prop} (hA : ∀ k, A k → k < w.heap.size) {v0 v1 : Value}
include hA
omit hA in
def m_base_Holds (f : List Fct) (s : List Int) : Option Bool := some (holdsB f s)
theorem c_base_Holds {x0 : List Fct} (h0 : Vb w A v0 x0) {x1 : List Int} (h1 : Vb w A v1 x1) {r : Bool} (hm : m_base_Holds x0 x1 = some r) : Fn Tryz.prog 34 [v0, v1] w fun v w' => Ext w w' ∧ Vb w' (upA A w w') v r := by
  obtain rfl := sm hm
  refine (baseHolds (h0.mono hA) (h1.mono hA)).mono fun v w' h => ⟨h.2, ?_⟩
  rw [h.1, bof_b]; exact vBool
omit hA in
def m_task_Holds (f : List Fct) (s : List Int) : Option Bool := some (holdsB f s)
theorem c_task_Holds {x0 : List Fct} (h0 : Vb w A v0 x0) {x1 : List Int} (h1 : Vb w A v1 x1) {r : Bool} (hm : m_task_Holds x0 x1 = some r) : Fn Tryz.prog 48 [v0, v1] w fun v w' => Ext w w' ∧ Vb w' (upA A w w') v r := by
  obtain rfl := sm hm
  refine (taskHolds (h0.mono hA) (h1.mono hA)).mono fun v w' h => ⟨h.2, ?_⟩
  rw [h.1, bof_b]; exact vBool
omit hA in
noncomputable def m_base_Ints (x : List Int) (y : List Int) : Option Bool := some (bof (x = y))
theorem c_base_Ints {x0 : List Int} (h0 : Vb w A v0 x0) {x1 : List Int} (h1 : Vb w A v1 x1) {r : Bool} (hm : m_base_Ints x0 x1 = some r) : Fn Tryz.prog 16 [v0, v1] w fun v w' => Ext w w' ∧ Vb w' (upA A w w') v r := by
  obtain rfl := sm hm
  refine (baseInts (h0.mono hA) (h1.mono hA)).mono fun v w' h => ⟨h.2, ?_⟩
  rw [h.1]; exact vBool
omit hA in
noncomputable def m_base_Small (t : Tsk) : Option Bool := some (bof (SmallOk t))
theorem c_base_Small {x0 : Tsk} (h0 : Vb w A v0 x0) {r : Bool} (hm : m_base_Small x0 = some r) : Fn Tryz.prog 10 [v0] w fun v w' => Ext w w' ∧ Vb w' (upA A w w') v r := by
  obtain rfl := sm hm
  refine (baseSmall (h0.mono hA)).mono fun v w' h => ⟨h.2, ?_⟩
  rw [h.1]; exact vBool
end
theorem checkN_rng (t : Tsk) : inI64 (checkN t) := by unfold checkN; (repeat' split) <;> decide
def m_base_Num (x : Err) : Option Int := some x.n
theorem c_base_Num {w : World} {A : Nat → Prop} (hA : ∀ k, A k → k < w.heap.size) {x0 : Err} (r0 : inI64 x0.n) {r : Int} (hm : m_base_Num x0 = some r) : Fn Tryz.prog 36 [errV x0.n] w fun v w' => Ext w w' ∧ Vb w' (upA A w w') v r := by
  obtain rfl := sm hm
  refine fn_enter Tryz.func36 rfl Tryz.ntmps36 rfl ?_
  by_cases h : x0.n = 0
  · rw [h, errV_zero]
    ((repeat (first | refine e_go ?_ | refine ewp_true rfl ?_ | refine ewp_false rfl ?_)) <;> (refine o_as rfl rfl ?_ <;> (refine o_z ?_)) <;> (repeat (first | refine e_go ?_ | refine ewp_true rfl ?_ | refine ewp_false rfl ?_)) <;> (refine o_mv rfl rfl ?_ <;> (first | refine o_en rfl rfl ?_ | refine o_eo rfl rfl ?_) <;> (refine o_z ?_)) <;> (repeat (first | refine e_go ?_ | refine ewp_true rfl ?_ | refine ewp_false rfl ?_)) <;> (refine o_as rfl rfl ?_ <;> (refine o_z ?_)) <;> (repeat (first | refine e_go ?_ | refine ewp_true rfl ?_ | refine ewp_false rfl ?_)))
    exact ret1 rfl rfl ⟨Below.refl _ _, vInt (by decide)⟩
  · rw [errV_pos h]
    have h2 : -9223372036854775808 ≤ x0.n ∧ x0.n ≤ 9223372036854775807 := r0
    ((repeat (first | refine e_go ?_ | refine ewp_true rfl ?_ | refine ewp_false rfl ?_)) <;> (refine o_as rfl rfl ?_ <;> (refine o_z ?_)) <;> (repeat (first | refine e_go ?_ | refine ewp_true rfl ?_ | refine ewp_false rfl ?_)) <;> (refine o_mv rfl rfl ?_ <;> (first | refine o_en rfl rfl ?_ | refine o_eo rfl rfl ?_) <;> (refine o_z ?_)) <;> (repeat (first | refine e_go ?_ | refine ewp_true rfl ?_ | refine ewp_false rfl ?_)) <;> (refine o_mv rfl rfl ?_ <;> refine o_ta rfl rfl ?_ <;> refine o_mv rfl rfl ?_ <;> refine o_ex rfl rfl rfl ?_ <;> refine o_ex rfl rfl rfl ?_ <;> refine o_as rfl rfl ?_ <;> refine o_as rfl rfl ?_ <;> (refine o_z ?_)) <;> (repeat (first | refine e_go ?_ | refine ewp_true rfl ?_ | refine ewp_false rfl ?_)) <;> (refine o_mv rfl rfl ?_ <;> (refine o_z ?_)) <;> (repeat (first | refine e_go ?_ | refine ewp_true rfl ?_ | refine ewp_false rfl ?_)) <;> (refine o_mv rfl rfl ?_ <;> refine o_as rfl rfl ?_ <;> (refine o_z ?_)) <;> (repeat (first | refine e_go ?_ | refine ewp_true rfl ?_ | refine ewp_false rfl ?_)))
    exact ret1 rfl rfl ⟨Below.refl _ _, vInt r0⟩
def m_slices_Clone_Lint_int (xs : List Int) : Option (List Int) := if xs.length * 8 ≤ 140737488355328 ∧ xs.length ≤ 9223372036854775807 then some xs else none
theorem c_slices_Clone_Lint_int {w : World} {A : Nat → Prop} (hA : ∀ k, A k → k < w.heap.size) {v0 : Value} {x0 : List Int} (h0 : Vb w A v0 x0) {r : List Int} (hm : m_slices_Clone_Lint_int x0 = some r) :
    Fn Tryz.prog 55 [v0] w fun v w' => Ext w w' ∧ RowR w w' (upA A w w') 3 v r := by
  obtain ⟨⟨hl, hl2⟩, rfl⟩ := ite_some hm
  obtain ⟨O, hB, hA0⟩ := enter hA
  replace h0 := h0.mono hA0
  obtain ⟨Ad, c, rfl⟩ := h0.form
  refine fn_enter Tryz.func55 rfl Tryz.ntmps55 rfl ?_
  cases Ad with
  | none =>
    have hx : x0 = [] := by
      cases x0 with
      | nil => rfl
      | cons x xs => obtain ⟨_, _, _, h, _⟩ := h0.elem (k := 0) (x := x) rfl; cases h
    subst hx
    ((repeat (first | refine e_go ?_ | refine ewp_true rfl ?_ | refine ewp_false rfl ?_)) <;> (refine o_as rfl rfl ?_ <;> (refine o_z ?_)) <;> (repeat (first | refine e_go ?_ | refine ewp_true rfl ?_ | refine ewp_false rfl ?_)) <;> (refine o_mv rfl rfl ?_ <;> refine o_sn rfl rfl ?_ <;> (refine o_z ?_)) <;> (repeat (first | refine e_go ?_ | refine ewp_true rfl ?_ | refine ewp_false rfl ?_)) <;> (refine o_as rfl rfl ?_ <;> (refine o_z ?_)) <;> (repeat (first | refine e_go ?_ | refine ewp_true rfl ?_ | refine ewp_false rfl ?_)))
    exact ret1 rfl rfl ⟨Below.refl _ _, RowR.nil⟩
  | some ad =>
    ((repeat (first | refine e_go ?_ | refine ewp_true rfl ?_ | refine ewp_false rfl ?_)) <;> (refine o_as rfl rfl ?_ <;> (refine o_z ?_)) <;> (repeat (first | refine e_go ?_ | refine ewp_true rfl ?_ | refine ewp_false rfl ?_)) <;> (refine o_mv rfl rfl ?_ <;> refine o_sn rfl rfl ?_ <;> (refine o_z ?_)) <;> (repeat (first | refine e_go ?_ | refine ewp_true rfl ?_ | refine ewp_false rfl ?_)))
    refine l_bslice 2 (by decide) O (xs := ([] : List Int)) rfl rfl rfl rfl trivial (by decide) (by decide) rfl fun g w1 O1 S1 h1 => ?_
    replace hB := hB.st S1 (fun h => h) (fun h => h)
    replace h0 := h0.st S1 (fun h => h)
    (refine o_mv rfl rfl ?_)
    refine l_append rfl h1 h0.rd rfl rfl (by decide) (by simpa using hl) (by simpa using hl2) rfl fun A2 c2 w2 O2 S2 h2 => ?_
    replace hB := hB.st S2 (by decide) (by decide)
    rw [List.nil_append] at h2 ⊢
    (refine o_as rfl rfl ?_ <;> (refine o_z ?_))
    repeat (first | refine e_go ?_ | refine ewp_true rfl ?_ | refine ewp_false rfl ?_)
    exact ret1 rfl rfl ⟨hB.ext, h2.out hB (by decide)⟩
end
section
open Go Go.RowKit
attribute [local irreducible] ewp owp hwp hwq hws Ev Evg Fn retPost loud loudS Res1
/-- A generator by its task. -/
structure Gnr where
  t : Tsk
def GnrR (w : World) (F : Nat → Prop) (v : Value) : Option Gnr → Prop
  | none => v = .pointer none
  | some g => TaskOk g.t ∧ GenR w F v g.t (treeOf g.t)
theorem GnrR.one {w : World} {F : Nat → Prop} {v : Value} : ∀ {x : Option Gnr}, GnrR w F v x → v.oneCell' = true
  | none, h => by have : v = .pointer none := h
                  subst this; rfl
  | some g, h => by
    obtain ⟨gb, rfl⟩ := h.2.form
    rfl
instance : Rp (Option Gnr) where
  isAgg := false
  size := 1
  R w F cs x := ∃ v, cs = [v] ∧ GnrR w F v x
  len := by rintro w F cs x ⟨v, rfl, _⟩; rfl
  one := by
    rintro w F cs x ⟨v, rfl, h⟩ u hu
    have : u = v := by simpa using hu
    subst this; exact h.one
  agree := by
    rintro w w' F cs x ⟨v, rfl, h⟩ ha
    refine ⟨v, rfl, ?_⟩
    cases x with
    | none => exact h
    | some g => exact ⟨h.1, h.2.agree ha⟩
  mono := by
    rintro w F G cs x ⟨v, rfl, h⟩ hk
    refine ⟨v, rfl, ?_⟩
    cases x with
    | none => exact h
    | some g => exact ⟨h.1, h.2.mono hk⟩
theorem vNone {w : World} {F : Nat → Prop} : Vb w F (.pointer none) (none : Option Gnr) := ⟨_, rfl, rfl⟩
theorem Vb.gnr {w : World} {F : Nat → Prop} {v : Value} {x : Option Gnr} (h : Vb w F v x) : GnrR w F v x := by
  obtain ⟨u, hu, h'⟩ := h
  have : v = u := by simpa using hu
  subst this; exact h'
theorem Vb.ptr {w : World} {F : Nat → Prop} {v : Value} {x : Option Gnr} (h : Vb w F v x) : ∃ p, v = .pointer p ∧ p.isNone = x.isNone := by
  cases x with
  | none => exact ⟨none, h.gnr, rfl⟩
  | some g => obtain ⟨gb, rfl⟩ := h.gnr.2.form; exact ⟨_, rfl, rfl⟩
theorem Gnr_open {w : World} {F : Nat → Prop} {p : Option Addr} {x : Option Gnr} {g : Gnr} (h : Vb w F (.pointer p) x) (e : x = some g) :
    ∃ gb a b c d r, p = some ⟨gb, 0, none⟩ ∧ F gb ∧ cellsAt w gb 0 [a, b, c, d, r] ∧ Vb w F a g.t.vars ∧ Vb w F b g.t.init ∧ Vb w F c g.t.goal ∧ Vb w F d g.t.ops := by
  subst e
  obtain ⟨_, gb, a, b, c, d, r, h1, h2, h3, h4, h5, h6, h7, _⟩ := h.gnr
  injection h1 with h1
  exact ⟨gb, a, b, c, d, r, h1, h2, h3.cellsAt, h4, h5, h6, h7⟩
theorem vGnr {w : World} {F : Nat → Prop} {v : Value} {g : Gnr} (h : TaskOk g.t) (hg : GenR w F v g.t (treeOf g.t)) : Vb w F v (some g) := ⟨v, rfl, h, hg⟩
theorem upA_all {A : Nat → Prop} {w w' : World} : ∀ k, nw w w' k → upA A w w' k := fun _ h => .inr h
/-- A row of numbers has no need of other memory. -/
theorem Own.intRow {w w' : World} {F A : Nat → Prop} {e : TypeId} {v : Value} {xs : List Int} (h : Own w' w.heap.size F e v xs) : RowR w w' (upA A w w') e v xs := by
  obtain ⟨cells, q1, q2, q3⟩ := h
  exact ⟨fun _ => False, fun _ h => h.elim, cells, q1, chunks_int' q2, fun _ _ h => h⟩
noncomputable def m_succgen_New (t : Tsk) : Option (Option Gnr × Err) := some (if bof (TaskOk t) = true then some ⟨t⟩ else none, ⟨checkN t⟩)
theorem c_succgen_New {w : World} {A : Nat → Prop} (hA : ∀ k, A k → k < w.heap.size) {v0 : Value} {x0 : Tsk} (h0 : Vb w A v0 x0) {r : Option Gnr × Err} (hm : m_succgen_New x0 = some r) : Fn Tryz.prog 42 [v0] w fun v w' => Ext w w' ∧ T2 w' (upA A w w') v r := by
  obtain rfl := sm hm
  refine (genNew (h0.mono hA)).mono fun v w' h => ⟨h.1, ?_⟩
  rcases h.2 with ⟨hok, gv, rfl, hg⟩ | ⟨hno, rfl⟩
  · rw [bof_t hok, check_ok.2 hok]
    exact ⟨gv, _, rfl, vGnr (g := ⟨x0⟩) hok (hg.mono upA_all), vErr0⟩
  · rw [bof_f hno]
    exact ⟨_, _, rfl, vNone, vErr (checkN_rng _)⟩
/-- What a generator finds. -/
noncomputable def appG : Option Gnr → List Int → List Int
  | none, _ => []
  | some g, s => appS g.t s
noncomputable def m_succgen_Generator_Applicable (x : Option Gnr) (s : List Int) : Option (List Int) := if s.length ≤ 1000000 then some (appG x s) else none
theorem c_succgen_Generator_Applicable {w : World} {A : Nat → Prop} (hA : ∀ k, A k → k < w.heap.size) {v0 : Value} {x0 : Option Gnr} (h0 : Vb w A v0 x0) {v1 : Value} {x1 : List Int} (h1 : Vb w A v1 x1) {r : List Int} (hm : m_succgen_Generator_Applicable x0 x1 = some r) :
    Fn Tryz.prog 87 [v0, v1] w fun v w' => Ext w w' ∧ RowR w w' (upA A w w') 3 v r := by
  obtain ⟨hl, rfl⟩ := ite_some hm
  cases x0 with
  | none =>
    have h2 := h0.gnr
    have : v0 = .pointer none := h2
    subst this
    refine nilApplicable.mono fun v w' h => ⟨h.2, ?_⟩
    rw [h.1]; exact RowR.nil
  | some g =>
    obtain ⟨hok, hg⟩ := h0.gnr
    exact (applT hok (hg.mono hA) (h1.mono hA) hl).mono fun v w' h => ⟨h.1, h.2.intRow⟩
end
section
open Go Go.RowKit
attribute [local irreducible] ewp owp hwp hwq hws Ev Evg Fn retPost loud loudS Res1
def exts (n : Nat) (s : List Int) : List (List Int) := (List.range n).map fun x : Nat => s ++ [(x : Int)]
def grows (out : List (List Int)) (k : Int) : List (List Int) := out.flatMap (exts k.toNat)
def statesL (vars : List Int) : List (List Int) := vars.foldl grows [[]]
theorem exts_len (n : Nat) (s : List Int) : (exts n s).length = n := by simp [exts]
theorem grows_len (n : Nat) : ∀ l : List (List Int), (l.flatMap (exts n)).length = l.length * n
  | [] => by simp
  | s :: l => by rw [List.flatMap_cons, List.length_append, exts_len, grows_len n l, List.length_cons, Nat.add_mul]; omega
end
section
open Go Go.RowKit
def prodV : List Int → Nat → Nat
  | [], n => n
  | k :: r, n => prodV r (n * k.toNat)
theorem foldl_grows_len : ∀ (vars : List Int) (out : List (List Int)), (vars.foldl grows out).length = prodV vars out.length
  | [], _ => rfl
  | k :: r, out => by
    simp only [List.foldl_cons, prodV]
    rw [foldl_grows_len r, grows, grows_len]
theorem statesL_len (vars : List Int) : (statesL vars).length = prodV vars 1 := foldl_grows_len vars [[]]
theorem many_prod {most : Nat} : ∀ (vars : List Int) (n : Nat), (∀ x ∈ vars, 1 ≤ x) → 1 ≤ n → manyF most vars (n : Int) ≤ most → ∀ k, prodV (vars.take k) n ≤ most
  | [], n, _, _, h, k => by simp only [List.take_nil, prodV]; simp only [manyF] at h; omega
  | x :: r, n, hx, hn, h, k => by
    have h1 : 1 ≤ x := hx x List.mem_cons_self
    simp only [manyF] at h
    have hmax : max x 0 = x := by omega
    rw [hmax] at h
    obtain ⟨m, rfl⟩ : ∃ m : Nat, x = (m : Int) := ⟨x.toNat, by omega⟩
    by_cases hm : (m : Int) ≤ most
    · rw [show min (m : Int) (most + 1) = (m : Int) from by omega, ← Int.natCast_mul] at h
      have hnm : n ≤ n * m := Nat.le_mul_of_pos_right n (by omega)
      by_cases hc : (most : Int) < ((n * m : Nat) : Int)
      · rw [if_pos hc] at h; omega
      · rw [if_neg hc] at h
        cases k with
        | zero => simp only [List.take_zero, prodV]; omega
        | succ k =>
          simp only [List.take_succ_cons, prodV, Int.toNat_natCast]
          exact many_prod r (n * m) (fun y hy => hx y (List.mem_cons_of_mem _ hy)) (by omega) h k
    · exfalso
      rw [show min (m : Int) (most + 1) = ((most + 1 : Nat) : Int) from by omega, ← Int.natCast_mul] at h
      have : most + 1 ≤ n * (most + 1) := Nat.le_mul_of_pos_left _ hn
      rw [if_pos (by omega)] at h
      omega
theorem stateOk_cons {y x : Int} {vs s : List Int} : StateOk (y :: vs) (x :: s) ↔ (0 ≤ x ∧ x < y) ∧ StateOk vs s := by
  constructor
  · intro h
    exact ⟨h.2 0 x y rfl rfl, by have := h.1; simpa using this, fun i a b ha hb => h.2 (i + 1) a b (by simpa using ha) (by simpa using hb)⟩
  · rintro ⟨h1, h2, h3⟩
    refine ⟨by simpa using h2, fun i a b ha hb => ?_⟩
    cases i with
    | zero => simp at ha hb; subst ha; subst hb; exact h1
    | succ i => exact h3 i a b (by simpa using ha) (by simpa using hb)
theorem stateOk_nil : StateOk [] [] := ⟨rfl, fun i a b ha => by simp at ha⟩
theorem mem_exts {n : Nat} {s t : List Int} : t ∈ exts n s ↔ ∃ x : Nat, x < n ∧ t = s ++ [(x : Int)] := by
  unfold exts
  rw [List.mem_map]
  constructor
  · rintro ⟨x, hx, rfl⟩; exact ⟨x, List.mem_range.1 hx, rfl⟩
  · rintro ⟨x, hx, rfl⟩; exact ⟨x, List.mem_range.2 hx, rfl⟩
theorem mem_foldl_grows : ∀ (vars : List Int) (out : List (List Int)) (s : List Int), s ∈ vars.foldl grows out ↔ ∃ s0 ∈ out, ∃ r, s = s0 ++ r ∧ StateOk vars r
  | [], out, s => by
    constructor
    · intro h; exact ⟨s, h, [], by simp, stateOk_nil⟩
    · rintro ⟨s0, h, r, rfl, hr⟩
      have : r = [] := List.eq_nil_of_length_eq_zero hr.1
      subst this; simpa using h
  | k :: vs, out, s => by
    simp only [List.foldl_cons]
    rw [mem_foldl_grows vs (grows out k) s]
    constructor
    · rintro ⟨s1, h1, r, rfl, hr⟩
      obtain ⟨s0, h0, h2⟩ := List.mem_flatMap.1 h1
      obtain ⟨x, hx, rfl⟩ := mem_exts.1 h2
      exact ⟨s0, h0, (x : Int) :: r, by simp, stateOk_cons.2 ⟨⟨by omega, by omega⟩, hr⟩⟩
    · rintro ⟨s0, h0, r, rfl, hr⟩
      cases r with
      | nil => have := hr.1; simp at this
      | cons x r =>
        obtain ⟨⟨h1, h2⟩, h3⟩ := stateOk_cons.1 hr
        exact ⟨s0 ++ [x], List.mem_flatMap.2 ⟨s0, h0, mem_exts.2 ⟨x.toNat, by omega, by rw [show ((x.toNat : Nat) : Int) = x from by omega]⟩⟩, r, by simp, h3⟩
theorem mem_statesL {vars s : List Int} : s ∈ statesL vars ↔ StateOk vars s := by
  unfold statesL
  rw [mem_foldl_grows]
  constructor
  · rintro ⟨s0, h0, r, rfl, hr⟩
    have : s0 = [] := by simpa using h0
    subst this; exact hr
  · intro h; exact ⟨[], by simp, s, rfl, h⟩
theorem SmallOk.ok {t : Tsk} (h : SmallOk t) : TaskOk t := h.2.2.2.1
theorem SmallOk.states {t : Tsk} (h : SmallOk t) : ∀ k, (statesL (t.vars.take k)).length ≤ 512 := fun k => by
  rw [statesL_len]
  refine many_prod (most := 512) t.vars 1 (fun x hx => ?_) (Nat.le_refl _) h.2.2.2.2 k
  obtain ⟨i, hi, rfl⟩ := List.getElem_of_mem hx
  exact (h.ok.vars i _ (List.getElem?_eq_getElem hi)).1
/-- A right task with few states and operators: somewhat more than a small one. -/
structure Mid (t : Tsk) : Prop where
  ok : TaskOk t
  states : ∀ k, (statesL (t.vars.take k)).length ≤ 600
  ops : t.ops.length ≤ 80
theorem Mid.many {t : Tsk} (h : Mid t) : (statesL t.vars).length ≤ 600 := by
  have := h.states t.vars.length
  rwa [List.take_length] at this
theorem SmallOk.mid {t : Tsk} (h : SmallOk t) : Mid t := ⟨h.ok, fun k => by have := h.states k; omega, by have := h.2.1; omega⟩
end
section
open Go Go.RowKit
attribute [local irreducible] ewp owp hwp hwq hws Ev Evg Fn retPost loud loudS Res1
noncomputable def m_base_Apply (x0 : Tsk) (x1 : List Int) (x2 : Int) : Option ((List Int) × Bool) :=
  bnd (if x2 < 0 then (some true) else (if (x0.ops.length : Int) ≤ x2 then (some true) else (bnd (atI x0.ops x2) fun a36 => bnd (m_base_Holds a36.pre x1) fun q57 => if q57 = true then some false else some true)) : Option Bool) fun y28 => if y28 = true then (some (([] : List Int), false)) else (bnd (appI 8 ([] : List Int) x1) fun u75 => bnd (atI x0.ops x2) fun a86 => bnd (rng (ρ := (List Int) × Bool) (fun (k113 : Nat) (a114 : Eff) (s111 : (List Int)) => bnd (m_base_Holds a114.cond x1) fun q148 => if q148 = true then bnd (atI s111 a114.var) fun a155 => some (.next (s111.set (a114.var : Int).toNat a114.val)) else some (.next s111)) a86.effs 0 u75) fun res109 => fin res109 fun (s173 : (List Int)) => some (s173, true))
theorem c_base_Apply {w : World} {A : Nat → Prop} (hA : ∀ k, A k → k < w.heap.size) {vx0 : Value} {x0 : Tsk} (hx0 : Vb w A vx0 x0) {vx1 : Value} {x1 : List Int} (hx1 : Vb w A vx1 x1) {x2 : Int} (rx2 : inI64 x2) {r : (List Int) × Bool} (hm : m_base_Apply x0 x1 x2 = some r) :
    Fn Tryz.prog 53 [vx0, vx1, (.int .i64 x2)] w fun v w' => Ext w w' ∧ T2 w' (upA A w w') v r := by
 obtain ⟨O, hB, hA0⟩ := enter hA
 replace hx0 := hx0.mono hA0
 obtain ⟨cs4, rfl, v5, v6, v7, v8, rfl, h9, h12, h15, h18⟩ := hx0
 obtain ⟨A10, c11, rfl⟩ := h9.form
 obtain ⟨A13, c14, rfl⟩ := h12.form
 obtain ⟨A16, c17, rfl⟩ := h15.form
 obtain ⟨A19, c20, rfl⟩ := h18.form
 replace hx1 := hx1.mono hA0
 obtain ⟨A21, c22, rfl⟩ := hx1.form
 refine fn_enter Tryz.func53 rfl Tryz.ntmps53 rfl ?_
 unfold m_base_Apply at hm
 refine ewp_seq (ewp_region (l_box 2 O rfl rfl fun g23 w24 O25 S26 h27 => ?_))
 replace h27 : Lc 2 w24 O25 g23 26 [(.slice A10 x0.vars.length c11), (.slice A13 x0.init.length c14), (.slice A16 x0.goal.length c17), (.slice A19 x0.ops.length c20)] := h27
 refine o_as rfl rfl (o_as rfl rfl (o_z ?_))
 refine ewp_seq (ewp_seq ?_)
 obtain ⟨y28, hy29, hm⟩ := bs hm
 refine ewp_join (fun l' w' => ∃ (x31 : Unit) (O' : Lab), subs l' [(1, (.slice A21 x1.length c22)), (2, (.int .i64 x2)), (3, (.pointer (some ⟨g23, 0, none⟩))), (30, (.bool y28))] ∧ Bs w A w' O' ∧ Vb w' (Fr 0 w' O') (.slice A21 x1.length c22) x1 ∧ Lc 2 w' O' g23 26 [(.slice A10 x0.vars.length c11), (.slice A13 x0.init.length c14), (.slice A16 x0.goal.length c17), (.slice A19 x0.ops.length c20)] ∧ Vb w' (Fr 0 w' O') (.slice A10 x0.vars.length c11) x0.vars ∧ Vb w' (Fr 0 w' O') (.slice A13 x0.init.length c14) x0.init ∧ Vb w' (Fr 0 w' O') (.slice A16 x0.goal.length c17) x0.goal ∧ Vb w' (Fr 0 w' O') (.slice A19 x0.ops.length c20) x0.ops) ?_ ?_
 ·
  refine ewp_region (o_mv rfl rfl (o_ltS rfl rfl rfl (fun c32 => ?_) fun c32 => ?_))
  ·
   replace hy29 := ip hy29 c32
   refine o_mv rfl rfl (owp_no rfl rfl rfl rfl (owp_no rfl rfl rfl rfl (owp_no rfl rfl rfl rfl (owp_no rfl rfl rfl rfl (owp_no rfl rfl rfl rfl (o_pt rfl rfl rfl (o_mv rfl rfl (owp_no rfl rfl rfl rfl (owp_no rfl rfl rfl rfl (owp_no rfl rfl rfl rfl (owp_no rfl rfl rfl rfl (owp_no rfl rfl rfl rfl (owp_no rfl rfl rfl rfl (owp_no rfl rfl rfl rfl ?_))))))))))))))
   refine owp_no rfl rfl rfl rfl (owp_no rfl rfl rfl rfl (o_pt rfl rfl rfl (o_z ?_)))
   obtain rfl := sm hy29
   replace hB := hB.st S26
   replace hx1 := hx1.st S26
   replace h9 := h9.st S26
   replace h12 := h12.st S26
   replace h15 := h15.st S26
   replace h18 := h18.st S26
   exact ⟨(), _, ⟨rfl, rfl, rfl, rfl, trivial⟩, hB, hx1, h27, h9, h12, h15, h18⟩
  replace hy29 := im hy29 c32
  refine o_mv rfl rfl (owp_yes rfl rfl (o_mv rfl rfl (owp_yes rfl rfl (o_fa rfl rfl (owp_yes rfl rfl (o_ld (hc := Blk.cell (i := 3) (h27.1) rfl) rfl rfl ?_))))))
  refine owp_yes rfl rfl (o_ln rfl rfl ?_)
  replace h18 := h18.st S26
  have l34 : x0.ops.length ≤ 9223372036854775807 := Nat.le_trans h18.len.2.1 h18.len.2.2
  have r33 : inI64 (x0.ops.length : Int) := rngNat l34
  refine owp_yes rfl rfl (o_geS rfl rfl rfl (fun c35 => ?_) fun c35 => ?_)
  ·
   replace hy29 := ip hy29 c35
   refine o_pf rfl rfl rfl (o_mv rfl rfl (owp_no rfl rfl rfl rfl (owp_no rfl rfl rfl rfl (owp_no rfl rfl rfl rfl (owp_no rfl rfl rfl rfl (owp_no rfl rfl rfl rfl (owp_no rfl rfl rfl rfl (owp_no rfl rfl rfl rfl (owp_no rfl rfl rfl rfl (owp_no rfl rfl rfl rfl (o_pt rfl rfl rfl (o_z ?_))))))))))))
   obtain rfl := sm hy29
   replace hB := hB.st S26
   replace hx1 := hx1.st S26
   replace h9 := h9.st S26
   replace h12 := h12.st S26
   replace h15 := h15.st S26
   exact ⟨(), _, ⟨rfl, rfl, rfl, rfl, trivial⟩, hB, hx1, h27, h9, h12, h15, h18⟩
  replace hy29 := im hy29 c35
  refine o_pf rfl rfl rfl (o_mv rfl rfl (owp_yes rfl rfl (o_fa rfl rfl (owp_yes rfl rfl (o_ld (hc := Blk.cell (i := 3) (h27.1) rfl) rfl rfl ?_)))))
  refine owp_yes rfl rfl (o_mv rfl rfl (owp_yes rfl rfl ?_))
  obtain ⟨a36, e37, hy29⟩ := bs hy29
  obtain ⟨p39, x38⟩ := atI_some' e37
  obtain ⟨b40, o41, ce42, hA43, hl44, hd45, v47, v48, rfl, h49, h52, r55, z56⟩ := h18.elem' x38
  obtain ⟨A50, c51, rfl⟩ := h49.form
  obtain ⟨A53, c54, rfl⟩ := h52.form
  refine o_iaE (hA := hA43) (hj := (Int.toNat_of_nonneg p39).symm) (hlt := hl44) rfl rfl rfl ?_
  refine owp_yes rfl rfl (o_fa rfl rfl (owp_yes rfl rfl (o_ld (hc := cat2 hd45) rfl rfl ?_)))
  refine owp_yes rfl rfl (o_mv rfl rfl (owp_yes rfl rfl ?_))
  obtain ⟨q57, e58, hy29⟩ := bs hy29
  replace hx1 := hx1.st S26
  refine l_callA (O := O25) (A := All w24) (R := fun w' F v => Vb w' F v q57) (c_base_Holds (fun _ h => h) (Vb.mono (F := Fr 0 w24 O25) h49 Fr.lt) (Vb.mono (F := Fr 0 w24 O25) hx1 Fr.lt) e58) rfl rfl fun v63 w59 O60 S61 h62 => ?_
  obtain rfl := h62.bool
  cases q57
  case false =>
   replace hy29 := iF hy29
   refine owp_yes rfl rfl (o_nf rfl rfl (o_pf rfl rfl rfl (o_z ?_)))
   obtain rfl := sm hy29
   replace hB := (hB.st S26).st S61
   replace hx1 := hx1.st S61
   replace h9 := (h9.st S26).st S61
   replace h12 := (h12.st S26).st S61
   replace h15 := (h15.st S26).st S61
   replace h18 := h18.st S61
   replace h27 := h27.st S61
   exact ⟨(), _, ⟨rfl, rfl, rfl, rfl, trivial⟩, hB, hx1, h27, h9, h12, h15, h18⟩
  replace hy29 := iT hy29
  refine owp_yes rfl rfl (o_nt rfl rfl (o_pf rfl rfl rfl (o_z ?_)))
  obtain rfl := sm hy29
  replace hB := (hB.st S26).st S61
  replace hx1 := hx1.st S61
  replace h9 := (h9.st S26).st S61
  replace h12 := (h12.st S26).st S61
  replace h15 := (h15.st S26).st S61
  replace h18 := h18.st S61
  replace h27 := h27.st S61
  exact ⟨(), _, ⟨rfl, rfl, rfl, rfl, trivial⟩, hB, hx1, h27, h9, h12, h15, h18⟩
 replace hB := hB.st S26
 replace hx1 := hx1.st S26
 replace h9 := h9.st S26
 replace h12 := h12.st S26
 replace h15 := h15.st S26
 replace h18 := h18.st S26
 rintro l64 w65 ⟨x31, O66, hs67, hB, hx1, h27, h9, h12, h15, h18⟩
 refine ewp_sub _ hs67 ?_
 refine ewp_cond rfl (fun c68 => ?_) (fun c68 => ?_)
 ·
  replace hm := ip hm c68
  refine ewp_seq (ewp_region (o_as rfl rfl (o_as rfl rfl (o_z ?_))))
  refine ewp_ret ?_
  obtain rfl := sm hm
  exact ret2 rfl (res_tmp rfl) (res_tmp rfl) ⟨hB.ext, _, _, rfl, (Vb.mono (F := Fr 0 w65 O66) (Vb.nil _ _) hB.out), vBool⟩
 replace hm := im' hm c68
 refine ewp_skip (ewp_seq (ewp_region (l_bslice 3 (by decide) O66 (xs := (([] : List Int) : List Int)) rfl rfl rfl rfl trivial (by decide) (by decide) rfl fun g69 w70 O71 S72 h73 => ?_)))
 refine o_mv rfl rfl ?_
 obtain ⟨u75, e76, hm⟩ := bs hm
 obtain ⟨e76, e77, e78⟩ := appI_some e76
 replace hx1 := hx1.st S72
 refine l_append rfl h73 (hx1.rd) rfl rfl (by decide) e77 e78 rfl fun A79 c80 w81 O82 S83 h84 => ?_
 rw [← e76] at h84 ⊢
 refine o_as rfl rfl (o_z ?_)
 refine ewp_seq (ewp_seq (ewp_region (o_fa rfl rfl ?_)))
 replace h27 := (h27.st S72).st S83
 refine o_ld (hc := Blk.cell (i := 3) (h27.1) rfl) rfl rfl ?_
 refine o_mv rfl rfl ?_
 obtain ⟨a86, e87, hm⟩ := bs hm
 obtain ⟨p89, x88⟩ := atI_some' e87
 replace h18 := (h18.st S72).st S83
 obtain ⟨b90, o91, ce92, hA93, hl94, hd95, v97, v98, rfl, h99, h102, r105, z106⟩ := h18.elem' x88
 obtain ⟨A100, c101, rfl⟩ := h99.form
 obtain ⟨A103, c104, rfl⟩ := h102.form
 refine o_iaE (hA := hA93) (hj := (Int.toNat_of_nonneg p89).symm) (hlt := hl94) rfl rfl rfl ?_
 refine o_fa rfl rfl (o_ld (hc := cat3 hd95) rfl rfl ?_)
 refine o_ln rfl rfl ?_
 have l108 : a86.effs.length ≤ 9223372036854775807 := Nat.le_trans h102.len.2.1 h102.len.2.2
 have r107 : inI64 (a86.effs.length : Int) := rngNat l108
 refine o_mv rfl rfl (o_z ?_)
 obtain ⟨res109, hL110, hm⟩ := bs hm
 refine ewp_join (aft res109 (fun (s111 : (List Int)) (x112 : Unit) => [(8, (.slice A79 u75.length c80))]) (fun s111 x112 w' => ∃ O' : Lab, Bs w A w' O' ∧ Rw 3 w' O' 3 (.slice A79 u75.length c80) s111)) ?_ ?_
 ·
  refine ewp_block ?_
  replace hB := (hB.st S72).st S83
  replace hx1 := hx1.st S83
  refine ewp_rng (σ := (List Int)) (X := Unit) (a86.effs.length) hL110 rfl l108 (fun (s111 : (List Int)) (x112 : Unit) => [(1, (.slice A21 x1.length c22)), (8, (.slice A79 u75.length c80)), (39, (.slice A103 a86.effs.length c104))]) _ (fun s111 x112 w' => ∃ O' : Lab, Bs w A w' O' ∧ Vb w' (Fr 0 w' O') (.slice A21 x1.length c22) x1 ∧ Rw 3 w' O' 3 (.slice A79 u75.length c80) s111 ∧ Vb w' (Fr 0 w' O') (.slice A103 a86.effs.length c104) a86.effs) _ () ⟨O82, hB, hx1, h84, h102⟩ ⟨rfl, rfl, rfl, rfl, rfl, trivial⟩ (fun _ _ => ⟨rfl, rfl⟩) (fun _ _ => ⟨rfl, trivial⟩) (fun _ _ _ ⟨O', hB, hx1, h126, h102⟩ => ⟨O', hB, h126⟩) ⟨rfl, rfl, rfl⟩ ⟨rfl, rfl⟩ ?_
  rintro k113 a114 s111 x112 w115 cc117 hx118 ⟨O116, hB, hx1, h126, h102⟩ hf119 hret120 hbrk121
  have rk113 : inI64 (k113 : Int) := rngK hx118 l108
  refine ewp_seq (ewp_region ?_)
  obtain ⟨b128, o129, ce130, hA131, hl132, hd133, v135, rfl, h136, r139, r140⟩ := h102.elem' hx118
  obtain ⟨A137, c138, rfl⟩ := h136.form
  refine o_iaE (hA := hA131) (hj := rfl) (hlt := hl132) rfl rfl rfl ?_
  refine o_la (hl := rfl) (hc := hd133) rfl rfl ?_
  refine l_alloc 4 O116 rfl fun g141 w142 O143 S144 h145 => ?_
  refine l_store h145 rfl rfl rfl (nle_b rfl) (allOne rfl) fun w146 S147 h145 => ?_
  replace h145 : Lc 4 w146 O143 g141 76 [(.slice A137 a114.cond.length c138), (.int .i64 a114.var), (.int .i64 a114.val)] := h145
  refine o_z ?_
  refine ewp_seq (ewp_region (o_fa rfl rfl (o_ld (hc := Blk.cell (i := 0) (h145.1) rfl) rfl rfl ?_)))
  refine o_mv rfl rfl ?_
  obtain ⟨q148, e149, hf119⟩ := bs hf119
  replace hx1 := (hx1.st S144).st S147
  replace h136 := (h136.st S144).st S147
  refine l_callA (O := O143) (A := All w146) (R := fun w' F v => Vb w' F v q148) (c_base_Holds (fun _ h => h) (Vb.mono (F := Fr 0 w146 O143) h136 Fr.lt) (Vb.mono (F := Fr 0 w146 O143) hx1 Fr.lt) e149) rfl rfl fun v154 w150 O151 S152 h153 => ?_
  obtain rfl := h153.bool
  cases q148
  case false =>
   replace hf119 := iF hf119
   refine o_z ?_
   refine ewp_false rfl (ewp_skip ?_)
   obtain rfl := sm hf119
   replace hB := ((hB.st S144).st S147).st S152
   replace hx1 := hx1.st S152
   replace h102 := ((h102.st S144).st S147).st S152
   replace h126 := ((h126.st S144).st S147).st S152
   exact show Exists _ from ⟨_, (), rfl, ⟨rfl, rfl, rfl, rfl, rfl, trivial⟩, _, hB, hx1, h126, h102⟩
  replace hf119 := iT hf119
  refine o_z ?_
  refine ewp_true rfl (ewp_region (o_mv rfl rfl (o_fa rfl rfl ?_)))
  replace h145 := h145.st S152
  refine o_ld (hc := Blk.cell (i := 1) (h145.1) rfl) rfl rfl ?_
  refine o_fa rfl rfl (o_ld (hc := Blk.cell (i := 2) (h145.1) rfl) rfl rfl ?_)
  obtain ⟨a155, e156, hf119⟩ := bs hf119
  obtain ⟨p158, x157⟩ := atI_some' e156
  replace h126 := ((h126.st S144).st S147).st S152
  obtain ⟨b159, o160, ce161, hA162, hl163, hd164, rfl, r166⟩ := h126.elem x157
  refine o_iaE (hA := hA162) (hj := (Int.toNat_of_nonneg p158).symm) (hlt := hl163) rfl rfl rfl ?_
  refine l_setE rfl h126 (a := a114.val) (vInt r140) hA162 rfl rfl (lt_of_get x157) fun w167 S168 h126 => ?_
  refine o_z ?_
  obtain rfl := sm hf119
  replace hB := (((hB.st S144).st S147).st S152).st S168
  replace hx1 := (hx1.st S152).st S168
  replace h102 := (((h102.st S144).st S147).st S152).st S168
  exact show Exists _ from ⟨_, (), rfl, ⟨rfl, rfl, rfl, rfl, rfl, trivial⟩, _, hB, hx1, h126, h102⟩
 replace hB := (hB.st S72).st S83
 rintro l169 w170 ⟨s173, x174, rfl, hs172, O171, hB, h126⟩
 replace hm := fin_done hm
 refine ewp_sub _ hs172 ?_
 refine ewp_seq (ewp_region (o_mv rfl rfl (o_as rfl rfl (o_as rfl rfl (o_z ?_)))))
 refine ewp_ret ?_
 obtain ⟨O175, S176, h126⟩ := h126.freeze
 obtain rfl := sm hm
 replace hB := hB.st S176
 exact ret2 rfl (res_tmp rfl) (res_tmp rfl) ⟨hB.ext, _, _, rfl, (Vb.mono (F := Fr 0 w170 O175) h126 hB.out), vBool⟩
end
section
section
variable {α σ ρ : Type}
theorem fin_d {s : σ} {f : σ → Option ρ} : fin (.done s) f = f s := rfl
theorem fin_r {c : ρ} {f : σ → Option ρ} : fin (.ret c) f = some c := rfl
theorem if_t {x y : α} : (if true = true then x else y) = x := rfl
theorem if_f {x y : α} : (if false = true then x else y) = y := rfl
theorem rng_inv_from {f : Nat → α → σ → Option (Ctl σ ρ)} {I : Nat → σ → Prop} {R : ρ → Prop} : ∀ (ys : List α) (j : Nat) (s : σ), I j s →
    (∀ k x s, ys[k]? = some x → I (j + k) s → (∃ s', f (j + k) x s = some (.next s') ∧ I (j + k + 1) s') ∨ (∃ r, f (j + k) x s = some (.ret r) ∧ R r)) →
    (∃ s', rng f ys j s = some (.done s') ∧ I (j + ys.length) s') ∨ ∃ r, rng f ys j s = some (.ret r) ∧ R r
  | [], j, s, h0, _ => .inl ⟨s, rfl, h0⟩
  | y :: ys, j, s, h0, h => by
    rcases h 0 y s rfl h0 with ⟨s', h1, h2⟩ | ⟨r, h1, h2⟩
    · have h1' : f j y s = some (.next s') := h1
      simp only [rng, h1']
      rcases rng_inv_from (I := I) (R := R) ys (j + 1) s' h2 (fun k x s hk hI => by
        have := h (k + 1) x s (by simpa using hk) (by rwa [show j + (k + 1) = j + 1 + k from by omega])
        rwa [show j + (k + 1) = j + 1 + k from by omega] at this) with ⟨s2, h3, h4⟩ | h3
      · exact .inl ⟨s2, h3, by rw [List.length_cons, show j + (ys.length + 1) = j + 1 + ys.length from by omega]; exact h4⟩
      · exact .inr h3
    · have h1' : f j y s = some (.ret r) := h1
      simp only [rng, h1']
      exact .inr ⟨r, rfl, h2⟩
theorem rng_inv {f : Nat → α → σ → Option (Ctl σ ρ)} {xs : List α} {s₀ : σ} (I : Nat → σ → Prop) (R : ρ → Prop) (h0 : I 0 s₀)
    (h : ∀ k x s, xs[k]? = some x → I k s → (∃ s', f k x s = some (.next s') ∧ I (k + 1) s') ∨ (∃ r, f k x s = some (.ret r) ∧ R r)) :
    (∃ s', rng f xs 0 s₀ = some (.done s') ∧ I xs.length s') ∨ ∃ r, rng f xs 0 s₀ = some (.ret r) ∧ R r := by
  have := rng_inv_from (f := f) (I := I) (R := R) xs 0 s₀ h0 (fun k x s hk hI => by rw [Nat.zero_add] at hI ⊢; exact h k x s hk hI)
  rwa [Nat.zero_add] at this
/-- A loop that runs to its end. -/
theorem rng_all {f : Nat → α → σ → Option (Ctl σ ρ)} {xs : List α} {s₀ : σ} (I : Nat → σ → Prop) (h0 : I 0 s₀) (h : ∀ k x s, xs[k]? = some x → I k s → ∃ s', f k x s = some (.next s') ∧ I (k + 1) s') :
    ∃ s', rng f xs 0 s₀ = some (.done s') ∧ I xs.length s' := by
  rcases rng_inv I (fun _ => False) h0 (fun k x s hk hI => .inl (h k x s hk hI)) with h | ⟨_, _, h⟩
  · exact h
  · exact h.elim
/-- A loop whose state is known in each round. -/
theorem rng_fun {f : Nat → α → σ → Option (Ctl σ ρ)} {xs : List α} (g : Nat → σ) (h : ∀ k x, xs[k]? = some x → f k x (g k) = some (.next (g (k + 1)))) : rng f xs 0 (g 0) = some (.done (g xs.length)) := by
  obtain ⟨s', h1, h2⟩ := rng_all (f := f) (xs := xs) (s₀ := g 0) (fun k s => s = g k) rfl (fun k x s hk hI => ⟨_, by rw [hI]; exact h k x hk, rfl⟩)
  rw [h1, h2]
theorem rng_from {f : Nat → α → σ → Option (Ctl σ ρ)} {xs : List α} {s₀ : σ} (g : Nat → σ) (h0 : s₀ = g 0) (h : ∀ k x, xs[k]? = some x → f k x (g k) = some (.next (g (k + 1)))) : rng f xs 0 s₀ = some (.done (g xs.length)) := by
  rw [h0]; exact rng_fun g h
theorem rng_unit {f : Nat → α → Unit → Option (Ctl Unit ρ)} {xs : List α} (h : ∀ k x, xs[k]? = some x → f k x () = some (.next ())) : rng f xs 0 () = some (.done ()) := rng_fun (fun _ => ()) h
theorem rngN_fun {f : Nat → σ → Option (Ctl σ ρ)} {N : Nat} (g : Nat → σ) (h : ∀ k, k < N → f k (g k) = some (.next (g (k + 1)))) : rngN f N (g 0) = some (.done (g N)) := by
  have := rng_fun (f := fun _ k s => f k s) (xs := List.range N) g (fun k x hk => by
    obtain ⟨hlt, rfl⟩ := List.getElem?_eq_some_iff.1 hk
    simpa using h k (by simpa using hlt))
  rwa [List.length_range] at this
theorem rngN_from {f : Nat → σ → Option (Ctl σ ρ)} {N : Nat} {s₀ : σ} (g : Nat → σ) (h0 : s₀ = g 0) (h : ∀ k, k < N → f k (g k) = some (.next (g (k + 1)))) : rngN f N s₀ = some (.done (g N)) := by
  rw [h0]; exact rngN_fun g h
end
end
section
open Go Go.RowKit
theorem holds_eq (f : List Fct) (s : List Int) : m_base_Holds f s = some (holdsB f s) := rfl
theorem effs_run {ρ : Type} {s : List Int} {effs : List Eff} (he : EffsIn s effs) (m : List Fct → List Int → Option Bool) (hm : ∀ f s, m f s = some (holdsB f s)) (u : List Int) (hu : u.length = s.length) :
    rng (ρ := ρ) (fun (_ : Nat) (e : Eff) (out : List Int) => bnd (m e.cond s) fun q => if q = true then bnd (atI out e.var) fun _ => some (.next (out.set (e.var).toNat e.val)) else some (.next out)) effs 0 u = some (.done (effsOn s effs u)) := by
  rw [rng_from (fun k => effsOn s (effs.take k) u) ?_ ?_, List.take_length]
  · rfl
  intro k e hk
  rw [hm, bnd_some, effsOn_step s hk]
  have hin := he k e hk
  have hl := effsOn_length s (effs.take k) u
  by_cases hb : holdsB e.cond s = true
  · rw [if_pos hb, if_pos hb]
    obtain ⟨j, hj⟩ := Int.eq_ofNat_of_zero_le hin.1
    rw [hj, atI_eq, List.getElem?_eq_getElem (by omega), bnd_some]
  · rw [if_neg hb, if_neg hb]
theorem apply_eq {t : Tsk} {s : List Int} {j : Nat} {o : Opr} (ho : t.ops[j]? = some o) (hp : holdsB o.pre s = true) (hl : s.length ≤ 1000000) (he : EffsIn s o.effs) : m_base_Apply t s (j : Int) = some (succ o s, true) := by
  have hj := lt_of_get ho
  unfold m_base_Apply
  rw [if_neg (by omega), if_neg (by omega), atI_eq, ho, bnd_some, holds_eq, bnd_some, hp, if_t, bnd_some, if_f, appI_eq (by simp; omega) (by simp; omega), bnd_some, bnd_some, List.nil_append, effs_run he m_base_Holds holds_eq s rfl, bnd_some, fin_d]
  rfl
theorem effsOn_ok {vars s : List Int} : ∀ (l : List Eff), (∀ e ∈ l, EffOk vars e) → ∀ (u : List Int), StateOk vars u → StateOk vars (effsOn s l u)
  | [], _, _, hu => hu
  | e :: l, he, u, hu => by
    refine effsOn_ok l (fun e' h' => he e' (List.mem_cons_of_mem _ h')) _ ?_
    split
    · obtain ⟨_, h1, h2, y, hy, h3⟩ := he e List.mem_cons_self
      refine ⟨by rw [List.length_set]; exact hu.1, fun i x n hx hn => ?_⟩
      rw [List.getElem?_set] at hx
      by_cases hi : e.var.toNat = i
      · subst hi
        rw [if_pos rfl] at hx
        split at hx
        · obtain rfl := Option.some.inj hx
          simp only at hy h2 h3
          rw [hy] at hn
          obtain rfl := Option.some.inj hn
          exact ⟨h2, h3⟩
        · cases hx
      · rw [if_neg hi] at hx
        exact hu.2 i x n hx hn
    · exact hu
theorem succ_ok {t : Tsk} (h : TaskOk t) {s : List Int} (hs : StateOk t.vars s) {k : Nat} {o : Opr} (ho : t.ops[k]? = some o) : StateOk t.vars (succ o s) :=
  effsOn_ok o.effs (fun e he => by obtain ⟨j, hj⟩ := List.getElem?_of_mem he; exact (h.2.2.2.2.2 k o ho).2.2.2.2.2 j e hj) s hs
theorem apply_all {t : Tsk} (h : TaskOk t) {s : List Int} (hs : StateOk t.vars s) {k : Nat} {o : Opr} (ho : t.ops[k]? = some o) : m_base_Apply t s (k : Int) = some (if holdsB o.pre s = true then (succ o s, true) else ([], false)) := by
  have hk := lt_of_get ho
  by_cases hp : holdsB o.pre s = true
  · rw [apply_eq ho hp (by have := hs.1; have := h.1; omega) (h.effs hs k o ho), if_pos hp]
  · unfold m_base_Apply
    rw [if_neg (by omega), if_neg (by omega), atI_eq, ho, bnd_some, holds_eq, bnd_some, if_neg hp, if_neg hp, bnd_some, if_t]
end
section
open Go Go.RowKit
section
attribute [local irreducible] ewp owp hwp hwq hws Ev Evg Fn retPost loud loudS Res1
noncomputable def m_succgen_Generator_Successors (x0 : Option Gnr) (x1 : List Int) : Option (List Suc) :=
  bnd (m_succgen_Generator_Applicable x0 x1) fun q7 => bnd (rng (ρ := (List Suc)) (fun (k23 : Nat) (a24 : Int) (s21 : (List Suc)) => bnd (m_slices_Clone_Lint_int x1) fun q46 => bnd (x0) fun o56 => bnd (atI o56.t.ops a24) fun a88 => bnd (rng (ρ := Ctl (List Suc) (List Suc)) (fun (k115 : Nat) (a116 : Eff) (s113 : (List Int)) => bnd (m_task_Holds a116.cond x1) fun q150 => if q150 = true then bnd (atI s113 a116.var) fun a157 => some (.next (s113.set (a116.var : Int).toNat a116.val)) else some (.next s113)) a88.effs 0 q46) fun res111 => fin res111 fun (s175 : (List Int)) => bnd (appI 32 s21 [(⟨a24, s175⟩ : Suc)]) fun u179 => some (.next u179)) q7 0 ([] : List Suc)) fun res19 => fin res19 fun (s195 : (List Suc)) => some s195
theorem c_succgen_Generator_Successors {w : World} {A : Nat → Prop} (hA : ∀ k, A k → k < w.heap.size) {vx0 : Value} {x0 : Option Gnr} (hx0 : Vb w A vx0 x0) {vx1 : Value} {x1 : List Int} (hx1 : Vb w A vx1 x1) {r : (List Suc)} (hm : m_succgen_Generator_Successors x0 x1 = some r) :
    Fn Tryz.prog 49 [vx0, vx1] w fun v w' => Ext w w' ∧ Vb w' (upA A w w') v r := by
 obtain ⟨O, hB, hA0⟩ := enter hA
 replace hx0 := hx0.mono hA0
 obtain ⟨p3, rfl, hq4⟩ := hx0.ptr
 replace hx1 := hx1.mono hA0
 obtain ⟨A5, c6, rfl⟩ := hx1.form
 refine fn_enter Tryz.func49 rfl Tryz.ntmps49 rfl ?_
 unfold m_succgen_Generator_Successors at hm
 refine ewp_seq (ewp_region (o_as rfl rfl (o_z ?_)))
 refine ewp_seq (ewp_region (o_as rfl rfl (o_z ?_)))
 refine ewp_seq (ewp_seq (ewp_region (o_mv rfl rfl (o_mv rfl rfl ?_))))
 obtain ⟨q7, e8, hm⟩ := bs hm
 refine l_callRow 2 (by decide) (O := O) (c_succgen_Generator_Applicable Fr.lt hx0 hx1 e8) rfl rfl fun A14 c15 w9 O10 S11 h12 => ?_
 refine o_ln rfl rfl ?_
 have l18 : q7.length ≤ 9223372036854775807 := Nat.le_trans h12.len.2.1 h12.len.2.2
 have r17 : inI64 (q7.length : Int) := rngNat l18
 refine o_mv rfl rfl (o_z ?_)
 obtain ⟨res19, hL20, hm⟩ := bs hm
 refine ewp_join (aft res19 (fun (s21 : (List Suc)) (x22 : (Option Addr × Nat)) => [(5, (.slice x22.1 s21.length x22.2))]) (fun s21 x22 w' => ∃ O' : Lab, Bs w A w' O' ∧ Rw 5 w' O' 91 (.slice x22.1 s21.length x22.2) s21)) ?_ ?_
 ·
  refine ewp_block ?_
  replace hB := hB.st S11
  replace hx0 := hx0.st S11
  replace hx1 := hx1.st S11
  refine ewp_rng (σ := (List Suc)) (X := (Option Addr × Nat)) (q7.length) hL20 rfl l18 (fun (s21 : (List Suc)) (x22 : (Option Addr × Nat)) => [(0, (.pointer p3)), (1, (.slice A5 x1.length c6)), (5, (.slice x22.1 s21.length x22.2)), (13, (.slice A14 q7.length c15))]) _ (fun s21 x22 w' => ∃ O' : Lab, Bs w A w' O' ∧ Vb w' (Fr 0 w' O') (.pointer p3) x0 ∧ Vb w' (Fr 0 w' O') (.slice A5 x1.length c6) x1 ∧ Rw 5 w' O' 91 (.slice x22.1 s21.length x22.2) s21 ∧ Rw 2 w' O' 3 (.slice A14 q7.length c15) q7) _ (none, 0) ⟨O10, hB, hx0, hx1, (Rw.nil 5 (by decide)), h12⟩ ⟨rfl, rfl, rfl, rfl, rfl, rfl, trivial⟩ (fun _ _ => ⟨rfl, rfl⟩) (fun _ _ => ⟨rfl, trivial⟩) (fun _ _ _ ⟨O', hB, hx0, hx1, h36, h12⟩ => ⟨O', hB, h36⟩) ⟨rfl, rfl, rfl⟩ ⟨rfl, rfl⟩ ?_
  rintro k23 a24 s21 x22 w25 cc27 hx28 ⟨O26, hB, hx0, hx1, h36, h12⟩ hf29 hret30 hbrk31
  have rk23 : inI64 (k23 : Int) := rngK hx28 l18
  refine ewp_seq (ewp_region ?_)
  obtain ⟨b38, o39, ce40, hA41, hl42, hd43, rfl, r45⟩ := h12.elem hx28
  refine o_iaE (hA := hA41) (hj := rfl) (hlt := hl42) rfl rfl rfl ?_
  refine o_ld (hc := cat0 hd43) rfl rfl ?_
  refine o_as rfl rfl (o_z ?_)
  refine ewp_seq (ewp_region (o_mv rfl rfl ?_))
  obtain ⟨q46, e47, hf29⟩ := bs hf29
  refine l_callRow 3 (by decide) (O := O26) (c_slices_Clone_Lint_int Fr.lt hx1 e47) rfl rfl fun A53 c54 w48 O49 S50 h51 => ?_
  refine o_as rfl rfl (o_z ?_)
  refine ewp_seq (ewp_seq (ewp_region (o_mv rfl rfl ?_)))
  obtain ⟨o56, e57, hf29⟩ := bs hf29
  obtain ⟨ad59, hp58⟩ := some_of_isNone (hq4.trans (by rw [e57]; rfl))
  refine o_ncE (hA := hp58) rfl rfl ?_
  replace hx0 := hx0.st S50
  obtain ⟨b84, v67, v71, v75, v79, v83, hA85, hF86, hd87, h68, h72, h76, h80⟩ := Gnr_open hx0 e57
  obtain ⟨A69, c70, rfl⟩ := h68.form
  obtain ⟨A73, c74, rfl⟩ := h72.form
  obtain ⟨A77, c78, rfl⟩ := h76.form
  obtain ⟨A81, c82, rfl⟩ := h80.form
  refine o_faE (hA := hA85) rfl rfl ?_
  refine o_fa rfl rfl (o_ld (hc := cat3 hd87) rfl rfl ?_)
  refine o_mv rfl rfl ?_
  obtain ⟨a88, e89, hf29⟩ := bs hf29
  obtain ⟨p91, x90⟩ := atI_some' e89
  obtain ⟨b92, o93, ce94, hA95, hl96, hd97, v99, v100, rfl, h101, h104, r107, z108⟩ := h80.elem' x90
  obtain ⟨A102, c103, rfl⟩ := h101.form
  obtain ⟨A105, c106, rfl⟩ := h104.form
  refine o_iaE (hA := hA95) (hj := (Int.toNat_of_nonneg p91).symm) (hlt := hl96) rfl rfl rfl ?_
  refine o_fa rfl rfl (o_ld (hc := cat3 hd97) rfl rfl ?_)
  refine o_ln rfl rfl ?_
  have l110 : a88.effs.length ≤ 9223372036854775807 := Nat.le_trans h104.len.2.1 h104.len.2.2
  have r109 : inI64 (a88.effs.length : Int) := rngNat l110
  refine o_mv rfl rfl (o_z ?_)
  obtain ⟨res111, hL112, hf29⟩ := bs hf29
  refine ewp_join (aft res111 (fun (s113 : (List Int)) (x114 : Unit) => [(0, (.pointer p3)), (1, (.slice A5 x1.length c6)), (5, (.slice x22.1 s21.length x22.2)), (7, (.int .i64 a24)), (8, (.slice A53 q46.length c54)), (13, (.slice A14 q7.length c15)), (14, (.int .i64 (q7.length : Int))), (15, (.int .i64 (k23 : Int)))]) (fun s113 x114 w' => ∃ O' : Lab, Bs w A w' O' ∧ Vb w' (Fr 0 w' O') (.pointer p3) x0 ∧ Vb w' (Fr 0 w' O') (.slice A5 x1.length c6) x1 ∧ Rw 5 w' O' 91 (.slice x22.1 s21.length x22.2) s21 ∧ Rw 3 w' O' 3 (.slice A53 q46.length c54) s113 ∧ Rw 2 w' O' 3 (.slice A14 q7.length c15) q7)) ?_ ?_
  ·
   refine ewp_block ?_
   replace hB := hB.st S50
   replace hx1 := hx1.st S50
   replace h12 := h12.st S50
   replace h36 := h36.st S50
   refine ewp_rng (σ := (List Int)) (X := Unit) (a88.effs.length) hL112 rfl l110 (fun (s113 : (List Int)) (x114 : Unit) => [(0, (.pointer p3)), (1, (.slice A5 x1.length c6)), (5, (.slice x22.1 s21.length x22.2)), (7, (.int .i64 a24)), (8, (.slice A53 q46.length c54)), (13, (.slice A14 q7.length c15)), (14, (.int .i64 (q7.length : Int))), (15, (.int .i64 (k23 : Int))), (29, (.slice A105 a88.effs.length c106))]) _ (fun s113 x114 w' => ∃ O' : Lab, Bs w A w' O' ∧ Vb w' (Fr 0 w' O') (.pointer p3) x0 ∧ Vb w' (Fr 0 w' O') (.slice A5 x1.length c6) x1 ∧ Rw 5 w' O' 91 (.slice x22.1 s21.length x22.2) s21 ∧ Rw 3 w' O' 3 (.slice A53 q46.length c54) s113 ∧ Rw 2 w' O' 3 (.slice A14 q7.length c15) q7 ∧ Vb w' (Fr 0 w' O') (.slice A105 a88.effs.length c106) a88.effs) _ () ⟨O49, hB, hx0, hx1, h36, h51, h12, h104⟩ ⟨rfl, rfl, rfl, rfl, rfl, rfl, rfl, rfl, rfl, rfl, rfl, trivial⟩ (fun _ _ => ⟨rfl, rfl⟩) (fun _ _ => ⟨rfl, rfl, rfl, rfl, rfl, rfl, rfl, rfl, trivial⟩) (fun _ _ _ ⟨O', hB, hx0, hx1, h36, h128, h12, h104⟩ => ⟨O', hB, hx0, hx1, h36, h128, h12⟩) ⟨rfl, rfl, rfl⟩ ⟨rfl, rfl⟩ ?_
   rintro k115 a116 s113 x114 w117 cc119 hx120 ⟨O118, hB, hx0, hx1, h36, h128, h12, h104⟩ hf121 hret122 hbrk123
   have rk115 : inI64 (k115 : Int) := rngK hx120 l110
   refine ewp_seq (ewp_region ?_)
   obtain ⟨b130, o131, ce132, hA133, hl134, hd135, v137, rfl, h138, r141, r142⟩ := h104.elem' hx120
   obtain ⟨A139, c140, rfl⟩ := h138.form
   refine o_iaE (hA := hA133) (hj := rfl) (hlt := hl134) rfl rfl rfl ?_
   refine o_la (hl := rfl) (hc := hd135) rfl rfl ?_
   refine l_alloc 4 O118 rfl fun g143 w144 O145 S146 h147 => ?_
   refine l_store h147 rfl rfl rfl (nle_b rfl) (allOne rfl) fun w148 S149 h147 => ?_
   replace h147 : Lc 4 w148 O145 g143 76 [(.slice A139 a116.cond.length c140), (.int .i64 a116.var), (.int .i64 a116.val)] := h147
   refine o_z ?_
   refine ewp_seq (ewp_region (o_fa rfl rfl (o_ld (hc := Blk.cell (i := 0) (h147.1) rfl) rfl rfl ?_)))
   refine o_mv rfl rfl ?_
   obtain ⟨q150, e151, hf121⟩ := bs hf121
   replace hx1 := (hx1.st S146).st S149
   replace h138 := (h138.st S146).st S149
   refine l_callA (O := O145) (A := All w148) (R := fun w' F v => Vb w' F v q150) (c_task_Holds (fun _ h => h) (Vb.mono (F := Fr 0 w148 O145) h138 Fr.lt) (Vb.mono (F := Fr 0 w148 O145) hx1 Fr.lt) e151) rfl rfl fun v156 w152 O153 S154 h155 => ?_
   obtain rfl := h155.bool
   cases q150
   case false =>
    replace hf121 := iF hf121
    refine o_z ?_
    refine ewp_false rfl (ewp_skip ?_)
    obtain rfl := sm hf121
    replace hx0 := ((hx0.st S146).st S149).st S154
    replace hB := ((hB.st S146).st S149).st S154
    replace hx1 := hx1.st S154
    replace h12 := ((h12.st S146).st S149).st S154
    replace h36 := ((h36.st S146).st S149).st S154
    replace h104 := ((h104.st S146).st S149).st S154
    replace h128 := ((h128.st S146).st S149).st S154
    exact show Exists _ from ⟨_, (), rfl, ⟨rfl, rfl, rfl, rfl, rfl, rfl, rfl, rfl, rfl, rfl, rfl, trivial⟩, _, hB, hx0, hx1, h36, h128, h12, h104⟩
   replace hf121 := iT hf121
   refine o_z ?_
   refine ewp_true rfl (ewp_region (o_mv rfl rfl (o_fa rfl rfl ?_)))
   replace h147 := h147.st S154
   refine o_ld (hc := Blk.cell (i := 1) (h147.1) rfl) rfl rfl ?_
   refine o_fa rfl rfl (o_ld (hc := Blk.cell (i := 2) (h147.1) rfl) rfl rfl ?_)
   obtain ⟨a157, e158, hf121⟩ := bs hf121
   obtain ⟨p160, x159⟩ := atI_some' e158
   replace h128 := ((h128.st S146).st S149).st S154
   obtain ⟨b161, o162, ce163, hA164, hl165, hd166, rfl, r168⟩ := h128.elem x159
   refine o_iaE (hA := hA164) (hj := (Int.toNat_of_nonneg p160).symm) (hlt := hl165) rfl rfl rfl ?_
   refine l_setE rfl h128 (a := a116.val) (vInt r142) hA164 rfl rfl (lt_of_get x159) fun w169 S170 h128 => ?_
   refine o_z ?_
   obtain rfl := sm hf121
   replace hx0 := (((hx0.st S146).st S149).st S154).st S170
   replace hB := (((hB.st S146).st S149).st S154).st S170
   replace hx1 := (hx1.st S154).st S170
   replace h12 := (((h12.st S146).st S149).st S154).st S170
   replace h36 := (((h36.st S146).st S149).st S154).st S170
   replace h104 := (((h104.st S146).st S149).st S154).st S170
   exact show Exists _ from ⟨_, (), rfl, ⟨rfl, rfl, rfl, rfl, rfl, rfl, rfl, rfl, rfl, rfl, rfl, trivial⟩, _, hB, hx0, hx1, h36, h128, h12, h104⟩
  replace hB := hB.st S50
  replace hx1 := hx1.st S50
  replace h12 := h12.st S50
  replace h36 := h36.st S50
  rintro l171 w172 ⟨s175, x176, rfl, hs174, O173, hB, hx0, hx1, h36, h128, h12⟩
  replace hf29 := fin_done hf29
  refine ewp_sub _ hs174 ?_
  refine ewp_region (o_mv rfl rfl (o_mv rfl rfl (o_mv rfl rfl (o_bd rfl rfl rfl ?_))))
  obtain ⟨O177, S178, h128⟩ := h128.freeze
  obtain ⟨u179, e180, hf29⟩ := bs hf29
  obtain ⟨e180, e181, e182⟩ := appI_some e180
  replace h36 := h36.st S178
  refine l_append1 rfl (a := (⟨a24, s175⟩ : Suc)) h36 (Vb.ofAgg (cs := [(.int .i64 a24), (.slice A53 q46.length c54)]) (x := (⟨a24, s175⟩ : Suc)) rfl ⟨_, rfl, h128, r45⟩) (fun _ => rfl) rfl (by decide) (by decide) e181 e182 ⟨rfl, rfl⟩ fun g183 A184 c185 w186 O187 S188 h189 => ?_
  rw [← e180] at h189 ⊢
  refine o_as rfl rfl (o_z ?_)
  obtain rfl := sm hf29
  replace hB := (hB.st S178).st S188
  replace hx0 := (hx0.st S178).st S188
  replace hx1 := (hx1.st S178).st S188
  replace h12 := (h12.st S178).st S188
  exact show Exists _ from ⟨_, (A184, c185), rfl, ⟨rfl, rfl, rfl, rfl, rfl, rfl, trivial⟩, _, hB, hx0, hx1, h189, h12⟩
 replace hB := hB.st S11
 rintro l191 w192 ⟨s195, x196, rfl, hs194, O193, hB, h36⟩
 replace hm := fin_done hm
 refine ewp_sub _ hs194 ?_
 refine ewp_seq (ewp_region (o_mv rfl rfl (o_as rfl rfl (o_z ?_))))
 refine ewp_ret ?_
 obtain ⟨O197, S198, h36⟩ := h36.freeze
 obtain rfl := sm hm
 replace hB := hB.st S198
 exact ret1v rfl (res_tmp rfl) ⟨hB.ext, (Vb.mono (F := Fr 0 w192 O197) h36 hB.out)⟩
end
theorem clone_eq {s : List Int} (hl : s.length ≤ 1000000) : m_slices_Clone_Lint_int s = some s := if_pos ⟨by omega, by omega⟩
theorem succ_eq {t : Tsk} {s : List Int} (hok : TaskOk t) (hl : s.length ≤ 1000000) : m_succgen_Generator_Successors (some ⟨t⟩) s = some ((appS t s).map (sucOf t s)) := by
  have ha : m_succgen_Generator_Applicable (some ⟨t⟩) s = some (appS t s) := if_pos hl
  have hol := hok.2.1
  have hal := appS_len t s
  unfold m_succgen_Generator_Successors
  rw [ha, bnd_some]
  rw [rng_from (fun k => ((appS t s).take k).map (sucOf t s)) ?_ ?_, bnd_some, fin_d, List.take_length]
  · rfl
  intro k x hk
  have hkl := lt_of_get hk
  obtain ⟨hst, hmem⟩ := appS_mem (List.mem_of_getElem? hk)
  obtain ⟨j, o, rfl, hj, hp⟩ := appl_mem hmem
  rw [clone_eq hl, bnd_some, bnd_some, atI_eq, hj, bnd_some, effs_run (hok.effs hst j o hj) m_task_Holds (fun _ _ => rfl) s rfl, bnd_some, fin_d, appI_eq (by simp; omega) (by simp; omega), bnd_some, List.take_add_one, hk, List.map_append]
  simp [sucOf, hj, succ]
theorem new_ok {t : Tsk} (h : TaskOk t) : m_succgen_New t = some (some ⟨t⟩, ⟨0⟩) := by unfold m_succgen_New; rw [bof_t h, if_t, check_ok.2 h]
end
section
open Go Go.RowKit
abbrev U64 := BitVec 64
instance : Rp U64 where
  isAgg := false
  size := 1
  R _ _ cs x := cs = [.int .u64 (x.toNat : Int)]
  len := by rintro w F cs x rfl; rfl
  one := by
    rintro w F cs x rfl u hu
    have : u = .int .u64 (x.toNat : Int) := by simpa using hu
    subst this; rfl
  agree := fun h _ => h
  mono := fun h _ => h
theorem Vb.u64 {w : World} {F : Nat → Prop} {v : Value} {x : U64} (h : Vb w F v x) : v = .int .u64 (x.toNat : Int) := by
  have : [v] = [.int .u64 (x.toNat : Int)] := h
  simpa using this
theorem vU64 {w : World} {F : Nat → Prop} {x : U64} : Vb w F (.int .u64 (x.toNat : Int)) x := rfl
theorem wrapU (a : Int) : IntKind.u64.wrap a = a % 18446744073709551616 := by simp [IntKind.wrap, IntKind.bits, IntKind.signed]
theorem wrapN (x : BitVec 64) : IntKind.u64.wrap (x.toNat : Int) = (x.toNat : Int) := by
  rw [wrapU]
  have := x.isLt
  omega
theorem ofIntU (x : U64) : BitVec.ofInt 64 (x.toNat : Int) = x := by simp
def shlU (a : U64) (q : Int) : Option U64 := if 0 ≤ q then some (a <<< q.toNat) else none
def shrU (a : U64) (q : Int) : Option U64 := if 0 ≤ q then some (a >>> q.toNat) else none
def shlI (a q : Int) : Option Int := if 0 ≤ q then some (wr (a * 2 ^ (min q.toNat 64))) else none
theorem shlI_rng {a q c : Int} (h : shlI a q = some c) : inI64 c := by
  unfold shlI at h
  split at h
  · rw [← sm h]; exact wr_rng _
  · cases h
theorem toIntR (a : U64) : inI64 a.toInt := by
  have h1 := BitVec.toInt_lt (x := a)
  have h2 := BitVec.le_toInt (x := a)
  simp at h1 h2
  exact ⟨by omega, by omega⟩
section
variable {P : Program} {l : Env} {w : World} {dst : Option Tmp} {ty : TypeId} {pos : String} {aft : Array Edge}
theorem ev_uan {t u : TypeId} {x y : Operand} {a b : U64} (hx : opv l x = some (.int .u64 (a.toNat : Int))) (hy : opv l y = some (.int .u64 (b.toNat : Int))) : Ev P ⟨dst, .binOp .and t x y u, ty, pos, aft, none⟩ l w (.int .u64 ((a &&& b).toNat : Int)) := fun _ _ d ha => by
  have h := wrapN (a &&& b)
  have h1 : (BitVec.ofInt IntKind.u64.bits (a.toNat : Int)) = a := ofIntU a
  have h2 : (BitVec.ofInt IntKind.u64.bits (b.toNat : Int)) = b := ofIntU b
  simp only [execOp, ha.eval hx, ha.eval hy, eqGuard, binOp, Op.intBits, h1, h2]
  simp
  exact h.trans (by simp)
theorem ev_uor {t u : TypeId} {x y : Operand} {a b : U64} (hx : opv l x = some (.int .u64 (a.toNat : Int))) (hy : opv l y = some (.int .u64 (b.toNat : Int))) : Ev P ⟨dst, .binOp .or t x y u, ty, pos, aft, none⟩ l w (.int .u64 ((a ||| b).toNat : Int)) := fun _ _ d ha => by
  have h := wrapN (a ||| b)
  have h1 : (BitVec.ofInt IntKind.u64.bits (a.toNat : Int)) = a := ofIntU a
  have h2 : (BitVec.ofInt IntKind.u64.bits (b.toNat : Int)) = b := ofIntU b
  simp only [execOp, ha.eval hx, ha.eval hy, eqGuard, binOp, Op.intBits, h1, h2]
  simp
  exact h.trans (by simp)
theorem ev_uxo {t u : TypeId} {x y : Operand} {a b : U64} (hx : opv l x = some (.int .u64 (a.toNat : Int))) (hy : opv l y = some (.int .u64 (b.toNat : Int))) : Ev P ⟨dst, .binOp .xor t x y u, ty, pos, aft, none⟩ l w (.int .u64 ((a ^^^ b).toNat : Int)) := fun _ _ d ha => by
  have h := wrapN (a ^^^ b)
  have h1 : (BitVec.ofInt IntKind.u64.bits (a.toNat : Int)) = a := ofIntU a
  have h2 : (BitVec.ofInt IntKind.u64.bits (b.toNat : Int)) = b := ofIntU b
  simp only [execOp, ha.eval hx, ha.eval hy, eqGuard, binOp, Op.intBits, h1, h2]
  simp
  exact h.trans (by simp)
theorem ev_uns {t u : TypeId} {x y : Operand} {a b : U64} (hx : opv l x = some (.int .u64 (a.toNat : Int))) (hy : opv l y = some (.int .u64 (b.toNat : Int))) : Ev P ⟨dst, .binOp .andNot t x y u, ty, pos, aft, none⟩ l w (.int .u64 ((a &&& ~~~b).toNat : Int)) := fun _ _ d ha => by
  have h := wrapN (a &&& ~~~b)
  have h1 : (BitVec.ofInt IntKind.u64.bits (a.toNat : Int)) = a := ofIntU a
  have h2 : (BitVec.ofInt IntKind.u64.bits (b.toNat : Int)) = b := ofIntU b
  simp only [execOp, ha.eval hx, ha.eval hy, eqGuard, binOp, Op.intBits, h1, h2]
  simp
  exact h.trans (by simp)
theorem ev_uad {t u : TypeId} {x y : Operand} {a b : U64} (hx : opv l x = some (.int .u64 (a.toNat : Int))) (hy : opv l y = some (.int .u64 (b.toNat : Int))) : Ev P ⟨dst, .binOp .add t x y u, ty, pos, aft, none⟩ l w (.int .u64 ((a + b).toNat : Int)) := fun _ _ d ha => by
  have h : IntKind.u64.wrap ((a.toNat : Int) + (b.toNat : Int)) = ((a + b).toNat : Int) := by
    rw [wrapU]
    have h1 := a.isLt
    have h2 := b.isLt
    rw [BitVec.toNat_add]; omega
  simp [execOp, ha.eval hx, ha.eval hy, eqGuard, binOp, Op.intArith, h]
theorem ev_usb {t u : TypeId} {x y : Operand} {a b : U64} (hx : opv l x = some (.int .u64 (a.toNat : Int))) (hy : opv l y = some (.int .u64 (b.toNat : Int))) : Ev P ⟨dst, .binOp .sub t x y u, ty, pos, aft, none⟩ l w (.int .u64 ((a - b).toNat : Int)) := fun _ _ d ha => by
  have h : IntKind.u64.wrap ((a.toNat : Int) - (b.toNat : Int)) = ((a - b).toNat : Int) := by
    rw [wrapU]
    have h1 := a.isLt
    have h2 := b.isLt
    rw [BitVec.toNat_sub]; omega
  simp [execOp, ha.eval hx, ha.eval hy, eqGuard, binOp, Op.intArith, h]
theorem ev_uml {t u : TypeId} {x y : Operand} {a b : U64} (hx : opv l x = some (.int .u64 (a.toNat : Int))) (hy : opv l y = some (.int .u64 (b.toNat : Int))) : Ev P ⟨dst, .binOp .mul t x y u, ty, pos, aft, none⟩ l w (.int .u64 ((a * b).toNat : Int)) := fun _ _ d ha => by
  have h : IntKind.u64.wrap ((a.toNat : Int) * (b.toNat : Int)) = ((a * b).toNat : Int) := by
    rw [wrapU]
    have h1 := a.isLt
    have h2 := b.isLt
    rw [BitVec.toNat_mul, Int.natCast_emod, Int.natCast_mul]; rfl
  simp [execOp, ha.eval hx, ha.eval hy, eqGuard, binOp, Op.intArith, h]
theorem ev_ush {t u : TypeId} {x y : Operand} {a c : U64} {q : Int} {k : IntKind} (hx : opv l x = some (.int .u64 (a.toNat : Int))) (hy : opv l y = some (.int k q)) (he : shlU a q = some c) : Ev P ⟨dst, .binOp .shl t x y u, ty, pos, aft, none⟩ l w (.int .u64 (c.toNat : Int)) := fun _ _ d ha => by
  unfold shlU at he
  split at he
  · rename_i hq
    have hc := sm he
    subst hc
    have h : IntKind.u64.wrap ((a.toNat : Int) * 2 ^ (min q.toNat IntKind.u64.bits)) = ((a <<< q.toNat).toNat : Int) := by
      rw [wrapU, BitVec.toNat_shiftLeft, Nat.shiftLeft_eq]
      show (a.toNat : Int) * 2 ^ (min q.toNat 64) % 18446744073709551616 = ((a.toNat * 2 ^ q.toNat % 18446744073709551616 : Nat) : Int)
      by_cases hk : q.toNat ≤ 64
      · rw [Nat.min_eq_left hk, Int.natCast_emod, Int.natCast_mul, Int.natCast_pow]; rfl
      · have hb : q.toNat = 64 + (q.toNat - 64) := by omega
        rw [Nat.min_eq_right (by omega), hb, Nat.pow_add]
        have e1 : a.toNat * (2 ^ 64 * 2 ^ (q.toNat - 64)) % 18446744073709551616 = 0 := by
          rw [← Nat.mul_assoc, Nat.mul_right_comm]
          exact Nat.mul_mod_left _ _
        have e2 : (a.toNat : Int) * 2 ^ 64 % 18446744073709551616 = 0 := Int.mul_emod_left _ _
        rw [e1, e2]; rfl
    have hn : ¬ q < 0 := by omega
    simp [execOp, ha.eval hx, ha.eval hy, eqGuard, binOp, Op.shift, hn, h]
  · cases he
theorem ev_usr {t u : TypeId} {x y : Operand} {a c : U64} {q : Int} {k : IntKind} (hx : opv l x = some (.int .u64 (a.toNat : Int))) (hy : opv l y = some (.int k q)) (he : shrU a q = some c) : Ev P ⟨dst, .binOp .shr t x y u, ty, pos, aft, none⟩ l w (.int .u64 (c.toNat : Int)) := fun _ _ d ha => by
  unfold shrU at he
  split at he
  · rename_i hq
    have hc := sm he
    subst hc
    have h : (a.toNat : Int).fdiv (2 ^ (min q.toNat IntKind.u64.bits)) = ((a >>> q.toNat).toNat : Int) := by
      rw [BitVec.toNat_ushiftRight, Nat.shiftRight_eq_div_pow]
      show (a.toNat : Int).fdiv (2 ^ (min q.toNat 64)) = _
      have hl := a.isLt
      rw [Int.fdiv_eq_ediv_of_nonneg _ (by exact_mod_cast Nat.zero_le (2 ^ (min q.toNat 64)))]
      by_cases hk : q.toNat ≤ 64
      · rw [Nat.min_eq_left hk, Int.natCast_ediv, Int.natCast_pow]; rfl
      · rw [Nat.min_eq_right (by omega)]
        have e1 : a.toNat / 2 ^ q.toNat = 0 := Nat.div_eq_of_lt (Nat.lt_of_lt_of_le hl (Nat.pow_le_pow_right (by decide) (by omega)))
        rw [e1]
        omega
    have hn : ¬ q < 0 := by omega
    simp [execOp, ha.eval hx, ha.eval hy, eqGuard, binOp, Op.shift, hn, h]
  · cases he
theorem ev_ish {t u : TypeId} {x y : Operand} {a c q : Int} (hx : opv l x = some (.int .i64 a)) (hy : opv l y = some (.int .i64 q)) (he : shlI a q = some c) : Ev P ⟨dst, .binOp .shl t x y u, ty, pos, aft, none⟩ l w (.int .i64 c) := fun _ _ d ha => by
  unfold shlI at he
  split at he
  · rename_i hq
    have hc := sm he
    subst hc
    have hn : ¬ q < 0 := by omega
    simp [execOp, ha.eval hx, ha.eval hy, eqGuard, binOp, Op.shift, hn, wr, IntKind.bits]
  · cases he
theorem ev_cvU {s t : TypeId} {k : IntKind} [hs : TInt P s k] [ht : TInt P t .u64] {x : Operand} {a : Int} (hx : opv l x = some (.int k a)) : Ev P ⟨dst, .convert s t x, ty, pos, aft, none⟩ l w (.int .u64 ((BitVec.ofInt 64 a).toNat : Int)) := fun _ _ d ha => by
  have h : IntKind.u64.wrap a = ((BitVec.ofInt 64 a).toNat : Int) := by
    rw [wrapU, BitVec.toNat_ofInt]
    have : (0 : Int) ≤ a % 18446744073709551616 := by omega
    simp
    omega
  simp [execOp, ha.eval hx, convert, run_underlying hs.eq, run_underlying ht.eq, Conv.intToInt, h]
theorem ev_cvI {s t : TypeId} [hs : TInt P s .u64] [ht : TInt P t .i64] {x : Operand} {a : U64} (hx : opv l x = some (.int .u64 (a.toNat : Int))) : Ev P ⟨dst, .convert s t x, ty, pos, aft, none⟩ l w (.int .i64 a.toInt) := fun _ _ d ha => by
  have h : IntKind.i64.wrap (a.toNat : Int) = a.toInt := by
    rw [IntKind.wrap_i64, BitVec.toInt_eq_toNat_cond]
    have := a.isLt
    split <;> omega
  simp [execOp, ha.eval hx, convert, run_underlying hs.eq, run_underlying ht.eq, Conv.intToInt, h]
end
section
variable {P : Program} {n : Nat} {ops : Array Oper} {Q : Post} {rest : List Oper} {l : Env} {w : World} {d : Tmp} {ty : TypeId} {pos : String} {aft : Array Edge}
theorem o_uxo {t u : TypeId} {x y : Operand} {a b : U64} (hx : opv l x = some (.int .u64 (a.toNat : Int))) (hy : opv l y = some (.int .u64 (b.toNat : Int))) (hd : Nat.blt d n = true) (h : owp P n ops Q rest ((d, .int .u64 ((a ^^^ b).toNat : Int)) :: l) w)  : owp P n ops Q (⟨some d, .binOp .xor t x y u, ty, pos, aft, none⟩ :: rest) l w := owp_ev (ev_uxo hx hy) hd h
theorem o_uad {t u : TypeId} {x y : Operand} {a b : U64} (hx : opv l x = some (.int .u64 (a.toNat : Int))) (hy : opv l y = some (.int .u64 (b.toNat : Int))) (hd : Nat.blt d n = true) (h : owp P n ops Q rest ((d, .int .u64 ((a + b).toNat : Int)) :: l) w)  : owp P n ops Q (⟨some d, .binOp .add t x y u, ty, pos, aft, none⟩ :: rest) l w := owp_ev (ev_uad hx hy) hd h
theorem o_uml {t u : TypeId} {x y : Operand} {a b : U64} (hx : opv l x = some (.int .u64 (a.toNat : Int))) (hy : opv l y = some (.int .u64 (b.toNat : Int))) (hd : Nat.blt d n = true) (h : owp P n ops Q rest ((d, .int .u64 ((a * b).toNat : Int)) :: l) w)  : owp P n ops Q (⟨some d, .binOp .mul t x y u, ty, pos, aft, none⟩ :: rest) l w := owp_ev (ev_uml hx hy) hd h
theorem o_usr {t u : TypeId} {x y : Operand} {a c : U64} {q : Int} {k : IntKind} (hx : opv l x = some (.int .u64 (a.toNat : Int))) (hy : opv l y = some (.int k q)) (hd : Nat.blt d n = true) (h : owp P n ops Q rest ((d, .int .u64 (c.toNat : Int)) :: l) w) (he : shrU a q = some c := by assumption) : owp P n ops Q (⟨some d, .binOp .shr t x y u, ty, pos, aft, none⟩ :: rest) l w := owp_ev (ev_usr hx hy he) hd h
theorem o_ish {t u : TypeId} {x y : Operand} {a c q : Int} (hx : opv l x = some (.int .i64 a)) (hy : opv l y = some (.int .i64 q)) (hd : Nat.blt d n = true) (h : owp P n ops Q rest ((d, .int .i64 c) :: l) w) (he : shlI a q = some c := by assumption) : owp P n ops Q (⟨some d, .binOp .shl t x y u, ty, pos, aft, none⟩ :: rest) l w := owp_ev (ev_ish hx hy he) hd h
theorem o_cvU {s t : TypeId} {k : IntKind} [TInt P s k] [TInt P t .u64] {x : Operand} {a : Int} (hx : opv l x = some (.int k a)) (hd : Nat.blt d n = true) (h : owp P n ops Q rest ((d, .int .u64 ((BitVec.ofInt 64 a).toNat : Int)) :: l) w)  : owp P n ops Q (⟨some d, .convert s t x, ty, pos, aft, none⟩ :: rest) l w := owp_ev (ev_cvU hx) hd h
theorem o_cvI {s t : TypeId} [TInt P s .u64] [TInt P t .i64] {x : Operand} {a : U64} (hx : opv l x = some (.int .u64 (a.toNat : Int))) (hd : Nat.blt d n = true) (h : owp P n ops Q rest ((d, .int .i64 a.toInt) :: l) w)  : owp P n ops Q (⟨some d, .convert s t x, ty, pos, aft, none⟩ :: rest) l w := owp_ev (ev_cvI hx) hd h
variable {S : World → Prop} {r : List (Nat × Bool)} {i : Nat}
theorem h_uan {t u : TypeId} {x y : Operand} {a b : U64} (hi : ops[i]? = some ⟨some d, .binOp .and t x y u, ty, pos, aft, none⟩) (hx : opv l x = some (.int .u64 (a.toNat : Int))) (hy : opv l y = some (.int .u64 (b.toNat : Int))) (hd : Nat.blt d n = true) (h : hwp P n ops Q S r ((d, .int .u64 ((a &&& b).toNat : Int)) :: l) w)  : hwp P n ops Q S ((i, true) :: r) l w := hwp_o hi (hwq_ev (fun _ _ => ev_uan hx hy) hd h)
theorem h_uor {t u : TypeId} {x y : Operand} {a b : U64} (hi : ops[i]? = some ⟨some d, .binOp .or t x y u, ty, pos, aft, none⟩) (hx : opv l x = some (.int .u64 (a.toNat : Int))) (hy : opv l y = some (.int .u64 (b.toNat : Int))) (hd : Nat.blt d n = true) (h : hwp P n ops Q S r ((d, .int .u64 ((a ||| b).toNat : Int)) :: l) w)  : hwp P n ops Q S ((i, true) :: r) l w := hwp_o hi (hwq_ev (fun _ _ => ev_uor hx hy) hd h)
theorem h_uns {t u : TypeId} {x y : Operand} {a b : U64} (hi : ops[i]? = some ⟨some d, .binOp .andNot t x y u, ty, pos, aft, none⟩) (hx : opv l x = some (.int .u64 (a.toNat : Int))) (hy : opv l y = some (.int .u64 (b.toNat : Int))) (hd : Nat.blt d n = true) (h : hwp P n ops Q S r ((d, .int .u64 ((a &&& ~~~b).toNat : Int)) :: l) w)  : hwp P n ops Q S ((i, true) :: r) l w := hwp_o hi (hwq_ev (fun _ _ => ev_uns hx hy) hd h)
theorem h_usb {t u : TypeId} {x y : Operand} {a b : U64} (hi : ops[i]? = some ⟨some d, .binOp .sub t x y u, ty, pos, aft, none⟩) (hx : opv l x = some (.int .u64 (a.toNat : Int))) (hy : opv l y = some (.int .u64 (b.toNat : Int))) (hd : Nat.blt d n = true) (h : hwp P n ops Q S r ((d, .int .u64 ((a - b).toNat : Int)) :: l) w)  : hwp P n ops Q S ((i, true) :: r) l w := hwp_o hi (hwq_ev (fun _ _ => ev_usb hx hy) hd h)
theorem h_ush {t u : TypeId} {x y : Operand} {a c : U64} {q : Int} {k : IntKind} (hi : ops[i]? = some ⟨some d, .binOp .shl t x y u, ty, pos, aft, none⟩) (hx : opv l x = some (.int .u64 (a.toNat : Int))) (hy : opv l y = some (.int k q)) (hd : Nat.blt d n = true) (h : hwp P n ops Q S r ((d, .int .u64 (c.toNat : Int)) :: l) w) (he : shlU a q = some c := by assumption) : hwp P n ops Q S ((i, true) :: r) l w := hwp_o hi (hwq_ev (fun _ _ => ev_ush hx hy he) hd h)
theorem h_usr {t u : TypeId} {x y : Operand} {a c : U64} {q : Int} {k : IntKind} (hi : ops[i]? = some ⟨some d, .binOp .shr t x y u, ty, pos, aft, none⟩) (hx : opv l x = some (.int .u64 (a.toNat : Int))) (hy : opv l y = some (.int k q)) (hd : Nat.blt d n = true) (h : hwp P n ops Q S r ((d, .int .u64 (c.toNat : Int)) :: l) w) (he : shrU a q = some c := by assumption) : hwp P n ops Q S ((i, true) :: r) l w := hwp_o hi (hwq_ev (fun _ _ => ev_usr hx hy he) hd h)
theorem h_cvU {s t : TypeId} {k : IntKind} [TInt P s k] [TInt P t .u64] {x : Operand} {a : Int} (hi : ops[i]? = some ⟨some d, .convert s t x, ty, pos, aft, none⟩) (hx : opv l x = some (.int k a)) (hd : Nat.blt d n = true) (h : hwp P n ops Q S r ((d, .int .u64 ((BitVec.ofInt 64 a).toNat : Int)) :: l) w)  : hwp P n ops Q S ((i, true) :: r) l w := hwp_o hi (hwq_ev (fun _ _ => ev_cvU hx) hd h)
theorem h_cvI {s t : TypeId} [TInt P s .u64] [TInt P t .i64] {x : Operand} {a : U64} (hi : ops[i]? = some ⟨some d, .convert s t x, ty, pos, aft, none⟩) (hx : opv l x = some (.int .u64 (a.toNat : Int))) (hd : Nat.blt d n = true) (h : hwp P n ops Q S r ((d, .int .i64 a.toInt) :: l) w)  : hwp P n ops Q S ((i, true) :: r) l w := hwp_o hi (hwq_ev (fun _ _ => ev_cvI hx) hd h)
end
end
section
open Go Go.RowKit
attribute [local irreducible] ewp owp hwp hwq hws Ev Evg Fn retPost loud loudS Res1
attribute [local irreducible] hwx loudX
structure QEn where
  key : Int
  tie : Int
  item : Int
  number : Int
instance : Rp QEn where
  isAgg := true
  size := 4
  R w F cs x := cs = [.int .i64 x.key, .int .i64 x.tie, .int .i64 x.item, .int .i64 x.number] ∧ inI64 x.key ∧ inI64 x.tie ∧ inI64 x.item ∧ inI64 x.number
  len := by rintro w F cs x ⟨rfl, h0, h1, h2, h3⟩; rfl
  one := by rintro w F cs x ⟨rfl, h0, h1, h2, h3⟩ u hu; simp at hu; rcases hu with rfl | rfl | rfl | rfl <;> first | rfl | exact Vb.one rfl (by assumption)
  agree := by rintro w w' F cs x ⟨rfl, h0, h1, h2, h3⟩ ha; exact ⟨rfl, h0, h1, h2, h3⟩
  mono := by rintro w F G cs x ⟨rfl, h0, h1, h2, h3⟩ ha; exact ⟨rfl, h0, h1, h2, h3⟩
structure Que where
  heap : List QEn
  next : Int
instance : Ow Que where
  R w F M v x := ∃ (g : Nat) (L : Lab) (c0 : Value), v = .pointer (some ⟨g, 0, none⟩) ∧ Blk w g 200 [c0, .int .i64 x.next] ∧ M g ∧ L g = 0 ∧ RwM w F (fun k => M k ∧ L k = 1) 202 c0 x.heap ∧ inI64 x.next
  agree := by rintro w w' F M v x ⟨g, L, c0, rfl, hb, hM, hL, h0, h1⟩ a1 a2; exact ⟨g, L, c0, rfl, hb.keep (a2 g hM), hM, hL, h0.agree a1 fun k hk => a2 k hk.1, h1⟩
  mono := by rintro w F M F' M' v x ⟨g, L, c0, rfl, hb, hM, hL, h0, h1⟩ a1 a2 a3; exact ⟨g, L, c0, rfl, hb, a2 g hM, hL, h0.mono a1 (fun k hk => ⟨a2 k hk.1, hk.2⟩) fun k hf hm => a3 k hf hm.1, h1⟩
instance : OwP Que := ⟨by rintro w F M v x ⟨g, L, c0, rfl, _⟩; exact ⟨g, rfl⟩⟩
theorem Que.opn {i : Nat} {w : World} {O : Lab} {p : Nat} {x : Que} (h : Ob i w O (.pointer (some ⟨p, 0, none⟩)) x) (l0 l1 : Nat) (hl : l0 ≠ 0 ∧ l1 ≠ 0) : ∃ (O' : Lab) (c0 : Value), St (eT i) w O w O' ∧ (∀ k, Fr i w O k → ∃ q, q ∈ [l0, l1] ∧ Fr q w O' k) ∧ Lc l0 w O' p 200 [c0, .int .i64 x.next] ∧ Rw l1 w O' 202 c0 x.heap ∧ inI64 x.next := by
  obtain ⟨⟨g, L, c0, hv, hb, hM, hL, h0, h1⟩, hi⟩ := h
  obtain rfl : p = g := by injection hv with hv; injection hv with hv; injection hv
  exact ⟨part O i L [l0, l1], c0, part_st hi, part_all (by simp), ⟨hb, (part_fr (j := 0) rfl p ⟨hM, hL⟩).2⟩, h0.rw (part_fr0 hi) (part_fr (j := 1) rfl) hl.2, h1⟩
theorem Que.shut {w : World} {O : Lab} {p : Nat} {x : Que} {l0 l1 : Nat} {c0 : Value} (hd : ¬ 0 ∈ [l0, l1] ∧ [l0, l1].idxOf l0 = 0 ∧ [l0, l1].idxOf l1 = 1) (hb : Lc l0 w O p 200 [c0, .int .i64 x.next]) (h0 : Rw l1 w O 202 c0 x.heap) (h1 : inI64 x.next) : ∃ O', St (· ∈ [l0, l1]) w O w O' ∧ (∀ k, Fr 0 w O k → Fr 0 w O' k) ∧ (∀ q, q ∈ [l0, l1] → ∀ k, Fr q w O k → Fr l0 w O' k) ∧ Ob l0 w O' (.pointer (some ⟨p, 0, none⟩)) x := by
  have hb1 : l0 ≠ 0 := fun e => hd.1 (by simp [e])
  have hg := whole_fr (i := l0) hd.2.1 (by simp) p ⟨hb.1.lt, hb.2⟩
  exact ⟨whole O l0 [l0, l1], whole_st, whole_fr0 hd.1, whole_all, ⟨p, fun k => [l0, l1].idxOf (O k), c0, rfl, hb.1, hg.1, hg.2, h0.m (whole_fr0 hd.1) (whole_fr hd.2.2 (by simp)) (fun k a b => frNe0 hb1 k a b.1), h1⟩, hb1⟩
noncomputable def m_pqueue_New  : Option (Option Que) :=
  some (some (⟨([] : List QEn), 0⟩ : Que))
theorem c_pqueue_New {w : World} {O : Lab} (j0 : Nat) (hj0 : j0 ≠ 0) {r : (Option Que)} (hm : m_pqueue_New  = some r) :
    Fn Tryz.prog 92 [] w fun v w' => ∃ O', St nT w O w' O' ∧ Obo j0 w' O' v r := by
 obtain ⟨O0, hE, hz0⟩ := ent0 (w := w) (O := O)
 have hB : Bm w O0 w O0 := Bm.refl
 refine fn_enter Tryz.func92 rfl Tryz.ntmps92 rfl ?_
 unfold m_pqueue_New at hm
 refine ewp_seq (ewp_region (o_as rfl rfl (o_z ?_)))
 refine ewp_seq (ewp_region (o_bd rfl rfl rfl ?_))
 refine l_box 2 O0 rfl rfl fun g1 w2 O3 S4 h5 => ?_
 replace h5 : Lc 2 w2 O3 g1 200 [(.slice none 0 0), (.int .i64 0)] := h5
 refine o_as rfl rfl (o_z ?_)
 refine ewp_ret ?_
 have h6 : Rw 3 w2 O3 202 (.slice none 0 0) ([] : List QEn) := Rw.nil 3 (by decide)
 obtain ⟨O8, S9, hz11, ha12, h10⟩ := Que.shut (x := (⟨([] : List QEn), 0⟩ : Que)) (l0 := 2) (l1 := 3) (by decide) h5 h6 (show inI64 0 from by decide)
 obtain rfl := sm hm
 replace hB := (hB.st S4).st S9
 obtain ⟨O', hS', hz, hl⟩ := hE.leave (fun q => if q = 2 then j0 else 0) rfl hB
 exact ret1v rfl (res_tmp rfl) ⟨O', hS', (Ob.leave h10 hz (hl 2 (by decide) (by decide)) hj0)⟩
noncomputable def m_pqueue_before (x0 : QEn) (x1 : QEn) : Option Bool :=
  if x0.key ≠ x1.key then (bnd (if x0.key < x1.key then (some true) else (some false) : Option Bool) fun y24 => some y24) else (if x0.tie ≠ x1.tie then (bnd (if x0.tie < x1.tie then (some true) else (some false) : Option Bool) fun y34 => some y34) else (bnd (if x0.number < x1.number then (some true) else (some false) : Option Bool) fun y43 => some y43))
theorem c_pqueue_before {w : World} {A : Nat → Prop} (hA : ∀ k, A k → k < w.heap.size) {vx0 : Value} {x0 : QEn} (hx0 : Vb w A vx0 x0) {vx1 : Value} {x1 : QEn} (hx1 : Vb w A vx1 x1) {r : Bool} (hm : m_pqueue_before x0 x1 = some r) :
    Fn Tryz.prog 132 [vx0, vx1] w fun v w' => Ext w w' ∧ Vb w' (upA A w w') v r := by
 obtain ⟨O, hB, hA0⟩ := enter hA
 replace hx0 := hx0.mono hA0
 obtain ⟨cs3, rfl, rfl, r4, r5, r6, r7⟩ := hx0
 replace hx1 := hx1.mono hA0
 obtain ⟨cs8, rfl, rfl, r9, r10, r11, r12⟩ := hx1
 refine fn_enter Tryz.func132 rfl Tryz.ntmps132 rfl ?_
 unfold m_pqueue_before at hm
 refine ewp_seq (ewp_region (l_box 2 O rfl rfl fun g13 w14 O15 S16 h17 => ?_))
 replace h17 : Lc 2 w14 O15 g13 202 [(.int .i64 x0.key), (.int .i64 x0.tie), (.int .i64 x0.item), (.int .i64 x0.number)] := h17
 refine l_box 3 O15 rfl rfl fun g18 w19 O20 S21 h22 => ?_
 replace h22 : Lc 3 w19 O20 g18 202 [(.int .i64 x1.key), (.int .i64 x1.tie), (.int .i64 x1.item), (.int .i64 x1.number)] := h22
 refine o_as rfl rfl (o_z ?_)
 refine ewp_seq (ewp_seq (ewp_region (o_fa rfl rfl ?_)))
 replace h17 := h17.st S21
 refine o_ld (hc := Blk.cell (i := 0) (h17.1) rfl) rfl rfl ?_
 refine o_fa rfl rfl (o_ld (hc := Blk.cell (i := 0) (h22.1) rfl) rfl rfl ?_)
 refine o_neS rfl rfl rfl (fun c23 => ?_) fun c23 => ?_
 ·
  replace hm := ip hm c23
  refine o_z ?_
  refine ewp_true rfl (ewp_seq ?_)
  obtain ⟨y24, hy25, hm⟩ := bs hm
  refine ewp_join (fun l' w' => ∃ (x27 : Unit) (O' : Lab), subs l' [(4, (.bool y24))] ∧ Bs w A w' O') ?_ ?_
  ·
   refine ewp_region (o_fa rfl rfl (o_ld (hc := Blk.cell (i := 0) (h17.1) rfl) rfl rfl ?_))
   refine o_fa rfl rfl (o_ld (hc := Blk.cell (i := 0) (h22.1) rfl) rfl rfl ?_)
   refine o_ltS rfl rfl rfl (fun c28 => ?_) fun c28 => ?_
   ·
    replace hy25 := ip hy25 c28
    refine o_as rfl rfl (o_z ?_)
    obtain rfl := sm hy25
    replace hB := (hB.st S16).st S21
    exact ⟨(), _, ⟨rfl, trivial⟩, hB⟩
   replace hy25 := im hy25 c28
   refine o_as rfl rfl (o_z ?_)
   obtain rfl := sm hy25
   replace hB := (hB.st S16).st S21
   exact ⟨(), _, ⟨rfl, trivial⟩, hB⟩
  replace hB := (hB.st S16).st S21
  rintro l29 w30 ⟨x27, O31, hs32, hB⟩
  refine ewp_sub _ hs32 ?_
  refine ewp_ret ?_
  obtain rfl := sm hm
  exact ret1v rfl (res_tmp rfl) ⟨hB.ext, vBool⟩
 replace hm := im hm c23
 refine o_z ?_
 refine ewp_false rfl (ewp_skip (ewp_seq (ewp_seq (ewp_region (o_fa rfl rfl (o_ld (hc := Blk.cell (i := 1) (h17.1) rfl) rfl rfl ?_))))))
 refine o_fa rfl rfl (o_ld (hc := Blk.cell (i := 1) (h22.1) rfl) rfl rfl ?_)
 refine o_neS rfl rfl rfl (fun c33 => ?_) fun c33 => ?_
 ·
  replace hm := ip hm c33
  refine o_z ?_
  refine ewp_true rfl (ewp_seq ?_)
  obtain ⟨y34, hy35, hm⟩ := bs hm
  refine ewp_join (fun l' w' => ∃ (x37 : Unit) (O' : Lab), subs l' [(4, (.bool y34))] ∧ Bs w A w' O') ?_ ?_
  ·
   refine ewp_region (o_fa rfl rfl (o_ld (hc := Blk.cell (i := 1) (h17.1) rfl) rfl rfl ?_))
   refine o_fa rfl rfl (o_ld (hc := Blk.cell (i := 1) (h22.1) rfl) rfl rfl ?_)
   refine o_ltS rfl rfl rfl (fun c38 => ?_) fun c38 => ?_
   ·
    replace hy35 := ip hy35 c38
    refine o_as rfl rfl (o_z ?_)
    obtain rfl := sm hy35
    replace hB := (hB.st S16).st S21
    exact ⟨(), _, ⟨rfl, trivial⟩, hB⟩
   replace hy35 := im hy35 c38
   refine o_as rfl rfl (o_z ?_)
   obtain rfl := sm hy35
   replace hB := (hB.st S16).st S21
   exact ⟨(), _, ⟨rfl, trivial⟩, hB⟩
  replace hB := (hB.st S16).st S21
  rintro l39 w40 ⟨x37, O41, hs42, hB⟩
  refine ewp_sub _ hs42 ?_
  refine ewp_ret ?_
  obtain rfl := sm hm
  exact ret1v rfl (res_tmp rfl) ⟨hB.ext, vBool⟩
 replace hm := im hm c33
 refine o_z ?_
 refine ewp_false rfl (ewp_skip (ewp_seq ?_))
 obtain ⟨y43, hy44, hm⟩ := bs hm
 refine ewp_join (fun l' w' => ∃ (x46 : Unit) (O' : Lab), subs l' [(4, (.bool y43))] ∧ Bs w A w' O') ?_ ?_
 ·
  refine ewp_region (o_fa rfl rfl (o_ld (hc := Blk.cell (i := 3) (h17.1) rfl) rfl rfl ?_))
  refine o_fa rfl rfl (o_ld (hc := Blk.cell (i := 3) (h22.1) rfl) rfl rfl ?_)
  refine o_ltS rfl rfl rfl (fun c47 => ?_) fun c47 => ?_
  ·
   replace hy44 := ip hy44 c47
   refine o_as rfl rfl (o_z ?_)
   obtain rfl := sm hy44
   replace hB := (hB.st S16).st S21
   exact ⟨(), _, ⟨rfl, trivial⟩, hB⟩
  replace hy44 := im hy44 c47
  refine o_as rfl rfl (o_z ?_)
  obtain rfl := sm hy44
  replace hB := (hB.st S16).st S21
  exact ⟨(), _, ⟨rfl, trivial⟩, hB⟩
 replace hB := (hB.st S16).st S21
 rintro l48 w49 ⟨x46, O50, hs51, hB⟩
 refine ewp_sub _ hs51 ?_
 refine ewp_ret ?_
 obtain rfl := sm hm
 exact ret1v rfl (res_tmp rfl) ⟨hB.ext, vBool⟩
noncomputable def m_pqueue_Queue_Len (x0 : Que) : Option Int :=
  some (x0.heap.length : Int)
theorem c_pqueue_Queue_Len {w : World} {O : Lab} {p0 i0 : Nat} {x0 : Que} (hx0 : Ob i0 w O (.pointer (some ⟨p0, 0, none⟩)) x0) {r : Int} (hm : m_pqueue_Queue_Len x0 = some r) :
    Fn Tryz.prog 94 [(.pointer (some ⟨p0, 0, none⟩))] w fun v w' => ∃ O', St (eT i0) w O w' O' ∧ Ob i0 w' O' (.pointer (some ⟨p0, 0, none⟩)) x0 ∧ Vb w' (Fr 0 w' O') v r := by
 obtain ⟨O0, hE, hz0, hl2⟩ := ent1 (w := w) (O := O) hx0.2
 have hx0' := Ob.leave hx0 hz0 hl2 (j := 2) (by decide)
 have hB : Bm w O0 w O0 := Bm.refl
 refine fn_enter Tryz.func94 rfl Tryz.ntmps94 rfl ?_
 unfold m_pqueue_Queue_Len at hm
 refine ewp_seq (ewp_region (o_as rfl rfl (o_z ?_)))
 refine ewp_seq (ewp_seq (ewp_region (o_mv rfl rfl (o_pn rfl rfl ?_))))
 refine o_z ?_
 refine ewp_false rfl (ewp_skip (ewp_seq (ewp_region (o_mv rfl rfl (o_nc rfl rfl ?_)))))
 obtain ⟨O2, v6, S3, ha5, h4, h7, r11⟩ := Que.opn hx0' 2 3 (by decide)
 obtain ⟨A8, c9, rfl⟩ := h7.form
 refine o_fa rfl rfl (o_ld (hc := Blk.cell (i := 0) (h4.1) rfl) rfl rfl ?_)
 refine o_ln rfl rfl ?_
 have l13 : x0.heap.length ≤ 9223372036854775807 := Nat.le_trans h7.len.2.1 h7.len.2.2
 have r12 : inI64 (x0.heap.length : Int) := rngNat l13
 refine o_as rfl rfl (o_z ?_)
 refine ewp_ret ?_
 obtain ⟨O14, S15, hz17, ha18, h16⟩ := Que.shut (x := x0) (l0 := 2) (l1 := 3) (by decide) h4 h7 r11
 obtain rfl := sm hm
 replace hB := (hB.st S3).st S15
 obtain ⟨O', hS', hz, hl⟩ := hE.leave (fun q => if q = 2 then i0 else 0) rfl hB
 exact ret1v rfl (res_tmp rfl) ⟨O', hS', (Ob.leave h16 hz (hl 2 (by decide) (by decide)) hx0.2), (vInt r12)⟩
noncomputable def m_pqueue_Queue_Peek (x0 : Que) : Option (Int × Int × Int × Err) :=
  if (x0.heap.length : Int) = 0 then (some (0, 0, 0, (⟨3⟩ : Err))) else (bnd (atI x0.heap 0) fun a20 => some (a20.key, a20.tie, a20.item, (⟨0⟩ : Err)))
theorem c_pqueue_Queue_Peek {w : World} {O : Lab} {p0 i0 : Nat} {x0 : Que} (hx0 : Ob i0 w O (.pointer (some ⟨p0, 0, none⟩)) x0) {r : Int × Int × Int × Err} (hm : m_pqueue_Queue_Peek x0 = some r) :
    Fn Tryz.prog 115 [(.pointer (some ⟨p0, 0, none⟩))] w fun v w' => ∃ O', St (eT i0) w O w' O' ∧ ∃ v0 v1 v2 v3 : Value, Ob i0 w' O' (.pointer (some ⟨p0, 0, none⟩)) x0 ∧ v = .tuple #[v0, v1, v2, v3] ∧ Vb w' (Fr 0 w' O') v0 r.1 ∧ Vb w' (Fr 0 w' O') v1 r.2.1 ∧ Vb w' (Fr 0 w' O') v2 r.2.2.1 ∧ Vb w' (Fr 0 w' O') v3 r.2.2.2 := by
 obtain ⟨O0, hE, hz0, hl2⟩ := ent1 (w := w) (O := O) hx0.2
 have hx0' := Ob.leave hx0 hz0 hl2 (j := 2) (by decide)
 have hB : Bm w O0 w O0 := Bm.refl
 refine fn_enter Tryz.func115 rfl Tryz.ntmps115 rfl ?_
 unfold m_pqueue_Queue_Peek at hm
 refine ewp_seq (ewp_region (o_as rfl rfl (o_as rfl rfl (o_as rfl rfl (o_as rfl rfl (o_z ?_))))))
 refine ewp_seq (ewp_seq (ewp_region (o_mv rfl rfl (o_pn rfl rfl ?_))))
 refine o_mv rfl rfl (owp_yes rfl rfl (o_mv rfl rfl (owp_yes rfl rfl (o_nc rfl rfl (owp_yes rfl rfl ?_)))))
 obtain ⟨O2, v6, S3, ha5, h4, h7, r11⟩ := Que.opn hx0' 2 3 (by decide)
 obtain ⟨A8, c9, rfl⟩ := h7.form
 refine o_fa rfl rfl (owp_yes rfl rfl (o_ld (hc := Blk.cell (i := 0) (h4.1) rfl) rfl rfl ?_))
 refine owp_yes rfl rfl (o_ln rfl rfl ?_)
 have l13 : x0.heap.length ≤ 9223372036854775807 := Nat.le_trans h7.len.2.1 h7.len.2.2
 have r12 : inI64 (x0.heap.length : Int) := rngNat l13
 refine owp_yes rfl rfl (o_eeS rfl rfl rfl (fun c14 => ?_) fun c14 => ?_)
 ·
  replace hm := ip hm c14
  refine o_pf rfl rfl rfl (o_z ?_)
  refine ewp_true rfl (ewp_seq (ewp_region (o_miE rfl rfl ?_)))
  refine o_as rfl rfl (o_as rfl rfl (o_as rfl rfl (o_as rfl rfl (o_z ?_))))
  refine ewp_ret ?_
  obtain ⟨O15, S16, hz18, ha19, h17⟩ := Que.shut (x := x0) (l0 := 2) (l1 := 3) (by decide) h4 h7 r11
  obtain rfl := sm hm
  replace hB := (hB.st S3).st S16
  obtain ⟨O', hS', hz, hl⟩ := hE.leave (fun q => if q = 2 then i0 else 0) rfl hB
  exact ret4 rfl (res_tmp rfl) (res_tmp rfl) (res_tmp rfl) (res_tmp rfl) ⟨O', hS', _, _, _, _, (Ob.leave h17 hz (hl 2 (by decide) (by decide)) hx0.2), rfl, (vInt (show inI64 (0) from by decide)), (vInt (show inI64 (0) from by decide)), (vInt (show inI64 (0) from by decide)), (vErr (by decide))⟩
 replace hm := im hm c14
 refine o_pf rfl rfl rfl (o_z ?_)
 refine ewp_false rfl (ewp_skip (ewp_seq (ewp_region (o_mv rfl rfl (o_nc rfl rfl (o_fa rfl rfl (o_ld (hc := Blk.cell (i := 0) (h4.1) rfl) rfl rfl ?_)))))))
 obtain ⟨a20, e21, hm⟩ := bs hm
 obtain ⟨p23, x22⟩ := atI_some' e21
 obtain ⟨b24, o25, ce26, hA27, hl28, hd29, rfl, r31, r32, r33, r34⟩ := h7.elem x22
 refine o_iaE (hA := hA27) (hj := (Int.toNat_of_nonneg p23).symm) (hlt := hl28) rfl rfl rfl ?_
 refine o_la (hl := rfl) (hc := hd29) rfl rfl ?_
 refine l_alloc 4 O2 rfl fun g35 w36 O37 S38 h39 => ?_
 refine l_store h39 rfl rfl rfl (nle_b rfl) (allOne rfl) fun w40 S41 h39 => ?_
 replace h39 : Lc 4 w40 O37 g35 202 [(.int .i64 a20.key), (.int .i64 a20.tie), (.int .i64 a20.item), (.int .i64 a20.number)] := h39
 refine o_z ?_
 refine ewp_seq (ewp_draw (· = w40) [(0, true), (1, true), (2, true), (3, true), (4, true), (5, true), (6, true), (7, true), (8, true), (9, true)] (by kernel_rfl) rfl (by kernel_rfl) rfl ?_)
 refine h_fa rfl rfl rfl (h_ldA (hc := Blk.cell (i := 0) (h39.1) rfl) rfl rfl rfl ?_)
 refine h_fa rfl rfl rfl (h_ldA (hc := Blk.cell (i := 1) (h39.1) rfl) rfl rfl rfl ?_)
 refine h_fa rfl rfl rfl (h_ldA (hc := Blk.cell (i := 2) (h39.1) rfl) rfl rfl rfl ?_)
 refine h_as rfl rfl rfl (h_as rfl rfl rfl (h_as rfl rfl rfl (h_as rfl rfl rfl (h_z ?_))))
 refine ewp_ret ?_
 replace h4 := (h4.st S38).st S41
 replace h7 := (h7.st S38).st S41
 obtain ⟨O42, S43, hz45, ha46, h44⟩ := Que.shut (x := x0) (l0 := 2) (l1 := 3) (by decide) h4 h7 r11
 obtain rfl := sm hm
 replace hB := (((hB.st S3).st S38).st S41).st S43
 obtain ⟨O', hS', hz, hl⟩ := hE.leave (fun q => if q = 2 then i0 else 0) rfl hB
 exact ret4 rfl (res_tmp rfl) (res_tmp rfl) (res_tmp rfl) (res_tmp rfl) ⟨O', hS', _, _, _, _, (Ob.leave h44 hz (hl 2 (by decide) (by decide)) hx0.2), rfl, (vInt r31), (vInt r32), (vInt r33), (vErr (show inI64 0 from by decide))⟩
noncomputable def m_pqueue_Queue_up (x0 : Que) (x1 : Int) : Option Que :=
  bnd (lop (ρ := Que) (fun (s5 : Int × Que) => if 0 < s5.1 then (bnd (chkI (s5.1 - 1)) fun n23 => bnd (quoI n23 2) fun n26 => bnd (atI s5.2.heap s5.1) fun a39 => bnd (atI s5.2.heap n26) fun a54 => bnd (m_pqueue_before a39 a54) fun q69 => if q69 = true then bnd (atI s5.2.heap n26) fun a81 => bnd (atI s5.2.heap s5.1) fun a96 => bnd (atI s5.2.heap s5.1) fun a111 => bnd (atI (s5.2.heap.set (s5.1 : Int).toNat a81) n26) fun a128 => some (.next (n26, (⟨((s5.2.heap.set (s5.1 : Int).toNat a81).set (n26 : Int).toNat a96), s5.2.next⟩ : Que))) else some (.ret s5.2)) else (some (.brk (s5.1, s5.2)))) (x1, x0)) fun res3 => fin res3 fun (s154 : Int × Que) => some s154.2
theorem c_pqueue_Queue_up {w : World} {O : Lab} {p0 i0 : Nat} {x0 : Que} (hx0 : Ob i0 w O (.pointer (some ⟨p0, 0, none⟩)) x0) {x1 : Int} (rx1 : inI64 x1) {r : Que} (hm : m_pqueue_Queue_up x0 x1 = some r) :
    Fn Tryz.prog 114 [(.pointer (some ⟨p0, 0, none⟩)), (.int .i64 x1)] w fun v w' => ∃ O', St (eT i0) w O w' O' ∧ Ob i0 w' O' (.pointer (some ⟨p0, 0, none⟩)) r := by
 obtain ⟨O0, hE, hz0, hl2⟩ := ent1 (w := w) (O := O) hx0.2
 have hx0' := Ob.leave hx0 hz0 hl2 (j := 2) (by decide)
 have hB : Bm w O0 w O0 := Bm.refl
 refine fn_enter Tryz.func114 rfl Tryz.ntmps114 rfl ?_
 unfold m_pqueue_Queue_up at hm
 obtain ⟨res3, hL4, hm⟩ := bs hm
 refine ewp_join (aft res3 (fun (s5 : Int × Que) (x6 : Unit) => []) (fun s5 x6 w' => ∃ O' : Lab, Bm w O0 w' O' ∧ Ob 2 w' O' (.pointer (some ⟨p0, 0, none⟩)) s5.2 ∧ inI64 s5.1)) ?_ ?_
 ·
  refine ewp_block (ewp_lop (σ := Int × Que) (X := Unit) hL4 (fun (s5 : Int × Que) (x6 : Unit) => [(0, (.pointer (some ⟨p0, 0, none⟩))), (1, (.int .i64 s5.1))]) _ (fun s5 x6 w' => ∃ O' : Lab, Bm w O0 w' O' ∧ Ob 2 w' O' (.pointer (some ⟨p0, 0, none⟩)) s5.2 ∧ inI64 s5.1) _ () ⟨O0, hB, hx0', rx1⟩ ⟨rfl, rfl, trivial⟩ ?_)
  rintro s5 x6 w9 cc11 ⟨O10, hB, h21, r20⟩ hf13 hret14 hbrk15
  refine ewp_seq (ewp_seq (ewp_region (o_mv rfl rfl (o_gtS rfl rfl rfl (fun c22 => ?_) fun c22 => ?_))))
  ·
   replace hf13 := ip hf13 c22
   refine o_z ?_
   refine ewp_true rfl (ewp_skip (ewp_block (ewp_seq (ewp_region (o_mv rfl rfl ?_)))))
   obtain ⟨n23, e24, hf13⟩ := bs hf13
   have r25 := (chkI_rng e24)
   refine o_sbE (he := e24) rfl rfl rfl ?_
   obtain ⟨n26, e27, hf13⟩ := bs hf13
   have r28 := quoI_in e27 r25
   refine o_quE (he := e27) (hr := r25) rfl rfl rfl ?_
   refine o_as rfl rfl (o_z ?_)
   refine ewp_seq (ewp_seq ?_)
   obtain ⟨O29, v33, S30, ha32, h31, h34, r38⟩ := Que.opn h21 2 3 (by decide)
   obtain ⟨A35, c36, rfl⟩ := h34.form
   refine ewp_drawX [] O29 ?_
   refine x_pre (fuel := 2) [] [(0, true), (1, true), (2, true), (3, true), (4, true), (5, true), (6, true), (7, true), (8, true), (9, true), (10, true), (11, true), (12, true), (13, true)] (by kernel_rfl) rfl ?_
   refine h_mv rfl rfl rfl (h_nc rfl rfl rfl (h_fa rfl rfl rfl (h_ldC (hc := fun w' ⟨O', hq⟩ => Blk.cell (i := 0) ((h31.st hq (by decide)).1) rfl) rfl rfl rfl ?_)))
   refine h_mv rfl rfl rfl ?_
   obtain ⟨a39, e40, hf13⟩ := bs hf13
   obtain ⟨p42, x41⟩ := atI_some' e40
   obtain ⟨b43, o44, ce45, hA46, hF49, hl47, hd48, rfl, r50, r51, r52, r53⟩ := h34.elemF x41
   refine h_iaE (hA := hA46) (hj := (Int.toNat_of_nonneg p42).symm) (hlt := hl47) rfl rfl rfl rfl ?_
   refine h_laB (hl := rfl) (hb := fun w' ⟨O', hq⟩ => (cellsAt_agree (hq.agree (i := 3) (by decide)) hF49 hd48)) rfl rfl rfl ?_
   refine h_mv rfl rfl rfl (h_nc rfl rfl rfl (h_fa rfl rfl rfl (h_ldC (hc := fun w' ⟨O', hq⟩ => Blk.cell (i := 0) ((h31.st hq (by decide)).1) rfl) rfl rfl rfl ?_)))
   refine h_mv rfl rfl rfl ?_
   obtain ⟨a54, e55, hf13⟩ := bs hf13
   obtain ⟨p57, x56⟩ := atI_some' e55
   obtain ⟨b58, o59, ce60, hA61, hF64, hl62, hd63, rfl, r65, r66, r67, r68⟩ := h34.elemF x56
   refine h_iaE (hA := hA61) (hj := (Int.toNat_of_nonneg p57).symm) (hlt := hl62) rfl rfl rfl rfl ?_
   refine h_laB (hl := rfl) (hb := fun w' ⟨O', hq⟩ => (cellsAt_agree (hq.agree (i := 3) (by decide)) hF64 hd63)) rfl rfl rfl ?_
   refine hwp_nilT ?_
   refine x_one (i := 14) (by kernel_rfl) rfl ?_
   obtain ⟨q69, e70, hf13⟩ := bs hf13
   refine l_callA (O := O29) (A := All w9) (R := fun w' F v => Vb w' F v q69) (c_pqueue_before (fun _ h => h) (Vb.mono (F := Fr 0 w9 O29) (Vb.ofAgg (cs := [(.int .i64 a39.key), (.int .i64 a39.tie), (.int .i64 a39.item), (.int .i64 a39.number)]) (x := a39) rfl ⟨rfl, r50, r51, r52, r53⟩) Fr.lt) (Vb.mono (F := Fr 0 w9 O29) (Vb.ofAgg (cs := [(.int .i64 a54.key), (.int .i64 a54.tie), (.int .i64 a54.item), (.int .i64 a54.number)]) (x := a54) rfl ⟨rfl, r65, r66, r67, r68⟩) Fr.lt) e70) rfl rfl fun v75 w71 O72 S73 h74 => ?_
   obtain rfl := h74.bool
   have hZ := S73.lst [] (fun _ h => h.elim)
   cases q69
   case false =>
    replace hf13 := iF hf13
    refine x_go [] hZ (by kernel_rfl) ?_
    refine x_pre (fuel := 0) [] [(15, true)] (by kernel_rfl) rfl ?_
    refine h_nf rfl rfl rfl (hwp_nilT ?_)
    refine x_nil (by kernel_rfl) ?_
    refine ewp_true rfl (ewp_ret ?_)
    replace h31 := h31.st S73
    replace h34 := h34.st S73
    obtain ⟨O76, S77, hz79, ha80, h78⟩ := Que.shut (x := s5.2) (l0 := 2) (l1 := 3) (by decide) h31 h34 r38
    obtain rfl := sm hf13
    obtain rfl := hret14 _ rfl
    obtain rfl := sm (fin_ret hm)
    replace hB := ((hB.st S30).st S73).st S77
    obtain ⟨O', hS', hz, hl⟩ := hE.leave (fun q => if q = 2 then i0 else 0) rfl hB
    exact ret0 rfl  ⟨O', hS', (Ob.leave h78 hz (hl 2 (by decide) (by decide)) hx0.2)⟩
   replace hf13 := iT hf13
   refine x_go [] hZ (by kernel_rfl) ?_
   refine x_pre (fuel := 0) [] [(15, true)] (by kernel_rfl) rfl ?_
   refine h_nt rfl rfl rfl (hwp_nilT ?_)
   refine x_nil (by kernel_rfl) ?_
   refine ewp_false rfl (ewp_skip (ewp_seq (ewp_drawX [(25, [3])] O72 ?_)))
   refine x_pre (fuel := 4) [] [(0, true), (1, true), (2, true), (3, true), (4, true), (5, true), (6, true), (7, true), (8, true), (10, true), (11, true), (12, true), (13, true), (14, true), (15, true), (16, true), (17, true), (18, true), (19, true), (20, true), (21, true), (22, true), (23, true), (24, true)] (by kernel_rfl) rfl ?_
   refine h_mv rfl rfl rfl (h_nc rfl rfl rfl (h_fa rfl rfl rfl ?_))
   replace h31 := h31.st S73
   refine h_ldC (hc := fun w' ⟨O', hq⟩ => Blk.cell (i := 0) ((h31.st hq (by decide)).1) rfl) rfl rfl rfl ?_
   refine h_mv rfl rfl rfl (h_mv rfl rfl rfl (h_nc rfl rfl rfl (h_fa rfl rfl rfl (h_ldC (hc := fun w' ⟨O', hq⟩ => Blk.cell (i := 0) ((h31.st hq (by decide)).1) rfl) rfl rfl rfl ?_))))
   refine h_mv rfl rfl rfl (h_nc rfl rfl rfl (h_fa rfl rfl rfl (h_ldC (hc := fun w' ⟨O', hq⟩ => Blk.cell (i := 0) ((h31.st hq (by decide)).1) rfl) rfl rfl rfl ?_)))
   refine h_mv rfl rfl rfl ?_
   obtain ⟨a81, e82, hf13⟩ := bs hf13
   obtain ⟨p84, x83⟩ := atI_some' e82
   replace h34 := h34.st S73
   obtain ⟨b85, o86, ce87, hA88, hF91, hl89, hd90, rfl, r92, r93, r94, r95⟩ := h34.elemF x83
   refine h_iaE (hA := hA88) (hj := (Int.toNat_of_nonneg p84).symm) (hlt := hl89) rfl rfl rfl rfl ?_
   refine h_laB (hl := rfl) (hb := fun w' ⟨O', hq⟩ => (cellsAt_agree (hq.agree (i := 3) (by decide)) hF91 hd90)) rfl rfl rfl ?_
   refine h_mv rfl rfl rfl (h_nc rfl rfl rfl (h_fa rfl rfl rfl (h_ldC (hc := fun w' ⟨O', hq⟩ => Blk.cell (i := 0) ((h31.st hq (by decide)).1) rfl) rfl rfl rfl ?_)))
   refine h_mv rfl rfl rfl ?_
   obtain ⟨a96, e97, hf13⟩ := bs hf13
   obtain ⟨p99, x98⟩ := atI_some' e97
   obtain ⟨b100, o101, ce102, hA103, hF106, hl104, hd105, rfl, r107, r108, r109, r110⟩ := h34.elemF x98
   refine h_iaE (hA := hA103) (hj := (Int.toNat_of_nonneg p99).symm) (hlt := hl104) rfl rfl rfl rfl ?_
   refine h_laB (hl := rfl) (hb := fun w' ⟨O', hq⟩ => (cellsAt_agree (hq.agree (i := 3) (by decide)) hF106 hd105)) rfl rfl rfl ?_
   obtain ⟨a111, e112, hf13⟩ := bs hf13
   obtain ⟨p114, x113⟩ := atI_some' e112
   obtain ⟨b115, o116, ce117, hA118, hF121, hl119, hd120, rfl, r122, r123, r124, r125⟩ := h34.elemF x113
   refine h_iaE (hA := hA118) (hj := (Int.toNat_of_nonneg p114).symm) (hlt := hl119) rfl rfl rfl rfl ?_
   refine hwp_nilT ?_
   refine x_pre (fuel := 3) [3] [(9, true)] (by kernel_rfl) rfl ?_
   refine h_mv rfl rfl rfl (hwp_nilT ?_)
   refine x_one (i := 25) (by kernel_rfl) rfl ?_
   refine l_setE rfl h34 (a := a81) (Vb.ofAgg (cs := [(.int .i64 a81.key), (.int .i64 a81.tie), (.int .i64 a81.item), (.int .i64 a81.number)]) (x := a81) rfl ⟨rfl, r92, r93, r94, r95⟩) hA118 rfl rfl (lt_of_get x113) fun w126 S127 h34 => ?_
   have hZ := S127.lst [3] (fun _ h => by cases h; decide)
   refine x_go [] hZ (by kernel_rfl) ?_
   refine x_pre (fuel := 1) [] [(26, true)] (by kernel_rfl) rfl ?_
   obtain ⟨a128, e129, hf13⟩ := bs hf13
   obtain ⟨p131, x130⟩ := atI_some' e129
   obtain ⟨b132, o133, ce134, hA135, hF138, hl136, hd137, rfl, r139, r140, r141, r142⟩ := h34.elemF x130
   refine h_iaE (hA := hA135) (hj := (Int.toNat_of_nonneg p131).symm) (hlt := hl136) rfl rfl rfl rfl ?_
   refine hwp_nilT ?_
   refine x_one (i := 27) (by kernel_rfl) rfl ?_
   refine l_setE rfl h34 (a := a96) (Vb.ofAgg (cs := [(.int .i64 a96.key), (.int .i64 a96.tie), (.int .i64 a96.item), (.int .i64 a96.number)]) (x := a96) rfl ⟨rfl, r107, r108, r109, r110⟩) hA135 rfl rfl (lt_of_get x130) fun w143 S144 h34 => ?_
   refine x_end (by kernel_rfl) ?_
   refine x_nil (by kernel_rfl) ?_
   refine ewp_region (o_mv rfl rfl (o_as rfl rfl (o_z ?_)))
   replace h31 := (h31.st S127).st S144
   obtain ⟨O145, S146, hz148, ha149, h147⟩ := Que.shut (x := (⟨((s5.2.heap.set (s5.1 : Int).toNat a81).set (n26 : Int).toNat a96), s5.2.next⟩ : Que)) (l0 := 2) (l1 := 3) (by decide) (by have q := h31; rw [← ((by simp : ((s5.2.heap.set (s5.1 : Int).toNat a81).set (n26 : Int).toNat a96).length = (s5.2.heap.set (s5.1 : Int).toNat a81).length).trans ((by simp : (s5.2.heap.set (s5.1 : Int).toNat a81).length = s5.2.heap.length).trans rfl))] at q; exact q) h34.relen r38
   obtain rfl := sm hf13
   replace hB := ((((hB.st S30).st S73).st S127).st S144).st S146
   exact show Exists _ from ⟨_, (), rfl, ⟨rfl, rfl, trivial⟩, _, hB, h147, r28⟩
  replace hf13 := im hf13 c22
  refine o_z ?_
  refine ewp_false rfl (ewp_exit ?_)
  obtain rfl := sm hf13
  exact show Exists _ from ⟨_, (), hbrk15 _ rfl, trivial, _, hB, h21, r20⟩
 rintro l150 w151 ⟨s154, x155, rfl, hs153, O152, hB, h21, r20⟩
 replace hm := fin_done hm
 obtain rfl := sm hm
 obtain ⟨O', hS', hz, hl⟩ := hE.leave (fun q => if q = 2 then i0 else 0) rfl hB
 exact ret0n rfl  ⟨O', hS', (Ob.leave h21 hz (hl 2 (by decide) (by decide)) hx0.2)⟩
noncomputable def m_pqueue_Queue_down (x0 : Que) (x1 : Int) : Option Que :=
  bnd (lop (ρ := Que) (fun (s5 : Int × Que) => bnd (chkI (2 * s5.1)) fun n22 => bnd (chkI (n22 + 1)) fun n25 => if (s5.2.heap.length : Int) ≤ n25 then (some (.ret s5.2)) else (bnd (bnd (bnd (chkI (n25 + 1)) fun n55 => if n55 < (s5.2.heap.length : Int) then (bnd (chkI (n25 + 1)) fun n61 => bnd (atI s5.2.heap n61) fun a64 => bnd (atI s5.2.heap n25) fun a79 => bnd (m_pqueue_before a64 a79) fun q94 => if q94 = true then some true else some false) else (some false) : Option Bool) fun y51 => if y51 = true then (bnd (chkI (n25 + 1)) fun n121 => some n121) else (some n25) : Option Int) fun y46 => bnd (atI s5.2.heap y46) fun a138 => bnd (atI s5.2.heap s5.1) fun a153 => bnd (m_pqueue_before a138 a153) fun q168 => if q168 = true then bnd (atI s5.2.heap y46) fun a180 => bnd (atI s5.2.heap s5.1) fun a195 => bnd (atI s5.2.heap s5.1) fun a210 => bnd (atI (s5.2.heap.set (s5.1 : Int).toNat a180) y46) fun a227 => some (.next (y46, (⟨((s5.2.heap.set (s5.1 : Int).toNat a180).set (y46 : Int).toNat a195), s5.2.next⟩ : Que))) else some (.ret s5.2))) (x1, x0)) fun res3 => fin res3 fun (_ : Int × Que) => none
theorem c_pqueue_Queue_down {w : World} {O : Lab} {p0 i0 : Nat} {x0 : Que} (hx0 : Ob i0 w O (.pointer (some ⟨p0, 0, none⟩)) x0) {x1 : Int} (rx1 : inI64 x1) {r : Que} (hm : m_pqueue_Queue_down x0 x1 = some r) :
    Fn Tryz.prog 116 [(.pointer (some ⟨p0, 0, none⟩)), (.int .i64 x1)] w fun v w' => ∃ O', St (eT i0) w O w' O' ∧ Ob i0 w' O' (.pointer (some ⟨p0, 0, none⟩)) r := by
 obtain ⟨O0, hE, hz0, hl2⟩ := ent1 (w := w) (O := O) hx0.2
 have hx0' := Ob.leave hx0 hz0 hl2 (j := 2) (by decide)
 have hB : Bm w O0 w O0 := Bm.refl
 refine fn_enter Tryz.func116 rfl Tryz.ntmps116 rfl ?_
 unfold m_pqueue_Queue_down at hm
 obtain ⟨res3, hL4, hm⟩ := bs hm
 refine ewp_join (aft res3 (fun (s5 : Int × Que) (x6 : Unit) => []) (fun s5 x6 w' => False)) ?_ ?_
 ·
  refine ewp_block (ewp_lop (σ := Int × Que) (X := Unit) hL4 (fun (s5 : Int × Que) (x6 : Unit) => [(0, (.pointer (some ⟨p0, 0, none⟩))), (1, (.int .i64 s5.1))]) _ (fun s5 x6 w' => ∃ O' : Lab, Bm w O0 w' O' ∧ Ob 2 w' O' (.pointer (some ⟨p0, 0, none⟩)) s5.2 ∧ inI64 s5.1) _ () ⟨O0, hB, hx0', rx1⟩ ⟨rfl, rfl, trivial⟩ ?_)
  rintro s5 x6 w9 cc11 ⟨O10, hB, h21, r20⟩ hf13 hret14 hbrk15
  refine ewp_block (ewp_seq (ewp_region (o_mv rfl rfl ?_)))
  obtain ⟨n22, e23, hf13⟩ := bs hf13
  have r24 := (chkI_rng e23)
  refine o_mlE (he := e23) rfl rfl rfl ?_
  obtain ⟨n25, e26, hf13⟩ := bs hf13
  have r27 := (chkI_rng e26)
  refine o_adE (he := e26) rfl rfl rfl ?_
  refine o_as rfl rfl (o_z ?_)
  refine ewp_seq (ewp_seq (ewp_region (o_mv rfl rfl (o_mv rfl rfl (o_nc rfl rfl ?_)))))
  obtain ⟨O28, v32, S29, ha31, h30, h33, r37⟩ := Que.opn h21 2 3 (by decide)
  obtain ⟨A34, c35, rfl⟩ := h33.form
  refine o_fa rfl rfl (o_ld (hc := Blk.cell (i := 0) (h30.1) rfl) rfl rfl ?_)
  refine o_ln rfl rfl ?_
  have l39 : s5.2.heap.length ≤ 9223372036854775807 := Nat.le_trans h33.len.2.1 h33.len.2.2
  have r38 : inI64 (s5.2.heap.length : Int) := rngNat l39
  refine o_geS rfl rfl rfl (fun c40 => ?_) fun c40 => ?_
  ·
   replace hf13 := ip hf13 c40
   refine o_z ?_
   refine ewp_true rfl (ewp_ret ?_)
   obtain ⟨O41, S42, hz44, ha45, h43⟩ := Que.shut (x := s5.2) (l0 := 2) (l1 := 3) (by decide) h30 h33 r37
   obtain rfl := sm hf13
   obtain rfl := hret14 _ rfl
   obtain rfl := sm (fin_ret hm)
   replace hB := (hB.st S29).st S42
   obtain ⟨O', hS', hz, hl⟩ := hE.leave (fun q => if q = 2 then i0 else 0) rfl hB
   exact ret0 rfl  ⟨O', hS', (Ob.leave h43 hz (hl 2 (by decide) (by decide)) hx0.2)⟩
  replace hf13 := im hf13 c40
  refine o_z ?_
  refine ewp_false rfl (ewp_skip (ewp_seq ?_))
  obtain ⟨y46, hy47, hf13⟩ := bs hf13
  refine ewp_join (fun l' w' => ∃ (x49 : Unit) (O' : Lab), subs l' [(0, (.pointer (some ⟨p0, 0, none⟩))), (1, (.int .i64 s5.1)), (4, (.int .i64 y46))] ∧ Bm w O0 w' O' ∧ Ob 2 w' O' (.pointer (some ⟨p0, 0, none⟩)) s5.2 ∧ inI64 y46) ?_ ?_
  ·
   refine ewp_seq ?_
   obtain ⟨y51, hy52, hy47⟩ := bs hy47
   refine ewp_join (fun l' w' => ∃ (x54 : Unit) (O' : Lab), subs l' [(0, (.pointer (some ⟨p0, 0, none⟩))), (1, (.int .i64 s5.1)), (4, (.int .i64 n25)), (40, (.bool y51))] ∧ Bm w O0 w' O' ∧ Ob 2 w' O' (.pointer (some ⟨p0, 0, none⟩)) s5.2) ?_ ?_
   ·
    refine ewp_drawX [] O28 ?_
    refine x_pre (fuel := 2) [] [(0, true), (1, true), (2, true), (3, true), (4, true), (5, true), (6, true), (7, true), (8, true), (9, true), (10, true), (11, true), (12, true), (13, true), (14, true), (15, true), (16, true), (17, true), (18, true), (19, true), (20, true), (21, true), (22, true), (23, true)] (by kernel_rfl) rfl ?_
    refine h_mv rfl rfl rfl ?_
    obtain ⟨n55, e56, hy52⟩ := bs hy52
    have r57 := (chkI_rng e56)
    refine h_adE (he := e56) rfl rfl rfl rfl ?_
    refine h_mv rfl rfl rfl (h_nc rfl rfl rfl (h_fa rfl rfl rfl (h_ldC (hc := fun w' ⟨O', hq⟩ => Blk.cell (i := 0) ((h30.st hq (by decide)).1) rfl) rfl rfl rfl ?_)))
    refine h_ln rfl rfl rfl ?_
    have l59 : s5.2.heap.length ≤ 9223372036854775807 := Nat.le_trans h33.len.2.1 h33.len.2.2
    have r58 : inI64 (s5.2.heap.length : Int) := rngNat l59
    refine h_ltS rfl rfl rfl rfl (fun c60 => ?_) fun c60 => ?_
    ·
     replace hy52 := ip hy52 c60
     refine h_mv rfl rfl rfl (hwp_o rfl (hwq_yes rfl rfl (g_mv rfl rfl (hwp_o rfl (hwq_yes rfl rfl (g_nc rfl rfl (hwp_o rfl (hwq_yes rfl rfl (g_fa rfl rfl (hwp_o rfl (hwq_yes rfl rfl (g_ldC (hc := fun w' ⟨O', hq⟩ => Blk.cell (i := 0) ((h30.st hq (by decide)).1) rfl) rfl rfl ?_))))))))))))
     refine hwp_o rfl (hwq_yes rfl rfl (g_mv rfl rfl (hwp_o rfl (hwq_yes rfl rfl ?_))))
     obtain ⟨n61, e62, hy52⟩ := bs hy52
     have r63 := (chkI_rng e62)
     refine g_adE (he := e62) rfl rfl rfl ?_
     refine hwp_o rfl (hwq_yes rfl rfl ?_)
     obtain ⟨a64, e65, hy52⟩ := bs hy52
     obtain ⟨p67, x66⟩ := atI_some' e65
     obtain ⟨b68, o69, ce70, hA71, hF74, hl72, hd73, rfl, r75, r76, r77, r78⟩ := h33.elemF x66
     refine g_iaE (hA := hA71) (hj := (Int.toNat_of_nonneg p67).symm) (hlt := hl72) rfl rfl rfl ?_
     refine hwp_o rfl (hwq_yes rfl rfl (g_laB (hl := rfl) (hb := fun w' ⟨O', hq⟩ => (cellsAt_agree (hq.agree (i := 3) (by decide)) hF74 hd73)) rfl rfl ?_))
     refine hwp_o rfl (hwq_yes rfl rfl (g_mv rfl rfl (hwp_o rfl (hwq_yes rfl rfl (g_nc rfl rfl (hwp_o rfl (hwq_yes rfl rfl (g_fa rfl rfl (hwp_o rfl (hwq_yes rfl rfl (g_ldC (hc := fun w' ⟨O', hq⟩ => Blk.cell (i := 0) ((h30.st hq (by decide)).1) rfl) rfl rfl ?_)))))))))))
     refine hwp_o rfl (hwq_yes rfl rfl (g_mv rfl rfl (hwp_o rfl (hwq_yes rfl rfl ?_))))
     obtain ⟨a79, e80, hy52⟩ := bs hy52
     obtain ⟨p82, x81⟩ := atI_some' e80
     obtain ⟨b83, o84, ce85, hA86, hF89, hl87, hd88, rfl, r90, r91, r92, r93⟩ := h33.elemF x81
     refine g_iaE (hA := hA86) (hj := (Int.toNat_of_nonneg p82).symm) (hlt := hl87) rfl rfl rfl ?_
     refine hwp_o rfl (hwq_yes rfl rfl (g_laB (hl := rfl) (hb := fun w' ⟨O', hq⟩ => (cellsAt_agree (hq.agree (i := 3) (by decide)) hF89 hd88)) rfl rfl ?_))
     refine hwp_nilT ?_
     refine x_one (i := 24) (by kernel_rfl) rfl ?_
     refine owp_yes rfl rfl ?_
     obtain ⟨q94, e95, hy52⟩ := bs hy52
     refine l_callA (O := O28) (A := All w9) (R := fun w' F v => Vb w' F v q94) (c_pqueue_before (fun _ h => h) (Vb.mono (F := Fr 0 w9 O28) (Vb.ofAgg (cs := [(.int .i64 a64.key), (.int .i64 a64.tie), (.int .i64 a64.item), (.int .i64 a64.number)]) (x := a64) rfl ⟨rfl, r75, r76, r77, r78⟩) Fr.lt) (Vb.mono (F := Fr 0 w9 O28) (Vb.ofAgg (cs := [(.int .i64 a79.key), (.int .i64 a79.tie), (.int .i64 a79.item), (.int .i64 a79.number)]) (x := a79) rfl ⟨rfl, r90, r91, r92, r93⟩) Fr.lt) e95) rfl rfl fun v100 w96 O97 S98 h99 => ?_
     obtain rfl := h99.bool
     have hZ := S98.lst [] (fun _ h => h.elim)
     cases q94
     case false =>
      replace hy52 := iF hy52
      refine x_go [] hZ (by kernel_rfl) ?_
      refine x_pre (fuel := 0) [] [(25, true)] (by kernel_rfl) rfl ?_
      refine h_pt rfl rfl rfl rfl (hwp_nilT ?_)
      refine x_nil (by kernel_rfl) ?_
      replace h30 := h30.st S98
      replace h33 := h33.st S98
      obtain ⟨O101, S102, hz104, ha105, h103⟩ := Que.shut (x := s5.2) (l0 := 2) (l1 := 3) (by decide) h30 h33 r37
      obtain rfl := sm hy52
      replace hB := ((hB.st S29).st S98).st S102
      exact ⟨(), _, ⟨rfl, rfl, rfl, rfl, trivial⟩, hB, h103⟩
     replace hy52 := iT hy52
     refine x_go [] hZ (by kernel_rfl) ?_
     refine x_pre (fuel := 0) [] [(25, true)] (by kernel_rfl) rfl ?_
     refine h_pt rfl rfl rfl rfl (hwp_nilT ?_)
     refine x_nil (by kernel_rfl) ?_
     replace h30 := h30.st S98
     replace h33 := h33.st S98
     obtain ⟨O106, S107, hz109, ha110, h108⟩ := Que.shut (x := s5.2) (l0 := 2) (l1 := 3) (by decide) h30 h33 r37
     obtain rfl := sm hy52
     replace hB := ((hB.st S29).st S98).st S107
     exact ⟨(), _, ⟨rfl, rfl, rfl, rfl, trivial⟩, hB, h108⟩
    replace hy52 := im hy52 c60
    refine h_mv rfl rfl rfl (h_no rfl rfl rfl rfl rfl (h_no rfl rfl rfl rfl rfl (h_no rfl rfl rfl rfl rfl (h_no rfl rfl rfl rfl rfl (h_no rfl rfl rfl rfl rfl (h_no rfl rfl rfl rfl rfl (h_no rfl rfl rfl rfl rfl (h_no rfl rfl rfl rfl rfl (h_no rfl rfl rfl rfl rfl (h_no rfl rfl rfl rfl rfl (h_no rfl rfl rfl rfl rfl (h_no rfl rfl rfl rfl rfl (h_no rfl rfl rfl rfl rfl (h_no rfl rfl rfl rfl rfl ?_))))))))))))))
    refine h_no rfl rfl rfl rfl rfl (hwp_nilT ?_)
    refine x_one (i := 24) (by kernel_rfl) rfl ?_
    refine owp_no rfl rfl rfl rfl (x_go [] ((St.refl nT _ _).lst [] (fun _ h => h.elim)) (by kernel_rfl) ?_)
    refine x_pre (fuel := 0) [] [(25, true)] (by kernel_rfl) rfl ?_
    refine h_pf rfl rfl rfl rfl (hwp_nilT ?_)
    refine x_nil (by kernel_rfl) ?_
    obtain ⟨O111, S112, hz114, ha115, h113⟩ := Que.shut (x := s5.2) (l0 := 2) (l1 := 3) (by decide) h30 h33 r37
    obtain rfl := sm hy52
    replace hB := (hB.st S29).st S112
    exact ⟨(), _, ⟨rfl, rfl, rfl, rfl, trivial⟩, hB, h113⟩
   replace hB := hB.st S29
   rintro l116 w117 ⟨x54, O118, hs119, hB, h99⟩
   refine ewp_sub _ hs119 ?_
   refine ewp_cond rfl (fun c120 => ?_) (fun c120 => ?_)
   ·
    replace hy47 := ip hy47 c120
    refine ewp_region (o_mv rfl rfl ?_)
    obtain ⟨n121, e122, hy47⟩ := bs hy47
    have r123 := (chkI_rng e122)
    refine o_adE (he := e122) rfl rfl rfl ?_
    refine o_as rfl rfl (o_z ?_)
    obtain rfl := sm hy47
    exact ⟨(), _, ⟨rfl, rfl, rfl, trivial⟩, hB, h99, r123⟩
   replace hy47 := im' hy47 c120
   refine ewp_skip ?_
   obtain rfl := sm hy47
   exact ⟨(), _, ⟨rfl, rfl, rfl, trivial⟩, hB, h99, r27⟩
  replace hB := hB.st S29
  rintro l124 w125 ⟨x49, O126, hs127, hB, h94, r50⟩
  refine ewp_sub _ hs127 ?_
  refine ewp_seq (ewp_seq ?_)
  obtain ⟨O128, v132, S129, ha131, h130, h133, r137⟩ := Que.opn h94 2 3 (by decide)
  obtain ⟨A134, c135, rfl⟩ := h133.form
  refine ewp_drawX [] O128 ?_
  refine x_pre (fuel := 2) [] [(0, true), (1, true), (2, true), (3, true), (4, true), (5, true), (6, true), (7, true), (8, true), (9, true), (10, true), (11, true), (12, true), (13, true)] (by kernel_rfl) rfl ?_
  refine h_mv rfl rfl rfl (h_nc rfl rfl rfl (h_fa rfl rfl rfl (h_ldC (hc := fun w' ⟨O', hq⟩ => Blk.cell (i := 0) ((h130.st hq (by decide)).1) rfl) rfl rfl rfl ?_)))
  refine h_mv rfl rfl rfl ?_
  obtain ⟨a138, e139, hf13⟩ := bs hf13
  obtain ⟨p141, x140⟩ := atI_some' e139
  obtain ⟨b142, o143, ce144, hA145, hF148, hl146, hd147, rfl, r149, r150, r151, r152⟩ := h133.elemF x140
  refine h_iaE (hA := hA145) (hj := (Int.toNat_of_nonneg p141).symm) (hlt := hl146) rfl rfl rfl rfl ?_
  refine h_laB (hl := rfl) (hb := fun w' ⟨O', hq⟩ => (cellsAt_agree (hq.agree (i := 3) (by decide)) hF148 hd147)) rfl rfl rfl ?_
  refine h_mv rfl rfl rfl (h_nc rfl rfl rfl (h_fa rfl rfl rfl (h_ldC (hc := fun w' ⟨O', hq⟩ => Blk.cell (i := 0) ((h130.st hq (by decide)).1) rfl) rfl rfl rfl ?_)))
  refine h_mv rfl rfl rfl ?_
  obtain ⟨a153, e154, hf13⟩ := bs hf13
  obtain ⟨p156, x155⟩ := atI_some' e154
  obtain ⟨b157, o158, ce159, hA160, hF163, hl161, hd162, rfl, r164, r165, r166, r167⟩ := h133.elemF x155
  refine h_iaE (hA := hA160) (hj := (Int.toNat_of_nonneg p156).symm) (hlt := hl161) rfl rfl rfl rfl ?_
  refine h_laB (hl := rfl) (hb := fun w' ⟨O', hq⟩ => (cellsAt_agree (hq.agree (i := 3) (by decide)) hF163 hd162)) rfl rfl rfl ?_
  refine hwp_nilT ?_
  refine x_one (i := 14) (by kernel_rfl) rfl ?_
  obtain ⟨q168, e169, hf13⟩ := bs hf13
  refine l_callA (O := O128) (A := All w125) (R := fun w' F v => Vb w' F v q168) (c_pqueue_before (fun _ h => h) (Vb.mono (F := Fr 0 w125 O128) (Vb.ofAgg (cs := [(.int .i64 a138.key), (.int .i64 a138.tie), (.int .i64 a138.item), (.int .i64 a138.number)]) (x := a138) rfl ⟨rfl, r149, r150, r151, r152⟩) Fr.lt) (Vb.mono (F := Fr 0 w125 O128) (Vb.ofAgg (cs := [(.int .i64 a153.key), (.int .i64 a153.tie), (.int .i64 a153.item), (.int .i64 a153.number)]) (x := a153) rfl ⟨rfl, r164, r165, r166, r167⟩) Fr.lt) e169) rfl rfl fun v174 w170 O171 S172 h173 => ?_
  obtain rfl := h173.bool
  have hZ := S172.lst [] (fun _ h => h.elim)
  cases q168
  case false =>
   replace hf13 := iF hf13
   refine x_go [] hZ (by kernel_rfl) ?_
   refine x_pre (fuel := 0) [] [(15, true)] (by kernel_rfl) rfl ?_
   refine h_nf rfl rfl rfl (hwp_nilT ?_)
   refine x_nil (by kernel_rfl) ?_
   refine ewp_true rfl (ewp_ret ?_)
   replace h130 := h130.st S172
   replace h133 := h133.st S172
   obtain ⟨O175, S176, hz178, ha179, h177⟩ := Que.shut (x := s5.2) (l0 := 2) (l1 := 3) (by decide) h130 h133 r137
   obtain rfl := sm hf13
   obtain rfl := hret14 _ rfl
   obtain rfl := sm (fin_ret hm)
   replace hB := ((hB.st S129).st S172).st S176
   obtain ⟨O', hS', hz, hl⟩ := hE.leave (fun q => if q = 2 then i0 else 0) rfl hB
   exact ret0 rfl  ⟨O', hS', (Ob.leave h177 hz (hl 2 (by decide) (by decide)) hx0.2)⟩
  replace hf13 := iT hf13
  refine x_go [] hZ (by kernel_rfl) ?_
  refine x_pre (fuel := 0) [] [(15, true)] (by kernel_rfl) rfl ?_
  refine h_nt rfl rfl rfl (hwp_nilT ?_)
  refine x_nil (by kernel_rfl) ?_
  refine ewp_false rfl (ewp_skip (ewp_seq (ewp_drawX [(25, [3])] O171 ?_)))
  refine x_pre (fuel := 4) [] [(0, true), (1, true), (2, true), (3, true), (4, true), (5, true), (6, true), (7, true), (8, true), (10, true), (11, true), (12, true), (13, true), (14, true), (15, true), (16, true), (17, true), (18, true), (19, true), (20, true), (21, true), (22, true), (23, true), (24, true)] (by kernel_rfl) rfl ?_
  refine h_mv rfl rfl rfl (h_nc rfl rfl rfl (h_fa rfl rfl rfl ?_))
  replace h130 := h130.st S172
  refine h_ldC (hc := fun w' ⟨O', hq⟩ => Blk.cell (i := 0) ((h130.st hq (by decide)).1) rfl) rfl rfl rfl ?_
  refine h_mv rfl rfl rfl (h_mv rfl rfl rfl (h_nc rfl rfl rfl (h_fa rfl rfl rfl (h_ldC (hc := fun w' ⟨O', hq⟩ => Blk.cell (i := 0) ((h130.st hq (by decide)).1) rfl) rfl rfl rfl ?_))))
  refine h_mv rfl rfl rfl (h_nc rfl rfl rfl (h_fa rfl rfl rfl (h_ldC (hc := fun w' ⟨O', hq⟩ => Blk.cell (i := 0) ((h130.st hq (by decide)).1) rfl) rfl rfl rfl ?_)))
  refine h_mv rfl rfl rfl ?_
  obtain ⟨a180, e181, hf13⟩ := bs hf13
  obtain ⟨p183, x182⟩ := atI_some' e181
  replace h133 := h133.st S172
  obtain ⟨b184, o185, ce186, hA187, hF190, hl188, hd189, rfl, r191, r192, r193, r194⟩ := h133.elemF x182
  refine h_iaE (hA := hA187) (hj := (Int.toNat_of_nonneg p183).symm) (hlt := hl188) rfl rfl rfl rfl ?_
  refine h_laB (hl := rfl) (hb := fun w' ⟨O', hq⟩ => (cellsAt_agree (hq.agree (i := 3) (by decide)) hF190 hd189)) rfl rfl rfl ?_
  refine h_mv rfl rfl rfl (h_nc rfl rfl rfl (h_fa rfl rfl rfl (h_ldC (hc := fun w' ⟨O', hq⟩ => Blk.cell (i := 0) ((h130.st hq (by decide)).1) rfl) rfl rfl rfl ?_)))
  refine h_mv rfl rfl rfl ?_
  obtain ⟨a195, e196, hf13⟩ := bs hf13
  obtain ⟨p198, x197⟩ := atI_some' e196
  obtain ⟨b199, o200, ce201, hA202, hF205, hl203, hd204, rfl, r206, r207, r208, r209⟩ := h133.elemF x197
  refine h_iaE (hA := hA202) (hj := (Int.toNat_of_nonneg p198).symm) (hlt := hl203) rfl rfl rfl rfl ?_
  refine h_laB (hl := rfl) (hb := fun w' ⟨O', hq⟩ => (cellsAt_agree (hq.agree (i := 3) (by decide)) hF205 hd204)) rfl rfl rfl ?_
  obtain ⟨a210, e211, hf13⟩ := bs hf13
  obtain ⟨p213, x212⟩ := atI_some' e211
  obtain ⟨b214, o215, ce216, hA217, hF220, hl218, hd219, rfl, r221, r222, r223, r224⟩ := h133.elemF x212
  refine h_iaE (hA := hA217) (hj := (Int.toNat_of_nonneg p213).symm) (hlt := hl218) rfl rfl rfl rfl ?_
  refine hwp_nilT ?_
  refine x_pre (fuel := 3) [3] [(9, true)] (by kernel_rfl) rfl ?_
  refine h_mv rfl rfl rfl (hwp_nilT ?_)
  refine x_one (i := 25) (by kernel_rfl) rfl ?_
  refine l_setE rfl h133 (a := a180) (Vb.ofAgg (cs := [(.int .i64 a180.key), (.int .i64 a180.tie), (.int .i64 a180.item), (.int .i64 a180.number)]) (x := a180) rfl ⟨rfl, r191, r192, r193, r194⟩) hA217 rfl rfl (lt_of_get x212) fun w225 S226 h133 => ?_
  have hZ := S226.lst [3] (fun _ h => by cases h; decide)
  refine x_go [] hZ (by kernel_rfl) ?_
  refine x_pre (fuel := 1) [] [(26, true)] (by kernel_rfl) rfl ?_
  obtain ⟨a227, e228, hf13⟩ := bs hf13
  obtain ⟨p230, x229⟩ := atI_some' e228
  obtain ⟨b231, o232, ce233, hA234, hF237, hl235, hd236, rfl, r238, r239, r240, r241⟩ := h133.elemF x229
  refine h_iaE (hA := hA234) (hj := (Int.toNat_of_nonneg p230).symm) (hlt := hl235) rfl rfl rfl rfl ?_
  refine hwp_nilT ?_
  refine x_one (i := 27) (by kernel_rfl) rfl ?_
  refine l_setE rfl h133 (a := a195) (Vb.ofAgg (cs := [(.int .i64 a195.key), (.int .i64 a195.tie), (.int .i64 a195.item), (.int .i64 a195.number)]) (x := a195) rfl ⟨rfl, r206, r207, r208, r209⟩) hA234 rfl rfl (lt_of_get x229) fun w242 S243 h133 => ?_
  refine x_end (by kernel_rfl) ?_
  refine x_nil (by kernel_rfl) ?_
  refine ewp_region (o_mv rfl rfl (o_as rfl rfl (o_z ?_)))
  replace h130 := (h130.st S226).st S243
  obtain ⟨O244, S245, hz247, ha248, h246⟩ := Que.shut (x := (⟨((s5.2.heap.set (s5.1 : Int).toNat a180).set (y46 : Int).toNat a195), s5.2.next⟩ : Que)) (l0 := 2) (l1 := 3) (by decide) (by have q := h130; rw [← ((by simp : ((s5.2.heap.set (s5.1 : Int).toNat a180).set (y46 : Int).toNat a195).length = (s5.2.heap.set (s5.1 : Int).toNat a180).length).trans ((by simp : (s5.2.heap.set (s5.1 : Int).toNat a180).length = s5.2.heap.length).trans rfl))] at q; exact q) h133.relen r137
  obtain rfl := sm hf13
  replace hB := ((((hB.st S129).st S172).st S226).st S243).st S245
  exact show Exists _ from ⟨_, (), rfl, ⟨rfl, rfl, trivial⟩, _, hB, h246, r50⟩
 rintro l249 w250 ⟨s253, x254, _, _, hE⟩
 exact hE.elim
noncomputable def m_pqueue_Queue_Push (x0 : Que) (x1 : Int) (x2 : Int) (x3 : Int) : Option (Err × Que) :=
  if 65536 ≤ (x0.heap.length : Int) then (some ((⟨10⟩ : Err), x0)) else (bnd (appI 32 x0.heap [(⟨x1, x2, x3, x0.next⟩ : QEn)]) fun u29 => bnd (chkI (x0.next + 1)) fun n42 => bnd (chkI ((u29.length : Int) - 1)) fun n49 => bnd (m_pqueue_Queue_up (⟨u29, n42⟩ : Que) n49) fun q57 => some ((⟨0⟩ : Err), q57))
theorem c_pqueue_Queue_Push {w : World} {O : Lab} {p0 i0 : Nat} {x0 : Que} (hx0 : Ob i0 w O (.pointer (some ⟨p0, 0, none⟩)) x0) {x1 : Int} (rx1 : inI64 x1) {x2 : Int} (rx2 : inI64 x2) {x3 : Int} (rx3 : inI64 x3) {r : Err × Que} (hm : m_pqueue_Queue_Push x0 x1 x2 x3 = some r) :
    Fn Tryz.prog 93 [(.pointer (some ⟨p0, 0, none⟩)), (.int .i64 x1), (.int .i64 x2), (.int .i64 x3)] w fun v w' => ∃ O', St (eT i0) w O w' O' ∧ Ob i0 w' O' (.pointer (some ⟨p0, 0, none⟩)) r.2 ∧ Vb w' (Fr 0 w' O') v r.1 := by
 obtain ⟨O0, hE, hz0, hl2⟩ := ent1 (w := w) (O := O) hx0.2
 have hx0' := Ob.leave hx0 hz0 hl2 (j := 2) (by decide)
 have hB : Bm w O0 w O0 := Bm.refl
 refine fn_enter Tryz.func93 rfl Tryz.ntmps93 rfl ?_
 unfold m_pqueue_Queue_Push at hm
 refine ewp_seq (ewp_region (o_as rfl rfl (o_z ?_)))
 refine ewp_seq (ewp_seq (ewp_region (o_mv rfl rfl (o_pn rfl rfl ?_))))
 refine o_z ?_
 refine ewp_false rfl (ewp_skip (ewp_seq (ewp_seq (ewp_region (o_mv rfl rfl (o_nc rfl rfl ?_))))))
 obtain ⟨O5, v9, S6, ha8, h7, h10, r14⟩ := Que.opn hx0' 2 3 (by decide)
 obtain ⟨A11, c12, rfl⟩ := h10.form
 refine o_fa rfl rfl (o_ld (hc := Blk.cell (i := 0) (h7.1) rfl) rfl rfl ?_)
 refine o_ln rfl rfl ?_
 have l16 : x0.heap.length ≤ 9223372036854775807 := Nat.le_trans h10.len.2.1 h10.len.2.2
 have r15 : inI64 (x0.heap.length : Int) := rngNat l16
 refine o_geS rfl rfl rfl (fun c17 => ?_) fun c17 => ?_
 ·
  replace hm := ip hm c17
  refine o_z ?_
  refine ewp_true rfl (ewp_seq (ewp_region (o_miE rfl rfl ?_)))
  refine o_as rfl rfl (o_z ?_)
  refine ewp_ret ?_
  obtain ⟨O18, S19, hz21, ha22, h20⟩ := Que.shut (x := x0) (l0 := 2) (l1 := 3) (by decide) h7 h10 r14
  obtain rfl := sm hm
  replace hB := (hB.st S6).st S19
  obtain ⟨O', hS', hz, hl⟩ := hE.leave (fun q => if q = 2 then i0 else 0) rfl hB
  exact ret1v rfl (res_tmp rfl) ⟨O', hS', (Ob.leave h20 hz (hl 2 (by decide) (by decide)) hx0.2), (vErr (by decide))⟩
 replace hm := im hm c17
 refine o_z ?_
 refine ewp_false rfl (ewp_skip (ewp_seq (ewp_drawX [(14, [3])] O5 ?_)))
 refine x_pre (fuel := 6) [] [(1, true), (2, true), (3, true), (4, true), (5, true), (6, true), (7, true), (8, true), (9, true), (10, true), (11, true), (12, true)] (by kernel_rfl) rfl ?_
 refine h_mv rfl rfl rfl (h_nc rfl rfl rfl (h_fa rfl rfl rfl (h_ldC (hc := fun w' ⟨O', hq⟩ => Blk.cell (i := 0) ((h7.st hq (by decide)).1) rfl) rfl rfl rfl ?_)))
 refine h_mv rfl rfl rfl (h_mv rfl rfl rfl (h_mv rfl rfl rfl (h_mv rfl rfl rfl (h_nc rfl rfl rfl (h_fa rfl rfl rfl (h_ldC (hc := fun w' ⟨O', hq⟩ => Blk.cell (i := 1) ((h7.st hq (by decide)).1) rfl) rfl rfl rfl ?_))))))
 refine h_bd rfl rfl rfl rfl ?_
 refine hwp_nilT ?_
 refine x_pre (fuel := 5) [3] [(0, true)] (by kernel_rfl) rfl ?_
 refine h_mv rfl rfl rfl (hwp_nilT ?_)
 refine x_one (i := 13) (by kernel_rfl) rfl ?_
 refine l_bslice 4 (by decide) O5 (xs := ([(⟨x1, x2, x3, x0.next⟩ : QEn)] : List QEn)) rfl rfl rfl rfl ⟨(Vb.ofAgg (cs := [(.int .i64 x1), (.int .i64 x2), (.int .i64 x3), (.int .i64 x0.next)]) (x := (⟨x1, x2, x3, x0.next⟩ : QEn)) rfl ⟨rfl, rx1, rx2, rx3, r14⟩), trivial⟩ (by decide) (by decide) rfl fun g23 w24 O25 S26 h27 => ?_
 have hZ := S26.lst [] (fun _ h => h.elim)
 refine x_go [(14, [3])] hZ (by kernel_rfl) ?_
 refine x_one (i := 14) (by kernel_rfl) rfl ?_
 obtain ⟨u29, e30, hm⟩ := bs hm
 obtain ⟨e30, e31, e32⟩ := appI_some e30
 replace h10 := h10.st S26
 refine l_append rfl h10 (h27.rd) rfl rfl (by decide) e31 e32 rfl fun A33 c34 w35 O36 S37 h38 => ?_
 rw [← e30] at h38 ⊢
 have hZ := S37.lst [3] (fun _ h => by cases h; decide)
 refine x_go [] hZ (by kernel_rfl) ?_
 refine x_pre (fuel := 1) [] [(15, true), (16, true)] (by kernel_rfl) rfl ?_
 refine h_nc rfl rfl rfl (h_fa rfl rfl rfl (hwp_nilT ?_))
 refine x_one (i := 17) (by kernel_rfl) rfl ?_
 replace h7 := (h7.st S26).st S37
 refine l_store h7 rfl rfl rfl (nle_b rfl) (allOne rfl) fun w40 S41 h7 => ?_
 replace h7 : Lc 2 w40 O36 p0 200 [(.slice A33 u29.length c34), (.int .i64 x0.next)] := h7
 refine x_end (by kernel_rfl) ?_
 refine x_nil (by kernel_rfl) ?_
 refine ewp_seq (ewp_region (o_mv rfl rfl (o_nc rfl rfl (o_fa rfl rfl (o_ld (hc := Blk.cell (i := 1) (h7.1) rfl) rfl rfl ?_)))))
 obtain ⟨n42, e43, hm⟩ := bs hm
 have r44 := (chkI_rng e43)
 refine o_adE (he := e43) rfl rfl rfl ?_
 refine o_nc rfl rfl (o_fa rfl rfl (l_store h7 rfl rfl rfl (nle_b rfl) (allOne rfl) fun w45 S46 h7 => ?_))
 replace h7 : Lc 2 w45 O36 p0 200 [(.slice A33 u29.length c34), (.int .i64 n42)] := h7
 refine o_z ?_
 refine ewp_seq (ewp_region (o_mv rfl rfl (o_mv rfl rfl (o_nc rfl rfl (o_fa rfl rfl (o_ld (hc := Blk.cell (i := 0) (h7.1) rfl) rfl rfl ?_))))))
 refine o_ln rfl rfl ?_
 replace h38 := (h38.st S41).st S46
 have l48 : u29.length ≤ 9223372036854775807 := Nat.le_trans h38.len.2.1 h38.len.2.2
 have r47 : inI64 (u29.length : Int) := rngNat l48
 obtain ⟨n49, e50, hm⟩ := bs hm
 have r51 := (chkI_rng e50)
 refine o_sbE (he := e50) rfl rfl rfl ?_
 obtain ⟨O52, S53, hz55, ha56, h54⟩ := Que.shut (x := (⟨u29, n42⟩ : Que)) (l0 := 2) (l1 := 3) (by decide) h7 h38 r44
 obtain ⟨q57, e58, hm⟩ := bs hm
 refine l_callM (O := O52) (c_pqueue_Queue_up h54 r51 e58) rfl rfl fun v63 w59 O60 S61 h64 => ?_
 refine o_z ?_
 refine ewp_seq (ewp_region (o_as rfl rfl (o_z ?_)))
 refine ewp_ret ?_
 obtain rfl := sm hm
 replace hB := ((((((hB.st S6).st S26).st S37).st S41).st S46).st S53).st S61
 obtain ⟨O', hS', hz, hl⟩ := hE.leave (fun q => if q = 2 then i0 else 0) rfl hB
 exact ret1v rfl (res_tmp rfl) ⟨O', hS', (Ob.leave h64 hz (hl 2 (by decide) (by decide)) hx0.2), (vErr (show inI64 0 from by decide))⟩
noncomputable def m_pqueue_Queue_Pop (x0 : Que) : Option (Int × Int × Int × Err × Que) :=
  bnd (m_pqueue_Queue_Peek x0) fun q2 => if q2.2.2.2.n ≠ 0 then (some (0, 0, 0, (⟨q2.2.2.2.n⟩ : Err), x0)) else (bnd (chkI ((x0.heap.length : Int) - 1)) fun n35 => bnd (atI x0.heap n35) fun a38 => bnd (atI x0.heap 0) fun a53 => bnd (cutI (x0.heap.set (0 : Int).toNat a38) 0 n35) fun u70 => bnd (m_pqueue_Queue_down (⟨u70, x0.next⟩ : Que) 0) fun q82 => some (q2.1, q2.2.1, q2.2.2.1, (⟨0⟩ : Err), q82))
theorem c_pqueue_Queue_Pop {w : World} {O : Lab} {p0 i0 : Nat} {x0 : Que} (hx0 : Ob i0 w O (.pointer (some ⟨p0, 0, none⟩)) x0) {r : Int × Int × Int × Err × Que} (hm : m_pqueue_Queue_Pop x0 = some r) :
    Fn Tryz.prog 95 [(.pointer (some ⟨p0, 0, none⟩))] w fun v w' => ∃ O', St (eT i0) w O w' O' ∧ ∃ v0 v1 v2 v3 : Value, Ob i0 w' O' (.pointer (some ⟨p0, 0, none⟩)) r.2.2.2.2 ∧ v = .tuple #[v0, v1, v2, v3] ∧ Vb w' (Fr 0 w' O') v0 r.1 ∧ Vb w' (Fr 0 w' O') v1 r.2.1 ∧ Vb w' (Fr 0 w' O') v2 r.2.2.1 ∧ Vb w' (Fr 0 w' O') v3 r.2.2.2.1 := by
 obtain ⟨O0, hE, hz0, hl2⟩ := ent1 (w := w) (O := O) hx0.2
 have hx0' := Ob.leave hx0 hz0 hl2 (j := 2) (by decide)
 have hB : Bm w O0 w O0 := Bm.refl
 refine fn_enter Tryz.func95 rfl Tryz.ntmps95 rfl ?_
 unfold m_pqueue_Queue_Pop at hm
 refine ewp_seq (ewp_region (o_as rfl rfl (o_as rfl rfl (o_as rfl rfl (o_as rfl rfl (o_z ?_))))))
 refine ewp_seq (ewp_region (o_mv rfl rfl ?_))
 obtain ⟨q2, e3, hm⟩ := bs hm
 refine l_callM (O := O0) (c_pqueue_Queue_Peek hx0' e3) rfl rfl fun v8 w4 O5 S6 h7 => ?_
 obtain ⟨v10, v11, v12, v13, h9, rfl, h14, h15, h16, h17⟩ := h7
 obtain ⟨rfl, r18⟩ := h14.int
 obtain ⟨rfl, r19⟩ := h15.int
 obtain ⟨rfl, r20⟩ := h16.int
 obtain ⟨rfl, r21⟩ := h17.err
 refine o_mv rfl rfl (o_ex rfl rfl rfl (o_ex rfl rfl rfl (o_ex rfl rfl rfl (o_ex rfl rfl rfl (o_as rfl rfl (o_as rfl rfl (o_as rfl rfl (o_as rfl rfl (o_z ?_)))))))))
 refine ewp_seq (ewp_seq (ewp_region (o_mv rfl rfl (o_rnS rfl rfl (fun c22 => ?_) fun c22 => ?_))))
 ·
  replace hm := ip hm c22
  refine o_z ?_
  refine ewp_true rfl (ewp_seq (ewp_region (o_mv rfl rfl (o_as rfl rfl (o_as rfl rfl (o_as rfl rfl (o_as rfl rfl (o_z ?_))))))))
  refine ewp_ret ?_
  obtain rfl := sm hm
  replace hB := hB.st S6
  obtain ⟨O', hS', hz, hl⟩ := hE.leave (fun q => if q = 2 then i0 else 0) rfl hB
  exact ret4 rfl (res_tmp rfl) (res_tmp rfl) (res_tmp rfl) (res_tmp rfl) ⟨O', hS', _, _, _, _, (Ob.leave h9 hz (hl 2 (by decide) (by decide)) hx0.2), rfl, (vInt (show inI64 (0) from by decide)), (vInt (show inI64 (0) from by decide)), (vInt (show inI64 (0) from by decide)), (vErr r21)⟩
 replace hm := im hm c22
 refine o_z ?_
 refine ewp_false rfl (ewp_skip (ewp_seq (ewp_region (o_mv rfl rfl (o_nc rfl rfl ?_)))))
 obtain ⟨O23, v27, S24, ha26, h25, h28, r32⟩ := Que.opn h9 2 3 (by decide)
 obtain ⟨A29, c30, rfl⟩ := h28.form
 refine o_fa rfl rfl (o_ld (hc := Blk.cell (i := 0) (h25.1) rfl) rfl rfl ?_)
 refine o_ln rfl rfl ?_
 have l34 : x0.heap.length ≤ 9223372036854775807 := Nat.le_trans h28.len.2.1 h28.len.2.2
 have r33 : inI64 (x0.heap.length : Int) := rngNat l34
 obtain ⟨n35, e36, hm⟩ := bs hm
 have r37 := (chkI_rng e36)
 refine o_sbE (he := e36) rfl rfl rfl ?_
 refine o_as rfl rfl (o_z ?_)
 refine ewp_seq (ewp_drawX [] O23 ?_)
 refine x_pre (fuel := 1) [] [(0, true), (1, true), (2, true), (3, true), (4, true), (5, true), (6, true), (7, true), (8, true), (9, true), (10, true), (11, true)] (by kernel_rfl) rfl ?_
 refine h_mv rfl rfl rfl (h_nc rfl rfl rfl (h_fa rfl rfl rfl (h_ldC (hc := fun w' ⟨O', hq⟩ => Blk.cell (i := 0) ((h25.st hq (by decide)).1) rfl) rfl rfl rfl ?_)))
 refine h_mv rfl rfl rfl (h_nc rfl rfl rfl (h_fa rfl rfl rfl (h_ldC (hc := fun w' ⟨O', hq⟩ => Blk.cell (i := 0) ((h25.st hq (by decide)).1) rfl) rfl rfl rfl ?_)))
 refine h_mv rfl rfl rfl ?_
 obtain ⟨a38, e39, hm⟩ := bs hm
 obtain ⟨p41, x40⟩ := atI_some' e39
 obtain ⟨b42, o43, ce44, hA45, hF48, hl46, hd47, rfl, r49, r50, r51, r52⟩ := h28.elemF x40
 refine h_iaE (hA := hA45) (hj := (Int.toNat_of_nonneg p41).symm) (hlt := hl46) rfl rfl rfl rfl ?_
 refine h_laB (hl := rfl) (hb := fun w' ⟨O', hq⟩ => (cellsAt_agree (hq.agree (i := 3) (by decide)) hF48 hd47)) rfl rfl rfl ?_
 obtain ⟨a53, e54, hm⟩ := bs hm
 obtain ⟨p56, x55⟩ := atI_some' e54
 obtain ⟨b57, o58, ce59, hA60, hF63, hl61, hd62, rfl, r64, r65, r66, r67⟩ := h28.elemF x55
 refine h_iaE (hA := hA60) (hj := (Int.toNat_of_nonneg p56).symm) (hlt := hl61) rfl rfl rfl rfl ?_
 refine hwp_nilT ?_
 refine x_one (i := 12) (by kernel_rfl) rfl ?_
 refine l_setE rfl h28 (a := a38) (Vb.ofAgg (cs := [(.int .i64 a38.key), (.int .i64 a38.tie), (.int .i64 a38.item), (.int .i64 a38.number)]) (x := a38) rfl ⟨rfl, r49, r50, r51, r52⟩) hA60 rfl rfl (lt_of_get x55) fun w68 S69 h28 => ?_
 refine x_end (by kernel_rfl) ?_
 refine x_nil (by kernel_rfl) ?_
 refine ewp_seq (ewp_region (o_mv rfl rfl (o_mv rfl rfl (o_nc rfl rfl (o_fa rfl rfl ?_)))))
 replace h25 := h25.st S69
 refine o_ld (hc := Blk.cell (i := 0) (h25.1) rfl) rfl rfl ?_
 refine o_mv rfl rfl ?_
 obtain ⟨u70, e71, hm⟩ := bs hm
 obtain ⟨h72, e73⟩ := cutRw h28 e71
 refine o_cutH (hc := e73) rfl rfl rfl ?_
 refine o_nc rfl rfl (o_fa rfl rfl (l_store h25 rfl rfl rfl (nle_b rfl) (allOne rfl) fun w75 S76 h25 => ?_))
 replace h25 : Lc 2 w75 O23 p0 200 [(.slice A29 u70.length c30), (.int .i64 x0.next)] := h25
 refine o_z ?_
 refine ewp_seq (ewp_region (o_mv rfl rfl ?_))
 replace h72 := h72.st S76
 obtain ⟨O77, S78, hz80, ha81, h79⟩ := Que.shut (x := (⟨u70, x0.next⟩ : Que)) (l0 := 2) (l1 := 3) (by decide) h25 h72 r32
 obtain ⟨q82, e83, hm⟩ := bs hm
 refine l_callM (O := O77) (c_pqueue_Queue_down h79 (show inI64 (0) from by decide) e83) rfl rfl fun v88 w84 O85 S86 h89 => ?_
 refine o_z ?_
 refine ewp_seq (ewp_region (o_mv rfl rfl (o_mv rfl rfl (o_mv rfl rfl (o_as rfl rfl (o_as rfl rfl (o_as rfl rfl (o_as rfl rfl (o_z ?_)))))))))
 refine ewp_ret ?_
 obtain rfl := sm hm
 replace hB := (((((hB.st S6).st S24).st S69).st S76).st S78).st S86
 obtain ⟨O', hS', hz, hl⟩ := hE.leave (fun q => if q = 2 then i0 else 0) rfl hB
 exact ret4 rfl (res_tmp rfl) (res_tmp rfl) (res_tmp rfl) (res_tmp rfl) ⟨O', hS', _, _, _, _, (Ob.leave h89 hz (hl 2 (by decide) (by decide)) hx0.2), rfl, (vInt r18), (vInt r19), (vInt r20), (vErr (show inI64 0 from by decide))⟩
end
end Go.Proofs.YtkbmbcblgdgjlaaGreat

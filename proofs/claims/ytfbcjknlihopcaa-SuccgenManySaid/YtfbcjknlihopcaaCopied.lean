/- Own text: contract of succgen.copied: a task that shares no memory with another one. -/
import Derived.Test.YtfbcjknlihopcaaBuild
namespace Go.Proofs.Ytfbcjknlihopcaa
open Go Go.RowKit
attribute [local irreducible] ewp owp hwp hwq hws Ev Evg Fn retPost loud loudS Res1
/-- The blocks that are new. -/
def nw (w w' : World) : Nat → Prop := fun k => w.heap.size ≤ k ∧ k < w'.heap.size
theorem chunks_fct {w : World} {F G : Nat → Prop} : ∀ {xs : List Fct} {cells : List Value}, Chunks w F cells xs → Chunks w G cells xs
  | [], _, h => h
  | _ :: _, _, ⟨cs, rest, he, hr, hc⟩ => ⟨cs, rest, he, hr, chunks_fct hc⟩
theorem chunks_int' {w : World} {F G : Nat → Prop} : ∀ {xs : List Int} {cells : List Value}, Chunks w F cells xs → Chunks w G cells xs
  | [], _, h => h
  | _ :: _, _, ⟨cs, rest, he, hr, hc⟩ => ⟨cs, rest, he, hr, chunks_int' hc⟩
theorem cloneIntsN {w : World} {sv : Value} {xs : List Int} (hs : V w sv xs) (hl : xs.length ≤ 1000000) : Fn Try.prog 34 [sv] w fun v w' => Vb w' (nw w w') v xs ∧ Ext w w' :=
  (cloneInts hs (by omega)).mono fun v w' ⟨ho, hE⟩ => ⟨by
    obtain ⟨cells, q1, q2, q3⟩ := id ho
    have ho' : Own w' w.heap.size (fun _ => False) 3 v xs := ⟨cells, q1, chunks_int' q2, fun _ _ h => h⟩
    exact ho'.vb.mono fun k hk => ho.lt k (hk.resolve_left id), hE⟩
theorem cloneFactsN {w : World} {sv : Value} {xs : List Fct} (hs : V w sv xs) (hl : xs.length ≤ 1000000) : Fn Try.prog 43 [sv] w fun v w' => Vb w' (nw w w') v xs ∧ Ext w w' :=
  (cloneFacts hs (by omega)).mono fun v w' ⟨ho, hE⟩ => ⟨by
    obtain ⟨cells, q1, q2, q3⟩ := id ho
    have ho' : Own w' w.heap.size (fun _ => False) 28 v xs := ⟨cells, q1, chunks_fct q2, fun _ _ h => h⟩
    exact ho'.vb.mono fun k hk => ho.lt k (hk.resolve_left id), hE⟩
theorem Vb.nwext {α : Type} [Rp α] {w w' w'' : World} {v : Value} {x : α} (h : Vb w' (nw w w') v x) (hE : Ext w' w'') : Vb w'' (nw w w') v x := h.agree (hE.agree fun _ hk => hk.2)
theorem genCopied {w : World} {tv : Value} {t : Tsk} (ht : V w tv t) (hl1 : t.vars.length ≤ 1000000) (hl2 : t.init.length ≤ 1000000) (hl3 : t.goal.length ≤ 1000000) (hl4 : t.ops.length ≤ 1000000)
    (hl5 : ∀ (i : Nat) o, t.ops[i]? = some o → o.pre.length ≤ 1000000 ∧ o.effs.length ≤ 1000000 ∧ ∀ (j : Nat) e, o.effs[j]? = some e → e.cond.length ≤ 1000000) :
    Fn Try.prog 30 [tv] w fun v w' => Vb w' (nw w w') v t ∧ Ext w w' := by
  obtain ⟨cs, rfl, a, b, c, d, rfl, hvars, hinit, hgoal, hops⟩ := ht
  obtain ⟨Av, cv, rfl⟩ := hvars.form
  obtain ⟨Ai, ci, rfl⟩ := hinit.form
  obtain ⟨Ag, cg, rfl⟩ := hgoal.form
  obtain ⟨Ao, co, rfl⟩ := hops.form
  refine fn_enter Try.func30 rfl Try.ntmps30 rfl ?_
  repeat (first | refine ewp_seq ?_ | refine ewp_block ?_ | refine ewp_region ?_ | refine ewp_skip ?_ | refine ewp_exit ?_ | refine ewp_ret ?_ | refine ewp_true rfl ?_ | refine ewp_false rfl ?_)
  refine owp_box rfl rfl fun w1 hN1 => ?_
  refine owp_alloc rfl fun w2 hN2 => ?_
  have hE2 : Ext w w2 := hN1.ext.trans' hN2.ext
  have hz1 : w1.heap.size = w.heap.size + 1 := hN1.size
  have hz2 : w2.heap.size = w1.heap.size + 1 := hN2.size
  have hb1 : Blk w2 w.heap.size 26 [.slice Av t.vars.length cv, .slice Ai t.init.length ci, .slice Ag t.goal.length cg, .slice Ao t.ops.length co] := hN1.blk.ext hN2.ext
  have hres : Blk w2 w1.heap.size 26 [.slice none 0 0, .slice none 0 0, .slice none 0 0, .slice none 0 0] := hN2.blk
  ((first | refine owp_nilT ?_ | refine owp_nilB ?_ | refine owp_nilBB ?_ | refine owp_nil ?_))
  refine ewp_cut (fun l' w' => ∃ g3 av bv cv', subs l' [(1, .pointer (some ⟨w.heap.size, 0, none⟩)), (2, .pointer (some ⟨w1.heap.size, 0, none⟩)), (3, .pointer (some ⟨g3, 0, none⟩))] ∧ Ext w2 w' ∧ w2.heap.size ≤ g3 ∧ Blk w' g3 26 [av, bv, cv', .slice none 0 0] ∧
    Vb w' (fun k => nw w2 w' k ∧ k ≠ g3) av t.vars ∧ Vb w' (fun k => nw w2 w' k ∧ k ≠ g3) bv t.init ∧ Vb w' (fun k => nw w2 w' k ∧ k ≠ g3) cv' t.goal) ?_ ?_
  · have q0 : ∀ w', Ext w2 w' → Blk w' w.heap.size 26 [.slice Av t.vars.length cv, .slice Ai t.init.length ci, .slice Ag t.goal.length cg, .slice Ao t.ops.length co] := fun w' h => hb1.ext h
    refine ewp_drawS (Ext w2) ?_
    refine hws_q (i := 0) rfl (by kernel_rfl) (by kernel_rfl) (by kernel_rfl) rfl rfl (evg fun _ _ => ev_fieldAddr rfl) (Below.refl _ _) ?_
    refine hws_q (i := 1) rfl (by kernel_rfl) (by kernel_rfl) (by kernel_rfl) rfl rfl (evg fun _ hS => ev_load1 rfl ((hb1.ext hS).cell rfl)) (Below.refl _ _) ?_
    refine hws_q (i := 3) rfl (by kernel_rfl) (by kernel_rfl) (by kernel_rfl) rfl rfl (evg fun _ _ => ev_fieldAddr rfl) (Below.refl _ _) ?_
    refine hws_q (i := 4) rfl (by kernel_rfl) (by kernel_rfl) (by kernel_rfl) rfl rfl (evg fun _ hS => ev_load1 rfl ((hb1.ext hS).cell rfl)) (Below.refl _ _) ?_
    refine hws_q (i := 6) rfl (by kernel_rfl) (by kernel_rfl) (by kernel_rfl) rfl rfl (evg fun _ _ => ev_fieldAddr rfl) (Below.refl _ _) ?_
    refine hws_q (i := 7) rfl (by kernel_rfl) (by kernel_rfl) (by kernel_rfl) rfl rfl (evg fun _ hS => ev_load1 rfl ((hb1.ext hS).cell rfl)) (Below.refl _ _) ?_
    refine hws_two (i := 2) (j := 10) (by kernel_rfl) rfl rfl ?_ ?_
    · refine owp_call rfl rfl (cloneIntsN (hvars.ext hE2) hl1) ?_
      rintro av w3 ⟨hav, hE3⟩
      refine owp_loudS hE3 ?_
      refine hws_two (i := 5) (j := 10) (by kernel_rfl) rfl rfl ?_ ?_
      · refine owp_call rfl rfl (cloneIntsN (hinit.ext (hE2.trans' hE3)) hl2) ?_
        rintro bv w4 ⟨hbv, hE4⟩
        refine owp_loudS (hE3.trans' hE4) ?_
        refine hws_two (i := 8) (j := 10) (by kernel_rfl) rfl rfl ?_ ?_
        · refine owp_call rfl rfl (cloneFactsN (hgoal.ext (hE2.trans' (hE3.trans' hE4))) hl3) ?_
          rintro cv' w5 ⟨hcv, hE5⟩
          refine owp_loudS (hE3.trans' (hE4.trans' hE5)) ?_
          refine hws_ord [(9, true), (10, false), (11, false)] (by kernel_rfl) rfl (by kernel_rfl) (hE3.trans' (hE4.trans' hE5)) ?_
          obtain ⟨Aa, ca, rfl⟩ := hav.form
          obtain ⟨Ab, cb, rfl⟩ := hbv.form
          obtain ⟨Ac, cc, rfl⟩ := hcv.form
          refine hwp_o rfl ?_
          refine hwq_ev (fun _ _ => ev_build rfl rfl) rfl ?_
          refine hwp_loud rfl ?_
          refine owp_alloc rfl fun w6 hN6 => ?_
          refine owp_loud (hE3.trans' (hE4.trans' (hE5.trans' hN6.ext))) ?_
          refine hwp_loud rfl ?_
          refine owp_store rfl rfl hN6.blk rfl (Nat.le_refl _) (by simp [Value.cells, Value.oneCell', setParts, setFrom]) fun w7 hU => ?_
          refine owp_loudE (hwp_nilT ?_)
          have hE7 : Ext w5 w7 := (hN6.upd hU).ext
          have s3 := hE3.size; have s4 := hE4.size; have s5 := hE5.size; have s7 := hE7.size
          refine ⟨w5.heap.size, _, _, _, ⟨rfl, rfl, rfl, trivial⟩, hE3.trans' (hE4.trans' (hE5.trans' hE7)), by omega, hU.blk, ?_, ?_, ?_⟩
          · exact ((((hav.nwext hE4).agree (hE5.agree fun k hk => by have := hk.2; omega)).agree (hE7.agree fun k hk => by have := hk.2; omega)).mono fun k hk => ⟨⟨by have := hk.1; omega, by have := hk.2; omega⟩, by have := hk.2; omega⟩)
          · exact ((hbv.nwext hE5).agree (hE7.agree fun k hk => by have := hk.2; omega)).mono fun k hk => ⟨⟨by have := hk.1; omega, by have := hk.2; omega⟩, by have := hk.2; omega⟩
          · exact (hcv.nwext hE7).mono fun k hk => ⟨⟨by have := hk.1; omega, by have := hk.2; omega⟩, by have := hk.2; omega⟩
        · refine owp_alloc rfl fun w5 hN => ?_
          have hE5 := hN.ext
          refine owp_loudS (hE3.trans' (hE4.trans' hE5)) ?_
          refine hws_ord [(8, false), (9, true), (11, false)] (by kernel_rfl) rfl (by kernel_rfl) (hE3.trans' (hE4.trans' hE5)) ?_
          refine hwp_loud rfl ?_
          refine owp_call rfl rfl (cloneFactsN (hgoal.ext (hE2.trans' (hE3.trans' (hE4.trans' hE5)))) hl3) ?_
          rintro cv' w6 ⟨hcv, hE6⟩
          refine owp_loud (hE3.trans' (hE4.trans' (hE5.trans' hE6))) ?_
          have hg3 := hN.blk.ext hE6
          obtain ⟨Aa, ca, rfl⟩ := hav.form
          obtain ⟨Ab, cb, rfl⟩ := hbv.form
          obtain ⟨Ac, cc, rfl⟩ := hcv.form
          refine hwp_o rfl ?_
          refine hwq_ev (fun _ _ => ev_build rfl rfl) rfl ?_
          refine hwp_loud rfl ?_
          refine owp_store rfl rfl hg3 rfl (Nat.le_refl _) (by simp [Value.cells, Value.oneCell', setParts, setFrom]) fun w7 hU => ?_
          refine owp_loudE (hwp_nilT ?_)
          have s3 := hE3.size; have s4 := hE4.size; have s5 := hE5.size; have s6 := hE6.size; have s7 := hU.size; have sN := hN.size
          refine ⟨_, _, _, _, ⟨rfl, rfl, rfl, trivial⟩, (hE3.trans' (hE4.trans' (hE5.trans' hE6))).trans (hU.below (by omega)), by omega, hU.blk, ?_, ?_, ?_⟩
          · exact (hav.agree fun k hk => (hU.other k (by have := hk.2; omega)).trans ((hE4.trans' (hE5.trans' hE6)).block k hk.2)).mono fun k hk => ⟨⟨by have := hk.1; omega, by have := hk.2; omega⟩, by have := hk.2; omega⟩
          · exact (hbv.agree fun k hk => (hU.other k (by have := hk.2; omega)).trans ((hE5.trans' hE6).block k hk.2)).mono fun k hk => ⟨⟨by have := hk.1; omega, by have := hk.2; omega⟩, by have := hk.2; omega⟩
          · exact (hcv.agree fun k hk => hU.other k (by have := hk.1; omega)).mono fun k hk => ⟨⟨by have := hk.1; omega, by have := hk.2; omega⟩, by have := hk.1; omega⟩
      · refine owp_alloc rfl fun w4 hN => ?_
        have hE4 := hN.ext
        refine owp_loudS (hE3.trans' hE4) ?_
        refine hws_ord [(5, false), (8, false), (9, true), (11, false)] (by kernel_rfl) rfl (by kernel_rfl) (hE3.trans' hE4) ?_
        refine hwp_loud rfl ?_
        refine owp_call rfl rfl (cloneIntsN (hinit.ext (hE2.trans' (hE3.trans' hE4))) hl2) ?_
        rintro bv w5 ⟨hbv, hE5⟩
        refine owp_loud (hE3.trans' (hE4.trans' hE5)) ?_
        refine hwp_loud rfl ?_
        refine owp_call rfl rfl (cloneFactsN (hgoal.ext (hE2.trans' (hE3.trans' (hE4.trans' hE5)))) hl3) ?_
        rintro cv' w6 ⟨hcv, hE6⟩
        refine owp_loud (hE3.trans' (hE4.trans' (hE5.trans' hE6))) ?_
        have hg3 := (hN.blk.ext hE5).ext hE6
        obtain ⟨Aa, ca, rfl⟩ := hav.form
        obtain ⟨Ab, cb, rfl⟩ := hbv.form
        obtain ⟨Ac, cc, rfl⟩ := hcv.form
        refine hwp_o rfl ?_
        refine hwq_ev (fun _ _ => ev_build rfl rfl) rfl ?_
        refine hwp_loud rfl ?_
        refine owp_store rfl rfl hg3 rfl (Nat.le_refl _) (by simp [Value.cells, Value.oneCell', setParts, setFrom]) fun w7 hU => ?_
        refine owp_loudE (hwp_nilT ?_)
        have s3 := hE3.size; have s4 := hE4.size; have s5 := hE5.size; have s6 := hE6.size; have s7 := hU.size; have sN := hN.size
        refine ⟨_, _, _, _, ⟨rfl, rfl, rfl, trivial⟩, (hE3.trans' (hE4.trans' (hE5.trans' hE6))).trans (hU.below (by omega)), by omega, hU.blk, ?_, ?_, ?_⟩
        · exact (hav.agree fun k hk => (hU.other k (by have := hk.2; omega)).trans ((hE4.trans' (hE5.trans' hE6)).block k hk.2)).mono fun k hk => ⟨⟨by have := hk.1; omega, by have := hk.2; omega⟩, by have := hk.2; omega⟩
        · exact (hbv.agree fun k hk => (hU.other k (by have := hk.1; omega)).trans (hE6.block k hk.2)).mono fun k hk => ⟨⟨by have := hk.1; omega, by have := hk.2; omega⟩, by have := hk.1; omega⟩
        · exact (hcv.agree fun k hk => hU.other k (by have := hk.1; omega)).mono fun k hk => ⟨⟨by have := hk.1; omega, by have := hk.2; omega⟩, by have := hk.1; omega⟩
    · refine owp_alloc rfl fun w3 hN => ?_
      have hE3 := hN.ext
      refine owp_loudS hE3 ?_
      refine hws_ord [(2, false), (5, false), (8, false), (9, true), (11, false)] (by kernel_rfl) rfl (by kernel_rfl) hE3 ?_
      refine hwp_loud rfl ?_
      refine owp_call rfl rfl (cloneIntsN (hvars.ext (hE2.trans' hE3)) hl1) ?_
      rintro av w4 ⟨hav, hE4⟩
      refine owp_loud (hE3.trans' hE4) ?_
      refine hwp_loud rfl ?_
      refine owp_call rfl rfl (cloneIntsN (hinit.ext (hE2.trans' (hE3.trans' hE4))) hl2) ?_
      rintro bv w5 ⟨hbv, hE5⟩
      refine owp_loud (hE3.trans' (hE4.trans' hE5)) ?_
      refine hwp_loud rfl ?_
      refine owp_call rfl rfl (cloneFactsN (hgoal.ext (hE2.trans' (hE3.trans' (hE4.trans' hE5)))) hl3) ?_
      rintro cv' w6 ⟨hcv, hE6⟩
      refine owp_loud (hE3.trans' (hE4.trans' (hE5.trans' hE6))) ?_
      have hg3 := ((hN.blk.ext hE4).ext hE5).ext hE6
      obtain ⟨Aa, ca, rfl⟩ := hav.form
      obtain ⟨Ab, cb, rfl⟩ := hbv.form
      obtain ⟨Ac, cc, rfl⟩ := hcv.form
      refine hwp_o rfl ?_
      refine hwq_ev (fun _ _ => ev_build rfl rfl) rfl ?_
      refine hwp_loud rfl ?_
      refine owp_store rfl rfl hg3 rfl (Nat.le_refl _) (by simp [Value.cells, Value.oneCell', setParts, setFrom]) fun w7 hU => ?_
      refine owp_loudE (hwp_nilT ?_)
      have s3 := hE3.size; have s4 := hE4.size; have s5 := hE5.size; have s6 := hE6.size; have s7 := hU.size; have sN := hN.size
      refine ⟨_, _, _, _, ⟨rfl, rfl, rfl, trivial⟩, (hE3.trans' (hE4.trans' (hE5.trans' hE6))).trans (hU.below (by omega)), by omega, hU.blk, ?_, ?_, ?_⟩
      · exact (hav.agree fun k hk => (hU.other k (by have := hk.1; omega)).trans ((hE5.trans' hE6).block k hk.2)).mono fun k hk => ⟨⟨by have := hk.1; omega, by have := hk.2; omega⟩, by have := hk.1; omega⟩
      · exact (hbv.agree fun k hk => (hU.other k (by have := hk.1; omega)).trans (hE6.block k hk.2)).mono fun k hk => ⟨⟨by have := hk.1; omega, by have := hk.2; omega⟩, by have := hk.1; omega⟩
      · exact (hcv.agree fun k hk => hU.other k (by have := hk.1; omega)).mono fun k hk => ⟨⟨by have := hk.1; omega, by have := hk.2; omega⟩, by have := hk.1; omega⟩
  · rintro l' w3 ⟨g3, av, bv, cv', hsub, hE3, hg3, hb3, hav, hbv, hcv⟩
    refine ewp_sub _ hsub ?_
    clear hsub
    replace hb1 := hb1.ext hE3
    replace hres := hres.ext hE3
    have hE03 : Ext w w3 := hE2.trans' hE3
    have hg3z : g3 < w3.heap.size := hb3.lt
    repeat (first | refine ewp_seq ?_ | refine ewp_block ?_ | refine ewp_region ?_ | refine ewp_skip ?_ | refine ewp_exit ?_ | refine ewp_ret ?_ | refine ewp_true rfl ?_ | refine ewp_false rfl ?_)
    ((repeat (first | refine ewp_seq ?_ | refine ewp_block ?_ | refine ewp_region ?_ | refine ewp_skip ?_ | refine ewp_exit ?_ | refine ewp_ret ?_ | refine ewp_true rfl ?_ | refine ewp_false rfl ?_)) <;> (refine o_fa rfl rfl ?_ <;> refine o_ld rfl rfl ?_ <;> refine o_ln rfl rfl ?_ <;> refine o_mv rfl rfl ?_ <;> (first | refine owp_nilT ?_ | refine owp_nilB ?_ | refine owp_nilBB ?_ | refine owp_nil ?_)) <;> (repeat (first | refine ewp_seq ?_ | refine ewp_block ?_ | refine ewp_region ?_ | refine ewp_skip ?_ | refine ewp_exit ?_ | refine ewp_ret ?_ | refine ewp_true rfl ?_ | refine ewp_false rfl ?_)))
    refine ewp_range t.ops.length (by omega) (fun _ : Unit => [(2, .pointer (some ⟨w1.heap.size, 0, none⟩)), (3, .pointer (some ⟨g3, 0, none⟩)), (20, .slice Ao t.ops.length co)])
      (fun k _ w' => Below w2.heap.size w2 w' ∧ w3.heap.size ≤ w'.heap.size ∧ (∀ q, q < w3.heap.size → q ≠ g3 → w'.heap[q]? = w3.heap[q]?) ∧ ∃ (ov : Value) (G : Nat → Prop), Blk w' g3 26 [av, bv, cv', ov] ∧ (∀ q, G q → w3.heap.size ≤ q ∧ q < w'.heap.size) ∧ Own w' w3.heap.size G 34 ov (t.ops.take k)) ()
      ⟨hE3, Nat.le_refl _, fun _ _ _ => rfl, .slice none 0 0, fun _ => False, hb3, fun _ h => h.elim, Own.nil _ _ _ _⟩ ⟨rfl, rfl, rfl, rfl, rfl, trivial⟩ (fun _ => ⟨rfl, rfl⟩) ⟨rfl, rfl, rfl⟩ ⟨rfl, rfl⟩ ?_ ?_
    · rintro k _ w4 hk ⟨hB4, hz34, hkeep, ov, G, hb3, hG, hown⟩
      have hE04 : Ext w w4 := hE2.trans (hB4.mono (by omega))
      obtain ⟨o, ho⟩ := some_of_lt hk
      obtain ⟨hp5, hq5, hc5⟩ := hl5 k o ho
      obtain ⟨b2, o2, ce, rfl, _, _, hd1, p, q, rfl, hp, hq, hc, hn⟩ := (hops.ext hE04).elem ho
      obtain ⟨Ap, cp, rfl⟩ := hp.form
      obtain ⟨Aq, cq, rfl⟩ := hq.form
      obtain ⟨Aov, cov, rfl⟩ := hown.form
      ((repeat (first | refine ewp_seq ?_ | refine ewp_block ?_ | refine ewp_region ?_ | refine ewp_skip ?_ | refine ewp_exit ?_ | refine ewp_ret ?_ | refine ewp_true rfl ?_ | refine ewp_false rfl ?_)) <;> (refine o_ia rfl rfl rfl ?_ <;> refine o_la rfl rfl ?_) <;> (repeat (first | refine ewp_seq ?_ | refine ewp_block ?_ | refine ewp_region ?_ | refine ewp_skip ?_ | refine ewp_exit ?_ | refine ewp_ret ?_ | refine ewp_true rfl ?_ | refine ewp_false rfl ?_)))
      refine owp_local rfl rfl rfl (by simp [Value.cells, Value.oneCell']) fun w5 hN5 => ?_
      have hb2 : Blk w5 w4.heap.size 34 [.string o.name, .int .i64 o.cost, .slice Ap o.pre.length cp, .slice Aq o.effs.length cq] := hN5.blk
      have hz5 := hN5.size
      ((first | refine owp_nilT ?_ | refine owp_nilB ?_ | refine owp_nilBB ?_ | refine owp_nil ?_))
      repeat (first | refine ewp_seq ?_ | refine ewp_block ?_ | refine ewp_region ?_ | refine ewp_skip ?_ | refine ewp_exit ?_ | refine ewp_ret ?_ | refine ewp_true rfl ?_ | refine ewp_false rfl ?_)
      clear hd1
      (refine o_fa rfl rfl ?_ <;> refine o_ld rfl rfl ?_)
      refine owp_call rfl rfl (cloneFactsN (hp.ext hN5.ext) hp5) ?_
      rintro pv w6 ⟨hpv, hE6⟩
      obtain ⟨Ap', cp', rfl⟩ := hpv.form
      replace hb2 := hb2.ext hE6
      (refine o_fa rfl rfl ?_)
      refine owp_store rfl rfl hb2 rfl (show 0 + 2 + 1 ≤ 4 by decide) (by simp [Value.cells, Value.oneCell']) fun w7 hU7 => ?_
      have hE47 : Ext w4 w7 := (hN5.ext.trans' hE6).trans (hU7.below (Nat.le_refl _))
      replace hb2 : Blk w7 w4.heap.size 34 [.string o.name, .int .i64 o.cost, .slice Ap' o.pre.length cp', .slice Aq o.effs.length cq] := hU7.blk
      have hpv7 : Vb w7 (nw w5 w6) (.slice Ap' o.pre.length cp') o.pre := hpv.agree fun q hq => hU7.other q (by have := hq.1; omega)
      ((first | refine owp_nilT ?_ | refine owp_nilB ?_ | refine owp_nilBB ?_ | refine owp_nil ?_))
      repeat (first | refine ewp_seq ?_ | refine ewp_block ?_ | refine ewp_region ?_ | refine ewp_skip ?_ | refine ewp_exit ?_ | refine ewp_ret ?_ | refine ewp_true rfl ?_ | refine ewp_false rfl ?_)
      ((repeat (first | refine ewp_seq ?_ | refine ewp_block ?_ | refine ewp_region ?_ | refine ewp_skip ?_ | refine ewp_exit ?_ | refine ewp_ret ?_ | refine ewp_true rfl ?_ | refine ewp_false rfl ?_)) <;> (refine o_as rfl rfl ?_ <;> (first | refine owp_nilT ?_ | refine owp_nilB ?_ | refine owp_nilBB ?_ | refine owp_nil ?_)) <;> (repeat (first | refine ewp_seq ?_ | refine ewp_block ?_ | refine ewp_region ?_ | refine ewp_skip ?_ | refine ewp_exit ?_ | refine ewp_ret ?_ | refine ewp_true rfl ?_ | refine ewp_false rfl ?_)) <;> (refine o_fa rfl rfl ?_ <;> refine o_ld rfl rfl ?_ <;> refine o_ln rfl rfl ?_ <;> refine o_mv rfl rfl ?_ <;> (first | refine owp_nilT ?_ | refine owp_nilB ?_ | refine owp_nilBB ?_ | refine owp_nil ?_)) <;> (repeat (first | refine ewp_seq ?_ | refine ewp_block ?_ | refine ewp_region ?_ | refine ewp_skip ?_ | refine ewp_exit ?_ | refine ewp_ret ?_ | refine ewp_true rfl ?_ | refine ewp_false rfl ?_)))
      refine ewp_range o.effs.length (by omega) (fun ev : Value => [(2, .pointer (some ⟨w1.heap.size, 0, none⟩)), (3, .pointer (some ⟨g3, 0, none⟩)), (5, .pointer (some ⟨w4.heap.size, 0, none⟩)), (6, ev), (20, .slice (some ⟨b2, o2, none⟩) t.ops.length co), (21, .int .i64 (t.ops.length : Int)), (22, .int .i64 (k : Int)), (31, .slice Aq o.effs.length cq)])
        (fun i ev w' => Ext w7 w' ∧ ∃ H : Nat → Prop, (∀ q, H q → w7.heap.size ≤ q ∧ q < w'.heap.size) ∧ Own w' w7.heap.size H 52 ev (o.effs.take i)) (.slice none 0 0)
        ⟨Below.refl _ _, fun _ => False, fun _ h => h.elim, Own.nil _ _ _ _⟩ ⟨rfl, rfl, rfl, rfl, rfl, rfl, rfl, rfl, rfl, rfl, trivial⟩ (fun _ => ⟨rfl, rfl⟩) ⟨rfl, rfl, rfl⟩ ⟨rfl, rfl⟩ ?_ ?_
      · rintro i ev w8 hi ⟨hE8, H, hH, hev⟩
        obtain ⟨e, he⟩ := some_of_lt hi
        have hce := hc5 i e he
        obtain ⟨b3, o3, ce, rfl, _, _, hd1, cv8, rfl, hcn, hr1, hr2⟩ := (hq.ext (hE47.trans' hE8)).elem he
        obtain ⟨Acn, ccn, rfl⟩ := hcn.form
        ((repeat (first | refine ewp_seq ?_ | refine ewp_block ?_ | refine ewp_region ?_ | refine ewp_skip ?_ | refine ewp_exit ?_ | refine ewp_ret ?_ | refine ewp_true rfl ?_ | refine ewp_false rfl ?_)) <;> (refine o_ia rfl rfl rfl ?_ <;> refine o_la rfl rfl ?_) <;> (repeat (first | refine ewp_seq ?_ | refine ewp_block ?_ | refine ewp_region ?_ | refine ewp_skip ?_ | refine ewp_exit ?_ | refine ewp_ret ?_ | refine ewp_true rfl ?_ | refine ewp_false rfl ?_)))
        refine owp_local rfl rfl rfl (by simp [Value.cells, Value.oneCell']) fun w9 hN9 => ?_
        have hb4 : Blk w9 w8.heap.size 52 [.slice Acn e.cond.length ccn, .int .i64 e.var, .int .i64 e.val] := hN9.blk
        have hz9 := hN9.size
        ((first | refine owp_nilT ?_ | refine owp_nilB ?_ | refine owp_nilBB ?_ | refine owp_nil ?_))
        repeat (first | refine ewp_seq ?_ | refine ewp_block ?_ | refine ewp_region ?_ | refine ewp_skip ?_ | refine ewp_exit ?_ | refine ewp_ret ?_ | refine ewp_true rfl ?_ | refine ewp_false rfl ?_)
        clear hd1
        (refine o_fa rfl rfl ?_ <;> refine o_ld rfl rfl ?_)
        refine owp_call rfl rfl (cloneFactsN (hcn.ext hN9.ext) hce) ?_
        rintro cw w10 ⟨hcw, hE10⟩
        obtain ⟨Acw, ccw, rfl⟩ := hcw.form
        replace hb4 := hb4.ext hE10
        (refine o_fa rfl rfl ?_)
        refine owp_store rfl rfl hb4 rfl (show 0 + 0 + 1 ≤ 3 by decide) (by simp [Value.cells, Value.oneCell']) fun w11 hU11 => ?_
        replace hb4 : Blk w11 w8.heap.size 52 [.slice Acw e.cond.length ccw, .int .i64 e.var, .int .i64 e.val] := hU11.blk
        have hE811 : Ext w8 w11 := (hN9.ext.trans' hE10).trans (hU11.below (Nat.le_refl _))
        have hE711 : Ext w7 w11 := hE8.trans' hE811
        have hcw11 : Vb w11 (nw w9 w10) (.slice Acw e.cond.length ccw) e.cond := hcw.agree fun q hq => hU11.other q (by have := hq.1; omega)
        have s10 := hE10.size
        have s11 := hU11.size
        have hne : ∀ g, ev.ownBlock = some g → ¬ (H g ∨ nw w9 w10 g) := fun g hg h => by
          have hlt := (hev.lt g hg).2
          rcases h with h | h
          · obtain ⟨_, _, _, h3⟩ := hev; exact h3 g hg h
          · have := h.1; omega
        have hev11 : Own w11 w7.heap.size (fun q => H q ∨ nw w9 w10 q) 52 ev _ := (hev.ext hE811 fun q hq => (hH q hq).2).mono (fun q hq => .inl hq) hne
        have hH11 : ∀ q, (H q ∨ nw w9 w10 q) → w7.heap.size ≤ q ∧ q < w11.heap.size := fun q hq => by
          rcases hq with hq | hq
          · have := hH q hq; omega
          · have h1 := hq.1; have h2 := hq.2; have := hE8.size; omega
        have hil : (o.effs.take i).length ≤ 1000000 := by rw [List.length_take]; omega
        ((first | refine owp_nilT ?_ | refine owp_nilB ?_ | refine owp_nilBB ?_ | refine owp_nil ?_))
        repeat (first | refine ewp_seq ?_ | refine ewp_block ?_ | refine ewp_region ?_ | refine ewp_skip ?_ | refine ewp_exit ?_ | refine ewp_ret ?_ | refine ewp_true rfl ?_ | refine ewp_false rfl ?_)
        (refine o_mv rfl rfl ?_ <;> refine o_la rfl rfl ?_)
        refine owp_append1 (a := e) rfl rfl rfl hev11 (fun q hq => (hH11 q hq).2) hE711.size ⟨_, rfl, _, rfl, hcw11.mono fun q hq => .inr hq, hr1, hr2⟩ (by decide) (by decide) (by omega) (by omega) ⟨rfl, rfl⟩ fun ev' w12 hev12 hK12 => ?_
        (refine o_as rfl rfl ?_ <;> (first | refine owp_nilT ?_ | refine owp_nilB ?_ | refine owp_nilBB ?_ | refine owp_nil ?_))
        repeat (first | refine ewp_seq ?_ | refine ewp_block ?_ | refine ewp_region ?_ | refine ewp_skip ?_ | refine ewp_exit ?_ | refine ewp_ret ?_ | refine ewp_true rfl ?_ | refine ewp_false rfl ?_)
        exact ⟨ev', ⟨rfl, rfl, rfl, rfl, rfl, rfl, rfl, rfl, rfl, rfl, trivial⟩, hE711.trans (hev11.fits (Nat.le_refl _) hE711.size hK12), _, fun q hq => ⟨(hH11 q hq).1, Nat.lt_of_lt_of_le (hH11 q hq).2 hK12.size⟩, by rw [List.take_add_one, he]; simpa using hev12⟩
      rintro ev w12 ⟨hE12, H, hH, hev⟩
      rw [List.take_length] at hev
      obtain ⟨Aev, cev, rfl⟩ := hev.form
      replace hb2 := hb2.ext hE12
      repeat (first | refine ewp_seq ?_ | refine ewp_block ?_ | refine ewp_region ?_ | refine ewp_skip ?_ | refine ewp_exit ?_ | refine ewp_ret ?_ | refine ewp_true rfl ?_ | refine ewp_false rfl ?_)
      (refine o_mv rfl rfl ?_ <;> refine o_fa rfl rfl ?_)
      refine owp_store rfl rfl hb2 rfl (show 0 + 3 + 1 ≤ 4 by decide) (by simp [Value.cells, Value.oneCell']) fun w13 hU13 => ?_
      replace hb2 : Blk w13 w4.heap.size 34 [.string o.name, .int .i64 o.cost, .slice Ap' o.pre.length cp', .slice Aev o.effs.length cev] := hU13.blk
      have hE413 : Ext w4 w13 := (hE47.trans' hE12).trans (hU13.below (Nat.le_refl _))
      have s6 := hE6.size
      have s7 := hU7.size
      have s12 := hE12.size
      have s13 := hU13.size
      have hb3' := hb3.ext hE413
      have hg3lt := hb3.lt
      have hpv13 : Vb w13 (nw w5 w6) (.slice Ap' o.pre.length cp') o.pre := hpv7.agree fun q hq => (hU13.other q (by have := hq.1; omega)).trans (hE12.block q (by have := hq.2; omega))
      have hev13 : Vb w13 (fun q => H q ∨ (Value.slice Aev o.effs.length cev).ownBlock = some q) (.slice Aev o.effs.length cev) o.effs := hev.vb.agree fun q hq => hU13.other q (by
        rcases hq with hq | hq
        · have := (hH q hq).1; omega
        · have := (hev.lt q hq).1; omega)
      have hne : ∀ g, (Value.slice Aov (t.ops.take k).length cov).ownBlock = some g → ¬ (G g ∨ w4.heap.size ≤ g ∧ g < w13.heap.size) := fun g hg h => by
        have hlt := (hown.lt g hg).2
        rcases h with h | h
        · obtain ⟨_, _, _, h3⟩ := hown; exact h3 g hg h
        · omega
      have hown13 : Own w13 w3.heap.size (fun q => G q ∨ w4.heap.size ≤ q ∧ q < w13.heap.size) 34 _ _ := (hown.ext hE413 fun q hq => (hG q hq).2).mono (fun q hq => .inl hq) hne
      have hG13 : ∀ q, (G q ∨ w4.heap.size ≤ q ∧ q < w13.heap.size) → w3.heap.size ≤ q ∧ q < w13.heap.size := fun q hq => by
        have := hE413.size
        rcases hq with hq | hq
        · have := hG q hq; omega
        · omega
      have hopr : Vb w13 (fun q => G q ∨ w4.heap.size ≤ q ∧ q < w13.heap.size) (.agg #[.string o.name, .int .i64 o.cost, .slice Ap' o.pre.length cp', .slice Aev o.effs.length cev]) o :=
        ⟨[.string o.name, .int .i64 o.cost, .slice Ap' o.pre.length cp', .slice Aev o.effs.length cev], rfl, _, _, rfl, hpv13.mono fun q hq => .inr (by have h1 := hq.1; have h2 := hq.2; omega), hev13.mono fun q hq => .inr (by
          rcases hq with hq | hq
          · have := hH q hq; omega
          · have := hev.lt q hq; omega), hc, hn⟩
      have hkl : (t.ops.take k).length ≤ 1000000 := by rw [List.length_take]; omega
      ((first | refine owp_nilT ?_ | refine owp_nilB ?_ | refine owp_nilBB ?_ | refine owp_nil ?_))
      repeat (first | refine ewp_seq ?_ | refine ewp_block ?_ | refine ewp_region ?_ | refine ewp_skip ?_ | refine ewp_exit ?_ | refine ewp_ret ?_ | refine ewp_true rfl ?_ | refine ewp_false rfl ?_)
      have hbx := hb2
      clear hb1
      have hb1 := hb3'
      (refine o_fa rfl rfl ?_ <;> refine o_ld rfl rfl ?_ <;> refine o_la rfl rfl ?_)
      refine owp_append1 (a := o) rfl rfl rfl hown13 (fun q hq => (hG13 q hq).2) (by have := hE413.size; omega) hopr (by decide) (by decide) (by omega) (by omega) ⟨rfl, rfl⟩ fun ov' w14 hov14 hK14 => ?_
      obtain ⟨Aov', cov', rfl⟩ := hov14.form
      have hb3k := hK14.blk hb3' (hown13.blk_ne hb3' (by decide))
      (refine o_fa rfl rfl ?_)
      refine owp_store rfl rfl hb3k rfl (show 0 + 3 + 1 ≤ 4 by decide) (by simp [Value.cells, Value.oneCell']) fun w15 hU15 => ?_
      ((first | refine owp_nilT ?_ | refine owp_nilB ?_ | refine owp_nilBB ?_ | refine owp_nil ?_))
      repeat (first | refine ewp_seq ?_ | refine ewp_block ?_ | refine ewp_region ?_ | refine ewp_skip ?_ | refine ewp_exit ?_ | refine ewp_ret ?_ | refine ewp_true rfl ?_ | refine ewp_false rfl ?_)
      have hB14 : Below w3.heap.size w13 w14 := hown13.fits (Nat.le_refl _) (by have := hE413.size; omega) hK14
      have sz14 := hK14.size
      have sz15 := hU15.size
      refine ⟨(), ⟨rfl, rfl, rfl, rfl, rfl, trivial⟩, ?_, ?_, ?_, _, (fun q => G q ∨ w4.heap.size ≤ q ∧ q < w13.heap.size), hU15.blk, fun q hq => ?_, ?_⟩
      · exact hB4.trans (((hE413.mono (by omega)).trans (hB14.mono (by omega))).trans (hU15.below (by omega)))
      · have := hE413.size; omega
      · intro q hq hne'
        rw [hU15.other q hne', hB14.block q hq, hE413.block q (by omega), hkeep q hq hne']
      · have := hG13 q hq; omega
      · have hne15 := hov14.blk_ne hb3k (by decide)
        rw [List.take_add_one, ho]
        refine hov14.agree (hU15.agree ?_) fun g hg => hU15.other g fun he => hne15 (he ▸ hg)
        rintro (h | h)
        · have := (hG g3 h).1; omega
        · omega
    rintro _ w4 ⟨hB4, hz34, hkeep, ov, G, hb3, hG, hown⟩
    rw [List.take_length] at hown
    obtain ⟨Aov, cov, rfl⟩ := hown.form
    have hresz := hres.lt
    replace hres := hres.keep (hkeep _ hresz (by omega))
    clear hb1
    have hb1 := hb3
    repeat (first | refine ewp_seq ?_ | refine ewp_block ?_ | refine ewp_region ?_ | refine ewp_skip ?_ | refine ewp_exit ?_ | refine ewp_ret ?_ | refine ewp_true rfl ?_ | refine ewp_false rfl ?_)
    obtain ⟨Aa, ca, rfl⟩ := hav.form
    obtain ⟨Ab, cb, rfl⟩ := hbv.form
    obtain ⟨Ac, cc, rfl⟩ := hcv.form
    (refine o_la rfl rfl ?_)
    refine owp_store rfl rfl hres rfl (Nat.le_refl _) (by simp [Value.cells, Value.oneCell']) fun w5 hU => ?_
    ((first | refine owp_nilT ?_ | refine owp_nilB ?_ | refine owp_nilBB ?_ | refine owp_nil ?_))
    repeat (first | refine ewp_seq ?_ | refine ewp_block ?_ | refine ewp_region ?_ | refine ewp_skip ?_ | refine ewp_exit ?_ | refine ewp_ret ?_ | refine ewp_true rfl ?_ | refine ewp_false rfl ?_)
    have hE4 : Ext w w4 := hE2.trans (hB4.mono (by omega))
    have s5 := hU.size
    have s04 := hE4.size
    have hcl : ∀ {α : Type} [Rp α] {v : Value} {x : α}, Vb w3 (fun k => nw w2 w3 k ∧ k ≠ g3) v x → Vb w5 (nw w w5) v x := fun h => (h.agree fun q hq => (hU.other q (by have := hq.1.1; omega)).trans (hkeep q hq.1.2 hq.2)).mono fun q hq => ⟨by have := hq.1.1; omega, by have := hq.1.2; omega⟩
    have hovv : Vb w5 (nw w w5) (.slice Aov t.ops.length cov) t.ops := (hown.vb.agree fun q hq => hU.other q (by
      rcases hq with hq | hq
      · have := (hG q hq).1; omega
      · have := (hown.lt q hq).1; omega)).mono fun q hq => by
        rcases hq with hq | hq
        · have := hG q hq; exact ⟨by omega, by omega⟩
        · have := hown.lt q hq; exact ⟨by omega, by omega⟩
    refine ret1v rfl (res_cell rfl rfl hU.blk.cellsAt) ⟨⟨_, rfl, _, _, _, _, rfl, hcl hav, hcl hbv, hcl hcv, hovv⟩, hE4.trans (hU.below (by omega))⟩
end Go.Proofs.Ytfbcjknlihopcaa

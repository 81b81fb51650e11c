/- Own text: contract of succgen.New. -/
import Derived.Test.YtfbcjknlihopcaaCopied
import Derived.Test.YtfbcjknlihopcaaPlain
namespace Go.Proofs.Ytfbcjknlihopcaa
open Go Go.RowKit
attribute [local irreducible] ewp owp hwp hwq hws Ev Evg Fn retPost loud loudS Res1
theorem allOps_step : ∀ k, ((List.range (k + 1)).map fun i : Nat => (i : Int)) = ((List.range k).map fun i : Nat => (i : Int)) ++ [(k : Int)] := fun k => by
  rw [List.range_succ, List.map_append]; rfl
theorem genNew {w : World} {tv : Value} {t : Tsk} (ht : V w tv t) : Fn Try.prog 14 [tv] w fun v w' => Ext w w' ∧
    ((TaskOk t ∧ ∃ gv, v = .tuple #[gv, .nilIface] ∧ GenR w' (nw w w') gv t (treeOf t)) ∨ (¬ TaskOk t ∧ v = .tuple #[.pointer none, errV (checkN t)])) := by
  have ht0 := ht
  obtain ⟨cs, rfl, a, b, c, d, rfl, hvars, hinit, hgoal, hops⟩ := ht
  refine fn_enter Try.func14 rfl Try.ntmps14 rfl ?_
  repeat (first | refine ewp_seq ?_ | refine ewp_block ?_ | refine ewp_region ?_ | refine ewp_skip ?_ | refine ewp_exit ?_ | refine ewp_ret ?_ | refine ewp_true rfl ?_ | refine ewp_false rfl ?_)
  refine owp_box rfl rfl fun w1 hN1 => ?_
  have hE1 : Ext w w1 := hN1.ext
  have hb1 : Blk w1 w.heap.size 26 [a, b, c, d] := hN1.blk
  have ht1 := ht0.ext hE1
  (refine o_as rfl rfl ?_ <;> refine o_as rfl rfl ?_ <;> (first | refine owp_nilT ?_ | refine owp_nilB ?_ | refine owp_nilBB ?_ | refine owp_nil ?_))
  repeat (first | refine ewp_seq ?_ | refine ewp_block ?_ | refine ewp_region ?_ | refine ewp_skip ?_ | refine ewp_exit ?_ | refine ewp_ret ?_ | refine ewp_true rfl ?_ | refine ewp_false rfl ?_)
  (refine o_la rfl rfl ?_)
  refine owp_call rfl rfl (taskCheck ht1) ?_
  rintro _ w2 ⟨rfl, hE2⟩
  have hE02 : Ext w w2 := hE1.trans' hE2
  have hb1 := hb1.ext hE2
  by_cases hok : TaskOk t
  case neg =>
    have hne : checkN t ≠ 0 := fun h => hok (check_ok.1 h)
    rw [errV_pos hne]
    (refine o_as rfl rfl ?_ <;> (first | refine owp_nilT ?_ | refine owp_nilB ?_ | refine owp_nilBB ?_ | refine owp_nil ?_))
    repeat (first | refine ewp_seq ?_ | refine ewp_block ?_ | refine ewp_region ?_ | refine ewp_skip ?_ | refine ewp_exit ?_ | refine ewp_ret ?_ | refine ewp_true rfl ?_ | refine ewp_false rfl ?_)
    ((repeat (first | refine ewp_seq ?_ | refine ewp_block ?_ | refine ewp_region ?_ | refine ewp_skip ?_ | refine ewp_exit ?_ | refine ewp_ret ?_ | refine ewp_true rfl ?_ | refine ewp_false rfl ?_)) <;> (refine o_mv rfl rfl ?_ <;> (first | refine o_ep rfl rfl ?_ | refine o_eq rfl rfl ?_) <;> (first | refine owp_nilT ?_ | refine owp_nilB ?_ | refine owp_nilBB ?_ | refine owp_nil ?_)) <;> (repeat (first | refine ewp_seq ?_ | refine ewp_block ?_ | refine ewp_region ?_ | refine ewp_skip ?_ | refine ewp_exit ?_ | refine ewp_ret ?_ | refine ewp_true rfl ?_ | refine ewp_false rfl ?_)))
    ((repeat (first | refine ewp_seq ?_ | refine ewp_block ?_ | refine ewp_region ?_ | refine ewp_skip ?_ | refine ewp_exit ?_ | refine ewp_ret ?_ | refine ewp_true rfl ?_ | refine ewp_false rfl ?_)) <;> (refine o_mv rfl rfl ?_ <;> refine o_as rfl rfl ?_ <;> refine o_as rfl rfl ?_ <;> (first | refine owp_nilT ?_ | refine owp_nilB ?_ | refine owp_nilBB ?_ | refine owp_nil ?_)) <;> (repeat (first | refine ewp_seq ?_ | refine ewp_block ?_ | refine ewp_region ?_ | refine ewp_skip ?_ | refine ewp_exit ?_ | refine ewp_ret ?_ | refine ewp_true rfl ?_ | refine ewp_false rfl ?_)))
    exact ret2 rfl (res_tmp rfl) (res_tmp rfl) ⟨hE02, .inr ⟨hok, rfl⟩⟩
  rw [check_ok.2 hok, errV_zero]
  (refine o_as rfl rfl ?_ <;> (first | refine owp_nilT ?_ | refine owp_nilB ?_ | refine owp_nilBB ?_ | refine owp_nil ?_))
  repeat (first | refine ewp_seq ?_ | refine ewp_block ?_ | refine ewp_region ?_ | refine ewp_skip ?_ | refine ewp_exit ?_ | refine ewp_ret ?_ | refine ewp_true rfl ?_ | refine ewp_false rfl ?_)
  ((repeat (first | refine ewp_seq ?_ | refine ewp_block ?_ | refine ewp_region ?_ | refine ewp_skip ?_ | refine ewp_exit ?_ | refine ewp_ret ?_ | refine ewp_true rfl ?_ | refine ewp_false rfl ?_)) <;> (refine o_mv rfl rfl ?_ <;> (first | refine o_ep rfl rfl ?_ | refine o_eq rfl rfl ?_) <;> (first | refine owp_nilT ?_ | refine owp_nilB ?_ | refine owp_nilBB ?_ | refine owp_nil ?_)) <;> (repeat (first | refine ewp_seq ?_ | refine ewp_block ?_ | refine ewp_region ?_ | refine ewp_skip ?_ | refine ewp_exit ?_ | refine ewp_ret ?_ | refine ewp_true rfl ?_ | refine ewp_false rfl ?_)))
  have hpre := hok.pre
  have hl1 : t.vars.length ≤ 64 := hok.1
  have hl4 : t.ops.length ≤ 4096 := hok.2.1
  have hcp := genCopied (ht1.ext hE2) (by omega) (by rw [hok.2.2.2.1.1]; omega) (by have := factsOk_len hok.2.2.2.2.1; omega) (by omega) (fun i o ho => by
    obtain ⟨_, _, h3, _, h5, h6⟩ := hok.2.2.2.2.2 i o ho
    exact ⟨by have := factsOk_len h5; omega, by omega, fun j e he => by have := factsOk_len (h6 j e he).1; omega⟩)
  (refine o_la rfl rfl ?_)
  refine owp_call rfl rfl hcp ?_
  rintro cvv w3 ⟨hcv, hE3⟩
  obtain ⟨cs', rfl, a', b', c', d', rfl, hvars', hinit', hgoal', hops'⟩ := hcv
  (refine o_bd rfl rfl rfl ?_)
  refine owp_box rfl rfl fun w4 hN4 => ?_
  have hbg : Blk w4 w3.heap.size 68 [a', b', c', d', .pointer none] := hN4.blk
  have hE34 : Ext w3 w4 := hN4.ext
  have s2 := hE02.size
  have s3 := hE3.size
  have s4 : w4.heap.size = w3.heap.size + 1 := hN4.size
  obtain ⟨Ao, co, rfl⟩ := hops'.form
  (refine o_as rfl rfl ?_ <;> (first | refine owp_nilT ?_ | refine owp_nilB ?_ | refine owp_nilBB ?_ | refine owp_nil ?_))
  repeat (first | refine ewp_seq ?_ | refine ewp_block ?_ | refine ewp_region ?_ | refine ewp_skip ?_ | refine ewp_exit ?_ | refine ewp_ret ?_ | refine ewp_true rfl ?_ | refine ewp_false rfl ?_)
  ((repeat (first | refine ewp_seq ?_ | refine ewp_block ?_ | refine ewp_region ?_ | refine ewp_skip ?_ | refine ewp_exit ?_ | refine ewp_ret ?_ | refine ewp_true rfl ?_ | refine ewp_false rfl ?_)) <;> (refine o_as rfl rfl ?_ <;> (first | refine owp_nilT ?_ | refine owp_nilB ?_ | refine owp_nilBB ?_ | refine owp_nil ?_)) <;> (repeat (first | refine ewp_seq ?_ | refine ewp_block ?_ | refine ewp_region ?_ | refine ewp_skip ?_ | refine ewp_exit ?_ | refine ewp_ret ?_ | refine ewp_true rfl ?_ | refine ewp_false rfl ?_)))
  clear hb1
  have hb1 := hbg
  ((repeat (first | refine ewp_seq ?_ | refine ewp_block ?_ | refine ewp_region ?_ | refine ewp_skip ?_ | refine ewp_exit ?_ | refine ewp_ret ?_ | refine ewp_true rfl ?_ | refine ewp_false rfl ?_)) <;> (refine o_mv rfl rfl ?_ <;> refine o_nc rfl rfl ?_ <;> refine o_fa rfl rfl ?_ <;> refine o_fa rfl rfl ?_ <;> refine o_ld rfl rfl ?_ <;> refine o_ln rfl rfl ?_ <;> refine o_mv rfl rfl ?_ <;> (first | refine owp_nilT ?_ | refine owp_nilB ?_ | refine owp_nilBB ?_ | refine owp_nil ?_)) <;> (repeat (first | refine ewp_seq ?_ | refine ewp_block ?_ | refine ewp_region ?_ | refine ewp_skip ?_ | refine ewp_exit ?_ | refine ewp_ret ?_ | refine ewp_true rfl ?_ | refine ewp_false rfl ?_)))
  refine ewp_range t.ops.length (by omega) (fun v : Value => [(1, .pointer (some ⟨w.heap.size, 0, none⟩)), (5, .pointer (some ⟨w3.heap.size, 0, none⟩)), (6, v)]) (fun k v w' => Ext w4 w' ∧ Own w' w4.heap.size (fun _ => False) 3 v ((List.range k).map fun i : Nat => (i : Int))) (.slice none 0 0)
    ⟨Below.refl _ _, Own.nil _ _ _ _⟩ ⟨rfl, rfl, rfl, rfl, rfl, trivial⟩ (fun _ => ⟨rfl, rfl⟩) ⟨rfl, rfl, rfl⟩ ⟨rfl, rfl⟩ ?_ ?_
  · rintro k v w5 hk ⟨hE5, hown⟩
    ((repeat (first | refine ewp_seq ?_ | refine ewp_block ?_ | refine ewp_region ?_ | refine ewp_skip ?_ | refine ewp_exit ?_ | refine ewp_ret ?_ | refine ewp_true rfl ?_ | refine ewp_false rfl ?_)) <;> (refine o_mv rfl rfl ?_ <;> refine o_as rfl rfl ?_ <;> (first | refine owp_nilT ?_ | refine owp_nilB ?_ | refine owp_nilBB ?_ | refine owp_nil ?_)) <;> (repeat (first | refine ewp_seq ?_ | refine ewp_block ?_ | refine ewp_region ?_ | refine ewp_skip ?_ | refine ewp_exit ?_ | refine ewp_ret ?_ | refine ewp_true rfl ?_ | refine ewp_false rfl ?_)))
    (refine o_mv rfl rfl ?_ <;> refine o_mv rfl rfl ?_)
    refine owp_append1 (a := (k : Int)) rfl rfl rfl hown (fun _ h => h.elim) hE5.size ⟨rfl, by omega, by omega⟩ (by decide) (by decide) (by simp; omega) (by simp; omega) ⟨rfl, rfl⟩ fun v' w6 hown6 hK => ?_
    (refine o_as rfl rfl ?_ <;> (first | refine owp_nilT ?_ | refine owp_nilB ?_ | refine owp_nilBB ?_ | refine owp_nil ?_))
    repeat (first | refine ewp_seq ?_ | refine ewp_block ?_ | refine ewp_region ?_ | refine ewp_skip ?_ | refine ewp_exit ?_ | refine ewp_ret ?_ | refine ewp_true rfl ?_ | refine ewp_false rfl ?_)
    exact ⟨v', ⟨rfl, rfl, rfl, rfl, rfl, trivial⟩, hE5.trans (hown.fits (Nat.le_refl _) hE5.size hK), by rw [allOps_step]; exact hown6⟩
  rintro v w5 ⟨hE5, hown⟩
  have s5 := hE5.size
  have hE35 := hE34.trans' hE5
  have hbg5 := hbg.ext hE5
  have hB5 : GenB w5 (All w5) (.pointer (some ⟨w3.heap.size, 0, none⟩)) t := ⟨_, _, _, _, _, _, rfl, by show _ < _; omega, hbg5, (hvars'.agree (hE35.agree fun _ h => h.2)).mono fun k hk => by have := hk.2; show _ < _; omega, (hinit'.agree (hE35.agree fun _ h => h.2)).mono fun k hk => by have := hk.2; show _ < _; omega, (hgoal'.agree (hE35.agree fun _ h => h.2)).mono fun k hk => by have := hk.2; show _ < _; omega, (hops'.agree (hE35.agree fun _ h => h.2)).mono fun k hk => by have := hk.2; show _ < _; omega⟩
  have hov : Vb w5 (nw w4 w5) v (allOps t) := hown.vb.mono fun k hk => hown.lt k (hk.resolve_left id)
  have hbuild := genBuild t hok.vars hok.fits hl1 (t.vars.length + 1) w5 _ v (allOps t) 0 (nw w4 w5) hB5 hov (fun k hk => hk.2) (fun op hop => by
    obtain ⟨i, hi, rfl⟩ := List.mem_map.1 hop
    have := List.mem_range.1 hi
    exact ⟨by omega, by omega⟩) (by rw [allOps_len]; omega) (Nat.zero_le _) (by omega)
  repeat (first | refine ewp_seq ?_ | refine ewp_block ?_ | refine ewp_region ?_ | refine ewp_skip ?_ | refine ewp_exit ?_ | refine ewp_ret ?_ | refine ewp_true rfl ?_ | refine ewp_false rfl ?_)
  (refine o_mv rfl rfl ?_ <;> refine o_mv rfl rfl ?_ <;> refine o_mv rfl rfl ?_)
  refine owp_call rfl rfl hbuild ?_
  rintro p w6 ⟨hT, hE6⟩
  obtain ⟨rp, rfl⟩ := hT.form
  have s6 := hE6.size
  (refine o_nc rfl rfl ?_ <;> refine o_fa rfl rfl ?_)
  refine owp_store rfl rfl (hbg5.ext hE6) rfl (Nat.le_refl _) (by simp [Value.cells, Value.oneCell']) fun w7 hU => ?_
  ((first | refine owp_nilT ?_ | refine owp_nilB ?_ | refine owp_nilBB ?_ | refine owp_nil ?_))
  repeat (first | refine ewp_seq ?_ | refine ewp_block ?_ | refine ewp_region ?_ | refine ewp_skip ?_ | refine ewp_exit ?_ | refine ewp_ret ?_ | refine ewp_true rfl ?_ | refine ewp_false rfl ?_)
  ((repeat (first | refine ewp_seq ?_ | refine ewp_block ?_ | refine ewp_region ?_ | refine ewp_skip ?_ | refine ewp_exit ?_ | refine ewp_ret ?_ | refine ewp_true rfl ?_ | refine ewp_false rfl ?_)) <;> (refine o_mv rfl rfl ?_ <;> refine o_as rfl rfl ?_ <;> refine o_as rfl rfl ?_ <;> (first | refine owp_nilT ?_ | refine owp_nilB ?_ | refine owp_nilBB ?_ | refine owp_nil ?_)) <;> (repeat (first | refine ewp_seq ?_ | refine ewp_block ?_ | refine ewp_region ?_ | refine ewp_skip ?_ | refine ewp_exit ?_ | refine ewp_ret ?_ | refine ewp_true rfl ?_ | refine ewp_false rfl ?_)))
  have hE36 := hE35.trans' hE6
  have s7 := hU.size
  have hcl : ∀ {α : Type} [Rp α] {v : Value} {x : α}, Vb w3 (nw w2 w3) v x → Vb w7 (nw w w7) v x := fun h => ((h.agree (hE36.agree fun _ h => h.2)).agree fun q hq => hU.other q (by have := hq.2; omega)).mono fun k hk => ⟨by have := hk.1; omega, by have := hk.2; omega⟩
  refine ret2 rfl (res_tmp rfl) (res_tmp rfl) ⟨(((hE02.trans' hE3).trans' hE36).trans (hU.below (by omega))), .inl ⟨hok, _, rfl, _, _, _, _, _, _, rfl, ⟨by omega, by omega⟩, hU.blk, hcl hvars', hcl hinit', hcl hgoal', hcl hops', ?_⟩⟩
  refine TrR.mono (fun k hk => ?_) (TrR.agree (fun q hq => hU.other q ?_) hT)
  · rcases hk with hk | hk
    · exact ⟨by have := hk.1; omega, by have := hk.2; omega⟩
    · exact ⟨by omega, by omega⟩
  · rcases hq with hk | hk
    · have := hk.1; omega
    · omega
end Go.Proofs.Ytfbcjknlihopcaa

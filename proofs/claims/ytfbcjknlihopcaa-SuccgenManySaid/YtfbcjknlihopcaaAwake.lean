/- Own text: contracts of stratagemlaw24.example and awake. -/
import Derived.Test.YtfbcjknlihopcaaGen
namespace Go.Proofs.Ytfbcjknlihopcaa
open Go Go.RowKit
attribute [local irreducible] ewp owp hwp hwq hws Ev Evg Fn retPost loud loudS Res1
def tskEx : Tsk := ⟨[2, 3], [0, 0], [], [⟨⟨#[]⟩, 0, [⟨0, 1⟩], []⟩, ⟨⟨#[]⟩, 0, [], [⟨[], 1, 2⟩]⟩, ⟨⟨#[]⟩, 0, [⟨0, 1⟩, ⟨1, 2⟩], []⟩]⟩
theorem chunks_ints {w : World} {F : Nat → Prop} : ∀ {l : List Int}, (∀ x ∈ l, inI64 x) → Chunks w F (l.map (Value.int .i64)) l
  | [], _ => rfl
  | x :: l, h => ⟨[.int .i64 x], l.map (Value.int .i64), rfl, ⟨rfl, h x List.mem_cons_self⟩, chunks_ints fun y hy => h y (List.mem_cons_of_mem _ hy)⟩
theorem New.ints {w w' : World} {F : Nat → Prop} {cells : List Value} {l : List Int} {n : Nat} (h : New w w' 3 cells) (hc : cells = l.map (Value.int .i64)) (hn : n = l.length) (hl : ∀ x ∈ l, inI64 x) (hF : F w.heap.size) (hm : n ≤ 9223372036854775807) : Vb w' F (.slice (some ⟨w.heap.size, 0, none⟩) n n) l :=
  Vb.made h (hc ▸ chunks_ints hl) hn hF hm
theorem New.intsV {w w' : World} {cells : List Value} {l : List Int} {n : Nat} (h : New w w' 3 cells) (hc : cells = l.map (Value.int .i64)) (hn : n = l.length) (hl : ∀ x ∈ l, inI64 x) (hm : n ≤ 9223372036854775807) : V w' (.slice (some ⟨w.heap.size, 0, none⟩) n n) l :=
  h.ints hc hn hl h.blk.lt hm
theorem lawExample (w : World) : Fn Try.prog 29 [] w fun v w' => V w' v tskEx ∧ Ext w w' := by
  refine fn_enter Try.func29 rfl Try.ntmps29 rfl ?_
  repeat (first | refine ewp_seq ?_ | refine ewp_block ?_ | refine ewp_region ?_ | refine ewp_skip ?_ | refine ewp_exit ?_ | refine ewp_ret ?_ | refine ewp_true rfl ?_ | refine ewp_false rfl ?_)
  refine owp_alloc rfl fun w0 hN0 => ?_
  ((first | refine owp_nilT ?_ | refine owp_nilB ?_ | refine owp_nilBB ?_ | refine owp_nil ?_))
  repeat (first | refine ewp_seq ?_ | refine ewp_block ?_ | refine ewp_region ?_ | refine ewp_skip ?_ | refine ewp_exit ?_ | refine ewp_ret ?_ | refine ewp_true rfl ?_ | refine ewp_false rfl ?_)
  refine owp_slice rfl rfl rfl (by simp [Value.cells]) (by decide) rfl fun w1 hN1 => ?_
  refine owp_slice rfl rfl rfl (by simp [Value.cells]) (by decide) rfl fun w2 hN2 => ?_
  (refine o_bd rfl rfl rfl ?_)
  refine owp_slice rfl rfl rfl (by simp [Value.cells, setParts, setFrom]) (by decide) rfl fun w3 hN3 => ?_
  (refine o_bd rfl rfl rfl ?_ <;> refine o_bd rfl rfl rfl ?_)
  refine owp_slice rfl rfl rfl (by simp [Value.cells, setParts, setFrom]) (by decide) rfl fun w4 hN4 => ?_
  (refine o_bd rfl rfl rfl ?_ <;> refine o_bd rfl rfl rfl ?_ <;> refine o_bd rfl rfl rfl ?_)
  refine owp_slice rfl rfl rfl (by simp [Value.cells, setParts, setFrom]) (by decide) rfl fun w5 hN5 => ?_
  (refine o_bd rfl rfl rfl ?_)
  refine owp_slice rfl rfl rfl (by simp [Value.cells, setParts, setFrom]) (by decide) rfl fun w6 hN6 => ?_
  (refine o_bd rfl rfl rfl ?_)
  have hE16 : Ext w1 w6 := ((((hN2.ext.trans' hN3.ext).trans' hN4.ext).trans' hN5.ext).trans' hN6.ext)
  have hE26 : Ext w2 w6 := (((hN3.ext.trans' hN4.ext).trans' hN5.ext).trans' hN6.ext)
  have hE36 : Ext w3 w6 := ((hN4.ext.trans' hN5.ext).trans' hN6.ext)
  have hE46 : Ext w4 w6 := (hN5.ext.trans' hN6.ext)
  have hE06 : Ext w0 w6 := hN1.ext.trans' hE16
  have hv1 : Vb w1 (fun k => k ≠ w.heap.size ∧ k < w1.heap.size) (.slice (some ⟨w0.heap.size, 0, none⟩) 2 2) [(2 : Int), 3] := hN1.ints rfl rfl (by simp [inI64]) (by simp [hN0.size, hN1.size]) (by decide)
  have s0 := hN0.size
  have s1 := hN1.size
  have s2 := hN2.size
  have s3 := hN3.size
  have s4 := hN4.size
  have s5 := hN5.size
  have s6 := hN6.size
  refine owp_store rfl rfl (hN0.blk.ext hE06) rfl (Nat.le_refl _) (by simp [Value.cells, Value.oneCell', setParts, setFrom]) fun w7 hU => ?_
  have s7 := hU.size
  have hA : ∀ {w' : World}, Ext w' w6 → w.heap.size < w'.heap.size → Agree (fun k => k ≠ w.heap.size ∧ k < w'.heap.size) w' w7 := fun hE _ q hq => (hU.other q hq.1).trans (hE.block q hq.2)
  have hM : ∀ {w' : World}, Ext w' w6 → ∀ k, (k ≠ w.heap.size ∧ k < w'.heap.size) → All w7 k := fun hE k hk => by have := hE.size; show k < w7.heap.size; omega
  ((first | refine owp_nilT ?_ | refine owp_nilB ?_ | refine owp_nilBB ?_ | refine owp_nil ?_))
  repeat (first | refine ewp_seq ?_ | refine ewp_block ?_ | refine ewp_region ?_ | refine ewp_skip ?_ | refine ewp_exit ?_ | refine ewp_ret ?_ | refine ewp_true rfl ?_ | refine ewp_false rfl ?_)
  refine ret1v rfl (res_cell rfl rfl hU.blk.cellsAt) ⟨⟨_, rfl, _, _, _, _, rfl, ?_, ?_, ?_, ?_⟩, (hN0.ext.trans' hE06).trans (hU.below (Nat.le_refl _))⟩
  · exact (hv1.agree (hA hE16 (by omega))).mono (hM hE16)
  · have hv2 : Vb w2 (fun k => k ≠ w.heap.size ∧ k < w2.heap.size) (.slice (some ⟨w1.heap.size, 0, none⟩) 2 2) [(0 : Int), 0] := hN2.ints rfl rfl (by simp [inI64]) ⟨by omega, by omega⟩ (by decide)
    exact (hv2.agree (hA hE26 (by omega))).mono (hM hE26)
  · exact Vb.nil _ _
  · have up : ∀ {α : Type} [Rp α] {w' : World} {v : Value} {x : α}, Vb w' (fun k => k ≠ w.heap.size ∧ k < w'.heap.size) v x → Ext w' w6 → Vb w6 (fun k => k ≠ w.heap.size ∧ k < w6.heap.size) v x := fun h hE => (h.agree (hE.agree fun _ h => h.2)).mono fun k hk => ⟨hk.1, by have := hE.size; omega⟩
    have hp1 : Vb w3 (fun k => k ≠ w.heap.size ∧ k < w3.heap.size) (.slice (some ⟨w2.heap.size, 0, none⟩) 1 1) [(⟨0, 1⟩ : Fct)] := Vb.made hN3 (.single ⟨rfl, by simp [inI64], by simp [inI64]⟩) rfl ⟨by omega, by omega⟩ (by decide)
    have he2 : Vb w4 (fun k => k ≠ w.heap.size ∧ k < w4.heap.size) (.slice (some ⟨w3.heap.size, 0, none⟩) 1 1) [(⟨[], 1, 2⟩ : Eff)] := Vb.made hN4 (.single ⟨_, rfl, Vb.nil _ _, by simp [inI64], by simp [inI64]⟩) rfl ⟨by omega, by omega⟩ (by decide)
    have hp3 : Vb w5 (fun k => k ≠ w.heap.size ∧ k < w5.heap.size) (.slice (some ⟨w4.heap.size, 0, none⟩) 2 2) [(⟨0, 1⟩ : Fct), ⟨1, 2⟩] := Vb.made hN5 ⟨[.int .i64 0, .int .i64 1], [.int .i64 1, .int .i64 2], rfl, ⟨rfl, by simp [inI64], by simp [inI64]⟩, .single ⟨rfl, by simp [inI64], by simp [inI64]⟩⟩ rfl ⟨by omega, by omega⟩ (by decide)
    have hz : (⟨#[]⟩ : ByteArray).size ≤ 9223372036854775807 := by decide
    have hv6 : Vb w6 (fun k => k ≠ w.heap.size ∧ k < w6.heap.size) (.slice (some ⟨w5.heap.size, 0, none⟩) 3 3) tskEx.ops := Vb.made hN6
      ⟨[_, _, _, _], _, rfl, ⟨_, _, rfl, up hp1 hE36, Vb.nil _ _, by simp [inI64], hz⟩, [_, _, _, _], _, rfl, ⟨_, _, rfl, Vb.nil _ _, up he2 hE46, by simp [inI64], hz⟩, .single ⟨_, _, rfl, up hp3 hN6.ext, Vb.nil _ _, by simp [inI64], hz⟩⟩ rfl ⟨by omega, by omega⟩ (by decide)
    exact (hv6.agree (hA (Below.refl _ _) (by omega))).mono (hM (Below.refl _ _))
theorem ex_facts1 : FactsOk [2, 3] [⟨0, 1⟩] := factsOk_one.2 ⟨by decide, by decide, 2, rfl, by decide⟩
theorem ex_facts0 : FactsOk [2, 3] [] := ⟨fun i x hx => by simp at hx, fun i x y hx => by simp at hx⟩
theorem ex_facts2 : FactsOk [2, 3] [⟨0, 1⟩, ⟨1, 2⟩] := by
  refine ⟨fun i x hx => ?_, fun i x y hx hy => ?_⟩
  · rcases i with _ | _ | i
    · injection hx with hx; subst hx; exact ⟨by decide, by decide, 2, rfl, by decide⟩
    · injection hx with hx; subst hx; exact ⟨by decide, by decide, 3, rfl, by decide⟩
    · simp at hx
  · rcases i with _ | i
    · injection hx with hx; injection hy with hy; subst hx; subst hy; decide
    · simp at hy
theorem ex_ok : TaskOk tskEx := by
  have hn : NameOk (⟨#[]⟩ : ByteArray) := ⟨by decide, fun i h => absurd h (Nat.not_lt_zero _)⟩
  refine ⟨by decide, by decide, fun i n h => ?_, ⟨rfl, fun i x y hx hy => ?_⟩, ex_facts0, fun i o ho => ?_⟩
  · rcases i with _ | _ | i
    · injection h with h; subst h; decide
    · injection h with h; subst h; decide
    · simp [tskEx] at h
  · rcases i with _ | _ | i
    · injection hx with hx; injection hy with hy; subst hx; subst hy; decide
    · injection hx with hx; injection hy with hy; subst hx; subst hy; decide
    · simp [tskEx] at hx
  · rcases i with _ | _ | _ | i
    · injection ho with ho; subst ho
      exact ⟨by decide, by decide, by decide, hn, ex_facts1, fun i e he => by simp at he⟩
    · injection ho with ho; subst ho
      refine ⟨by decide, by decide, by decide, hn, ex_facts0, fun i e he => ?_⟩
      rcases i with _ | i
      · injection he with he; subst he
        exact ⟨ex_facts0, by decide, by decide, 3, rfl, by decide⟩
      · simp at he
    · injection ho with ho; subst ho
      exact ⟨by decide, by decide, by decide, hn, ex_facts2, fun i e he => by simp at he⟩
    · simp [tskEx] at ho
theorem ex_s1 : StateOk tskEx.vars [0, 0] := ex_ok.2.2.2.1
theorem ex_s2 : StateOk tskEx.vars [1, 2] := ⟨rfl, fun i x y hx hy => by
  rcases i with _ | _ | i
  · injection hx with hx; injection hy with hy; subst hx; subst hy; decide
  · injection hx with hx; injection hy with hy; subst hx; subst hy; decide
  · simp at hx⟩
theorem ex_a1 : appS tskEx [0, 0] = [1] := by rw [appS_ok ex_s1]; decide
theorem ex_a2 : appS tskEx [1, 2] = [0, 1, 2] := by rw [appS_ok ex_s2]; decide
theorem Own.v {α : Type} [Rp α] {w w' : World} {base : Nat} {e : TypeId} {v : Value} {xs : List α} (h : Own w' base (All w) e v xs) (hE : Ext w w') : V w' v xs := h.vb.mono fun k hk => by
  rcases hk with hk | hk
  · exact Nat.lt_of_lt_of_le hk hE.size
  · exact (h.lt k hk).2
theorem lawAwake (w : World) : Fn Try.prog 13 [] w fun v w' => v = .bool true ∧ Ext w w' := by
  refine fn_enter Try.func13 rfl Try.ntmps13 rfl ?_
  ((repeat (first | refine ewp_seq ?_ | refine ewp_block ?_ | refine ewp_region ?_ | refine ewp_skip ?_ | refine ewp_exit ?_ | refine ewp_ret ?_ | refine ewp_true rfl ?_ | refine ewp_false rfl ?_)) <;> (refine o_as rfl rfl ?_ <;> (first | refine owp_nilT ?_ | refine owp_nilB ?_ | refine owp_nilBB ?_ | refine owp_nil ?_)) <;> (repeat (first | refine ewp_seq ?_ | refine ewp_block ?_ | refine ewp_region ?_ | refine ewp_skip ?_ | refine ewp_exit ?_ | refine ewp_ret ?_ | refine ewp_true rfl ?_ | refine ewp_false rfl ?_)))
  refine owp_call rfl rfl (lawExample w) ?_
  rintro tv w1 ⟨htv, hE1⟩
  refine owp_call rfl rfl (genNew htv) ?_
  rintro _ w2 ⟨hE2, ⟨_, gv, rfl, hg⟩ | ⟨hn, _⟩⟩
  case inr => exact absurd ex_ok hn
  obtain ⟨gb, rfl⟩ := hg.form
  replace hg : GenR w2 (All w2) _ _ _ := hg.mono fun k hk => hk.2
  have hE02 := hE1.trans' hE2
  (refine o_mv rfl rfl ?_ <;> refine o_ex rfl rfl rfl ?_ <;> refine o_ex rfl rfl rfl ?_ <;> refine o_as rfl rfl ?_ <;> refine o_as rfl rfl ?_ <;> (first | refine owp_nilT ?_ | refine owp_nilB ?_ | refine owp_nilBB ?_ | refine owp_nil ?_))
  repeat (first | refine ewp_seq ?_ | refine ewp_block ?_ | refine ewp_region ?_ | refine ewp_skip ?_ | refine ewp_exit ?_ | refine ewp_ret ?_ | refine ewp_true rfl ?_ | refine ewp_false rfl ?_)
  ((repeat (first | refine ewp_seq ?_ | refine ewp_block ?_ | refine ewp_region ?_ | refine ewp_skip ?_ | refine ewp_exit ?_ | refine ewp_ret ?_ | refine ewp_true rfl ?_ | refine ewp_false rfl ?_)) <;> (refine o_mv rfl rfl ?_ <;> (first | refine o_ep rfl rfl ?_ | refine o_eq rfl rfl ?_) <;> refine o_mv rfl rfl ?_ <;> (first | (refine owp_yes rfl rfl ?_; refine o_mv rfl rfl ?_) | refine owp_no rfl rfl rfl rfl ?_) <;> (first | (refine owp_yes rfl rfl ?_; refine o_pn rfl rfl ?_) | refine owp_no rfl rfl rfl rfl ?_) <;> (first | refine o_pt rfl rfl rfl ?_ | refine o_pf rfl rfl rfl ?_) <;> (first | refine owp_nilT ?_ | refine owp_nilB ?_ | refine owp_nilBB ?_ | refine owp_nil ?_)) <;> (repeat (first | refine ewp_seq ?_ | refine ewp_block ?_ | refine ewp_region ?_ | refine ewp_skip ?_ | refine ewp_exit ?_ | refine ewp_ret ?_ | refine ewp_true rfl ?_ | refine ewp_false rfl ?_)))
  (refine o_mv rfl rfl ?_)
  refine owp_slice rfl rfl rfl (by simp [Value.cells]) (by decide) rfl fun w3 hN3 => ?_
  have hs3 := hN3.intsV (l := [0, 0]) rfl rfl (by simp [inI64]) (by decide)
  refine owp_call rfl rfl (succT ex_ok (hg.ext hN3.ext) hs3 (by decide)) ?_
  rintro lv w4 ⟨hlv, hE4⟩
  obtain ⟨Al, cl, rfl⟩ := hlv.form
  rw [ex_a1] at *
  have hE24 := hN3.ext.trans' hE4
  (refine o_as rfl rfl ?_ <;> (first | refine owp_nilT ?_ | refine owp_nilB ?_ | refine owp_nilBB ?_ | refine owp_nil ?_))
  repeat (first | refine ewp_seq ?_ | refine ewp_block ?_ | refine ewp_region ?_ | refine ewp_skip ?_ | refine ewp_exit ?_ | refine ewp_ret ?_ | refine ewp_true rfl ?_ | refine ewp_false rfl ?_)
  (refine o_mv rfl rfl ?_)
  refine owp_slice rfl rfl rfl (by simp [Value.cells]) (by decide) rfl fun w5 hN5 => ?_
  have hs5 := hN5.intsV (l := [0, 0]) rfl rfl (by simp [inI64]) (by decide)
  have hE25 := hE24.trans' hN5.ext
  refine owp_call rfl rfl (applT ex_ok (hg.ext hE25) hs5 (by decide)) ?_
  rintro av w6 ⟨hE6, hav⟩
  rw [ex_a1] at hav
  have hE26 := hE25.trans' hE6
  refine owp_slice rfl rfl rfl (by simp [Value.cells]) (by decide) rfl fun w7 hN7 => ?_
  have hE27 := hE26.trans' hN7.ext
  have hs7 := hN7.intsV (l := [1]) rfl rfl (by simp [inI64]) (by decide)
  refine owp_callB rfl rfl (baseInts ((hav.v hE6).ext hN7.ext) hs7) ?_ (fun w' h _ => absurd rfl h)
  intro w8 _ hE8
  have hE28 := hE27.trans' hE8
  (refine o_mv rfl rfl ?_ <;> (first | (refine owp_yes rfl rfl ?_; refine o_mv rfl rfl ?_) | refine owp_no rfl rfl rfl rfl ?_))
  refine owp_yes rfl rfl ?_
  refine owp_slice rfl rfl rfl (by simp [Value.cells]) (by decide) rfl fun w9 hN9 => ?_
  have hs9 := hN9.intsV (l := [1, 2]) rfl rfl (by simp [inI64]) (by decide)
  have hE29 := hE28.trans' hN9.ext
  refine owp_yes rfl rfl ?_
  refine owp_call rfl rfl (applT ex_ok (hg.ext hE29) hs9 (by decide)) ?_
  rintro bv w10 ⟨hE10, hbv⟩
  rw [ex_a2] at hbv
  have hE210 := hE29.trans' hE10
  refine owp_yes rfl rfl ?_
  refine owp_slice rfl rfl rfl (by simp [Value.cells]) (by decide) rfl fun w11 hN11 => ?_
  have hE211 := hE210.trans' hN11.ext
  have hs11 := hN11.intsV (l := [0, 1, 2]) rfl rfl (by simp [inI64]) (by decide)
  refine owp_yes rfl rfl ?_
  refine owp_callB rfl rfl (baseInts ((hbv.v hE10).ext hN11.ext) hs11) ?_ (fun w' h _ => absurd rfl h)
  intro w12 _ hE12
  have hE212 := hE211.trans' hE12
  have hE412 : Ext w4 w12 := ((((((hN5.ext.trans' hE6).trans' hN7.ext).trans' hE8).trans' hN9.ext).trans' hE10).trans' hN11.ext).trans' hE12
  obtain ⟨b1, o1, ce, rfl, _, _, hd1, nv, rfl, hnv, _⟩ := (hlv.ext hE412).elem (k := 0) (x := ⟨1, [0, 2]⟩) rfl
  replace hd1 : cellsAt w12 b1 (o1 + 0) [.int .i64 1, nv] := hd1
  ((first | refine o_pt rfl rfl rfl ?_ | refine o_pf rfl rfl rfl ?_) <;> refine o_mv rfl rfl ?_ <;> (first | (refine owp_yes rfl rfl ?_; refine o_mv rfl rfl ?_) | refine owp_no rfl rfl rfl rfl ?_) <;> (first | (refine owp_yes rfl rfl ?_; refine o_ln rfl rfl ?_) | refine owp_no rfl rfl rfl rfl ?_) <;> (first | (refine owp_yes rfl rfl ?_; (first | refine o_eeT rfl rfl rfl ?_ | refine o_eeF rfl rfl rfl ?_ | refine o_eeS rfl rfl rfl (fun _ => ?_) fun _ => ?_)) | refine owp_no rfl rfl rfl rfl ?_) <;> (first | refine o_pt rfl rfl rfl ?_ | refine o_pf rfl rfl rfl ?_) <;> refine o_mv rfl rfl ?_ <;> (first | (refine owp_yes rfl rfl ?_; refine o_mv rfl rfl ?_) | refine owp_no rfl rfl rfl rfl ?_) <;> (first | (refine owp_yes rfl rfl ?_; refine o_ia rfl rfl rfl ?_) | refine owp_no rfl rfl rfl rfl ?_) <;> (first | (refine owp_yes rfl rfl ?_; refine o_fa rfl rfl ?_) | refine owp_no rfl rfl rfl rfl ?_) <;> (first | (refine owp_yes rfl rfl ?_; refine o_ld rfl rfl ?_) | refine owp_no rfl rfl rfl rfl ?_) <;> (first | (refine owp_yes rfl rfl ?_; (first | refine o_eeT rfl rfl rfl ?_ | refine o_eeF rfl rfl rfl ?_ | refine o_eeS rfl rfl rfl (fun _ => ?_) fun _ => ?_)) | refine owp_no rfl rfl rfl rfl ?_) <;> (first | refine o_pt rfl rfl rfl ?_ | refine o_pf rfl rfl rfl ?_) <;> refine o_mv rfl rfl ?_ <;> (first | (refine owp_yes rfl rfl ?_; refine o_mv rfl rfl ?_) | refine owp_no rfl rfl rfl rfl ?_) <;> (first | (refine owp_yes rfl rfl ?_; refine o_ia rfl rfl rfl ?_) | refine owp_no rfl rfl rfl rfl ?_) <;> (first | (refine owp_yes rfl rfl ?_; refine o_fa rfl rfl ?_) | refine owp_no rfl rfl rfl rfl ?_) <;> (first | (refine owp_yes rfl rfl ?_; refine o_ld rfl rfl ?_) | refine owp_no rfl rfl rfl rfl ?_))
  all_goals first | (exfalso; rename_i h; exact h rfl) | skip
  refine owp_yes rfl rfl ?_
  refine owp_slice rfl rfl rfl (by simp [Value.cells]) (by decide) rfl fun w13 hN13 => ?_
  have hs13 := hN13.intsV (l := [0, 2]) rfl rfl (by simp [inI64]) (by decide)
  refine owp_yes rfl rfl ?_
  refine owp_callB rfl rfl (baseInts (hnv.ext hN13.ext) hs13) ?_ (fun w' h _ => absurd rfl h)
  intro w14 _ hE14
  ((first | refine o_pt rfl rfl rfl ?_ | refine o_pf rfl rfl rfl ?_) <;> refine o_as rfl rfl ?_ <;> (first | refine owp_nilT ?_ | refine owp_nilB ?_ | refine owp_nilBB ?_ | refine owp_nil ?_))
  repeat (first | refine ewp_seq ?_ | refine ewp_block ?_ | refine ewp_region ?_ | refine ewp_skip ?_ | refine ewp_exit ?_ | refine ewp_ret ?_ | refine ewp_true rfl ?_ | refine ewp_false rfl ?_)
  exact ret1 rfl rfl ⟨rfl, ((hE02.trans' hE212).trans' hN13.ext).trans' hE14⟩
end Go.Proofs.Ytfbcjknlihopcaa

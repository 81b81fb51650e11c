/- Own text: contract of stratagembase.States: all states, by rank. -/
import Derived.Test.YtdhaelekmjgbmaaGood
namespace Go.Proofs.Ytdhaelekmjgbmaa
open Go Go.RowKit
attribute [local irreducible] ewp owp hwp hwq hws Ev Evg Fn retPost loud loudS Res1
def exts (n : Nat) (s : List Int) : List (List Int) := (List.range n).map fun x : Nat => s ++ [(x : Int)]
def grows (out : List (List Int)) (k : Int) : List (List Int) := out.flatMap (exts k.toNat)
def statesL (vars : List Int) : List (List Int) := vars.foldl grows [[]]
theorem statesL_step {vars : List Int} {k : Nat} {n : Int} (h : vars[k]? = some n) : statesL (vars.take (k + 1)) = grows (statesL (vars.take k)) n := by
  unfold statesL
  rw [List.take_add_one, h, List.foldl_append]; rfl
theorem exts_step (n : Nat) (s : List Int) : exts (n + 1) s = exts n s ++ [s ++ [(n : Int)]] := by unfold exts; rw [List.range_succ]; simp
theorem exts_len (n : Nat) (s : List Int) : (exts n s).length = n := by simp [exts]
theorem grows_len (n : Nat) : ∀ l : List (List Int), (l.flatMap (exts n)).length = l.length * n
  | [] => by simp
  | s :: l => by rw [List.flatMap_cons, List.length_append, exts_len, grows_len n l, List.length_cons, Nat.add_mul]; omega
theorem flat_step {α β : Type} (f : α → List β) {l : List α} {k : Nat} {x : α} (h : l[k]? = some x) : (l.take (k + 1)).flatMap f = (l.take k).flatMap f ++ f x := by
  rw [List.take_add_one, h]; simp
theorem statesL_mem (vars : List Int) : ∀ (k : Nat), k ≤ vars.length → ∀ s ∈ statesL (vars.take k), s.length = k := by
  intro k
  induction k with
  | zero => intro _ s hs; simp [statesL] at hs; simp [hs]
  | succ k ih =>
    intro hk s hs
    obtain ⟨n, hn⟩ : ∃ n, vars[k]? = some n := ⟨vars[k], List.getElem?_eq_getElem (by omega)⟩
    rw [statesL_step hn] at hs
    obtain ⟨s', h1, h2⟩ := List.mem_flatMap.1 hs
    obtain ⟨x, _, rfl⟩ := List.mem_map.1 h2
    simp [ih (by omega) s' h1]
theorem chunks_int {w : World} {F G : Nat → Prop} : ∀ {xs : List Int} {cells : List Value}, Chunks w F cells xs → Chunks w G cells xs
  | [], _, h => h
  | _ :: _, _, ⟨cs, rest, he, hr, hc⟩ => ⟨cs, rest, he, hr, chunks_int hc⟩
theorem baseStates {w : World} {vv : Value} {vars : List Int} (hv : V w vv vars) (h0 : ∀ (i : Nat) n, vars[i]? = some n → 0 ≤ n ∧ n ≤ 64) (hb : ∀ k, (statesL (vars.take k)).length ≤ 1000000) (hvn : vars.length ≤ 1000) :
    Fn Try.prog 26 [vv] w fun v w' => V w' v (statesL vars) ∧ Ext w w' := by
  obtain ⟨A, ca, rfl⟩ := hv.form
  refine fn_enter Try.func26 rfl Try.ntmps26 rfl ?_
  repeat (first | refine ewp_seq ?_ | refine ewp_block ?_ | refine ewp_region ?_ | refine ewp_skip ?_ | refine ewp_exit ?_ | refine ewp_ret ?_ | refine ewp_true rfl ?_ | refine ewp_false rfl ?_)
  (refine o_as rfl rfl ?_ <;> (first | refine owp_nilT ?_ | refine owp_nilB ?_ | refine owp_nilBB ?_ | refine owp_nil ?_))
  repeat (first | refine ewp_seq ?_ | refine ewp_block ?_ | refine ewp_region ?_ | refine ewp_skip ?_ | refine ewp_exit ?_ | refine ewp_ret ?_ | refine ewp_true rfl ?_ | refine ewp_false rfl ?_)
  refine owp_slice rfl rfl rfl (by simp) (by decide) rfl fun w1 hN1 => ?_
  refine owp_slice rfl rfl rfl (by simp [Value.cells]) (by decide) rfl fun w2 hN2 => ?_
  have hin : Vb w2 (All w2) (.slice (some ⟨w.heap.size, 0, none⟩) 0 0) ([] : List Int) := Vb.mono (Vb.agree (Vb.made (F := All w1) hN1 rfl rfl hN1.blk.lt (by decide)) (hN2.ext.agree fun _ h => h)) fun k hk => Nat.lt_of_lt_of_le hk hN2.ext.size
  have hout : V w2 (.slice (some ⟨w1.heap.size, 0, none⟩) 1 1) [([] : List Int)] := Vb.made hN2 (.single hin) rfl hN2.blk.lt (by simp)
  have hE2 : Ext w w2 := hN1.ext.trans' hN2.ext
  (refine o_as rfl rfl ?_ <;> (first | refine owp_nilT ?_ | refine owp_nilB ?_ | refine owp_nilBB ?_ | refine owp_nil ?_))
  repeat (first | refine ewp_seq ?_ | refine ewp_block ?_ | refine ewp_region ?_ | refine ewp_skip ?_ | refine ewp_exit ?_ | refine ewp_ret ?_ | refine ewp_true rfl ?_ | refine ewp_false rfl ?_)
  ((repeat (first | refine ewp_seq ?_ | refine ewp_block ?_ | refine ewp_region ?_ | refine ewp_skip ?_ | refine ewp_exit ?_ | refine ewp_ret ?_ | refine ewp_true rfl ?_ | refine ewp_false rfl ?_)) <;> (refine o_mv rfl rfl ?_ <;> refine o_ln rfl rfl ?_ <;> refine o_mv rfl rfl ?_ <;> (first | refine owp_nilT ?_ | refine owp_nilB ?_ | refine owp_nilBB ?_ | refine owp_nil ?_)) <;> (repeat (first | refine ewp_seq ?_ | refine ewp_block ?_ | refine ewp_region ?_ | refine ewp_skip ?_ | refine ewp_exit ?_ | refine ewp_ret ?_ | refine ewp_true rfl ?_ | refine ewp_false rfl ?_)))
  refine ewp_range vars.length (by omega) (fun v : Value => [(3, v), (12, .slice A vars.length ca)]) (fun k v w' => Ext w w' ∧ V w' v (statesL (vars.take k))) _
    ⟨hE2, hout⟩ ⟨rfl, rfl, rfl, rfl, trivial⟩ (fun _ => ⟨rfl, rfl⟩) ⟨rfl, rfl, rfl⟩ ⟨rfl, rfl⟩ ?_ ?_
  · rintro k v w3 hk ⟨hE3, hv3⟩
    obtain ⟨n, hn⟩ := some_of_lt hk
    obtain ⟨N, rfl⟩ := Int.eq_ofNat_of_zero_le (h0 k n hn).1
    have hN64 := (h0 k _ hn).2
    obtain ⟨b1, o1, ce, rfl, _, _, hd1, rfl, _⟩ := (hv.ext hE3).elem hn
    obtain ⟨Ao, co, rfl⟩ := hv3.form
    have hlen := hb k
    have hF : ∀ {w'}, Ext w3 w' → ∀ k, All w3 k → k < w'.heap.size := fun hE k hk => Nat.lt_of_lt_of_le hk hE.size
    ((repeat (first | refine ewp_seq ?_ | refine ewp_block ?_ | refine ewp_region ?_ | refine ewp_skip ?_ | refine ewp_exit ?_ | refine ewp_ret ?_ | refine ewp_true rfl ?_ | refine ewp_false rfl ?_)) <;> (refine o_ia rfl rfl rfl ?_ <;> refine o_ld rfl rfl ?_ <;> refine o_as rfl rfl ?_ <;> (first | refine owp_nilT ?_ | refine owp_nilB ?_ | refine owp_nilBB ?_ | refine owp_nil ?_)) <;> (repeat (first | refine ewp_seq ?_ | refine ewp_block ?_ | refine ewp_region ?_ | refine ewp_skip ?_ | refine ewp_exit ?_ | refine ewp_ret ?_ | refine ewp_true rfl ?_ | refine ewp_false rfl ?_)) <;> (refine o_as rfl rfl ?_ <;> (first | refine owp_nilT ?_ | refine owp_nilB ?_ | refine owp_nilBB ?_ | refine owp_nil ?_)) <;> (repeat (first | refine ewp_seq ?_ | refine ewp_block ?_ | refine ewp_region ?_ | refine ewp_skip ?_ | refine ewp_exit ?_ | refine ewp_ret ?_ | refine ewp_true rfl ?_ | refine ewp_false rfl ?_)) <;> (refine o_mv rfl rfl ?_ <;> refine o_ln rfl rfl ?_ <;> refine o_mv rfl rfl ?_ <;> (first | refine owp_nilT ?_ | refine owp_nilB ?_ | refine owp_nilBB ?_ | refine owp_nil ?_)) <;> (repeat (first | refine ewp_seq ?_ | refine ewp_block ?_ | refine ewp_region ?_ | refine ewp_skip ?_ | refine ewp_exit ?_ | refine ewp_ret ?_ | refine ewp_true rfl ?_ | refine ewp_false rfl ?_)))
    refine ewp_range (statesL (vars.take k)).length (by omega) (fun u : Value => [(5, .int .i64 (N : Int)), (6, u), (12, .slice (some ⟨b1, o1, none⟩) vars.length ca), (13, .int .i64 (vars.length : Int)), (14, .int .i64 (k : Int)), (18, .slice Ao (statesL (vars.take k)).length co)])
      (fun i u w' => Ext w3 w' ∧ ∃ F : Nat → Prop, (∀ k, F k → k < w'.heap.size) ∧ Own w' w3.heap.size F 22 u (((statesL (vars.take k)).take i).flatMap (exts N))) (.slice none 0 0)
      ⟨Below.refl _ _, fun _ => False, fun _ h => h.elim, Own.nil _ _ _ _⟩ ⟨rfl, rfl, rfl, rfl, rfl, rfl, rfl, rfl, trivial⟩ (fun _ => ⟨rfl, rfl⟩) ⟨rfl, rfl, rfl⟩ ⟨rfl, rfl⟩ ?_ ?_
    · rintro i u w4 hi ⟨hE4, F, hF4, hown⟩
      obtain ⟨s, hs⟩ := some_of_lt hi
      have hsl := statesL_mem vars k (by omega) s (List.mem_of_getElem? hs)
      obtain ⟨b2, o2, ce, rfl, hbl2, _, hd0, sv, rfl, hsv⟩ := hv3.elem hs
      have hd1 := cells_ext hd0 hbl2 hE4
      replace hsv : V w3 sv s := Vb.of_slice hsv
      have hfl := grows_len N ((statesL (vars.take k)).take i)
      have hfl2 : ((statesL (vars.take k)).take i).length * N ≤ 1000000 * 64 := Nat.mul_le_mul (by rw [List.length_take]; omega) (by omega)
      ((repeat (first | refine ewp_seq ?_ | refine ewp_block ?_ | refine ewp_region ?_ | refine ewp_skip ?_ | refine ewp_exit ?_ | refine ewp_ret ?_ | refine ewp_true rfl ?_ | refine ewp_false rfl ?_)) <;> (refine o_ia rfl rfl rfl ?_ <;> refine o_ld rfl rfl ?_ <;> refine o_as rfl rfl ?_ <;> (first | refine owp_nilT ?_ | refine owp_nilB ?_ | refine owp_nilBB ?_ | refine owp_nil ?_)) <;> (repeat (first | refine ewp_seq ?_ | refine ewp_block ?_ | refine ewp_region ?_ | refine ewp_skip ?_ | refine ewp_exit ?_ | refine ewp_ret ?_ | refine ewp_true rfl ?_ | refine ewp_false rfl ?_)) <;> (refine o_mv rfl rfl ?_ <;> refine o_mv rfl rfl ?_ <;> (first | refine owp_nilT ?_ | refine owp_nilB ?_ | refine owp_nilBB ?_ | refine owp_nil ?_)) <;> (repeat (first | refine ewp_seq ?_ | refine ewp_block ?_ | refine ewp_region ?_ | refine ewp_skip ?_ | refine ewp_exit ?_ | refine ewp_ret ?_ | refine ewp_true rfl ?_ | refine ewp_false rfl ?_)))
      refine ewp_range N (by omega) (fun u : Value => [(5, .int .i64 (N : Int)), (6, u), (8, sv), (12, .slice (some ⟨b1, o1, none⟩) vars.length ca), (13, .int .i64 (vars.length : Int)), (14, .int .i64 (k : Int)), (18, .slice (some ⟨b2, o2, none⟩) (statesL (vars.take k)).length co), (19, .int .i64 ((statesL (vars.take k)).length : Int)), (20, .int .i64 (i : Int))])
        (fun x u w' => Ext w3 w' ∧ ∃ F : Nat → Prop, (∀ k, F k → k < w'.heap.size) ∧ Own w' w3.heap.size F 22 u (((statesL (vars.take k)).take i).flatMap (exts N) ++ exts x s)) u
        ⟨hE4, F, hF4, by simpa [exts] using hown⟩ ⟨rfl, rfl, rfl, rfl, rfl, rfl, rfl, rfl, rfl, rfl, rfl, trivial⟩ (fun _ => ⟨rfl, rfl⟩) ⟨rfl, rfl, rfl⟩ ⟨rfl, rfl⟩ ?_ ?_
      · rintro x u w5 hx ⟨hE5, F, hF5, hown⟩
        ((repeat (first | refine ewp_seq ?_ | refine ewp_block ?_ | refine ewp_region ?_ | refine ewp_skip ?_ | refine ewp_exit ?_ | refine ewp_ret ?_ | refine ewp_true rfl ?_ | refine ewp_false rfl ?_)) <;> (refine o_mv rfl rfl ?_ <;> refine o_as rfl rfl ?_ <;> (first | refine owp_nilT ?_ | refine owp_nilB ?_ | refine owp_nilBB ?_ | refine owp_nil ?_)) <;> (repeat (first | refine ewp_seq ?_ | refine ewp_block ?_ | refine ewp_region ?_ | refine ewp_skip ?_ | refine ewp_exit ?_ | refine ewp_ret ?_ | refine ewp_true rfl ?_ | refine ewp_false rfl ?_)) <;> (refine o_mv rfl rfl ?_) <;> (repeat (first | refine ewp_seq ?_ | refine ewp_block ?_ | refine ewp_region ?_ | refine ewp_skip ?_ | refine ewp_exit ?_ | refine ewp_ret ?_ | refine ewp_true rfl ?_ | refine ewp_false rfl ?_)))
        refine owp_slice rfl rfl rfl (by simp) (by decide) rfl fun w6 hN6 => ?_
        have hE6 : Ext w3 w6 := hE5.trans' hN6.ext
        have ho1 : Own w6 w5.heap.size (All w5) 3 (.slice (some ⟨w5.heap.size, 0, none⟩) 0 0) ([] : List Int) := Own.made (xs := ([] : List Int)) hN6 rfl rfl (Nat.lt_irrefl _) (by decide)
        have hF6 : ∀ {w'}, Ext w5 w' → ∀ k, All w5 k → k < w'.heap.size := fun hE k hk => Nat.lt_of_lt_of_le hk hE.size
        (refine o_mv rfl rfl ?_)
        refine owp_appendS rfl rfl rfl ho1 (hF6 hN6.ext) hN6.ext.size (Vb.mono (Vb.agree hsv (hE6.agree fun _ h => h)) fun k hk => Nat.lt_of_lt_of_le hk hE5.size) (by decide) (by simp; omega) (by simp; omega) rfl fun v7 w7 ho2 hK7 => ?_
        have hE57 : Ext w5 w7 := hN6.ext.trans (ho1.fits (Nat.le_refl _) hN6.ext.size hK7)
        rw [List.nil_append] at ho2
        (refine o_mv rfl rfl ?_)
        refine owp_append1 (a := (x : Int)) rfl rfl rfl ho2 (hF6 hE57) hE57.size ⟨rfl, by omega, by omega⟩ (by decide) (by decide) (by omega) (by omega) ⟨rfl, rfl⟩ fun v8 w8 ho3 hK8 => ?_
        have hE58 : Ext w5 w8 := hE57.trans (ho2.fits (Nat.le_refl _) hE57.size hK8)
        have hE8 : Ext w3 w8 := hE5.trans' hE58
        have hne : ∀ g, u.ownBlock = some g → ¬ (F g ∨ w5.heap.size ≤ g ∧ g < w8.heap.size) := fun g hg h => by
          rcases h with h | h
          · obtain ⟨_, _, _, h3⟩ := hown; exact h3 g hg h
          · have := (hown.lt g hg).2; omega
        have hown8 : Own w8 w3.heap.size (fun k => F k ∨ w5.heap.size ≤ k ∧ k < w8.heap.size) 22 u _ := (hown.ext hE58 hF5).mono (fun k hk => .inl hk) hne
        have hF8 : ∀ k, (F k ∨ w5.heap.size ≤ k ∧ k < w8.heap.size) → k < w8.heap.size := fun k hk => by
          rcases hk with hk | hk
          · exact Nat.lt_of_lt_of_le (hF5 k hk) hE58.size
          · exact hk.2
        have hv8 : Vb w8 (fun k => F k ∨ w5.heap.size ≤ k ∧ k < w8.heap.size) v8 (s ++ [(x : Int)]) := by
          obtain ⟨cells, q1, q2, q3⟩ := id ho3
          have ho3' : Own w8 w5.heap.size (fun _ => False) 3 v8 (s ++ [(x : Int)]) := ⟨cells, q1, chunks_int q2, fun _ _ h => h⟩
          exact ho3'.vb.mono fun k hk => by
            rcases hk with hk | hk
            · exact hk.elim
            · exact .inr ⟨(ho3.lt k hk).1, (ho3.lt k hk).2⟩
        refine owp_append1 (a := s ++ [(x : Int)]) rfl rfl rfl hown8 hF8 hE8.size hv8 (by decide) (by decide) (by rw [List.length_append, exts_len]; omega) (by rw [List.length_append, exts_len]; omega) ⟨rfl, rfl⟩ fun v9 w9 ho9 hK9 => ?_
        have hE9 : Ext w3 w9 := hE8.trans (hown8.fits (Nat.le_refl _) hE8.size hK9)
        (refine o_as rfl rfl ?_ <;> (first | refine owp_nilT ?_ | refine owp_nilB ?_ | refine owp_nilBB ?_ | refine owp_nil ?_))
        repeat (first | refine ewp_seq ?_ | refine ewp_block ?_ | refine ewp_region ?_ | refine ewp_skip ?_ | refine ewp_exit ?_ | refine ewp_ret ?_ | refine ewp_true rfl ?_ | refine ewp_false rfl ?_)
        exact ⟨v9, ⟨rfl, rfl, rfl, rfl, rfl, rfl, rfl, rfl, rfl, rfl, rfl, trivial⟩, hE9, _, fun k hk => Nat.lt_of_lt_of_le (hF8 k hk) hK9.size, by rw [exts_step, ← List.append_assoc]; exact ho9⟩
      · rintro u w5 ⟨hE5, F, hF5, hown⟩
        repeat (first | refine ewp_seq ?_ | refine ewp_block ?_ | refine ewp_region ?_ | refine ewp_skip ?_ | refine ewp_exit ?_ | refine ewp_ret ?_ | refine ewp_true rfl ?_ | refine ewp_false rfl ?_)
        exact ⟨u, ⟨rfl, rfl, rfl, rfl, rfl, rfl, rfl, rfl, trivial⟩, hE5, F, hF5, by rw [flat_step _ hs]; exact hown⟩
    · rintro u w4 ⟨hE4, F, hF4, hown⟩
      repeat (first | refine ewp_seq ?_ | refine ewp_block ?_ | refine ewp_region ?_ | refine ewp_skip ?_ | refine ewp_exit ?_ | refine ewp_ret ?_ | refine ewp_true rfl ?_ | refine ewp_false rfl ?_)
      (refine o_mv rfl rfl ?_ <;> refine o_as rfl rfl ?_ <;> (first | refine owp_nilT ?_ | refine owp_nilB ?_ | refine owp_nilBB ?_ | refine owp_nil ?_))
      rw [List.take_length] at hown
      refine ⟨u, ⟨rfl, rfl, rfl, rfl, trivial⟩, hE3.trans' hE4, ?_⟩
      rw [statesL_step hn]
      exact hown.vb.mono fun k hk => by
        rcases hk with hk | hk
        · exact hF4 k hk
        · exact (hown.lt k hk).2
  · rintro v w3 ⟨hE3, hv3⟩
    repeat (first | refine ewp_seq ?_ | refine ewp_block ?_ | refine ewp_region ?_ | refine ewp_skip ?_ | refine ewp_exit ?_ | refine ewp_ret ?_ | refine ewp_true rfl ?_ | refine ewp_false rfl ?_)
    ((repeat (first | refine ewp_seq ?_ | refine ewp_block ?_ | refine ewp_region ?_ | refine ewp_skip ?_ | refine ewp_exit ?_ | refine ewp_ret ?_ | refine ewp_true rfl ?_ | refine ewp_false rfl ?_)) <;> (refine o_mv rfl rfl ?_ <;> refine o_as rfl rfl ?_ <;> (first | refine owp_nilT ?_ | refine owp_nilB ?_ | refine owp_nilBB ?_ | refine owp_nil ?_)) <;> (repeat (first | refine ewp_seq ?_ | refine ewp_block ?_ | refine ewp_region ?_ | refine ewp_skip ?_ | refine ewp_exit ?_ | refine ewp_ret ?_ | refine ewp_true rfl ?_ | refine ewp_false rfl ?_)))
    rw [List.take_length] at hv3
    exact ret1 rfl rfl ⟨hv3, hE3⟩
end Go.Proofs.Ytdhaelekmjgbmaa

/- Own text: contracts of (*Generator).find, Applicable, Count, Tests and Successors of succgen. -/
import Derived.Test.YtfbcjknlihopcaaSort
namespace Go.Proofs.Ytfbcjknlihopcaa
open Go Go.RowKit
attribute [local irreducible] ewp owp hwp hwq hws Ev Evg Fn retPost loud loudS Res1
/-- A generator in memory: its task and its tree. -/
def GenR (w : World) (F : Nat → Prop) (gv : Value) (t : Tsk) (T : Tr) : Prop :=
  ∃ gb a b c d r, gv = .pointer (some ⟨gb, 0, none⟩) ∧ F gb ∧ Blk w gb 68 [a, b, c, d, r] ∧ Vb w F a t.vars ∧ Vb w F b t.init ∧ Vb w F c t.goal ∧ Vb w F d t.ops ∧ TrR w F T r
theorem GenR.ext {w w' : World} {gv : Value} {t : Tsk} {T : Tr} (h : GenR w (All w) gv t T) (hE : Ext w w') : GenR w' (All w') gv t T := by
  obtain ⟨gb, a, b, c, d, r, h1, h2, h3, h4, h5, h6, h7, h8⟩ := h
  exact ⟨gb, a, b, c, d, r, h1, Nat.lt_of_lt_of_le h2 hE.size, h3.ext hE, h4.ext hE, h5.ext hE, h6.ext hE, h7.ext hE, TrR.mono (fun k hk => Nat.lt_of_lt_of_le hk hE.size) (TrR.agree (hE.agree fun _ h => h) h8)⟩
theorem made_one (z : Value) (n : Nat) (hz : z.cells = #[z]) : (madeCells z.cells (n * 1)).toList = List.replicate n z := by
  rw [hz, Nat.mul_one]
  apply List.ext_getElem
  · simp [madeCells]
  · intro i h1 h2
    simp [madeCells, Nat.mod_one]
theorem chunks_bools {w : World} {F : Nat → Prop} : ∀ n, Chunks w F (List.replicate n (.bool false)) (List.replicate n false)
  | 0 => rfl
  | n + 1 => ⟨[.bool false], List.replicate n (.bool false), rfl, rfl, chunks_bools n⟩
noncomputable def findL (t : Tsk) (T : Tr) (s : List Int) : List Int := if bof (StateOk t.vars s) = true then sortL (coll s T) else []
noncomputable def findN (t : Tsk) (T : Tr) (s : List Int) : Nat := if bof (StateOk t.vars s) = true then (look s T (List.replicate s.length false)).count true else 0
theorem count_step {l : List Bool} {k : Nat} {b : Bool} (h : l[k]? = some b) : (l.take (k + 1)).count true = (l.take k).count true + if b = true then 1 else 0 := by
  rw [List.take_add_one, h, List.count_append]
  cases b <;> simp
theorem genFind {w : World} {gv sv : Value} {t : Tsk} {T : Tr} {s : List Int} (hg : GenR w (All w) gv t T) (hs : V w sv s) (hfit : StateOk t.vars s → Fits s T) (hlen : (coll s T).length ≤ 1000000) (hsl : s.length ≤ 1000000) :
    Fn Try.prog 32 [gv, sv] w fun v w' => Ext w w' ∧ ∃ u, v = .tuple #[u, .int .i64 (findN t T s : Int)] ∧ Own w' w.heap.size (All w) 3 u (findL t T s) := by
  obtain ⟨gb, a, b, c, d, r, rfl, hgb, hb1, hvars, hinit, hgoal, hops, hT⟩ := hg
  obtain ⟨Av, cv, rfl⟩ := hvars.form
  obtain ⟨As, cs, rfl⟩ := hs.form
  obtain ⟨rp, rfl⟩ := hT.form
  refine fn_enter Try.func32 rfl Try.ntmps32 rfl ?_
  ((repeat (first | refine ewp_seq ?_ | refine ewp_block ?_ | refine ewp_region ?_ | refine ewp_skip ?_ | refine ewp_exit ?_ | refine ewp_ret ?_ | refine ewp_true rfl ?_ | refine ewp_false rfl ?_)) <;> (refine o_as rfl rfl ?_ <;> refine o_as rfl rfl ?_ <;> (first | refine owp_nilT ?_ | refine owp_nilB ?_ | refine owp_nilBB ?_ | refine owp_nil ?_)) <;> (repeat (first | refine ewp_seq ?_ | refine ewp_block ?_ | refine ewp_region ?_ | refine ewp_skip ?_ | refine ewp_exit ?_ | refine ewp_ret ?_ | refine ewp_true rfl ?_ | refine ewp_false rfl ?_)) <;> (refine o_mv rfl rfl ?_ <;> refine o_pn rfl rfl ?_ <;> refine o_mv rfl rfl ?_ <;> (first | (refine owp_yes rfl rfl ?_; refine o_mv rfl rfl ?_) | refine owp_no rfl rfl rfl rfl ?_) <;> (first | (refine owp_yes rfl rfl ?_; refine o_nc rfl rfl ?_) | refine owp_no rfl rfl rfl rfl ?_) <;> (first | (refine owp_yes rfl rfl ?_; refine o_fa rfl rfl ?_) | refine owp_no rfl rfl rfl rfl ?_) <;> (first | (refine owp_yes rfl rfl ?_; refine o_fa rfl rfl ?_) | refine owp_no rfl rfl rfl rfl ?_) <;> (first | (refine owp_yes rfl rfl ?_; refine o_ld rfl rfl ?_) | refine owp_no rfl rfl rfl rfl ?_) <;> (first | (refine owp_yes rfl rfl ?_; refine o_mv rfl rfl ?_) | refine owp_no rfl rfl rfl rfl ?_)) <;> (repeat (first | refine ewp_seq ?_ | refine ewp_block ?_ | refine ewp_region ?_ | refine ewp_skip ?_ | refine ewp_exit ?_ | refine ewp_ret ?_ | refine ewp_true rfl ?_ | refine ewp_false rfl ?_)))
  refine owp_yes rfl rfl ?_
  refine owp_callB rfl rfl (taskProper hvars hs) ?_ ?_
  case refine_2 =>
    intro w1 hP hE1
    ((first | (refine owp_yes rfl rfl ?_; (first | refine o_nt rfl rfl ?_ | refine o_nf rfl rfl ?_ | refine o_nn rfl rfl ?_)) | refine owp_no rfl rfl rfl rfl ?_) <;> (first | refine o_pt rfl rfl rfl ?_ | refine o_pf rfl rfl rfl ?_) <;> (first | refine owp_nilT ?_ | refine owp_nilB ?_ | refine owp_nilBB ?_ | refine owp_nil ?_))
    repeat (first | refine ewp_seq ?_ | refine ewp_block ?_ | refine ewp_region ?_ | refine ewp_skip ?_ | refine ewp_exit ?_ | refine ewp_ret ?_ | refine ewp_true rfl ?_ | refine ewp_false rfl ?_)
    ((repeat (first | refine ewp_seq ?_ | refine ewp_block ?_ | refine ewp_region ?_ | refine ewp_skip ?_ | refine ewp_exit ?_ | refine ewp_ret ?_ | refine ewp_true rfl ?_ | refine ewp_false rfl ?_)) <;> (refine o_as rfl rfl ?_ <;> refine o_as rfl rfl ?_ <;> (first | refine owp_nilT ?_ | refine owp_nilB ?_ | refine owp_nilBB ?_ | refine owp_nil ?_)) <;> (repeat (first | refine ewp_seq ?_ | refine ewp_block ?_ | refine ewp_region ?_ | refine ewp_skip ?_ | refine ewp_exit ?_ | refine ewp_ret ?_ | refine ewp_true rfl ?_ | refine ewp_false rfl ?_)))
    refine ret2 rfl (res_tmp rfl) (res_tmp rfl) ⟨hE1, .slice none 0 0, ?_, ?_⟩
    · rw [findN, bof_f hP]; rfl
    · rw [findL, bof_f hP]; exact Own.nil _ _ _ _
  intro w1 hok hE1
  replace hb1 := hb1.ext hE1
  ((first | (refine owp_yes rfl rfl ?_; (first | refine o_nt rfl rfl ?_ | refine o_nf rfl rfl ?_ | refine o_nn rfl rfl ?_)) | refine owp_no rfl rfl rfl rfl ?_) <;> (first | refine o_pt rfl rfl rfl ?_ | refine o_pf rfl rfl rfl ?_) <;> (first | refine owp_nilT ?_ | refine owp_nilB ?_ | refine owp_nilBB ?_ | refine owp_nil ?_))
  repeat (first | refine ewp_seq ?_ | refine ewp_block ?_ | refine ewp_region ?_ | refine ewp_skip ?_ | refine ewp_exit ?_ | refine ewp_ret ?_ | refine ewp_true rfl ?_ | refine ewp_false rfl ?_)
  (refine o_mv rfl rfl ?_ <;> refine o_ln rfl rfl ?_)
  refine owp_make rfl rfl (by omega) (by omega) rfl fun w2 hN2 => ?_
  replace hb1 := hb1.ext hN2.ext
  have hE2 : Ext w w2 := hE1.trans' hN2.ext
  have hl2 : Own w2 w.heap.size (· < w.heap.size) 4 (.slice (some ⟨w1.heap.size, 0, none⟩) s.length s.length) (List.replicate s.length false) :=
    (Own.made hN2 (by rw [made_one _ _ rfl]; exact chunks_bools _) (by simp) (by have := hE1.size; omega) (by omega)).lower hE1.size
  (refine o_as rfl rfl ?_ <;> (first | refine owp_nilT ?_ | refine owp_nilB ?_ | refine owp_nilBB ?_ | refine owp_nil ?_))
  repeat (first | refine ewp_seq ?_ | refine ewp_block ?_ | refine ewp_region ?_ | refine ewp_skip ?_ | refine ewp_exit ?_ | refine ewp_ret ?_ | refine ewp_true rfl ?_ | refine ewp_false rfl ?_)
  (refine o_mv rfl rfl ?_ <;> refine o_nc rfl rfl ?_ <;> refine o_fa rfl rfl ?_ <;> refine o_ld rfl rfl ?_ <;> refine o_mv rfl rfl ?_ <;> refine o_mv rfl rfl ?_)
  refine owp_call rfl rfl (collect w.heap.size s T w2 (.pointer rp) (.slice none 0 0) _ _ [] _ hE2.size (TrR.agree (hE2.agree fun _ h => h) hT) (Vb.agree hs (hE2.agree fun _ h => h)) (Own.nil _ _ _ _) hl2 (hfit hok) (by simp) (by simpa using hlen)) ?_
  rintro v3 w3 ⟨ho3, hl3, hB3⟩
  have hE3 : Ext w w3 := hE2.trans hB3
  rw [List.nil_append] at ho3
  (refine o_as rfl rfl ?_ <;> (first | refine owp_nilT ?_ | refine owp_nilB ?_ | refine owp_nilBB ?_ | refine owp_nil ?_))
  repeat (first | refine ewp_seq ?_ | refine ewp_block ?_ | refine ewp_region ?_ | refine ewp_skip ?_ | refine ewp_exit ?_ | refine ewp_ret ?_ | refine ewp_true rfl ?_ | refine ewp_false rfl ?_)
  (refine o_mv rfl rfl ?_)
  refine owp_call rfl rfl (sortInts ho3 hlen) ?_
  rintro _ w4 ⟨rfl, ho4, hK4⟩
  have hE4 : Ext w w4 := hE3.trans (ho3.fits (Nat.le_refl _) hE3.size hK4)
  have hl4 := hl3.kept hK4 (fun k hk => ⟨Nat.lt_of_lt_of_le hk hE3.size, fun he => by have := (ho3.lt k he).1; have : k < w.heap.size := hk; omega⟩) (fun g hg => hl3.own_ne ho3 (by decide) g hg)
  have hlv : Vb w4 _ (.slice (some ⟨w1.heap.size, 0, none⟩) s.length s.length) (look s T (List.replicate s.length false)) := hl4.vb
  have hll : (look s T (List.replicate s.length false)).length = s.length := by rw [look_length]; simp
  ((first | refine owp_nilT ?_ | refine owp_nilB ?_ | refine owp_nilBB ?_ | refine owp_nil ?_))
  repeat (first | refine ewp_seq ?_ | refine ewp_block ?_ | refine ewp_region ?_ | refine ewp_skip ?_ | refine ewp_exit ?_ | refine ewp_ret ?_ | refine ewp_true rfl ?_ | refine ewp_false rfl ?_)
  ((repeat (first | refine ewp_seq ?_ | refine ewp_block ?_ | refine ewp_region ?_ | refine ewp_skip ?_ | refine ewp_exit ?_ | refine ewp_ret ?_ | refine ewp_true rfl ?_ | refine ewp_false rfl ?_)) <;> (refine o_as rfl rfl ?_ <;> (first | refine owp_nilT ?_ | refine owp_nilB ?_ | refine owp_nilBB ?_ | refine owp_nil ?_)) <;> (repeat (first | refine ewp_seq ?_ | refine ewp_block ?_ | refine ewp_region ?_ | refine ewp_skip ?_ | refine ewp_exit ?_ | refine ewp_ret ?_ | refine ewp_true rfl ?_ | refine ewp_false rfl ?_)) <;> (refine o_mv rfl rfl ?_ <;> refine o_ln rfl rfl ?_ <;> refine o_mv rfl rfl ?_ <;> (first | refine owp_nilT ?_ | refine owp_nilB ?_ | refine owp_nilBB ?_ | refine owp_nil ?_)) <;> (repeat (first | refine ewp_seq ?_ | refine ewp_block ?_ | refine ewp_region ?_ | refine ewp_skip ?_ | refine ewp_exit ?_ | refine ewp_ret ?_ | refine ewp_true rfl ?_ | refine ewp_false rfl ?_)))
  refine ewp_range s.length (by omega) (fun n : Nat => [(7, v3), (8, .int .i64 (n : Int)), (35, .slice (some ⟨w1.heap.size, 0, none⟩) s.length s.length)]) (fun k n w' => w' = w4 ∧ n = ((look s T (List.replicate s.length false)).take k).count true) 0
    ⟨rfl, by simp⟩ ⟨rfl, rfl, rfl, rfl, rfl, trivial⟩ (fun _ => ⟨rfl, rfl⟩) ⟨rfl, rfl, rfl⟩ ⟨rfl, rfl⟩ ?_ ?_
  · rintro k n _ hk ⟨rfl, hn⟩
    obtain ⟨x, hx⟩ := some_of_lt (l := look s T (List.replicate s.length false)) (k := k) (by omega)
    obtain ⟨b2, o2, ce, he, _, _, hd1, rfl⟩ := hlv.elem hx
    injection he with he
    injection he with he1 he2
    subst he1; subst he2
    have hnl : n ≤ k := by
      rw [hn]
      exact Nat.le_trans List.count_le_length (by rw [List.length_take]; omega)
    have hst := count_step hx
    cases x
    · ((repeat (first | refine ewp_seq ?_ | refine ewp_block ?_ | refine ewp_region ?_ | refine ewp_skip ?_ | refine ewp_exit ?_ | refine ewp_ret ?_ | refine ewp_true rfl ?_ | refine ewp_false rfl ?_)) <;> (refine o_ia rfl rfl rfl ?_ <;> refine o_ld rfl rfl ?_ <;> refine o_as rfl rfl ?_ <;> (first | refine owp_nilT ?_ | refine owp_nilB ?_ | refine owp_nilBB ?_ | refine owp_nil ?_)) <;> (repeat (first | refine ewp_seq ?_ | refine ewp_block ?_ | refine ewp_region ?_ | refine ewp_skip ?_ | refine ewp_exit ?_ | refine ewp_ret ?_ | refine ewp_true rfl ?_ | refine ewp_false rfl ?_)) <;> (refine o_mv rfl rfl ?_ <;> (first | refine owp_nilT ?_ | refine owp_nilB ?_ | refine owp_nilBB ?_ | refine owp_nil ?_)) <;> (repeat (first | refine ewp_seq ?_ | refine ewp_block ?_ | refine ewp_region ?_ | refine ewp_skip ?_ | refine ewp_exit ?_ | refine ewp_ret ?_ | refine ewp_true rfl ?_ | refine ewp_false rfl ?_)))
      exact ⟨n, ⟨rfl, rfl, rfl, rfl, rfl, trivial⟩, rfl, by rw [hst, hn]; simp⟩
    · ((repeat (first | refine ewp_seq ?_ | refine ewp_block ?_ | refine ewp_region ?_ | refine ewp_skip ?_ | refine ewp_exit ?_ | refine ewp_ret ?_ | refine ewp_true rfl ?_ | refine ewp_false rfl ?_)) <;> (refine o_ia rfl rfl rfl ?_ <;> refine o_ld rfl rfl ?_ <;> refine o_as rfl rfl ?_ <;> (first | refine owp_nilT ?_ | refine owp_nilB ?_ | refine owp_nilBB ?_ | refine owp_nil ?_)) <;> (repeat (first | refine ewp_seq ?_ | refine ewp_block ?_ | refine ewp_region ?_ | refine ewp_skip ?_ | refine ewp_exit ?_ | refine ewp_ret ?_ | refine ewp_true rfl ?_ | refine ewp_false rfl ?_)) <;> (refine o_mv rfl rfl ?_ <;> (first | refine owp_nilT ?_ | refine owp_nilB ?_ | refine owp_nilBB ?_ | refine owp_nil ?_)) <;> (repeat (first | refine ewp_seq ?_ | refine ewp_block ?_ | refine ewp_region ?_ | refine ewp_skip ?_ | refine ewp_exit ?_ | refine ewp_ret ?_ | refine ewp_true rfl ?_ | refine ewp_false rfl ?_)) <;> (refine o_mv rfl rfl ?_ <;> (first | refine o_ic rfl rfl ?_ | refine o_ad rfl rfl rfl ?_) <;> refine o_as rfl rfl ?_ <;> (first | refine owp_nilT ?_ | refine owp_nilB ?_ | refine owp_nilBB ?_ | refine owp_nil ?_)) <;> (repeat (first | refine ewp_seq ?_ | refine ewp_block ?_ | refine ewp_region ?_ | refine ewp_skip ?_ | refine ewp_exit ?_ | refine ewp_ret ?_ | refine ewp_true rfl ?_ | refine ewp_false rfl ?_)))
      exact ⟨n + 1, ⟨rfl, rfl, rfl, rfl, rfl, trivial⟩, rfl, by rw [hst, hn]; simp⟩
  rintro n _ ⟨rfl, hn⟩
  repeat (first | refine ewp_seq ?_ | refine ewp_block ?_ | refine ewp_region ?_ | refine ewp_skip ?_ | refine ewp_exit ?_ | refine ewp_ret ?_ | refine ewp_true rfl ?_ | refine ewp_false rfl ?_)
  ((repeat (first | refine ewp_seq ?_ | refine ewp_block ?_ | refine ewp_region ?_ | refine ewp_skip ?_ | refine ewp_exit ?_ | refine ewp_ret ?_ | refine ewp_true rfl ?_ | refine ewp_false rfl ?_)) <;> (refine o_mv rfl rfl ?_ <;> refine o_mv rfl rfl ?_ <;> refine o_as rfl rfl ?_ <;> refine o_as rfl rfl ?_ <;> (first | refine owp_nilT ?_ | refine owp_nilB ?_ | refine owp_nilBB ?_ | refine owp_nil ?_)) <;> (repeat (first | refine ewp_seq ?_ | refine ewp_block ?_ | refine ewp_region ?_ | refine ewp_skip ?_ | refine ewp_exit ?_ | refine ewp_ret ?_ | refine ewp_true rfl ?_ | refine ewp_false rfl ?_)))
  refine ret2 rfl (res_tmp rfl) (res_tmp rfl) ⟨hE4, v3, ?_, ?_⟩
  · rw [findN, bof_t hok, if_pos rfl, hn, List.take_of_length_le (by omega)]
  · rw [findL, bof_t hok, if_pos rfl]
    exact ho4

section
variable {w : World} {gv sv : Value} {t : Tsk} {T : Tr} {s : List Int}
theorem genApplicable (hg : GenR w (All w) gv t T) (hs : V w sv s) (hfit : StateOk t.vars s → Fits s T) (hlen : (coll s T).length ≤ 1000000) (hsl : s.length ≤ 1000000) :
    Fn Try.prog 16 [gv, sv] w fun v w' => Ext w w' ∧ Own w' w.heap.size (All w) 3 v (findL t T s) := by
  refine fn_enter Try.func16 rfl Try.ntmps16 rfl ?_
  ((repeat (first | refine ewp_seq ?_ | refine ewp_block ?_ | refine ewp_region ?_ | refine ewp_skip ?_ | refine ewp_exit ?_ | refine ewp_ret ?_ | refine ewp_true rfl ?_ | refine ewp_false rfl ?_)) <;> (refine o_as rfl rfl ?_ <;> (first | refine owp_nilT ?_ | refine owp_nilB ?_ | refine owp_nilBB ?_ | refine owp_nil ?_)) <;> (repeat (first | refine ewp_seq ?_ | refine ewp_block ?_ | refine ewp_region ?_ | refine ewp_skip ?_ | refine ewp_exit ?_ | refine ewp_ret ?_ | refine ewp_true rfl ?_ | refine ewp_false rfl ?_)) <;> (refine o_mv rfl rfl ?_ <;> refine o_mv rfl rfl ?_) <;> (repeat (first | refine ewp_seq ?_ | refine ewp_block ?_ | refine ewp_region ?_ | refine ewp_skip ?_ | refine ewp_exit ?_ | refine ewp_ret ?_ | refine ewp_true rfl ?_ | refine ewp_false rfl ?_)))
  refine owp_call rfl rfl (genFind hg hs hfit hlen hsl) ?_
  rintro _ w1 ⟨hE, u, rfl, ho⟩
  (refine o_mv rfl rfl ?_ <;> refine o_ex rfl rfl rfl ?_ <;> refine o_ex rfl rfl rfl ?_ <;> refine o_as rfl rfl ?_ <;> refine o_as rfl rfl ?_ <;> (first | refine owp_nilT ?_ | refine owp_nilB ?_ | refine owp_nilBB ?_ | refine owp_nil ?_))
  repeat (first | refine ewp_seq ?_ | refine ewp_block ?_ | refine ewp_region ?_ | refine ewp_skip ?_ | refine ewp_exit ?_ | refine ewp_ret ?_ | refine ewp_true rfl ?_ | refine ewp_false rfl ?_)
  ((repeat (first | refine ewp_seq ?_ | refine ewp_block ?_ | refine ewp_region ?_ | refine ewp_skip ?_ | refine ewp_exit ?_ | refine ewp_ret ?_ | refine ewp_true rfl ?_ | refine ewp_false rfl ?_)) <;> (refine o_mv rfl rfl ?_ <;> refine o_as rfl rfl ?_ <;> (first | refine owp_nilT ?_ | refine owp_nilB ?_ | refine owp_nilBB ?_ | refine owp_nil ?_)) <;> (repeat (first | refine ewp_seq ?_ | refine ewp_block ?_ | refine ewp_region ?_ | refine ewp_skip ?_ | refine ewp_exit ?_ | refine ewp_ret ?_ | refine ewp_true rfl ?_ | refine ewp_false rfl ?_)))
  exact ret1 rfl rfl ⟨hE, ho⟩
theorem genTests (hg : GenR w (All w) gv t T) (hs : V w sv s) (hfit : StateOk t.vars s → Fits s T) (hlen : (coll s T).length ≤ 1000000) (hsl : s.length ≤ 1000000) :
    Fn Try.prog 21 [gv, sv] w fun v w' => v = .int .i64 (findN t T s : Int) ∧ Ext w w' := by
  refine fn_enter Try.func21 rfl Try.ntmps21 rfl ?_
  ((repeat (first | refine ewp_seq ?_ | refine ewp_block ?_ | refine ewp_region ?_ | refine ewp_skip ?_ | refine ewp_exit ?_ | refine ewp_ret ?_ | refine ewp_true rfl ?_ | refine ewp_false rfl ?_)) <;> (refine o_as rfl rfl ?_ <;> (first | refine owp_nilT ?_ | refine owp_nilB ?_ | refine owp_nilBB ?_ | refine owp_nil ?_)) <;> (repeat (first | refine ewp_seq ?_ | refine ewp_block ?_ | refine ewp_region ?_ | refine ewp_skip ?_ | refine ewp_exit ?_ | refine ewp_ret ?_ | refine ewp_true rfl ?_ | refine ewp_false rfl ?_)) <;> (refine o_mv rfl rfl ?_ <;> refine o_mv rfl rfl ?_) <;> (repeat (first | refine ewp_seq ?_ | refine ewp_block ?_ | refine ewp_region ?_ | refine ewp_skip ?_ | refine ewp_exit ?_ | refine ewp_ret ?_ | refine ewp_true rfl ?_ | refine ewp_false rfl ?_)))
  refine owp_call rfl rfl (genFind hg hs hfit hlen hsl) ?_
  rintro _ w1 ⟨hE, u, rfl, ho⟩
  (refine o_mv rfl rfl ?_ <;> refine o_ex rfl rfl rfl ?_ <;> refine o_ex rfl rfl rfl ?_ <;> refine o_as rfl rfl ?_ <;> refine o_as rfl rfl ?_ <;> (first | refine owp_nilT ?_ | refine owp_nilB ?_ | refine owp_nilBB ?_ | refine owp_nil ?_))
  repeat (first | refine ewp_seq ?_ | refine ewp_block ?_ | refine ewp_region ?_ | refine ewp_skip ?_ | refine ewp_exit ?_ | refine ewp_ret ?_ | refine ewp_true rfl ?_ | refine ewp_false rfl ?_)
  ((repeat (first | refine ewp_seq ?_ | refine ewp_block ?_ | refine ewp_region ?_ | refine ewp_skip ?_ | refine ewp_exit ?_ | refine ewp_ret ?_ | refine ewp_true rfl ?_ | refine ewp_false rfl ?_)) <;> (refine o_mv rfl rfl ?_ <;> refine o_as rfl rfl ?_ <;> (first | refine owp_nilT ?_ | refine owp_nilB ?_ | refine owp_nilBB ?_ | refine owp_nil ?_)) <;> (repeat (first | refine ewp_seq ?_ | refine ewp_block ?_ | refine ewp_region ?_ | refine ewp_skip ?_ | refine ewp_exit ?_ | refine ewp_ret ?_ | refine ewp_true rfl ?_ | refine ewp_false rfl ?_)))
  exact ret1 rfl rfl ⟨rfl, hE⟩
theorem Own.form {α : Type} [Rp α] {w : World} {base : Nat} {F : Nat → Prop} {e : TypeId} {v : Value} {xs : List α} (h : Own w base F e v xs) : ∃ A c, v = .slice A xs.length c := h.vb.form
theorem genCount (hg : GenR w (All w) gv t T) (hs : V w sv s) (hfit : StateOk t.vars s → Fits s T) (hlen : (coll s T).length ≤ 1000000) (hsl : s.length ≤ 1000000) :
    Fn Try.prog 19 [gv, sv] w fun v w' => v = .int .i64 ((findL t T s).length : Int) ∧ Ext w w' := by
  refine fn_enter Try.func19 rfl Try.ntmps19 rfl ?_
  ((repeat (first | refine ewp_seq ?_ | refine ewp_block ?_ | refine ewp_region ?_ | refine ewp_skip ?_ | refine ewp_exit ?_ | refine ewp_ret ?_ | refine ewp_true rfl ?_ | refine ewp_false rfl ?_)) <;> (refine o_as rfl rfl ?_ <;> (first | refine owp_nilT ?_ | refine owp_nilB ?_ | refine owp_nilBB ?_ | refine owp_nil ?_)) <;> (repeat (first | refine ewp_seq ?_ | refine ewp_block ?_ | refine ewp_region ?_ | refine ewp_skip ?_ | refine ewp_exit ?_ | refine ewp_ret ?_ | refine ewp_true rfl ?_ | refine ewp_false rfl ?_)) <;> (refine o_mv rfl rfl ?_ <;> refine o_mv rfl rfl ?_) <;> (repeat (first | refine ewp_seq ?_ | refine ewp_block ?_ | refine ewp_region ?_ | refine ewp_skip ?_ | refine ewp_exit ?_ | refine ewp_ret ?_ | refine ewp_true rfl ?_ | refine ewp_false rfl ?_)))
  refine owp_call rfl rfl (genApplicable hg hs hfit hlen hsl) ?_
  rintro u w1 ⟨hE, ho⟩
  obtain ⟨A, c, rfl⟩ := ho.form
  (refine o_ln rfl rfl ?_ <;> refine o_as rfl rfl ?_ <;> (first | refine owp_nilT ?_ | refine owp_nilB ?_ | refine owp_nilBB ?_ | refine owp_nil ?_))
  repeat (first | refine ewp_seq ?_ | refine ewp_block ?_ | refine ewp_region ?_ | refine ewp_skip ?_ | refine ewp_exit ?_ | refine ewp_ret ?_ | refine ewp_true rfl ?_ | refine ewp_false rfl ?_)
  exact ret1 rfl rfl ⟨rfl, hE⟩
end

/-- An operator and the state after it. -/
structure Suc where
  op : Int
  state : List Int
instance : Rp Suc where
  isAgg := true
  size := 2
  R w F cs x := ∃ v, cs = [.int .i64 x.op, v] ∧ Vb w F v x.state ∧ inI64 x.op
  len := by rintro w F cs x ⟨v, rfl, _⟩; rfl
  one := by rintro w F cs x ⟨v, rfl, h, _⟩ u hu; simp at hu; rcases hu with rfl | rfl <;> first | rfl | exact Vb.one rfl (by assumption)
  agree := by rintro w w' F cs x ⟨v, rfl, h, h2⟩ ha; exact ⟨v, rfl, h.agree ha, h2⟩
  mono := by rintro w F G cs x ⟨v, rfl, h, h2⟩ ha; exact ⟨v, rfl, h.mono ha, h2⟩
def sucOf (t : Tsk) (s : List Int) (op : Int) : Suc := ⟨op, match t.ops[op.toNat]? with | some o => succ o s | none => s⟩
theorem genSuccessors {w : World} {gv sv : Value} {t : Tsk} {T : Tr} {s : List Int} (hg : GenR w (All w) gv t T) (hs : V w sv s) (hfit : StateOk t.vars s → Fits s T) (hlen : (coll s T).length ≤ 1000000) (hsl : s.length ≤ 1000000)
    (hops : ∀ x ∈ findL t T s, 0 ≤ x ∧ x < t.ops.length) (hef : findL t T s ≠ [] → ∀ (i : Nat) o, t.ops[i]? = some o → EffsIn s o.effs) (hfl : (findL t T s).length ≤ 1000000) :
    Fn Try.prog 20 [gv, sv] w fun v w' => V w' v ((findL t T s).map (sucOf t s)) ∧ Ext w w' := by
  have hg0 := hg
  obtain ⟨gb, a, b, c, d, r, rfl, hgb, hb0, hvars, hinit, hgoal, hopsv, hT⟩ := hg
  obtain ⟨Ao, co, rfl⟩ := hopsv.form
  obtain ⟨As, cs, rfl⟩ := hs.form
  refine fn_enter Try.func20 rfl Try.ntmps20 rfl ?_
  ((repeat (first | refine ewp_seq ?_ | refine ewp_block ?_ | refine ewp_region ?_ | refine ewp_skip ?_ | refine ewp_exit ?_ | refine ewp_ret ?_ | refine ewp_true rfl ?_ | refine ewp_false rfl ?_)) <;> (refine o_as rfl rfl ?_ <;> (first | refine owp_nilT ?_ | refine owp_nilB ?_ | refine owp_nilBB ?_ | refine owp_nil ?_)) <;> (repeat (first | refine ewp_seq ?_ | refine ewp_block ?_ | refine ewp_region ?_ | refine ewp_skip ?_ | refine ewp_exit ?_ | refine ewp_ret ?_ | refine ewp_true rfl ?_ | refine ewp_false rfl ?_)) <;> (refine o_as rfl rfl ?_ <;> (first | refine owp_nilT ?_ | refine owp_nilB ?_ | refine owp_nilBB ?_ | refine owp_nil ?_)) <;> (repeat (first | refine ewp_seq ?_ | refine ewp_block ?_ | refine ewp_region ?_ | refine ewp_skip ?_ | refine ewp_exit ?_ | refine ewp_ret ?_ | refine ewp_true rfl ?_ | refine ewp_false rfl ?_)) <;> (refine o_mv rfl rfl ?_ <;> refine o_mv rfl rfl ?_) <;> (repeat (first | refine ewp_seq ?_ | refine ewp_block ?_ | refine ewp_region ?_ | refine ewp_skip ?_ | refine ewp_exit ?_ | refine ewp_ret ?_ | refine ewp_true rfl ?_ | refine ewp_false rfl ?_)))
  refine owp_call rfl rfl (genApplicable hg0 hs hfit hlen hsl) ?_
  rintro u w1 ⟨hE1, hol⟩
  obtain ⟨Al, cl, rfl⟩ := hol.form
  have hlv : V w1 (.slice Al (findL t T s).length cl) (findL t T s) := hol.vb.mono fun k hk => by
    rcases hk with hk | hk
    · exact Nat.lt_of_lt_of_le hk hE1.size
    · exact (hol.lt k hk).2
  (refine o_ln rfl rfl ?_ <;> refine o_mv rfl rfl ?_ <;> (first | refine owp_nilT ?_ | refine owp_nilB ?_ | refine owp_nilBB ?_ | refine owp_nil ?_))
  repeat (first | refine ewp_seq ?_ | refine ewp_block ?_ | refine ewp_region ?_ | refine ewp_skip ?_ | refine ewp_exit ?_ | refine ewp_ret ?_ | refine ewp_true rfl ?_ | refine ewp_false rfl ?_)
  refine ewp_range (findL t T s).length (by omega) (fun v : Value => [(0, .pointer (some ⟨gb, 0, none⟩)), (1, .slice As s.length cs), (5, v), (13, .slice Al (findL t T s).length cl)]) (fun k v w' => Ext w1 w' ∧ ∃ F : Nat → Prop, (∀ k, F k → k < w'.heap.size) ∧ Own w' w1.heap.size F 56 v (((findL t T s).take k).map (sucOf t s))) (.slice none 0 0)
    ⟨Below.refl _ _, fun _ => False, fun _ h => h.elim, Own.nil _ _ _ _⟩ ⟨rfl, rfl, rfl, rfl, rfl, rfl, trivial⟩ (fun _ => ⟨rfl, rfl⟩) ⟨rfl, rfl, rfl⟩ ⟨rfl, rfl⟩ ?_ ?_
  · rintro k v w2 hk ⟨hE2, F, hF2, hown⟩
    obtain ⟨x, hx⟩ := some_of_lt hk
    obtain ⟨hx0, hx1⟩ := hops x (List.mem_of_getElem? hx)
    obtain ⟨j, hj1⟩ := Int.eq_ofNat_of_zero_le hx0
    obtain ⟨o, ho⟩ := some_of_lt (l := t.ops) (k := j) (by omega)
    have hsuc : sucOf t s x = ⟨x, succ o s⟩ := by simp [sucOf, hj1, ho]
    have hE2' : Ext w w2 := hE1.trans' hE2
    obtain ⟨b1, o1, ce, rfl, _, _, hd1, rfl, hxin⟩ := (hlv.ext hE2).elem hx
    ((repeat (first | refine ewp_seq ?_ | refine ewp_block ?_ | refine ewp_region ?_ | refine ewp_skip ?_ | refine ewp_exit ?_ | refine ewp_ret ?_ | refine ewp_true rfl ?_ | refine ewp_false rfl ?_)) <;> (refine o_ia rfl rfl rfl ?_ <;> refine o_ld rfl rfl ?_ <;> refine o_as rfl rfl ?_ <;> (first | refine owp_nilT ?_ | refine owp_nilB ?_ | refine owp_nilBB ?_ | refine owp_nil ?_)) <;> (repeat (first | refine ewp_seq ?_ | refine ewp_block ?_ | refine ewp_region ?_ | refine ewp_skip ?_ | refine ewp_exit ?_ | refine ewp_ret ?_ | refine ewp_true rfl ?_ | refine ewp_false rfl ?_)) <;> (refine o_mv rfl rfl ?_) <;> (repeat (first | refine ewp_seq ?_ | refine ewp_block ?_ | refine ewp_region ?_ | refine ewp_skip ?_ | refine ewp_exit ?_ | refine ewp_ret ?_ | refine ewp_true rfl ?_ | refine ewp_false rfl ?_)))
    refine owp_call rfl rfl (cloneInts (hs.ext hE2') (by omega)) ?_
    rintro nv w3 ⟨hn3, hE3⟩
    have hE13 : Ext w1 w3 := hE2.trans' hE3
    have hE03 : Ext w w3 := hE1.trans' hE13
    have hb1 := hb0.ext hE03
    obtain ⟨b2, o2, ce, rfl, hbl, _, hd0, p, q, rfl, hp, hq, hc, hnm⟩ := hopsv.elem ho
    obtain ⟨Ap, cp, rfl⟩ := hp.form
    obtain ⟨Aq, cq, rfl⟩ := hq.form
    replace hd1 := cells_ext hd0 hbl hE03
    (refine o_as rfl rfl ?_ <;> (first | refine owp_nilT ?_ | refine owp_nilB ?_ | refine owp_nilBB ?_ | refine owp_nil ?_))
    repeat (first | refine ewp_seq ?_ | refine ewp_block ?_ | refine ewp_region ?_ | refine ewp_skip ?_ | refine ewp_exit ?_ | refine ewp_ret ?_ | refine ewp_true rfl ?_ | refine ewp_false rfl ?_)
    ((repeat (first | refine ewp_seq ?_ | refine ewp_block ?_ | refine ewp_region ?_ | refine ewp_skip ?_ | refine ewp_exit ?_ | refine ewp_ret ?_ | refine ewp_true rfl ?_ | refine ewp_false rfl ?_)) <;> (refine o_mv rfl rfl ?_ <;> refine o_nc rfl rfl ?_ <;> refine o_fa rfl rfl ?_ <;> refine o_fa rfl rfl ?_ <;> refine o_ld rfl rfl ?_ <;> refine o_mv rfl rfl ?_ <;> refine o_ia rfl rfl rfl ?_ <;> refine o_fa rfl rfl ?_ <;> refine o_ld rfl rfl ?_ <;> refine o_ln rfl rfl ?_ <;> refine o_mv rfl rfl ?_ <;> (first | refine owp_nilT ?_ | refine owp_nilB ?_ | refine owp_nilBB ?_ | refine owp_nil ?_)) <;> (repeat (first | refine ewp_seq ?_ | refine ewp_block ?_ | refine ewp_region ?_ | refine ewp_skip ?_ | refine ewp_exit ?_ | refine ewp_ret ?_ | refine ewp_true rfl ?_ | refine ewp_false rfl ?_)))
    refine ewp_range o.effs.length (by have := hq.len; omega) (fun _ : Unit => [(0, .pointer (some ⟨gb, 0, none⟩)), (1, .slice As s.length cs), (5, v), (7, .int .i64 x), (8, nv), (13, .slice (some ⟨b1, o1, none⟩) (findL t T s).length cl), (14, .int .i64 ((findL t T s).length : Int)), (15, .int .i64 (k : Int)), (29, .slice Aq o.effs.length cq)])
      (fun i _ w' => Ext w2 w' ∧ Own w' w2.heap.size (All w2) 3 nv (effsOn s (o.effs.take i) s)) ()
      ⟨hE3, hn3⟩ ⟨rfl, rfl, rfl, rfl, rfl, rfl, rfl, rfl, rfl, rfl, rfl, trivial⟩ (fun _ => ⟨rfl, rfl⟩) ⟨rfl, rfl, rfl⟩ ⟨rfl, rfl⟩ ?_ ?_
    · rintro i _ w4 hi ⟨hE4, hn4⟩
      obtain ⟨e, he⟩ := some_of_lt hi
      have hin := hef (List.ne_nil_of_mem (List.mem_of_getElem? hx)) j o ho i e he
      have hE04 : Ext w w4 := hE2'.trans' hE4
      obtain ⟨b3, o3, ce, rfl, hbl3, _, hd1, cv', rfl, hcn, hr1, hr2⟩ := (hq.ext hE04).elem he
      obtain ⟨Acn, ccn, rfl⟩ := hcn.form
      ((repeat (first | refine ewp_seq ?_ | refine ewp_block ?_ | refine ewp_region ?_ | refine ewp_skip ?_ | refine ewp_exit ?_ | refine ewp_ret ?_ | refine ewp_true rfl ?_ | refine ewp_false rfl ?_)) <;> (refine o_ia rfl rfl rfl ?_ <;> refine o_la rfl rfl ?_) <;> (repeat (first | refine ewp_seq ?_ | refine ewp_block ?_ | refine ewp_region ?_ | refine ewp_skip ?_ | refine ewp_exit ?_ | refine ewp_ret ?_ | refine ewp_true rfl ?_ | refine ewp_false rfl ?_)))
      refine owp_local rfl rfl rfl (by simp [Value.cells, Value.oneCell']) fun w5 hN5 => ?_
      have hb2 := hN5.blk
      have hE5 : Ext w2 w5 := hE4.trans' hN5.ext
      replace hn4 := hn4.ext hN5.ext (fun k hk => Nat.lt_of_lt_of_le hk hE4.size)
      ((first | refine owp_nilT ?_ | refine owp_nilB ?_ | refine owp_nilBB ?_ | refine owp_nil ?_))
      repeat (first | refine ewp_seq ?_ | refine ewp_block ?_ | refine ewp_region ?_ | refine ewp_skip ?_ | refine ewp_exit ?_ | refine ewp_ret ?_ | refine ewp_true rfl ?_ | refine ewp_false rfl ?_)
      (refine o_fa rfl rfl ?_ <;> refine o_ld rfl rfl ?_ <;> refine o_mv rfl rfl ?_)
      refine owp_callB rfl rfl (taskHolds (hcn.ext hN5.ext) (hs.ext (hE2'.trans' hE5))) ?_ ?_
      · intro w6 hP hE6
        replace hb2 := hb2.ext hE6
        replace hn4 := hn4.ext hE6 (fun k hk => Nat.lt_of_lt_of_le hk hE5.size)
        replace hE6 : Ext w2 w6 := hE5.trans' hE6
        obtain ⟨m, hm⟩ := Int.eq_ofNat_of_zero_le hin.1
        have hlen' : (effsOn s (o.effs.take i) s).length = s.length := effsOn_length _ _ _
        obtain ⟨g, cap, _, _, rfl, _⟩ := hn4.open (by omega)
        have hj2 := hm
        have hml : m < (effsOn s (o.effs.take i) s).length := by omega
        ((first | refine owp_nilT ?_ | refine owp_nilB ?_ | refine owp_nilBB ?_ | refine owp_nil ?_))
        repeat (first | refine ewp_seq ?_ | refine ewp_block ?_ | refine ewp_region ?_ | refine ewp_skip ?_ | refine ewp_exit ?_ | refine ewp_ret ?_ | refine ewp_true rfl ?_ | refine ewp_false rfl ?_)
        (refine o_mv rfl rfl ?_ <;> refine o_fa rfl rfl ?_ <;> refine o_ld rfl rfl ?_ <;> refine o_fa rfl rfl ?_ <;> refine o_ld rfl rfl ?_ <;> refine o_ia rfl rfl rfl ?_)
        refine owp_setElem rfl rfl rfl hn4 hml (show Vb w6 (All w2) (.int .i64 e.val) e.val from ⟨rfl, hr2⟩) fun w7 hn7 hK7 hz7 => ?_
        ((first | refine owp_nilT ?_ | refine owp_nilB ?_ | refine owp_nilBB ?_ | refine owp_nil ?_))
        repeat (first | refine ewp_seq ?_ | refine ewp_block ?_ | refine ewp_region ?_ | refine ewp_skip ?_ | refine ewp_exit ?_ | refine ewp_ret ?_ | refine ewp_true rfl ?_ | refine ewp_false rfl ?_)
        refine ⟨(), ⟨rfl, rfl, rfl, rfl, rfl, rfl, rfl, rfl, rfl, rfl, rfl, trivial⟩, hE6.trans (hn4.fits (Nat.le_refl _) hE6.size hK7), ?_⟩
        rw [effsOn_step s he, if_pos hP, hm]
        exact hn7
      · intro w6 hP hE6
        ((first | refine owp_nilT ?_ | refine owp_nilB ?_ | refine owp_nilBB ?_ | refine owp_nil ?_))
        repeat (first | refine ewp_seq ?_ | refine ewp_block ?_ | refine ewp_region ?_ | refine ewp_skip ?_ | refine ewp_exit ?_ | refine ewp_ret ?_ | refine ewp_true rfl ?_ | refine ewp_false rfl ?_)
        refine ⟨(), ⟨rfl, rfl, rfl, rfl, rfl, rfl, rfl, rfl, rfl, rfl, rfl, trivial⟩, hE5.trans' hE6, ?_⟩
        rw [effsOn_step s he, if_neg hP]
        exact hn4.ext hE6 (fun k hk => Nat.lt_of_lt_of_le hk hE5.size)
    rintro _ w4 ⟨hE4, hn4⟩
    rw [List.take_length] at hn4
    have hE14 : Ext w1 w4 := hE2.trans' hE4
    obtain ⟨An, cn, rfl⟩ := hn4.form
    have hne : ∀ g, v.ownBlock = some g → ¬ (F g ∨ w2.heap.size ≤ g ∧ g < w4.heap.size) := fun g hg h => by
      rcases h with h | h
      · obtain ⟨_, _, _, h3⟩ := hown; exact h3 g hg h
      · have := (hown.lt g hg).2; omega
    have hown4 : Own w4 w1.heap.size (fun k => F k ∨ w2.heap.size ≤ k ∧ k < w4.heap.size) 56 v _ := (hown.ext hE4 hF2).mono (fun k hk => .inl hk) hne
    have hF4 : ∀ k, (F k ∨ w2.heap.size ≤ k ∧ k < w4.heap.size) → k < w4.heap.size := fun k hk => by
      rcases hk with hk | hk
      · exact Nat.lt_of_lt_of_le (hF2 k hk) hE4.size
      · exact hk.2
    have hv4 : Vb w4 (fun k => F k ∨ w2.heap.size ≤ k ∧ k < w4.heap.size) (.slice An (effsOn s o.effs s).length cn) (succ o s) := by
      obtain ⟨cells, q1, q2, q3⟩ := id hn4
      have ho3' : Own w4 w2.heap.size (fun _ => False) 3 (.slice An (effsOn s o.effs s).length cn) (succ o s) := ⟨cells, q1, by
        obtain ⟨rfl, hin⟩ := chunks_int_eq q2
        exact chunks_int_mk hin, fun _ _ h => h⟩
      exact ho3'.vb.mono fun k hk => by
        rcases hk with hk | hk
        · exact hk.elim
        · exact .inr (hn4.lt k hk)
    have hk1 : (((findL t T s).take k).map (sucOf t s)).length ≤ 1000000 := by rw [List.length_map, List.length_take]; omega
    repeat (first | refine ewp_seq ?_ | refine ewp_block ?_ | refine ewp_region ?_ | refine ewp_skip ?_ | refine ewp_exit ?_ | refine ewp_ret ?_ | refine ewp_true rfl ?_ | refine ewp_false rfl ?_)
    (refine o_mv rfl rfl ?_ <;> refine o_mv rfl rfl ?_ <;> refine o_mv rfl rfl ?_ <;> refine o_bd rfl rfl rfl ?_)
    refine owp_append1 (a := (⟨x, succ o s⟩ : Suc)) rfl rfl rfl hown4 hF4 hE14.size ⟨[.int .i64 x, .slice An (effsOn s o.effs s).length cn], rfl, _, rfl, hv4, hxin⟩ (by decide) (by decide) (by omega) (by omega) ⟨rfl, rfl⟩ fun v' w5 hown5 hK5 => ?_
    (refine o_as rfl rfl ?_ <;> (first | refine owp_nilT ?_ | refine owp_nilB ?_ | refine owp_nilBB ?_ | refine owp_nil ?_))
    repeat (first | refine ewp_seq ?_ | refine ewp_block ?_ | refine ewp_region ?_ | refine ewp_skip ?_ | refine ewp_exit ?_ | refine ewp_ret ?_ | refine ewp_true rfl ?_ | refine ewp_false rfl ?_)
    exact ⟨v', ⟨rfl, rfl, rfl, rfl, rfl, rfl, trivial⟩, hE14.trans (hown4.fits (Nat.le_refl _) hE14.size hK5), _, fun k hk => Nat.lt_of_lt_of_le (hF4 k hk) hK5.size, by rw [List.take_add_one, hx]; simpa [hsuc] using hown5⟩
  rintro v w2 ⟨hE2, F, hF2, hown⟩
  repeat (first | refine ewp_seq ?_ | refine ewp_block ?_ | refine ewp_region ?_ | refine ewp_skip ?_ | refine ewp_exit ?_ | refine ewp_ret ?_ | refine ewp_true rfl ?_ | refine ewp_false rfl ?_)
  ((repeat (first | refine ewp_seq ?_ | refine ewp_block ?_ | refine ewp_region ?_ | refine ewp_skip ?_ | refine ewp_exit ?_ | refine ewp_ret ?_ | refine ewp_true rfl ?_ | refine ewp_false rfl ?_)) <;> (refine o_mv rfl rfl ?_ <;> refine o_as rfl rfl ?_ <;> (first | refine owp_nilT ?_ | refine owp_nilB ?_ | refine owp_nilBB ?_ | refine owp_nil ?_)) <;> (repeat (first | refine ewp_seq ?_ | refine ewp_block ?_ | refine ewp_region ?_ | refine ewp_skip ?_ | refine ewp_exit ?_ | refine ewp_ret ?_ | refine ewp_true rfl ?_ | refine ewp_false rfl ?_)))
  rw [List.take_length] at hown
  exact ret1 rfl rfl ⟨hown.vb.mono fun k hk => by
    rcases hk with hk | hk
    · exact hF2 k hk
    · exact (hown.lt k hk).2, hE1.trans' hE2⟩
end Go.Proofs.Ytfbcjknlihopcaa

/- Own text: the generator's functions at a right task's tree, and at a nil generator. -/
import Derived.Test.YtfbcjknlihopcaaNew
namespace Go.Proofs.Ytfbcjknlihopcaa
open Go Go.RowKit
attribute [local irreducible] ewp owp hwp hwq hws Ev Evg Fn retPost loud loudS Res1
theorem GenR.mono {w : World} {F G : Nat → Prop} {gv : Value} {t : Tsk} {T : Tr} (h : GenR w F gv t T) (hk : ∀ k, F k → G k) : GenR w G gv t T := by
  obtain ⟨gb, a, b, c, d, r, h1, h2, h3, h4, h5, h6, h7, h8⟩ := h
  exact ⟨gb, a, b, c, d, r, h1, hk _ h2, h3, h4.mono hk, h5.mono hk, h6.mono hk, h7.mono hk, TrR.mono hk h8⟩
theorem GenR.agree {w w' : World} {F : Nat → Prop} {gv : Value} {t : Tsk} {T : Tr} (h : GenR w F gv t T) (ha : Agree F w w') : GenR w' F gv t T := by
  obtain ⟨gb, a, b, c, d, r, h1, h2, h3, h4, h5, h6, h7, h8⟩ := h
  exact ⟨gb, a, b, c, d, r, h1, h2, h3.keep (ha gb h2), h4.agree ha, h5.agree ha, h6.agree ha, h7.agree ha, TrR.agree ha h8⟩
theorem GenR.form {w : World} {F : Nat → Prop} {gv : Value} {t : Tsk} {T : Tr} (h : GenR w F gv t T) : ∃ gb, gv = .pointer (some ⟨gb, 0, none⟩) := by
  obtain ⟨gb, a, b, c, d, r, h1, _⟩ := h
  exact ⟨gb, h1⟩
/-- What a generator of a right task finds. -/
noncomputable def appS (t : Tsk) (s : List Int) : List Int := if bof (StateOk t.vars s) = true then appl t s else []
theorem appS_ok {t : Tsk} {s : List Int} (h : StateOk t.vars s) : appS t s = appl t s := by unfold appS; rw [if_pos (bof_t h)]
theorem appS_no {t : Tsk} {s : List Int} (h : ¬ StateOk t.vars s) : appS t s = [] := by unfold appS; rw [bof_f h]; rfl
theorem findL_appS {t : Tsk} (hp : PreOk t) (s : List Int) : findL t (treeOf t) s = appS t s := by
  by_cases h : StateOk t.vars s
  · rw [findL_tree hp h, appS_ok h]
  · rw [appS_no h]; unfold findL; rw [bof_f h]; rfl
theorem findN_no {t : Tsk} {s : List Int} (h : ¬ StateOk t.vars s) : findN t (treeOf t) s = 0 := by unfold findN; rw [bof_f h]; rfl
theorem appl_mem {t : Tsk} {s : List Int} {x : Int} (h : x ∈ appl t s) : ∃ (j : Nat) (o : Opr), x = (j : Int) ∧ t.ops[j]? = some o ∧ holdsB o.pre s = true := by
  unfold appl applK at h
  obtain ⟨j, hj, rfl⟩ := List.mem_map.1 h
  obtain ⟨h1, h2⟩ := List.mem_filter.1 hj
  obtain ⟨o, ho⟩ := some_of_lt (List.mem_range.1 h1)
  rw [ho] at h2
  exact ⟨j, o, rfl, ho, h2⟩
theorem appS_mem {t : Tsk} {s : List Int} {x : Int} (h : x ∈ appS t s) : StateOk t.vars s ∧ x ∈ appl t s := by
  by_cases hs : StateOk t.vars s
  · rw [appS_ok hs] at h; exact ⟨hs, h⟩
  · rw [appS_no hs] at h; cases h
theorem appl_len (t : Tsk) (s : List Int) : (appl t s).length ≤ t.ops.length := applK_len t s _
theorem appS_len (t : Tsk) (s : List Int) : (appS t s).length ≤ t.ops.length := by
  by_cases hs : StateOk t.vars s
  · rw [appS_ok hs]; exact appl_len t s
  · rw [appS_no hs]; exact Nat.zero_le _
theorem TaskOk.effs {t : Tsk} (h : TaskOk t) {s : List Int} (hs : StateOk t.vars s) : ∀ (i : Nat) o, t.ops[i]? = some o → EffsIn s o.effs := fun i o ho j e he => by
  obtain ⟨h1, _, y, hy, _⟩ := ((h.2.2.2.2.2 i o ho).2.2.2.2.2 j e he).2
  have := lt_of_some hy
  rw [hs.1]
  exact ⟨h1, by simp at h1 this; omega⟩
section
variable {w : World} {gv sv : Value} {t : Tsk} {s : List Int}
theorem applT (hok : TaskOk t) (hg : GenR w (All w) gv t (treeOf t)) (hs : V w sv s) (hsl : s.length ≤ 1000000) :
    Fn Try.prog 16 [gv, sv] w fun v w' => Ext w w' ∧ Own w' w.heap.size (All w) 3 v (appS t s) := by
  have := genApplicable hg hs (fits_tree hok.pre) (by have := tree_len t s; have := hok.2.1; omega) hsl
  rwa [findL_appS hok.pre] at this
theorem countT (hok : TaskOk t) (hg : GenR w (All w) gv t (treeOf t)) (hs : V w sv s) (hsl : s.length ≤ 1000000) :
    Fn Try.prog 19 [gv, sv] w fun v w' => v = .int .i64 ((appS t s).length : Int) ∧ Ext w w' := by
  have := genCount hg hs (fits_tree hok.pre) (by have := tree_len t s; have := hok.2.1; omega) hsl
  rwa [findL_appS hok.pre] at this
theorem testsT (hok : TaskOk t) (hg : GenR w (All w) gv t (treeOf t)) (hs : V w sv s) (hsl : s.length ≤ 1000000) :
    Fn Try.prog 21 [gv, sv] w fun v w' => v = .int .i64 (findN t (treeOf t) s : Int) ∧ Ext w w' :=
  genTests hg hs (fits_tree hok.pre) (by have := tree_len t s; have := hok.2.1; omega) hsl
theorem succT (hok : TaskOk t) (hg : GenR w (All w) gv t (treeOf t)) (hs : V w sv s) (hsl : s.length ≤ 1000000) :
    Fn Try.prog 20 [gv, sv] w fun v w' => V w' v ((appS t s).map (sucOf t s)) ∧ Ext w w' := by
  have hl := appS_len t s
  have ho := hok.2.1
  have := genSuccessors hg hs (fits_tree hok.pre) (by have := tree_len t s; omega) hsl (by
    rw [findL_appS hok.pre]
    intro x hx
    obtain ⟨j, o, rfl, hj, _⟩ := appl_mem (appS_mem hx).2
    have := lt_of_some hj
    exact ⟨by omega, by omega⟩) (by
    rw [findL_appS hok.pre]
    intro hne
    obtain ⟨x, hx⟩ := List.exists_mem_of_ne_nil _ hne
    exact hok.effs (appS_mem hx).1) (by rw [findL_appS hok.pre]; omega)
  rwa [findL_appS hok.pre] at this
end
/-- A nil generator. -/
theorem nilFind {w : World} {sv : Value} : Fn Try.prog 32 [.pointer none, sv] w fun v w' => v = .tuple #[.slice none 0 0, .int .i64 0] ∧ Ext w w' := by
  refine fn_enter Try.func32 rfl Try.ntmps32 rfl ?_
  ((repeat (first | refine ewp_seq ?_ | refine ewp_block ?_ | refine ewp_region ?_ | refine ewp_skip ?_ | refine ewp_exit ?_ | refine ewp_ret ?_ | refine ewp_true rfl ?_ | refine ewp_false rfl ?_)) <;> (refine o_as rfl rfl ?_ <;> refine o_as rfl rfl ?_ <;> (first | refine owp_nilT ?_ | refine owp_nilB ?_ | refine owp_nilBB ?_ | refine owp_nil ?_)) <;> (repeat (first | refine ewp_seq ?_ | refine ewp_block ?_ | refine ewp_region ?_ | refine ewp_skip ?_ | refine ewp_exit ?_ | refine ewp_ret ?_ | refine ewp_true rfl ?_ | refine ewp_false rfl ?_)))
  (refine o_mv rfl rfl ?_ <;> refine o_pn rfl rfl ?_ <;> refine o_mv rfl rfl ?_ <;> (first | (refine owp_yes rfl rfl ?_; refine o_mv rfl rfl ?_) | refine owp_no rfl rfl rfl rfl ?_) <;> (first | (refine owp_yes rfl rfl ?_; refine o_nc rfl rfl ?_) | refine owp_no rfl rfl rfl rfl ?_) <;> (first | (refine owp_yes rfl rfl ?_; refine o_fa rfl rfl ?_) | refine owp_no rfl rfl rfl rfl ?_) <;> (first | (refine owp_yes rfl rfl ?_; refine o_fa rfl rfl ?_) | refine owp_no rfl rfl rfl rfl ?_) <;> (first | (refine owp_yes rfl rfl ?_; refine o_ld rfl rfl ?_) | refine owp_no rfl rfl rfl rfl ?_) <;> (first | (refine owp_yes rfl rfl ?_; refine o_mv rfl rfl ?_) | refine owp_no rfl rfl rfl rfl ?_))
  refine owp_no rfl rfl rfl rfl ?_
  ((first | (refine owp_yes rfl rfl ?_; (first | refine o_nt rfl rfl ?_ | refine o_nf rfl rfl ?_ | refine o_nn rfl rfl ?_)) | refine owp_no rfl rfl rfl rfl ?_) <;> (first | refine o_pt rfl rfl rfl ?_ | refine o_pf rfl rfl rfl ?_) <;> (first | refine owp_nilT ?_ | refine owp_nilB ?_ | refine owp_nilBB ?_ | refine owp_nil ?_))
  repeat (first | refine ewp_seq ?_ | refine ewp_block ?_ | refine ewp_region ?_ | refine ewp_skip ?_ | refine ewp_exit ?_ | refine ewp_ret ?_ | refine ewp_true rfl ?_ | refine ewp_false rfl ?_)
  ((repeat (first | refine ewp_seq ?_ | refine ewp_block ?_ | refine ewp_region ?_ | refine ewp_skip ?_ | refine ewp_exit ?_ | refine ewp_ret ?_ | refine ewp_true rfl ?_ | refine ewp_false rfl ?_)) <;> (refine o_as rfl rfl ?_ <;> refine o_as rfl rfl ?_ <;> (first | refine owp_nilT ?_ | refine owp_nilB ?_ | refine owp_nilBB ?_ | refine owp_nil ?_)) <;> (repeat (first | refine ewp_seq ?_ | refine ewp_block ?_ | refine ewp_region ?_ | refine ewp_skip ?_ | refine ewp_exit ?_ | refine ewp_ret ?_ | refine ewp_true rfl ?_ | refine ewp_false rfl ?_)))
  exact ret2 rfl (res_tmp rfl) (res_tmp rfl) ⟨rfl, Below.refl _ _⟩
theorem nilApplicable {w : World} {sv : Value} : Fn Try.prog 16 [.pointer none, sv] w fun v w' => v = .slice none 0 0 ∧ Ext w w' := by
  refine fn_enter Try.func16 rfl Try.ntmps16 rfl ?_
  ((repeat (first | refine ewp_seq ?_ | refine ewp_block ?_ | refine ewp_region ?_ | refine ewp_skip ?_ | refine ewp_exit ?_ | refine ewp_ret ?_ | refine ewp_true rfl ?_ | refine ewp_false rfl ?_)) <;> (refine o_as rfl rfl ?_ <;> (first | refine owp_nilT ?_ | refine owp_nilB ?_ | refine owp_nilBB ?_ | refine owp_nil ?_)) <;> (repeat (first | refine ewp_seq ?_ | refine ewp_block ?_ | refine ewp_region ?_ | refine ewp_skip ?_ | refine ewp_exit ?_ | refine ewp_ret ?_ | refine ewp_true rfl ?_ | refine ewp_false rfl ?_)) <;> (refine o_mv rfl rfl ?_ <;> refine o_mv rfl rfl ?_) <;> (repeat (first | refine ewp_seq ?_ | refine ewp_block ?_ | refine ewp_region ?_ | refine ewp_skip ?_ | refine ewp_exit ?_ | refine ewp_ret ?_ | refine ewp_true rfl ?_ | refine ewp_false rfl ?_)))
  refine owp_call rfl rfl nilFind ?_
  rintro _ w1 ⟨rfl, hE⟩
  (refine o_mv rfl rfl ?_ <;> refine o_ex rfl rfl rfl ?_ <;> refine o_ex rfl rfl rfl ?_ <;> refine o_as rfl rfl ?_ <;> refine o_as rfl rfl ?_ <;> (first | refine owp_nilT ?_ | refine owp_nilB ?_ | refine owp_nilBB ?_ | refine owp_nil ?_))
  repeat (first | refine ewp_seq ?_ | refine ewp_block ?_ | refine ewp_region ?_ | refine ewp_skip ?_ | refine ewp_exit ?_ | refine ewp_ret ?_ | refine ewp_true rfl ?_ | refine ewp_false rfl ?_)
  ((repeat (first | refine ewp_seq ?_ | refine ewp_block ?_ | refine ewp_region ?_ | refine ewp_skip ?_ | refine ewp_exit ?_ | refine ewp_ret ?_ | refine ewp_true rfl ?_ | refine ewp_false rfl ?_)) <;> (refine o_mv rfl rfl ?_ <;> refine o_as rfl rfl ?_ <;> (first | refine owp_nilT ?_ | refine owp_nilB ?_ | refine owp_nilBB ?_ | refine owp_nil ?_)) <;> (repeat (first | refine ewp_seq ?_ | refine ewp_block ?_ | refine ewp_region ?_ | refine ewp_skip ?_ | refine ewp_exit ?_ | refine ewp_ret ?_ | refine ewp_true rfl ?_ | refine ewp_false rfl ?_)))
  exact ret1 rfl rfl ⟨rfl, hE⟩
theorem nilTests {w : World} {sv : Value} : Fn Try.prog 21 [.pointer none, sv] w fun v w' => v = .int .i64 0 ∧ Ext w w' := by
  refine fn_enter Try.func21 rfl Try.ntmps21 rfl ?_
  ((repeat (first | refine ewp_seq ?_ | refine ewp_block ?_ | refine ewp_region ?_ | refine ewp_skip ?_ | refine ewp_exit ?_ | refine ewp_ret ?_ | refine ewp_true rfl ?_ | refine ewp_false rfl ?_)) <;> (refine o_as rfl rfl ?_ <;> (first | refine owp_nilT ?_ | refine owp_nilB ?_ | refine owp_nilBB ?_ | refine owp_nil ?_)) <;> (repeat (first | refine ewp_seq ?_ | refine ewp_block ?_ | refine ewp_region ?_ | refine ewp_skip ?_ | refine ewp_exit ?_ | refine ewp_ret ?_ | refine ewp_true rfl ?_ | refine ewp_false rfl ?_)) <;> (refine o_mv rfl rfl ?_ <;> refine o_mv rfl rfl ?_) <;> (repeat (first | refine ewp_seq ?_ | refine ewp_block ?_ | refine ewp_region ?_ | refine ewp_skip ?_ | refine ewp_exit ?_ | refine ewp_ret ?_ | refine ewp_true rfl ?_ | refine ewp_false rfl ?_)))
  refine owp_call rfl rfl nilFind ?_
  rintro _ w1 ⟨rfl, hE⟩
  (refine o_mv rfl rfl ?_ <;> refine o_ex rfl rfl rfl ?_ <;> refine o_ex rfl rfl rfl ?_ <;> refine o_as rfl rfl ?_ <;> refine o_as rfl rfl ?_ <;> (first | refine owp_nilT ?_ | refine owp_nilB ?_ | refine owp_nilBB ?_ | refine owp_nil ?_))
  repeat (first | refine ewp_seq ?_ | refine ewp_block ?_ | refine ewp_region ?_ | refine ewp_skip ?_ | refine ewp_exit ?_ | refine ewp_ret ?_ | refine ewp_true rfl ?_ | refine ewp_false rfl ?_)
  ((repeat (first | refine ewp_seq ?_ | refine ewp_block ?_ | refine ewp_region ?_ | refine ewp_skip ?_ | refine ewp_exit ?_ | refine ewp_ret ?_ | refine ewp_true rfl ?_ | refine ewp_false rfl ?_)) <;> (refine o_mv rfl rfl ?_ <;> refine o_as rfl rfl ?_ <;> (first | refine owp_nilT ?_ | refine owp_nilB ?_ | refine owp_nilBB ?_ | refine owp_nil ?_)) <;> (repeat (first | refine ewp_seq ?_ | refine ewp_block ?_ | refine ewp_region ?_ | refine ewp_skip ?_ | refine ewp_exit ?_ | refine ewp_ret ?_ | refine ewp_true rfl ?_ | refine ewp_false rfl ?_)))
  exact ret1 rfl rfl ⟨rfl, hE⟩
theorem nilCount {w : World} {sv : Value} : Fn Try.prog 19 [.pointer none, sv] w fun v w' => v = .int .i64 0 ∧ Ext w w' := by
  refine fn_enter Try.func19 rfl Try.ntmps19 rfl ?_
  ((repeat (first | refine ewp_seq ?_ | refine ewp_block ?_ | refine ewp_region ?_ | refine ewp_skip ?_ | refine ewp_exit ?_ | refine ewp_ret ?_ | refine ewp_true rfl ?_ | refine ewp_false rfl ?_)) <;> (refine o_as rfl rfl ?_ <;> (first | refine owp_nilT ?_ | refine owp_nilB ?_ | refine owp_nilBB ?_ | refine owp_nil ?_)) <;> (repeat (first | refine ewp_seq ?_ | refine ewp_block ?_ | refine ewp_region ?_ | refine ewp_skip ?_ | refine ewp_exit ?_ | refine ewp_ret ?_ | refine ewp_true rfl ?_ | refine ewp_false rfl ?_)) <;> (refine o_mv rfl rfl ?_ <;> refine o_mv rfl rfl ?_) <;> (repeat (first | refine ewp_seq ?_ | refine ewp_block ?_ | refine ewp_region ?_ | refine ewp_skip ?_ | refine ewp_exit ?_ | refine ewp_ret ?_ | refine ewp_true rfl ?_ | refine ewp_false rfl ?_)))
  refine owp_call rfl rfl nilApplicable ?_
  rintro _ w1 ⟨rfl, hE⟩
  (refine o_ln rfl rfl ?_ <;> refine o_as rfl rfl ?_ <;> (first | refine owp_nilT ?_ | refine owp_nilB ?_ | refine owp_nilBB ?_ | refine owp_nil ?_))
  repeat (first | refine ewp_seq ?_ | refine ewp_block ?_ | refine ewp_region ?_ | refine ewp_skip ?_ | refine ewp_exit ?_ | refine ewp_ret ?_ | refine ewp_true rfl ?_ | refine ewp_false rfl ?_)
  exact ret1 rfl rfl ⟨rfl, hE⟩
theorem nilSuccessors {w : World} {sv : Value} : Fn Try.prog 20 [.pointer none, sv] w fun v w' => v = .slice none 0 0 ∧ Ext w w' := by
  refine fn_enter Try.func20 rfl Try.ntmps20 rfl ?_
  ((repeat (first | refine ewp_seq ?_ | refine ewp_block ?_ | refine ewp_region ?_ | refine ewp_skip ?_ | refine ewp_exit ?_ | refine ewp_ret ?_ | refine ewp_true rfl ?_ | refine ewp_false rfl ?_)) <;> (refine o_as rfl rfl ?_ <;> (first | refine owp_nilT ?_ | refine owp_nilB ?_ | refine owp_nilBB ?_ | refine owp_nil ?_)) <;> (repeat (first | refine ewp_seq ?_ | refine ewp_block ?_ | refine ewp_region ?_ | refine ewp_skip ?_ | refine ewp_exit ?_ | refine ewp_ret ?_ | refine ewp_true rfl ?_ | refine ewp_false rfl ?_)) <;> (refine o_as rfl rfl ?_ <;> (first | refine owp_nilT ?_ | refine owp_nilB ?_ | refine owp_nilBB ?_ | refine owp_nil ?_)) <;> (repeat (first | refine ewp_seq ?_ | refine ewp_block ?_ | refine ewp_region ?_ | refine ewp_skip ?_ | refine ewp_exit ?_ | refine ewp_ret ?_ | refine ewp_true rfl ?_ | refine ewp_false rfl ?_)) <;> (refine o_mv rfl rfl ?_ <;> refine o_mv rfl rfl ?_) <;> (repeat (first | refine ewp_seq ?_ | refine ewp_block ?_ | refine ewp_region ?_ | refine ewp_skip ?_ | refine ewp_exit ?_ | refine ewp_ret ?_ | refine ewp_true rfl ?_ | refine ewp_false rfl ?_)))
  refine owp_call rfl rfl nilApplicable ?_
  rintro _ w1 ⟨rfl, hE⟩
  (refine o_ln rfl rfl ?_ <;> refine o_mv rfl rfl ?_ <;> (first | refine owp_nilT ?_ | refine owp_nilB ?_ | refine owp_nilBB ?_ | refine owp_nil ?_))
  repeat (first | refine ewp_seq ?_ | refine ewp_block ?_ | refine ewp_region ?_ | refine ewp_skip ?_ | refine ewp_exit ?_ | refine ewp_ret ?_ | refine ewp_true rfl ?_ | refine ewp_false rfl ?_)
  refine ewp_range 0 (by omega) (fun _ : Unit => [(5, .slice none 0 0)]) (fun _ _ w' => w' = w1) ()
    rfl ⟨rfl, rfl, rfl, trivial⟩ (fun _ => ⟨rfl, rfl⟩) ⟨rfl, rfl, rfl⟩ ⟨rfl, rfl⟩ ?_ ?_
  · rintro k _ _ hk; omega
  rintro _ _ rfl
  repeat (first | refine ewp_seq ?_ | refine ewp_block ?_ | refine ewp_region ?_ | refine ewp_skip ?_ | refine ewp_exit ?_ | refine ewp_ret ?_ | refine ewp_true rfl ?_ | refine ewp_false rfl ?_)
  ((repeat (first | refine ewp_seq ?_ | refine ewp_block ?_ | refine ewp_region ?_ | refine ewp_skip ?_ | refine ewp_exit ?_ | refine ewp_ret ?_ | refine ewp_true rfl ?_ | refine ewp_false rfl ?_)) <;> (refine o_mv rfl rfl ?_ <;> refine o_as rfl rfl ?_ <;> (first | refine owp_nilT ?_ | refine owp_nilB ?_ | refine owp_nilBB ?_ | refine owp_nil ?_)) <;> (repeat (first | refine ewp_seq ?_ | refine ewp_block ?_ | refine ewp_region ?_ | refine ewp_skip ?_ | refine ewp_exit ?_ | refine ewp_ret ?_ | refine ewp_true rfl ?_ | refine ewp_false rfl ?_)))
  exact ret1 rfl rfl ⟨rfl, hE⟩
end Go.Proofs.Ytfbcjknlihopcaa

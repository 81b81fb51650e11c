/- Own text: the law SuccgenNil. -/
import Derived.Test.YtfbcjknlihopcaaAwake
namespace Go.Proofs.Ytfbcjknlihopcaa
open Go Go.RowKit
attribute [local irreducible] ewp owp hwp hwq hws Ev Evg Fn retPost loud loudS Res1
theorem lawNil {w : World} {sv : Value} {s : List Int} (hs : V w sv s) : Fn Try.prog 10 [sv] w fun v w' => v = .bool true ∧ Ext w w' := by
  obtain ⟨A, c, rfl⟩ := hs.form
  refine fn_enter Try.func10 rfl Try.ntmps10 rfl ?_
  by_cases hl : 100 < s.length
  · ((repeat (first | refine ewp_seq ?_ | refine ewp_block ?_ | refine ewp_region ?_ | refine ewp_skip ?_ | refine ewp_exit ?_ | refine ewp_ret ?_ | refine ewp_true rfl ?_ | refine ewp_false rfl ?_)) <;> (refine owp_ev (ev_assign rfl) rfl ?_ <;> (first | refine owp_nilT ?_ | refine owp_nilB ?_ | refine owp_nilBB ?_ | refine owp_nil ?_)) <;> (repeat (first | refine ewp_seq ?_ | refine ewp_block ?_ | refine ewp_region ?_ | refine ewp_skip ?_ | refine ewp_exit ?_ | refine ewp_ret ?_ | refine ewp_true rfl ?_ | refine ewp_false rfl ?_)))
    (refine owp_ev (ev_move rfl) rfl ?_ <;> refine owp_ev (ev_len rfl) rfl ?_ <;> (first | refine owp_dT (ev_gtr rfl rfl) rfl (by omega) ?_ | refine owp_dF (ev_gtr rfl rfl) rfl (by omega) ?_) <;> refine owp_ev (ev_move rfl) rfl ?_)
    refine owp_no rfl rfl rfl rfl ?_
    ((first | (refine owp_yes rfl rfl ?_; (first | refine owp_ev (ev_notT rfl) rfl ?_ | refine owp_ev (ev_notF rfl) rfl ?_ | refine owp_ev (ev_not rfl) rfl ?_)) | refine owp_no rfl rfl rfl rfl ?_) <;> (first | refine owp_ev (ev_pickT rfl rfl) rfl ?_ | refine owp_ev (ev_pickF rfl rfl) rfl ?_) <;> (first | refine owp_nilT ?_ | refine owp_nilB ?_ | refine owp_nilBB ?_ | refine owp_nil ?_))
    repeat (first | refine ewp_seq ?_ | refine ewp_block ?_ | refine ewp_region ?_ | refine ewp_skip ?_ | refine ewp_exit ?_ | refine ewp_ret ?_ | refine ewp_true rfl ?_ | refine ewp_false rfl ?_)
    refine owp_call rfl rfl (lawAwake w) ?_
    rintro _ w1 ⟨rfl, hE1⟩
    (refine owp_ev (ev_assign rfl) rfl ?_ <;> (first | refine owp_nilT ?_ | refine owp_nilB ?_ | refine owp_nilBB ?_ | refine owp_nil ?_))
    repeat (first | refine ewp_seq ?_ | refine ewp_block ?_ | refine ewp_region ?_ | refine ewp_skip ?_ | refine ewp_exit ?_ | refine ewp_ret ?_ | refine ewp_true rfl ?_ | refine ewp_false rfl ?_)
    exact ret1 rfl rfl ⟨rfl, hE1⟩
  ((repeat (first | refine ewp_seq ?_ | refine ewp_block ?_ | refine ewp_region ?_ | refine ewp_skip ?_ | refine ewp_exit ?_ | refine ewp_ret ?_ | refine ewp_true rfl ?_ | refine ewp_false rfl ?_)) <;> (refine owp_ev (ev_assign rfl) rfl ?_ <;> (first | refine owp_nilT ?_ | refine owp_nilB ?_ | refine owp_nilBB ?_ | refine owp_nil ?_)) <;> (repeat (first | refine ewp_seq ?_ | refine ewp_block ?_ | refine ewp_region ?_ | refine ewp_skip ?_ | refine ewp_exit ?_ | refine ewp_ret ?_ | refine ewp_true rfl ?_ | refine ewp_false rfl ?_)))
  (refine owp_ev (ev_move rfl) rfl ?_ <;> refine owp_ev (ev_len rfl) rfl ?_ <;> (first | refine owp_dT (ev_gtr rfl rfl) rfl (by omega) ?_ | refine owp_dF (ev_gtr rfl rfl) rfl (by omega) ?_) <;> refine owp_ev (ev_move rfl) rfl ?_)
  refine owp_yes rfl rfl ?_
  refine owp_call rfl rfl (lawAwake w) ?_
  rintro _ w1 ⟨rfl, hE1⟩
  ((first | (refine owp_yes rfl rfl ?_; (first | refine owp_ev (ev_notT rfl) rfl ?_ | refine owp_ev (ev_notF rfl) rfl ?_ | refine owp_ev (ev_not rfl) rfl ?_)) | refine owp_no rfl rfl rfl rfl ?_) <;> (first | refine owp_ev (ev_pickT rfl rfl) rfl ?_ | refine owp_ev (ev_pickF rfl rfl) rfl ?_) <;> (first | refine owp_nilT ?_ | refine owp_nilB ?_ | refine owp_nilBB ?_ | refine owp_nil ?_))
  repeat (first | refine ewp_seq ?_ | refine ewp_block ?_ | refine ewp_region ?_ | refine ewp_skip ?_ | refine ewp_exit ?_ | refine ewp_ret ?_ | refine ewp_true rfl ?_ | refine ewp_false rfl ?_)
  ((repeat (first | refine ewp_seq ?_ | refine ewp_block ?_ | refine ewp_region ?_ | refine ewp_skip ?_ | refine ewp_exit ?_ | refine ewp_ret ?_ | refine ewp_true rfl ?_ | refine ewp_false rfl ?_)) <;> (refine owp_ev (ev_assign rfl) rfl ?_ <;> (first | refine owp_nilT ?_ | refine owp_nilB ?_ | refine owp_nilBB ?_ | refine owp_nil ?_)) <;> (repeat (first | refine ewp_seq ?_ | refine ewp_block ?_ | refine ewp_region ?_ | refine ewp_skip ?_ | refine ewp_exit ?_ | refine ewp_ret ?_ | refine ewp_true rfl ?_ | refine ewp_false rfl ?_)))
  (refine owp_ev (ev_move rfl) rfl ?_ <;> refine owp_ev (ev_move rfl) rfl ?_)
  refine owp_call rfl rfl nilApplicable ?_
  rintro _ w2 ⟨rfl, hE2⟩
  (refine owp_ev (ev_len rfl) rfl ?_ <;> (first | refine owp_dT (ev_eql rfl rfl) rfl (by omega) ?_ | refine owp_dF (ev_eql rfl rfl) rfl (by omega) ?_ | refine owp_split (ev_eql rfl rfl) rfl (fun _ => ?_) (fun _ => ?_)) <;> refine owp_ev (ev_move rfl) rfl ?_ <;> (first | (refine owp_yes rfl rfl ?_; refine owp_ev (ev_move rfl) rfl ?_) | refine owp_no rfl rfl rfl rfl ?_) <;> (first | (refine owp_yes rfl rfl ?_; refine owp_ev (ev_move rfl) rfl ?_) | refine owp_no rfl rfl rfl rfl ?_))
  refine owp_yes rfl rfl ?_
  refine owp_call rfl rfl nilCount ?_
  rintro _ w3 ⟨rfl, hE3⟩
  ((first | (refine owp_yes rfl rfl ?_; (first | refine owp_dT (ev_eql rfl rfl) rfl (by omega) ?_ | refine owp_dF (ev_eql rfl rfl) rfl (by omega) ?_ | refine owp_split (ev_eql rfl rfl) rfl (fun _ => ?_) (fun _ => ?_))) | refine owp_no rfl rfl rfl rfl ?_) <;> (first | refine owp_ev (ev_pickT rfl rfl) rfl ?_ | refine owp_ev (ev_pickF rfl rfl) rfl ?_) <;> refine owp_ev (ev_move rfl) rfl ?_ <;> (first | (refine owp_yes rfl rfl ?_; refine owp_ev (ev_move rfl) rfl ?_) | refine owp_no rfl rfl rfl rfl ?_) <;> (first | (refine owp_yes rfl rfl ?_; refine owp_ev (ev_move rfl) rfl ?_) | refine owp_no rfl rfl rfl rfl ?_))
  refine owp_yes rfl rfl ?_
  refine owp_call rfl rfl nilSuccessors ?_
  rintro _ w4 ⟨rfl, hE4⟩
  ((first | (refine owp_yes rfl rfl ?_; refine owp_ev (ev_len rfl) rfl ?_) | refine owp_no rfl rfl rfl rfl ?_) <;> (first | (refine owp_yes rfl rfl ?_; (first | refine owp_dT (ev_eql rfl rfl) rfl (by omega) ?_ | refine owp_dF (ev_eql rfl rfl) rfl (by omega) ?_ | refine owp_split (ev_eql rfl rfl) rfl (fun _ => ?_) (fun _ => ?_))) | refine owp_no rfl rfl rfl rfl ?_) <;> (first | refine owp_ev (ev_pickT rfl rfl) rfl ?_ | refine owp_ev (ev_pickF rfl rfl) rfl ?_) <;> refine owp_ev (ev_move rfl) rfl ?_ <;> (first | (refine owp_yes rfl rfl ?_; refine owp_ev (ev_move rfl) rfl ?_) | refine owp_no rfl rfl rfl rfl ?_) <;> (first | (refine owp_yes rfl rfl ?_; refine owp_ev (ev_move rfl) rfl ?_) | refine owp_no rfl rfl rfl rfl ?_))
  refine owp_yes rfl rfl ?_
  refine owp_call rfl rfl nilTests ?_
  rintro _ w5 ⟨rfl, hE5⟩
  ((first | (refine owp_yes rfl rfl ?_; (first | refine owp_dT (ev_eql rfl rfl) rfl (by omega) ?_ | refine owp_dF (ev_eql rfl rfl) rfl (by omega) ?_ | refine owp_split (ev_eql rfl rfl) rfl (fun _ => ?_) (fun _ => ?_))) | refine owp_no rfl rfl rfl rfl ?_) <;> (first | refine owp_ev (ev_pickT rfl rfl) rfl ?_ | refine owp_ev (ev_pickF rfl rfl) rfl ?_) <;> refine owp_ev (ev_assign rfl) rfl ?_ <;> (first | refine owp_nilT ?_ | refine owp_nilB ?_ | refine owp_nilBB ?_ | refine owp_nil ?_))
  repeat (first | refine ewp_seq ?_ | refine ewp_block ?_ | refine ewp_region ?_ | refine ewp_skip ?_ | refine ewp_exit ?_ | refine ewp_ret ?_ | refine ewp_true rfl ?_ | refine ewp_false rfl ?_)
  exact ret1 rfl rfl ⟨rfl, (((hE1.trans' hE2).trans' hE3).trans' hE4).trans' hE5⟩
end Go.Proofs.Ytfbcjknlihopcaa

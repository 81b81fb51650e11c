/- SuccgenTests returns true for every task, and the task reads behind the call as before. No conditions. -/
import Derived.Test.YtfbcjknlihopcaaJoin
import Derived.Test.YtfbcjknlihopcaaLaw24
namespace Go.Proofs.Ytfbcjknlihopcaa
open Go Go.RowKit Go.ChangeShapes Go.WideShapes Go.Deep
theorem lawTests {w : World} {v0 : Value} {a0 : Tsk} (h0 : V w v0 a0) : Fn Try.prog 8 [v0] w fun v w' => v = .bool true ∧ Ext w w' :=
  (c_law24_SuccgenTests (fun _ h => h) h0 (tests_eq a0)).mono fun _ _ h => ⟨h.2.bool, h.1⟩
set_option maxRecDepth 100000 in
theorem succgenTests_lifted (os : Os) (started : os.Started) (H : Type) (enc : TypeId × Value → H) :
    ReturnsInHanded {} Try.checked os 8 .any (Rows.succgenTestsSpec.pre6 enc Try.prog Try.f8 Rows.succgenTestsRow.domain false) (Rows.succgenTestsSpec.post enc Try.prog Try.f8 false true false false) := by
  refine returnsInHanded_of_change (C := Try.checked) ownTry started (by kernel_rfl) Try.func8 (ChangeSpec.witness6 (enc := enc) (C := Try.checked) false ⟨#[], #[(.agg #[.slice none 0 0, .slice none 0 0, .slice none 0 0, .slice none 0 0])], []⟩ 8 (by kernel_rfl) (by kernel_rfl) (by kernel_rfl) (by kernel_rfl)) ?_
  intro W base args ds gs before hval hW _ _
  have hopen : ∀ p, DataW.TrodAll enc Try.prog W 0 (fun _ => true) true Try.f8.params.toList args.toList ds p → ∃ v0 d0, args = #[v0] ∧ ds = [d0] ∧ (∃ a : Tsk, V W v0 a) := by
    intro p hA
    rw [Try.params8] at hA
    replace hval : ∀ (j : Nat) t v, (#[26] : Array TypeId)[j]? = some t → args[j]? = some v → Value.okWide Try.prog W .any base t v := by rw [← Try.params8]; exact hval
    obtain ⟨v0, vs0, d0, ds0, p0, q0, g0, e0, _, h0, r0⟩ := trodAll_cons hA
    obtain ⟨g, e, _⟩ := trodAll_nil r0
    rw [g] at g0; rw [e] at e0
    obtain rfl : args = #[v0] := by cases args; simp_all
    exact ⟨v0, d0, rfl, e0, (by first | exact openAgg rfl (hval 0 26 v0 rfl rfl) h0 | exact openOne rfl (hval 0 26 v0 rfl rfl) h0)⟩
  refine lawPost rfl (by kernel_rfl) (by rw [Try.params8]; exact of_decide_eq_true (by kernel_rfl)) hW ?_ ?_
  · intro p hA
    obtain ⟨v0, d0, _, rfl, _⟩ := hopen p hA
    rfl
  · intro p hA
    obtain ⟨v0, d0, rfl, _, ⟨a0, h0⟩⟩ := hopen p hA
    exact lawTests h0
theorem succgenTests_holds : Rows.SuccgenTestsSaid :=
  OpenClaim.holds_of_wide 8 Try.f8 rfl rfl rfl rfl rfl rfl rfl ⟨rfl, rfl, rfl, rfl, rfl⟩ rfl rfl rfl rfl rfl (by kernel_rfl) Try.func8 (by kernel_rfl)
    (of_decide_eq_true (by kernel_rfl)) (by unfold Func.isWrapper; first | (rw [if_pos (by decide +kernel)]; kernel_rfl) | (rw [if_neg (by decide +kernel)]; exact ⟨rfl, rfl⟩))
    (fun os started H enc _ => succgenTests_lifted os started H enc)
#print axioms succgenTests_holds
end Go.Proofs.Ytfbcjknlihopcaa

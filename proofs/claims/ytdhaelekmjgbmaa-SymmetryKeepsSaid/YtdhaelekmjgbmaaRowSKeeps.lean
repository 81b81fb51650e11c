/- SymmetryKeeps returns true for every task, every map and every plan, and all read behind the call as before. No conditions. -/
import Derived.Test.YtdhaelekmjgbmaaOpenS
import Derived.Test.YtdhaelekmjgbmaaSymL
namespace Go.Proofs.Ytdhaelekmjgbmaa
open Go Go.RowKit Go.ChangeShapes Go.WideShapes Go.Deep
theorem lawSKeeps {w : World} {v0 : Value} {a0 : Tsk} (h0 : V w v0 a0) {v1 : Value} {a1 : Swp} (h1 : V w v1 a1) {v2 : Value} {a2 : List Int} (h2 : V w v2 a2) : Fn Try.prog 8 [v0, v1, v2] w fun v w' => v = .bool true ∧ Ext w w' :=
  (c_law51_SymmetryKeeps (fun _ h => h) h0 h1 h2 (keeps_eq a0 a1 a2)).mono fun _ _ h => ⟨h.2.bool, h.1⟩
set_option maxRecDepth 100000 in
theorem symmetryKeeps_lifted (os : Os) (started : os.Started) (H : Type) (enc : TypeId × Value → H) :
    ReturnsInHanded {} Try.checked os 8 .any (Rows.symmetryKeepsSpec.pre6 enc Try.prog Try.f8 Rows.symmetryKeepsRow.domain false) (Rows.symmetryKeepsSpec.post enc Try.prog Try.f8 false true false false) := by
  refine returnsInHanded_of_change (C := Try.checked) ownTry started (by kernel_rfl) Try.func8 (ChangeSpec.witness6 (enc := enc) (C := Try.checked) false ⟨#[], #[(.agg #[.slice none 0 0, .slice none 0 0, .slice none 0 0, .slice none 0 0]), (.agg #[.slice none 0 0, .slice none 0 0, .slice none 0 0]), (.slice none 0 0)], []⟩ 8 (by kernel_rfl) (by kernel_rfl) (by kernel_rfl) (by kernel_rfl)) ?_
  intro W base args ds gs before hval hW _ _
  have hopen : ∀ p, DataW.TrodAll enc Try.prog W 0 (fun _ => true) true Try.f8.params.toList args.toList ds p → ∃ v0 v1 v2 d0 d1 d2, args = #[v0, v1, v2] ∧ ds = [d0, d1, d2] ∧ (∃ a : Tsk, V W v0 a) ∧ (∃ a : Swp, V W v1 a) ∧ (∃ a : List Int, V W v2 a) := by
    intro p hA
    rw [Try.params8] at hA
    replace hval : ∀ (j : Nat) t v, (#[26, 29, 22] : Array TypeId)[j]? = some t → args[j]? = some v → Value.okWide Try.prog W .any base t v := by rw [← Try.params8]; exact hval
    obtain ⟨v0, vs0, d0, ds0, p0, q0, g0, e0, _, h0, r0⟩ := trodAll_cons hA
    obtain ⟨v1, vs1, d1, ds1, p1, q1, g1, e1, _, h1, r1⟩ := trodAll_cons r0
    obtain ⟨v2, vs2, d2, ds2, p2, q2, g2, e2, _, h2, r2⟩ := trodAll_cons r1
    obtain ⟨g, e, _⟩ := trodAll_nil r2
    rw [g] at g2; rw [e] at e2
    rw [g2] at g1; rw [e2] at e1
    rw [g1] at g0; rw [e1] at e0
    obtain rfl : args = #[v0, v1, v2] := by cases args; simp_all
    exact ⟨v0, v1, v2, d0, d1, d2, rfl, e0, (by first | exact openAgg rfl (hval 0 26 v0 rfl rfl) h0 | exact openOne rfl (hval 0 26 v0 rfl rfl) h0), (by first | exact openAgg rfl (hval 1 29 v1 rfl rfl) h1 | exact openOne rfl (hval 1 29 v1 rfl rfl) h1), (by first | exact openAgg rfl (hval 2 22 v2 rfl rfl) h2 | exact openOne rfl (hval 2 22 v2 rfl rfl) h2)⟩
  refine lawPost rfl (by kernel_rfl) (by rw [Try.params8]; exact of_decide_eq_true (by kernel_rfl)) hW ?_ ?_
  · intro p hA
    obtain ⟨v0, v1, v2, d0, d1, d2, _, rfl, _⟩ := hopen p hA
    rfl
  · intro p hA
    obtain ⟨v0, v1, v2, d0, d1, d2, rfl, _, ⟨a0, h0⟩, ⟨a1, h1⟩, ⟨a2, h2⟩⟩ := hopen p hA
    exact lawSKeeps h0 h1 h2
theorem symmetryKeeps_holds : Rows.SymmetryKeepsSaid :=
  OpenClaim.holds_of_wide 8 Try.f8 rfl rfl rfl rfl rfl rfl rfl ⟨rfl, rfl, rfl, rfl, rfl⟩ rfl rfl rfl rfl rfl (by kernel_rfl) Try.func8 (by kernel_rfl)
    (of_decide_eq_true (by kernel_rfl)) (by unfold Func.isWrapper; first | (rw [if_pos (by decide +kernel)]; kernel_rfl) | (rw [if_neg (by decide +kernel)]; exact ⟨rfl, rfl⟩))
    (fun os started H enc _ => symmetryKeeps_lifted os started H enc)
#print axioms symmetryKeeps_holds
end Go.Proofs.Ytdhaelekmjgbmaa

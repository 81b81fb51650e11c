/- Own text: the law of keeping, plain. -/
import Derived.Test.YtdhaelekmjgbmaaSymK
import Derived.Test.YtdhaelekmjgbmaaPlanP
namespace Go.Proofs.Ytdhaelekmjgbmaa
open Go Go.RowKit
theorem plan_im {t : Tsk} {x : Swp} (hok : TaskOk t) (hx : SymP t x) {s p s' : List Int} {C : Int} (hr : PlanR t s p s' C) : ∀ {a : List Int}, StateOk t.vars s → ImS x s a → Inside t.ops.length p ∧ StateOk t.vars s' ∧ ∃ a', PlanR t a (imP x p) a' C ∧ ImS x s' a' := by
  induction hr with
  | nil => intro a hs ha; exact ⟨fun b hb => by simp at hb, hs, a, .nil, ha⟩
  | @cons s rest s' k o C ho hp hr ih =>
    intro a hs ha
    obtain ⟨o', p, b, h1, h2, hb, h3, _⟩ := ops_cases hx (lt_of_get ho)
    obtain ⟨g1, g2, g3⟩ := step_im hok hx hs ha ho h2 h3
    obtain ⟨i1, i2, a', i3, i4⟩ := ih (succ_ok hok hs ho) g2
    refine ⟨fun q hq => ?_, i2, a', ?_, i4⟩
    · rcases List.mem_cons.1 hq with rfl | hq
      · have := lt_of_get ho; omega
      · exact i1 q hq
    · have : imP x ((k : Int) :: rest) = (b : Int) :: imP x rest := by simp [imP, h2]
      rw [this, ← g3]
      exact .cons h3 (by rw [g1]; exact hp) i3
theorem keeps_eq (t : Tsk) (x : Swp) (plan : List Int) : m_law51_SymmetryKeeps t x plan = some true := by
  unfold m_law51_SymmetryKeeps
  have hw : (bnd (bnd (m_law51_awake) fun q100 => if q100 = true then some true else some false : Option Bool) fun y96 => some y96) = some true := by rw [awake51]; rfl
  rw [hw]
  unfold m_base_Small
  rw [bnd_some]
  by_cases hsm : SmallOk t
  case neg => rw [bof_f hsm, if_f, bnd_some, if_t]
  rw [bof_t hsm, if_t]
  rcases long_cases x with hb | hb
  · rw [hb, bnd_some, if_t, bnd_some, if_t]
  rw [hb, bnd_some, if_f]
  by_cases h3 : 30 < (plan.length : Int)
  · rw [if_pos h3, bnd_some, if_t]
  rw [if_neg h3, awake51, bnd_some, if_t, bnd_some, if_f, check_eq, bnd_some]
  have hok := hsm.ok
  by_cases hx : SymP t x
  case neg => rw [bof_f (fun h => hx h.2), if_f]
  rw [bof_t ⟨hok, hx⟩, if_t]
  obtain ⟨d, hd, hd2⟩ := dist_eq hsm
  have hxl := hx.2.1.len
  rw [hd, bnd_some, states_small hsm, bnd_some, rng_unit (fun i s hi => by
    have hs : StateOk t.vars s := mem_statesL.1 (List.mem_of_getElem? hi)
    obtain ⟨a, ha, ha2⟩ := moved_eq hok hx.1 hs
    have has := ims_ok hx.1 hs ha2
    obtain ⟨j, hj, hj2⟩ := rank_at hsm has
    obtain ⟨c, hc, _⟩ := hd2.1.2 i s hi
    obtain ⟨c', hc', _⟩ := hd2.1.2 j a hj2
    have e := dist_im hok hx hd2 hs ha2 hi hj2 hc hc'
    rw [state_ok hok hx hs ha, bnd_some]
    simp only
    unfold m_base_State
    rw [if_neg (by simp), bnd_some, bof_t has, if_t, hc, bnd_some, hj, bnd_some, atI_eq, hc', bnd_some, if_neg (by rw [e]; simp), bnd_some, if_f, rng_unit (fun k o ho => by
      have hk := lt_of_get ho
      obtain ⟨o', p, b, h1, h2, hb, h3, _⟩ := ops_cases hx hk
      obtain ⟨g1, g2, g3⟩ := step_im hok hx hs ha2 ho h2 h3
      rw [if_neg (by omega), h2, bnd_some, if_neg (by omega), bnd_some, if_neg (by omega), bnd_some, if_f, apply_all hok hs ho, bnd_some, bnd_some, apply_all hok has h3, bnd_some, g1]
      by_cases hp : holdsB o.pre s = true
      · have hs2 := succ_ok hok hs ho
        obtain ⟨r, hr, hr2⟩ := moved_eq hok hx.1 hs2
        have er : r = succ p a := ims_uniq hx.1 hs2.1 hr2 g2
        subst er
        rw [if_pos hp, if_pos hp]
        simp only [if_true]
        rw [bnd_some]
        simp only [Bool.false_eq_true, if_false, Bool.not_true]
        rw [state_ok hok hx hs2 hr, bnd_some]
        simp only
        unfold m_base_Ints
        rw [if_neg (by simp), bof_t rfl, bnd_some, if_t, bnd_some, if_f]
      · rw [if_neg hp, if_neg hp]
        simp only [Bool.false_eq_true, if_false]
        rw [bnd_some]
        simp), bnd_some, fin_d]), bnd_some, fin_d]
  rcases solves_eq hok (plan := plan) (by omega) with ⟨s', C, g1, g2, g3⟩ | ⟨n, c, hn, g⟩
  · have hi := hok.2.2.2.1
    obtain ⟨a, ha, ha2⟩ := moved_eq hok hx.1 hi
    obtain ⟨i1, i2, a', i3, i4⟩ := plan_im hok hx g1 hi ha2
    have hg : holdsB t.goal a' = true := by
      have := holds_im hok hx.1 hok.2.2.2.2.1 i2 i4
      rw [hx.2.2.1] at this
      rw [this]; exact g2
    rw [g3, bnd_some, if_neg (by simp), plan_eq hok hx (by omega), bof_t i1, if_t, bnd_some, state_ok hok hx hi ha, bnd_some]
    simp only
    rw [if_neg (by simp), if_neg (by simp), bnd_some, if_f, cost_eq hok (ims_ok hx.1 hi ha2) i3 (by simp [imP]; omega), bnd_some]
    simp only
    rw [if_pos hg, if_pos trivial, bnd_some]
  · rw [g, bnd_some, if_pos hn]
end Go.Proofs.Ytdhaelekmjgbmaa

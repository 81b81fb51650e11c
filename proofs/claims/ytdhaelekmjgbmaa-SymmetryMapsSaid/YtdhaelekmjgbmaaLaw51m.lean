/- Own text: the law of maps of chapter 51, plain. -/
import Derived.Test.YtdhaelekmjgbmaaLaw51
import Derived.Test.YtdhaelekmjgbmaaSym3
import Derived.Test.YtdhaelekmjgbmaaRef5P
namespace Go.Proofs.Ytdhaelekmjgbmaa
open Go Go.RowKit
theorem rng_brk_from {α σ ρ : Type} {f : Nat → α → σ → Option (Ctl σ ρ)} {I : Nat → σ → Prop} {B : σ → Prop} : ∀ (ys : List α) (j : Nat) (s : σ), I j s →
    (∀ k x s, ys[k]? = some x → I (j + k) s → (∃ s', f (j + k) x s = some (.next s') ∧ I (j + k + 1) s') ∨ (∃ s', f (j + k) x s = some (.brk s') ∧ B s')) →
    ∃ s', rng f ys j s = some (.done s') ∧ (I (j + ys.length) s' ∨ B s')
  | [], j, s, h0, _ => ⟨s, rfl, .inl h0⟩
  | y :: ys, j, s, h0, h => by
    rcases h 0 y s rfl h0 with ⟨s', h1, h2⟩ | ⟨r, h1, h2⟩
    · have h1' : f j y s = some (.next s') := h1
      simp only [rng, h1']
      obtain ⟨s2, h3, h4⟩ := rng_brk_from (I := I) (B := B) ys (j + 1) s' h2 (fun k x s hk hI => by
        have := h (k + 1) x s (by simpa using hk) (by rwa [show j + (k + 1) = j + 1 + k from by omega])
        rwa [show j + (k + 1) = j + 1 + k from by omega] at this)
      exact ⟨s2, h3, by rw [List.length_cons, show j + (ys.length + 1) = j + 1 + ys.length from by omega]; exact h4⟩
    · have h1' : f j y s = some (.brk r) := h1
      simp only [rng, h1']
      exact ⟨r, rfl, .inr h2⟩
theorem rng_brk {α σ ρ : Type} {f : Nat → α → σ → Option (Ctl σ ρ)} {xs : List α} {s₀ : σ} (I : Nat → σ → Prop) (B : σ → Prop) (h0 : I 0 s₀)
    (h : ∀ k x s, xs[k]? = some x → I k s → (∃ s', f k x s = some (.next s') ∧ I (k + 1) s') ∨ (∃ s', f k x s = some (.brk s') ∧ B s')) :
    ∃ s', rng f xs 0 s₀ = some (.done s') ∧ (I xs.length s' ∨ B s') := by
  have := rng_brk_from (f := f) (I := I) (B := B) xs 0 s₀ h0 (fun k x s hk hI => by rw [Nat.zero_add] at hI ⊢; exact h k x s hk hI)
  rwa [Nat.zero_add] at this
/-- The image of a plan. -/
def imP (x : Swp) (p : List Int) : List Int := p.map fun op => (x.ops[op.toNat]?).getD 0
def Inside (n : Nat) (p : List Int) : Prop := ∀ a ∈ p, 0 ≤ a ∧ a < n
theorem ops_at {t : Tsk} {x : Swp} (hx : SymP t x) {a : Int} (h1 : 0 ≤ a) (h2 : a < t.ops.length) : atI x.ops a = some ((x.ops[a.toNat]?).getD 0) := by
  obtain ⟨j, rfl⟩ := Int.eq_ofNat_of_zero_le h1
  obtain ⟨z, hz⟩ := some_of_lt (l := x.ops) (k := j) (by rw [hx.2.1.len]; omega)
  rw [atI_eq, show ((j : Int)).toNat = j from by omega, hz]; rfl
theorem plan_eq {t : Tsk} {x : Swp} {p : List Int} (hok : TaskOk t) (hx : SymP t x) (hl : p.length ≤ 1000000) : m_symmetry_Plan t x p = some (if bof (Inside t.ops.length p) = true then (imP x p, ⟨0⟩) else ([], ⟨1⟩)) := by
  unfold m_symmetry_Plan
  rw [demand1 hok, bnd_some, bof_t hx, if_t, if_neg (by simp)]
  rcases rng_inv (ρ := List Int × Err) (f := fun (_ : Nat) (a65 : Int) (s62 : (List Int)) => bnd (if a65 < 0 then (some true) else (if (x.ops.length : Int) ≤ a65 then (some true) else (some false)) : Option Bool) fun y87 => if y87 = true then (some (.ret (([] : List Int), (⟨1⟩ : Err)))) else (bnd (atI x.ops a65) fun a100 => bnd (appI 8 s62 [a100]) fun u112 => some (.next u112))) (xs := p) (s₀ := [])
    (fun k s => s = imP x (p.take k) ∧ Inside t.ops.length (p.take k)) (fun r => r = ([], ⟨1⟩) ∧ ¬ Inside t.ops.length p) ⟨by simp [imP], fun a ha => by simp at ha⟩ (fun k a s hk hI => by
      obtain ⟨rfl, i2⟩ := hI
      have hlt := lt_of_get hk
      have hxl := hx.2.1.len
      by_cases h1 : a < 0
      · rw [if_pos h1, bnd_some, if_t]
        exact .inr ⟨_, rfl, rfl, fun h => by have := h a (List.mem_of_getElem? hk); omega⟩
      · by_cases h2 : (x.ops.length : Int) ≤ a
        · rw [if_neg h1, if_pos h2, bnd_some, if_t]
          exact .inr ⟨_, rfl, rfl, fun h => by have := h a (List.mem_of_getElem? hk); omega⟩
        · rw [if_neg h1, if_neg h2, bnd_some, if_f, ops_at hx (by omega) (by omega), bnd_some, appI_eq (by simp [imP]; omega) (by simp [imP]; omega), bnd_some]
          refine .inl ⟨_, rfl, (map_take hk).symm, fun b hb => ?_⟩
          rcases (take_succ_mem hk).1 hb with hb | rfl
          · exact i2 b hb
          · omega) with ⟨s, hr, rfl, hi⟩ | ⟨r, hr, rfl, hno⟩
  · rw [List.take_length] at hi
    rw [hr, bnd_some, fin_d, bof_t hi, if_t, List.take_length]
  · rw [hr, bnd_some, fin_r, bof_f hno, if_f]
theorem is2 : m_base_Is ⟨2⟩ 2 = some true := rfl
theorem is1 : m_base_Is ⟨1⟩ 1 = some true := rfl
theorem long_cases (x : Swp) : m_law51_long x = some true ∨ m_law51_long x = some false := by
  obtain ⟨b, hb⟩ := long_some x
  cases b
  · exact .inr hb
  · exact .inl hb
theorem maps_eq (t : Tsk) (x : Swp) (s : List Int) : m_law51_SymmetryMaps t x s = some true := by
  unfold m_law51_SymmetryMaps
  have ha : (bnd (bnd (m_law51_awake) fun q79 => if q79 = true then some true else some false : Option Bool) fun y75 => some y75) = some true := by rw [awake51]; rfl
  rw [ha]
  by_cases h1 : 70 < (t.vars.length : Int)
  · rw [if_pos h1, bnd_some, if_t]
  rw [if_neg h1]
  by_cases h2 : 20 < (t.ops.length : Int)
  · rw [if_pos h2, bnd_some, if_t]
  rw [if_neg h2]
  rcases long_cases x with hb | hb
  · rw [hb, bnd_some, if_t, bnd_some, if_t]
  rw [hb, bnd_some, if_f]
  by_cases h3 : 200 < (s.length : Int)
  · rw [if_pos h3, bnd_some, if_t]
  rw [if_neg h3, awake51, bnd_some, if_t, bnd_some, if_f, check5]
  by_cases hok : TaskOk t
  case neg =>
    have hn : checkN t ≠ 0 := fun h => hok (check_ok.1 h)
    have e1 : m_symmetry_State t x s = some ([], ⟨checkN t⟩) := by unfold m_symmetry_State; rw [demand_no hok, bnd_some, if_pos hn]
    have e2 : m_symmetry_Plan t x s = some ([], ⟨checkN t⟩) := by unfold m_symmetry_Plan; rw [demand_no hok, bnd_some, if_pos hn]
    rw [e1, e2, bnd_some, bnd_some, bnd_some, if_pos hn, chkI_eq (by unfold inI64; simp)]
    unfold m_base_Num
    rw [bnd_some, if_pos (by simp), bnd_some, if_pos rfl, bnd_some, if_pos rfl, bnd_some]
  by_cases hx : SymP t x
  case neg =>
    have e1 : m_symmetry_State t x s = some ([], ⟨2⟩) := by unfold m_symmetry_State; rw [demand1 hok, bnd_some, bof_f hx, if_f, if_pos (by decide)]
    have e2 : m_symmetry_Plan t x s = some ([], ⟨2⟩) := by unfold m_symmetry_Plan; rw [demand1 hok, bnd_some, bof_f hx, if_f, if_pos (by decide)]
    rw [e1, e2, bnd_some, bnd_some, bnd_some, if_neg (by rw [check_ok.2 hok]; simp), refcheck_eq, bnd_some, bof_f (fun h => hx h.2), if_f, chkI_eq (by unfold inI64; simp), bnd_some, if_pos (by simp), is2, bnd_some, if_t, bnd_some, if_t, bnd_some]
  have e1 : m_symmetry_State t x s = some (if bof (StateOk t.vars s) = true then ((m_symmetry_moved x s).getD [], ⟨0⟩) else ([], ⟨2⟩)) := by
    by_cases hs : StateOk t.vars s
    · obtain ⟨r, hr, _⟩ := moved_eq hok hx.1 hs
      rw [state_ok hok hx hs hr, bof_t hs, if_t, hr]; rfl
    · unfold m_symmetry_State m_task_Proper
      rw [demand1 hok, bnd_some, bof_t hx, if_t, if_neg (by simp), bnd_some, bof_f hs, if_f, if_f]
  rw [e1, plan_eq hok hx (by omega), bnd_some, bnd_some, bnd_some, if_neg (by rw [check_ok.2 hok]; simp), refcheck_eq, bnd_some, bof_t ⟨hok, hx⟩, if_t]
  obtain ⟨r, hr, hr2⟩ := rng_brk (ρ := Bool) (f := fun (_ : Nat) (a205 : Int) (s202 : Bool × (List Int)) => bnd (if a205 < 0 then (some true) else (if (t.ops.length : Int) ≤ a205 then (some true) else (some false)) : Option Bool) fun y227 => if y227 = true then (some (.brk (false, s202.2))) else (bnd (atI x.ops a205) fun a240 => bnd (appI 8 s202.2 [a240]) fun u252 => some (.next (s202.1, u252)))) (xs := s) (s₀ := (true, []))
    (fun k r => r = (true, imP x (s.take k)) ∧ Inside t.ops.length (s.take k)) (fun r => r.1 = false ∧ ¬ Inside t.ops.length s) ⟨by simp [imP], fun a ha => by simp at ha⟩ (fun k a r hk hI => by
      obtain ⟨rfl, i2⟩ := hI
      have hlt := lt_of_get hk
      by_cases g1 : a < 0
      · rw [if_pos g1, bnd_some, if_t]
        exact .inr ⟨_, rfl, rfl, fun h => by have := h a (List.mem_of_getElem? hk); omega⟩
      · by_cases g2 : (t.ops.length : Int) ≤ a
        · rw [if_neg g1, if_pos g2, bnd_some, if_t]
          exact .inr ⟨_, rfl, rfl, fun h => by have := h a (List.mem_of_getElem? hk); omega⟩
        · rw [if_neg g1, if_neg g2, bnd_some, if_f, ops_at hx (by omega) (by omega), bnd_some, appI_eq (by simp [imP]; omega) (by simp [imP]; omega), bnd_some]
          refine .inl ⟨_, rfl, by rw [imP, imP, map_take hk], fun b hb => ?_⟩
          rcases (take_succ_mem hk).1 hb with hb | rfl
          · exact i2 b hb
          · omega)
  rw [hr, bnd_some, fin_d]
  have last : (bnd (m_base_State t.vars s) fun q298 => if q298 = true then bnd (if (if bof (StateOk t.vars s) = true then (((m_symmetry_moved x s).getD [], ⟨0⟩) : List Int × Err) else ([], ⟨2⟩)).2.n = 0 then (bnd (m_ref51_State x s) fun q328 => bnd (m_base_Ints (if bof (StateOk t.vars s) = true then (((m_symmetry_moved x s).getD [], ⟨0⟩) : List Int × Err) else ([], ⟨2⟩)).1 q328) fun q337 => if q337 = true then some true else some false) else (some false) : Option Bool) fun y323 => some y323 else bnd (bnd (m_base_Is (⟨(if bof (StateOk t.vars s) = true then (((m_symmetry_moved x s).getD [], ⟨0⟩) : List Int × Err) else ([], ⟨2⟩)).2.n⟩ : Err) 2) fun q309 => if q309 = true then if ((if bof (StateOk t.vars s) = true then (((m_symmetry_moved x s).getD [], ⟨0⟩) : List Int × Err) else ([], ⟨2⟩)).1.length : Int) = 0 then (some true) else (some false) else some false : Option Bool) fun y305 => some y305) = some true := by
    unfold m_base_State
    rw [bnd_some]
    by_cases hs : StateOk t.vars s
    · obtain ⟨r, hr, _⟩ := moved_eq hok hx.1 hs
      rw [bof_t hs, if_t, if_t, if_pos rfl, ref_moved, hr]
      unfold m_base_Ints
      rw [bnd_some, bnd_some, bof_t (show ((some r).getD [], (⟨0⟩ : Err)).1 = r from rfl), if_t, bnd_some]
    · rw [bof_f hs, if_f, if_f, is2, bnd_some, if_t, if_pos (by simp), bnd_some]
  rcases hr2 with ⟨rfl, hi⟩ | ⟨hf, hno⟩
  · rw [List.take_length] at hi
    rw [bof_t hi, if_t, if_pos rfl, if_neg (by simp)]
    unfold m_base_Ints at last ⊢
    rw [bnd_some, List.take_length, bof_t rfl, if_t, bnd_some, if_f]
    exact last
  · rw [bof_f hno, if_f, if_neg (by rw [hf]; simp), is1, bnd_some, if_t, if_neg (by simp), bnd_some, if_f]
    exact last
end Go.Proofs.Ytdhaelekmjgbmaa

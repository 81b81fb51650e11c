/- Own text: images of plans. Plain, no program in sight. -/
import Derived.Test.YtdhaelekmjgbmaaLaw51
namespace Go.Proofs.Ytdhaelekmjgbmaa
open Go Go.RowKit
theorem rng_brk_from {α σ ρ : Type} {f : Nat → α → σ → Option (Ctl σ ρ)} {I : Nat → σ → Prop} {B : σ → Prop} : ∀ (ys : List α) (j : Nat) (s : σ), I j s →
    (∀ k x s, ys[k]? = some x → I (j + k) s → (∃ s', f (j + k) x s = some (.next s') ∧ I (j + k + 1) s') ∨ (∃ s', f (j + k) x s = some (.brk s') ∧ B s')) →
    ∃ s', rng f ys j s = some (.done s') ∧ (I (j + ys.length) s' ∨ B s')
  | [], j, s, h0, _ => ⟨s, rfl, .inl h0⟩
  | y :: ys, j, s, h0, h => by
    rcases h 0 y s rfl h0 with ⟨s', h1, h2⟩ | ⟨r, h1, h2⟩
    · have h1' : f j y s = some (.next s') := h1
      simp only [rng, h1']
      obtain ⟨s2, h3, h4⟩ := rng_brk_from (I := I) (B := B) ys (j + 1) s' h2 (fun k x s hk hI => by
        have := h (k + 1) x s (by simpa using hk) (by rwa [show j + (k + 1) = j + 1 + k from by omega])
        rwa [show j + (k + 1) = j + 1 + k from by omega] at this)
      exact ⟨s2, h3, by rw [List.length_cons, show j + (ys.length + 1) = j + 1 + ys.length from by omega]; exact h4⟩
    · have h1' : f j y s = some (.brk r) := h1
      simp only [rng, h1']
      exact ⟨r, rfl, .inr h2⟩
theorem rng_brk {α σ ρ : Type} {f : Nat → α → σ → Option (Ctl σ ρ)} {xs : List α} {s₀ : σ} (I : Nat → σ → Prop) (B : σ → Prop) (h0 : I 0 s₀)
    (h : ∀ k x s, xs[k]? = some x → I k s → (∃ s', f k x s = some (.next s') ∧ I (k + 1) s') ∨ (∃ s', f k x s = some (.brk s') ∧ B s')) :
    ∃ s', rng f xs 0 s₀ = some (.done s') ∧ (I xs.length s' ∨ B s') := by
  have := rng_brk_from (f := f) (I := I) (B := B) xs 0 s₀ h0 (fun k x s hk hI => by rw [Nat.zero_add] at hI ⊢; exact h k x s hk hI)
  rwa [Nat.zero_add] at this
/-- The image of a plan. -/
def imP (x : Swp) (p : List Int) : List Int := p.map fun op => (x.ops[op.toNat]?).getD 0
def Inside (n : Nat) (p : List Int) : Prop := ∀ a ∈ p, 0 ≤ a ∧ a < n
theorem ops_at {t : Tsk} {x : Swp} (hx : SymP t x) {a : Int} (h1 : 0 ≤ a) (h2 : a < t.ops.length) : atI x.ops a = some ((x.ops[a.toNat]?).getD 0) := by
  obtain ⟨j, rfl⟩ := Int.eq_ofNat_of_zero_le h1
  obtain ⟨z, hz⟩ := some_of_lt (l := x.ops) (k := j) (by rw [hx.2.1.len]; omega)
  rw [atI_eq, show ((j : Int)).toNat = j from by omega, hz]; rfl
theorem plan_eq {t : Tsk} {x : Swp} {p : List Int} (hok : TaskOk t) (hx : SymP t x) (hl : p.length ≤ 1000000) : m_symmetry_Plan t x p = some (if bof (Inside t.ops.length p) = true then (imP x p, ⟨0⟩) else ([], ⟨1⟩)) := by
  unfold m_symmetry_Plan
  rw [demand1 hok, bnd_some, bof_t hx, if_t, if_neg (by simp)]
  rcases rng_inv (ρ := List Int × Err) (f := fun (_ : Nat) (a65 : Int) (s62 : (List Int)) => bnd (if a65 < 0 then (some true) else (if (x.ops.length : Int) ≤ a65 then (some true) else (some false)) : Option Bool) fun y87 => if y87 = true then (some (.ret (([] : List Int), (⟨1⟩ : Err)))) else (bnd (atI x.ops a65) fun a100 => bnd (appI 8 s62 [a100]) fun u112 => some (.next u112))) (xs := p) (s₀ := [])
    (fun k s => s = imP x (p.take k) ∧ Inside t.ops.length (p.take k)) (fun r => r = ([], ⟨1⟩) ∧ ¬ Inside t.ops.length p) ⟨by simp [imP], fun a ha => by simp at ha⟩ (fun k a s hk hI => by
      obtain ⟨rfl, i2⟩ := hI
      have hlt := lt_of_get hk
      have hxl := hx.2.1.len
      by_cases h1 : a < 0
      · rw [if_pos h1, bnd_some, if_t]
        exact .inr ⟨_, rfl, rfl, fun h => by have := h a (List.mem_of_getElem? hk); omega⟩
      · by_cases h2 : (x.ops.length : Int) ≤ a
        · rw [if_neg h1, if_pos h2, bnd_some, if_t]
          exact .inr ⟨_, rfl, rfl, fun h => by have := h a (List.mem_of_getElem? hk); omega⟩
        · rw [if_neg h1, if_neg h2, bnd_some, if_f, ops_at hx (by omega) (by omega), bnd_some, appI_eq (by simp [imP]; omega) (by simp [imP]; omega), bnd_some]
          refine .inl ⟨_, rfl, (map_take hk).symm, fun b hb => ?_⟩
          rcases (take_succ_mem hk).1 hb with hb | rfl
          · exact i2 b hb
          · omega) with ⟨s, hr, rfl, hi⟩ | ⟨r, hr, rfl, hno⟩
  · rw [List.take_length] at hi
    rw [hr, bnd_some, fin_d, bof_t hi, if_t, List.take_length]
  · rw [hr, bnd_some, fin_r, bof_f hno, if_f]
theorem is2 : m_base_Is ⟨2⟩ 2 = some true := rfl
theorem is1 : m_base_Is ⟨1⟩ 1 = some true := rfl
theorem long_cases (x : Swp) : m_law51_long x = some true ∨ m_law51_long x = some false := by
  obtain ⟨b, hb⟩ := long_some x
  cases b
  · exact .inr hb
  · exact .inl hb
end Go.Proofs.Ytdhaelekmjgbmaa

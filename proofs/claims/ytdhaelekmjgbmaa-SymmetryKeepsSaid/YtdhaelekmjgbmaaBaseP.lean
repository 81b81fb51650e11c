/- Own text: what the models of the base compute: states and successors. Plain, no program in sight. -/
import Derived.Test.YtdhaelekmjgbmaaBase1
import Derived.Test.YtdhaelekmjgbmaaLoops
namespace Go.Proofs.Ytdhaelekmjgbmaa
open Go Go.RowKit
theorem states_eq {vars : List Int} (h0 : ∀ (i : Nat) n, vars[i]? = some n → 0 ≤ n ∧ n ≤ 64) (hb : ∀ k, (statesL (vars.take k)).length ≤ 1000000) (hvn : vars.length ≤ 1000) : m_base_States vars = some (statesL vars) := by
  unfold m_base_States
  rw [rng_from (fun k => statesL (vars.take k)) ?_ ?_]
  · rw [bnd_some, fin_d, List.take_length]
  · rfl
  intro k n hn
  obtain ⟨N, rfl⟩ := Int.eq_ofNat_of_zero_le (h0 k n hn).1
  have hN := (h0 k _ hn).2
  have hk := lt_of_get hn
  have hlen := hb k
  rw [rng_from (fun i => ((statesL (vars.take k)).take i).flatMap (exts N)) ?_ ?_]
  · rw [bnd_some, fin_d, List.take_length, statesL_step hn]; rfl
  · rfl
  intro i s hs
  have hsl := statesL_mem vars k (by omega) s (List.mem_of_getElem? hs)
  have hfl := grows_len N ((statesL (vars.take k)).take i)
  have hfl2 : ((statesL (vars.take k)).take i).length * N ≤ 1000000 * 64 := Nat.mul_le_mul (by rw [List.length_take]; omega) (by omega)
  rw [natI_eq, bnd_some, rngN_from (fun x => ((statesL (vars.take k)).take i).flatMap (exts N) ++ exts x s) ?_ ?_]
  · rw [bnd_some, fin_d, flat_step _ hs]
  · simp [exts]
  intro x hx
  rw [appI_eq (by simp; omega) (by simp; omega), bnd_some, appI_eq (by simp; omega) (by simp; omega), bnd_some, appI_eq (by simp only [List.length_append, exts_len, List.length_singleton]; omega) (by simp only [List.length_append, exts_len, List.length_singleton]; omega), bnd_some, exts_step]
  simp
theorem states_small {t : Tsk} (h : SmallOk t) : m_base_States t.vars = some (statesL t.vars) :=
  states_eq (fun i n hn => by have := h.ok.vars i n hn; omega) (fun k => by have := h.states k; omega) (by have := h.1; omega)
end Go.Proofs.Ytdhaelekmjgbmaa

/- Own text: the models of the laws of chapter 24 answer true. Plain, no program in sight. -/
import Derived.Test.YtfbcjknlihopcaaGen3
import Derived.Test.YtfbcjknlihopcaaLoops
namespace Go.Proofs.Ytfbcjknlihopcaa
open Go Go.RowKit
theorem states_eq {vars : List Int} (h0 : ∀ (i : Nat) n, vars[i]? = some n → 0 ≤ n ∧ n ≤ 64) (hb : ∀ k, (statesL (vars.take k)).length ≤ 1000000) (hvn : vars.length ≤ 1000) : m_base_States vars = some (statesL vars) := by
  unfold m_base_States
  rw [rng_from (fun k => statesL (vars.take k)) ?_ ?_]
  · rw [bnd_some, fin_d, List.take_length]
  · rfl
  intro k n hn
  obtain ⟨N, rfl⟩ := Int.eq_ofNat_of_zero_le (h0 k n hn).1
  have hN := (h0 k _ hn).2
  have hk := lt_of_get hn
  have hlen := hb k
  rw [rng_from (fun i => ((statesL (vars.take k)).take i).flatMap (exts N)) ?_ ?_]
  · rw [bnd_some, fin_d, List.take_length, statesL_step hn]; rfl
  · rfl
  intro i s hs
  have hsl := statesL_mem vars k (by omega) s (List.mem_of_getElem? hs)
  have hfl := grows_len N ((statesL (vars.take k)).take i)
  have hfl2 : ((statesL (vars.take k)).take i).length * N ≤ 1000000 * 64 := Nat.mul_le_mul (by rw [List.length_take]; omega) (by omega)
  rw [natI_eq, bnd_some, rngN_from (fun x => ((statesL (vars.take k)).take i).flatMap (exts N) ++ exts x s) ?_ ?_]
  · rw [bnd_some, fin_d, flat_step _ hs]
  · simp [exts]
  intro x hx
  rw [appI_eq (by simp; omega) (by simp; omega), bnd_some, appI_eq (by simp; omega) (by simp; omega), bnd_some, appI_eq (by simp only [List.length_append, exts_len, List.length_singleton]; omega) (by simp only [List.length_append, exts_len, List.length_singleton]; omega), bnd_some, exts_step]
  simp
theorem holds_eq (f : List Fct) (s : List Int) : m_base_Holds f s = some (holdsB f s) := rfl
theorem effs_run {ρ : Type} {s : List Int} {effs : List Eff} (he : EffsIn s effs) (m : List Fct → List Int → Option Bool) (hm : ∀ f s, m f s = some (holdsB f s)) (u : List Int) (hu : u.length = s.length) :
    rng (ρ := ρ) (fun (_ : Nat) (e : Eff) (out : List Int) => bnd (m e.cond s) fun q => if q = true then bnd (atI out e.var) fun _ => some (.next (out.set (e.var).toNat e.val)) else some (.next out)) effs 0 u = some (.done (effsOn s effs u)) := by
  rw [rng_from (fun k => effsOn s (effs.take k) u) ?_ ?_, List.take_length]
  · rfl
  intro k e hk
  rw [hm, bnd_some, effsOn_step s hk]
  have hin := he k e hk
  have hl := effsOn_length s (effs.take k) u
  by_cases hb : holdsB e.cond s = true
  · rw [if_pos hb, if_pos hb]
    obtain ⟨j, hj⟩ := Int.eq_ofNat_of_zero_le hin.1
    rw [hj, atI_eq, List.getElem?_eq_getElem (by omega), bnd_some]
  · rw [if_neg hb, if_neg hb]
theorem apply_eq {t : Tsk} {s : List Int} {j : Nat} {o : Opr} (ho : t.ops[j]? = some o) (hp : holdsB o.pre s = true) (hl : s.length ≤ 1000000) (he : EffsIn s o.effs) : m_base_Apply t s (j : Int) = some (succ o s, true) := by
  have hj := lt_of_get ho
  unfold m_base_Apply
  rw [if_neg (by omega), if_neg (by omega), atI_eq, ho, bnd_some, holds_eq, bnd_some, hp, if_t, bnd_some, if_f, appI_eq (by simp; omega) (by simp; omega), bnd_some, bnd_some, List.nil_append, effs_run he m_base_Holds holds_eq s rfl, bnd_some, fin_d]
  rfl
theorem clone_eq {s : List Int} (hl : s.length ≤ 1000000) : m_slices_Clone_Lint_int s = some s := if_pos ⟨by omega, by omega⟩
theorem succ_eq {t : Tsk} {s : List Int} (hok : TaskOk t) (hl : s.length ≤ 1000000) : m_succgen_Generator_Successors (some ⟨t⟩) s = some ((appS t s).map (sucOf t s)) := by
  have ha : m_succgen_Generator_Applicable (some ⟨t⟩) s = some (appS t s) := if_pos hl
  have hol := hok.2.1
  have hal := appS_len t s
  unfold m_succgen_Generator_Successors
  rw [ha, bnd_some]
  rw [rng_from (fun k => ((appS t s).take k).map (sucOf t s)) ?_ ?_, bnd_some, fin_d, List.take_length]
  · rfl
  intro k x hk
  have hkl := lt_of_get hk
  obtain ⟨hst, hmem⟩ := appS_mem (List.mem_of_getElem? hk)
  obtain ⟨j, o, rfl, hj, hp⟩ := appl_mem hmem
  rw [clone_eq hl, bnd_some, bnd_some, atI_eq, hj, bnd_some, effs_run (hok.effs hst j o hj) m_task_Holds (fun _ _ => rfl) s rfl, bnd_some, fin_d, appI_eq (by simp; omega) (by simp; omega), bnd_some, List.take_add_one, hk, List.map_append]
  simp [sucOf, hj, succ]
theorem new_ok {t : Tsk} (h : TaskOk t) : m_succgen_New t = some (some ⟨t⟩, ⟨0⟩) := by unfold m_succgen_New; rw [bof_t h, if_t, check_ok.2 h]
theorem new_no {t : Tsk} (h : ¬ TaskOk t) : m_succgen_New t = some (none, ⟨checkN t⟩) := by unfold m_succgen_New; rw [bof_f h, if_f]
theorem appl_ok {t : Tsk} {s : List Int} (h : StateOk t.vars s) (hl : s.length ≤ 1000000) : m_succgen_Generator_Applicable (some ⟨t⟩) s = some (appl t s) := by
  have : m_succgen_Generator_Applicable (some ⟨t⟩) s = some (appS t s) := if_pos hl
  rw [this, appS_ok h]
theorem ints_t {a : List Int} : m_base_Ints a a = some true := by unfold m_base_Ints; rw [bof_t rfl]
theorem state_len {t : Tsk} {s : List Int} (h : TaskOk t) (hs : StateOk t.vars s) : s.length ≤ 1000000 := by have := hs.1; have := h.1; omega
theorem awake_eq : m_law24_awake = some true := by
  have h1 : m_law24_example = some tskEx := rfl
  have h2 : (appS tskEx [0, 0]).map (sucOf tskEx [0, 0]) = [⟨1, [0, 2]⟩] := by rw [ex_a1]; rfl
  have h3 : m_succgen_Generator_Applicable (some ⟨tskEx⟩) [0, 0] = some [1] := by rw [← ex_a1]; exact if_pos (by decide)
  have h4 : m_succgen_Generator_Applicable (some ⟨tskEx⟩) [1, 2] = some [0, 1, 2] := by rw [← ex_a2]; exact if_pos (by decide)
  unfold m_law24_awake
  rw [h1, bnd_some, new_ok ex_ok, bnd_some, if_neg (by simp), if_neg (by simp), bnd_some, if_f, succ_eq ex_ok (by decide), bnd_some, h2, h3, bnd_some, ints_t, bnd_some, if_t, h4, bnd_some, ints_t, bnd_some, if_t, if_pos (by simp)]
  rw [show atI [(⟨1, [0, 2]⟩ : Suc)] 0 = some ⟨1, [0, 2]⟩ from rfl, bnd_some, if_pos rfl, bnd_some, ints_t]
  rfl
theorem right_eq {t : Tsk} {s : List Int} (hok : TaskOk t) (hs : StateOk t.vars s) : m_law24_right t (some ⟨t⟩) s = some true := by
  have hl := state_len hok hs
  have hol := hok.2.1
  have h1 : m_ref24_Applicable t s = some (appl t s) := if_pos (by omega)
  have h2 : m_succgen_Generator_Count (some ⟨t⟩) s = some ((appl t s).length : Int) := by rw [← appS_ok hs]; exact if_pos hl
  unfold m_law24_right
  rw [h1, bnd_some, succ_eq hok hl, bnd_some, appl_ok hs hl, bnd_some, ints_t, bnd_some, if_t, h2, bnd_some, if_neg (by simp), if_neg (by rw [List.length_map, appS_ok hs]; simp), bnd_some, if_f, rng_unit, bnd_some, fin_d]
  intro k x hk
  obtain ⟨j, o, rfl, hj, hp⟩ := appl_mem (List.mem_of_getElem? hk)
  have hget : ((appS t s).map (sucOf t s))[k]? = some ⟨(j : Int), succ o s⟩ := by rw [appS_ok hs, List.getElem?_map, hk]; simp [sucOf, hj]
  rw [apply_eq hj hp hl (hok.effs hs j o hj), bnd_some, not_t, hget, bnd_some, if_neg (by simp), bnd_some, ints_t, bnd_some, if_t, bnd_some, if_f]
theorem states_small {t : Tsk} (h : SmallOk t) : m_base_States t.vars = some (statesL t.vars) :=
  states_eq (fun i n hn => by have := h.ok.vars i n hn; omega) (fun k => by have := h.states k; omega) (by have := h.1; omega)
theorem small_t {t : Tsk} (h : SmallOk t) : m_base_Small t = some true := by unfold m_base_Small; rw [bof_t h]
theorem small_f {t : Tsk} (h : ¬ SmallOk t) : m_base_Small t = some false := by unfold m_base_Small; rw [bof_f h]
theorem finds_eq (t : Tsk) : m_law24_SuccgenFinds t = some true := by
  unfold m_law24_SuccgenFinds
  by_cases h : SmallOk t
  · rw [small_t h, bnd_some, if_t, awake_eq, bnd_some, if_t, bnd_some, if_f, new_ok h.ok, bnd_some, if_neg (by simp), if_neg (by simp), bnd_some, if_f, states_small h, bnd_some, rng_unit, bnd_some, fin_d]
    intro k s hk
    rw [right_eq h.ok (mem_statesL.1 (List.mem_of_getElem? hk)), bnd_some, if_t]
  · rw [small_f h, bnd_some, if_f, bnd_some, if_t, awake_eq, bnd_some, if_t, bnd_some]
theorem tests_eq (t : Tsk) : m_law24_SuccgenTests t = some true := by
  unfold m_law24_SuccgenTests
  by_cases h : SmallOk t
  · rw [small_t h, bnd_some, if_t, awake_eq, bnd_some, if_t, bnd_some, if_f, new_ok h.ok, bnd_some, if_neg (by simp), states_small h, bnd_some, rng_unit, bnd_some, fin_d]
    intro k s hk
    have hs := mem_statesL.1 (List.mem_of_getElem? hk)
    have h1 := findN_le (t := t) (s := s)
    have h2 := lookedK_le t t.vars.length
    have h3 : lookedK t t.vars.length = looked t := rfl
    have h4 := h.1
    have e1 : m_succgen_Generator_Tests (some ⟨t⟩) s = some (findN t (treeOf t) s : Int) := if_pos ⟨state_len h.ok hs, show findN t (treeOf t) s ≤ 1000000 by omega⟩
    have e2 : m_ref24_Looked t = some (looked t : Int) := if_pos (by omega)
    rw [e1, bnd_some, if_neg (by omega), e2, bnd_some, if_neg (by omega), bnd_some, if_f]
  · rw [small_f h, bnd_some, if_f, bnd_some, if_t, awake_eq, bnd_some, if_t, bnd_some]
theorem good_t {t : Tsk} (h : TaskOk t) : m_base_Good t = some true := by unfold m_base_Good; rw [bof_t h]
theorem good_f {t : Tsk} (h : ¬ TaskOk t) : m_base_Good t = some false := by unfold m_base_Good; rw [bof_f h]
theorem errors_eq (t : Tsk) (s : List Int) : m_law24_SuccgenErrors t s = some true := by
  have haw : (bnd (bnd m_law24_awake fun q => if q = true then some true else some false : Option Bool) fun y => some y) = some true := by rw [awake_eq, bnd_some, if_t, bnd_some]
  unfold m_law24_SuccgenErrors
  by_cases h1 : (100 : Int) < (t.vars.length : Int)
  · rw [if_pos h1, bnd_some, if_t, haw]
  by_cases h2 : (50 : Int) < (t.ops.length : Int)
  · rw [if_neg h1, if_pos h2, bnd_some, if_t, haw]
  by_cases h3 : (100 : Int) < (s.length : Int)
  · rw [if_neg h1, if_neg h2, if_pos h3, bnd_some, if_t, haw]
  rw [if_neg h1, if_neg h2, if_neg h3, awake_eq, bnd_some, if_t, bnd_some, if_f]
  rcases rng_inv (ρ := Bool) (f := fun (_ : Nat) (a72 : Opr) (_ : Unit) => bnd (if 100 < (a72.effs.length : Int) then (some true) else (if 100 < (a72.pre.length : Int) then (some true) else (some false)) : Option Bool) fun y104 => if y104 = true then (some (.ret true)) else (some (.next ()))) (xs := t.ops) (s₀ := ()) (fun _ _ => True) (fun r => r = true) trivial (fun k o _ _ _ => by
    by_cases g1 : 100 < (o.effs.length : Int)
    · rw [if_pos g1, bnd_some, if_t]; exact .inr ⟨_, rfl, rfl⟩
    · rw [if_neg g1]
      by_cases g2 : 100 < (o.pre.length : Int)
      · rw [if_pos g2, bnd_some, if_t]; exact .inr ⟨_, rfl, rfl⟩
      · rw [if_neg g2, bnd_some, if_f]; exact .inl ⟨_, rfl, trivial⟩) with ⟨_, hr, _⟩ | ⟨r, hr, rfl⟩
  case inr => rw [hr, bnd_some, fin_r]
  rw [hr, bnd_some, fin_d]
  by_cases hok : TaskOk t
  · rw [new_ok hok, bnd_some, good_t hok, bnd_some, if_t, if_neg (by simp), if_neg (by simp), bnd_some, if_f]
    by_cases hs : StateOk t.vars s
    · have e1 : m_base_State t.vars s = some true := by unfold m_base_State; rw [bof_t hs]
      have e2 : m_ref24_Applicable t s = some (appl t s) := if_pos (by omega)
      rw [e1, bnd_some, if_t, appl_ok hs (by omega), bnd_some, e2, bnd_some, ints_t, bnd_some, if_t, bnd_some]
    · have e1 : m_base_State t.vars s = some false := by unfold m_base_State; rw [bof_f hs]
      have e2 : m_succgen_Generator_Applicable (some ⟨t⟩) s = some [] := by rw [← appS_no hs]; exact if_pos (by omega)
      have e3 : m_succgen_Generator_Count (some ⟨t⟩) s = some 0 := by
        have : m_succgen_Generator_Count (some ⟨t⟩) s = some ((appS t s).length : Int) := if_pos (by omega)
        rw [this, appS_no hs]; rfl
      have e4 : m_succgen_Generator_Tests (some ⟨t⟩) s = some 0 := by
        have h5 : testG (some ⟨t⟩) s = 0 := findN_no hs
        unfold m_succgen_Generator_Tests
        rw [h5]; exact if_pos ⟨by omega, by omega⟩
      rw [e1, bnd_some, if_f, e2, bnd_some, if_pos (by simp), e3, bnd_some, if_pos rfl, succ_eq hok (by omega), bnd_some, appS_no hs, if_pos (by simp), e4, bnd_some, if_pos rfl, bnd_some]
  · have hne : checkN t ≠ 0 := fun h => hok (check_ok.1 h)
    have e1 : m_task_Check t = some ⟨checkN t⟩ := rfl
    have e2 : ∀ n, m_base_Num ⟨n⟩ = some n := fun _ => rfl
    rw [new_no hok, bnd_some, good_f hok, bnd_some, if_f, if_pos (by simp), if_pos (by simpa using hne), e2, bnd_some, e1, bnd_some, e2, bnd_some, if_pos rfl, bnd_some]
end Go.Proofs.Ytfbcjknlihopcaa

/- Own text: the laws of chapter 51, plain. -/
import Derived.Test.YtdhaelekmjgbmaaSymR
namespace Go.Proofs.Ytdhaelekmjgbmaa
open Go Go.RowKit
theorem demand1 {t : Tsk} {x : Swp} (hok : TaskOk t) : m_symmetry_demand t [x] = some ⟨if bof (SymP t x) = true then 0 else 2⟩ := by
  unfold m_symmetry_demand m_task_Check
  rw [bnd_some, if_neg (by rw [check_ok.2 hok]; simp)]
  by_cases h : SymP t x
  · rw [rng_unit (fun k y hy => by
      obtain rfl : y = x := by simpa using List.mem_of_getElem? hy
      rw [is_eq hok, bnd_some, bof_t h, if_t]), bnd_some, fin_d, bof_t h, if_t]
  · have : rng (ρ := Err) (fun (_ : Nat) (a41 : Swp) (_ : Unit) => bnd (m_symmetry_is t a41) fun q77 => if q77 = true then some (.next ()) else some (.ret (⟨2⟩ : Err))) [x] 0 () = some (.ret ⟨2⟩) := by
      simp only [rng]
      rw [is_eq hok, bnd_some, bof_f h, if_f]
    rw [this, bnd_some, fin_r, bof_f h, if_f]
theorem demand_no {t : Tsk} {xs : List Swp} (hok : ¬ TaskOk t) : m_symmetry_demand t xs = some ⟨checkN t⟩ := by
  unfold m_symmetry_demand m_task_Check
  rw [bnd_some, if_pos (fun h => hok (check_ok.1 h))]
/-- The image of a state. -/
def ImS (x : Swp) (s r : List Int) : Prop := r.length = s.length ∧ ∀ (k : Nat) v, s[k]? = some v → ∃ (a : Nat) (l : List Int) (z : Int), x.vars[k]? = some (a : Int) ∧ x.vals[k]? = some l ∧ atI l v = some z ∧ r[a]? = some z
theorem moved_eq {t : Tsk} {x : Swp} {s : List Int} (hok : TaskOk t) (hp : FactsPerm t x) (hs : StateOk t.vars s) : ∃ r, m_symmetry_moved x s = some r ∧ ImS x s r := by
  obtain ⟨hsl, hsv⟩ := hs
  have hl := hok.1
  unfold m_symmetry_moved
  rw [mkI_eq (by omega) (by omega), bnd_some]
  obtain ⟨r, h1, h2, h3⟩ := rng_all (ρ := List Int) (f := fun (k42 : Nat) (a43 : Int) (s40 : (List Int)) => bnd (x.vars[k42]?) fun a65 => bnd (x.vals[k42]?) fun a75 => bnd (atI a75 a43) fun a88 => bnd (atI s40 a65) fun _ => some (.next (s40.set (a65).toNat a88))) (xs := s) (s₀ := List.replicate s.length 0)
    (fun k r => r.length = s.length ∧ ∀ (j : Nat) v, j < k → s[j]? = some v → ∃ (a : Nat) (l : List Int) (z : Int), x.vars[j]? = some (a : Int) ∧ x.vals[j]? = some l ∧ atI l v = some z ∧ r[a]? = some z) ⟨by simp, fun j v hj => by omega⟩ (fun k v r hk hI => by
    obtain ⟨i1, i2⟩ := hI
    have hlt := lt_of_get hk
    obtain ⟨n, a, l, q1, q2, q3, q4, q5⟩ := hp.2.2 k (by omega)
    obtain ⟨ha1, ha2⟩ := hp.1.mem (List.mem_of_getElem? q2)
    obtain ⟨a, rfl⟩ := Int.eq_ofNat_of_zero_le ha1
    obtain ⟨h1, h2⟩ := hsv k v n hk q1
    obtain ⟨u, rfl⟩ := Int.eq_ofNat_of_zero_le h1
    obtain ⟨z, hz⟩ := some_of_lt (l := l) (k := u) (by rw [q5.len]; omega)
    obtain ⟨y, hy⟩ := some_of_lt (l := r) (k := a) (by omega)
    rw [q2, bnd_some, q3, bnd_some, atI_eq, hz, bnd_some, atI_eq, hy, bnd_some]
    refine ⟨_, rfl, by simpa using i1, fun j v' hj hv' => ?_⟩
    rw [show ((a : Int)).toNat = a from by omega]
    by_cases hjk : j = k
    · subst hjk
      rw [hk] at hv'
      obtain rfl := Option.some.inj hv'
      exact ⟨a, l, z, q2, q3, by rw [atI_eq, hz], by rw [List.getElem?_set_self (by omega)]⟩
    · obtain ⟨a', l', z', g1, g2, g3, g4⟩ := i2 j v' (by omega) hv'
      refine ⟨a', l', z', g1, g2, g3, ?_⟩
      rw [List.getElem?_set_ne (fun e => hjk ?_), g4]
      have hj1 := lt_of_get g1
      have hk1 := lt_of_get q2
      rw [e] at q2
      have := g1.trans q2.symm
      rw [List.getElem?_eq_getElem hj1, List.getElem?_eq_getElem hk1] at this
      exact (List.getElem_inj hp.1.nodup).1 (Option.some.inj this))
  exact ⟨r, by rw [h1, bnd_some, fin_d], h2, fun k v hk => h3 k v (lt_of_get hk) hk⟩
theorem ref_moved (x : Swp) (s : List Int) : m_ref51_State x s = m_symmetry_moved x s := rfl
def exT : Tsk := ⟨[2, 2], [0, 0], ([] : List Fct), [(⟨(⟨#[]⟩ : ByteArray), 0, ([] : List Fct), [(⟨([] : List Fct), 0, 1⟩ : Eff)]⟩ : Opr), (⟨(⟨#[]⟩ : ByteArray), 0, ([] : List Fct), [(⟨([] : List Fct), 1, 1⟩ : Eff)]⟩ : Opr)]⟩
def exX : Swp := ⟨[1, 0], [[0, 1], [0, 1]], [1, 0]⟩
theorem permR_10 : PermR [1, 0] 2 := by unfold PermR rangeI; decide
theorem permR_01 : PermR [0, 1] 2 := by unfold PermR rangeI; decide
theorem below2 {k : Nat} (h : k < 2) : k = 0 ∨ k = 1 := by omega
theorem fo_nil (vars : List Int) : FactsOk vars [] := ⟨fun _ _ h => by simp at h, fun _ _ _ h => by simp at h⟩
theorem get2 {α : Type} {a b y : α} {k : Nat} (h : [a, b][k]? = some y) : y = a ∨ y = b := by
  have := List.mem_of_getElem? h
  simpa using this
theorem exT_ok : TaskOk exT := by
  refine ⟨by decide, by decide, fun i n h => ?_, ⟨rfl, fun i v n h1 h2 => ?_⟩, fo_nil _, fun i o h => ?_⟩
  · rcases get2 h with rfl | rfl <;> omega
  · have e1 : v = 0 := by rcases get2 h1 with rfl | rfl <;> rfl
    have e2 : n = 2 := by rcases get2 h2 with rfl | rfl <;> rfl
    omega
  · have hone : ∀ (c : Int), (c = 0 ∨ c = 1) → OpOk exT.vars ⟨⟨#[]⟩, 0, [], [⟨[], c, 1⟩]⟩ := fun c hc => by
      refine ⟨Int.le_refl 0, (by decide : (0 : Int) ≤ 1048576), (by decide : 1 ≤ 64), ?_, fo_nil _, fun j e he => ?_⟩
      · exact ⟨(by decide : 0 ≤ 256), fun i h => absurd h (Nat.not_lt_zero _)⟩
      · have : e = ⟨[], c, 1⟩ := by simpa using List.mem_of_getElem? he
        subst this
        refine ⟨fo_nil _, by simp; omega, by simp, 2, ?_, by simp⟩
        rcases hc with rfl | rfl <;> rfl
    rcases get2 h with rfl | rfl
    · exact hone 0 (.inl rfl)
    · exact hone 1 (.inr rfl)
theorem srt_nil : srt_symmetry_mapped_l1 [] = [] := List.eq_nil_of_length_eq_zero (by rw [srt_symmetry_mapped_l1_len]; rfl)
theorem imL_nil (x : Swp) : imL x [] = [] := srt_nil
theorem exX_sym : SymP exT exX := by
  refine ⟨⟨permR_10, rfl, fun k hk => ?_⟩, permR_10, imL_nil _, fun k hk => ?_⟩
  · rcases below2 hk with rfl | rfl
    · exact ⟨2, 1, [0, 1], rfl, rfl, rfl, rfl, permR_01⟩
    · exact ⟨2, 0, [0, 1], rfl, rfl, rfl, rfl, permR_01⟩
  · rcases below2 hk with rfl | rfl
    · refine ⟨_, _, 1, rfl, rfl, rfl, rfl, imL_nil _, ?_⟩
      show [imE exX ⟨[], 0, 1⟩] = _
      unfold imE
      rw [imL_nil]; rfl
    · refine ⟨_, _, 0, rfl, rfl, rfl, rfl, imL_nil _, ?_⟩
      show [imE exX ⟨[], 1, 1⟩] = _
      unfold imE
      rw [imL_nil]; rfl
theorem exS_ok : StateOk exT.vars [1, 0] := ⟨rfl, fun i v n h1 h2 => by
  have e1 : v = 1 ∨ v = 0 := get2 h1
  have e2 : n = 2 := by rcases get2 h2 with rfl | rfl <;> rfl
  omega⟩
theorem state_ok {t : Tsk} {x : Swp} {s : List Int} (hok : TaskOk t) (hx : SymP t x) (hs : StateOk t.vars s) {r : List Int} (hr : m_symmetry_moved x s = some r) : m_symmetry_State t x s = some (r, ⟨0⟩) := by
  unfold m_symmetry_State m_task_Proper
  rw [demand1 hok, bnd_some, bof_t hx, if_t, if_neg (by simp), bnd_some, bof_t hs, if_t, hr, bnd_some]
theorem awake51 : m_law51_awake = some true := by
  unfold m_law51_awake
  change (bnd (m_symmetry_State exT exX [1, 0]) fun q103 => bnd (bnd (m_symmetry_Check exT exX) fun q121 => if q121 = true then if q103.2.n = 0 then (bnd (m_base_Ints q103.1 [0, 1]) fun q135 => if q135 = true then some true else some false) else (some false) else some false : Option Bool) fun y117 => some y117) = _
  rw [state_ok exT_ok exX_sym exS_ok (r := [0, 1]) rfl, bnd_some, check_eq, bof_t ⟨exT_ok, exX_sym⟩, bnd_some, if_t, if_pos rfl]
  unfold m_base_Ints
  rw [bnd_some, bof_t rfl, if_t, bnd_some]
theorem long_some (x : Swp) : ∃ b, m_law51_long x = some b := by
  unfold m_law51_long
  obtain ⟨s, h, _⟩ := rng_all (ρ := Bool) (f := fun (_ : Nat) (a32 : List Int) (s29 : Int) => some (.next (wr (s29 + (a32.length : Int))))) (xs := x.vals) (s₀ := wr ((wr ((x.vars.length : Int) + (x.vals.length : Int))) + (x.ops.length : Int))) (fun _ _ => True) trivial (fun k y s _ _ => ⟨_, rfl, trivial⟩)
  rw [h, bnd_some, fin_d]
  by_cases hc : 500 < s
  · exact ⟨true, by rw [if_pos hc]; rfl⟩
  · exact ⟨false, by rw [if_neg hc]; rfl⟩
theorem checks_eq (t : Tsk) (x : Swp) : m_law51_SymmetryChecks t x = some true := by
  unfold m_law51_SymmetryChecks
  obtain ⟨b, hb⟩ := long_some x
  rw [hb, awake51]
  simp only [bnd_some, if_true]
  by_cases h1 : 70 < (t.vars.length : Int)
  · rw [if_pos h1, bnd_some, if_t]
  rw [if_neg h1]
  by_cases h2 : 20 < (t.ops.length : Int)
  · rw [if_pos h2, bnd_some, if_t]
  rw [if_neg h2]
  cases b with
  | true => rw [if_t, bnd_some, if_t]
  | false =>
    rw [if_f, bnd_some, if_f, check_eq, refcheck_eq]
    simp only [bnd_some]
    cases bof (TaskOk t ∧ SymP t x) <;> rfl
end Go.Proofs.Ytdhaelekmjgbmaa

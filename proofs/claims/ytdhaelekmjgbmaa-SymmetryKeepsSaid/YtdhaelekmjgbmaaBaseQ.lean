/- Own text: what the models of the base compute: successors, ranks, edges. Plain, no program in sight. -/
import Derived.Test.YtdhaelekmjgbmaaBaseP
import Derived.Test.YtdhaelekmjgbmaaEffs
namespace Go.Proofs.Ytdhaelekmjgbmaa
open Go Go.RowKit
theorem holds_eq (f : List Fct) (s : List Int) : m_base_Holds f s = some (holdsB f s) := rfl
theorem effs_run {ρ : Type} {s : List Int} {effs : List Eff} (he : EffsIn s effs) (m : List Fct → List Int → Option Bool) (hm : ∀ f s, m f s = some (holdsB f s)) (u : List Int) (hu : u.length = s.length) :
    rng (ρ := ρ) (fun (_ : Nat) (e : Eff) (out : List Int) => bnd (m e.cond s) fun q => if q = true then bnd (atI out e.var) fun _ => some (.next (out.set (e.var).toNat e.val)) else some (.next out)) effs 0 u = some (.done (effsOn s effs u)) := by
  rw [rng_from (fun k => effsOn s (effs.take k) u) ?_ ?_, List.take_length]
  · rfl
  intro k e hk
  rw [hm, bnd_some, effsOn_step s hk]
  have hin := he k e hk
  have hl := effsOn_length s (effs.take k) u
  by_cases hb : holdsB e.cond s = true
  · rw [if_pos hb, if_pos hb]
    obtain ⟨j, hj⟩ := Int.eq_ofNat_of_zero_le hin.1
    rw [hj, atI_eq, List.getElem?_eq_getElem (by omega), bnd_some]
  · rw [if_neg hb, if_neg hb]
theorem apply_eq {t : Tsk} {s : List Int} {j : Nat} {o : Opr} (ho : t.ops[j]? = some o) (hp : holdsB o.pre s = true) (hl : s.length ≤ 1000000) (he : EffsIn s o.effs) : m_base_Apply t s (j : Int) = some (succ o s, true) := by
  have hj := lt_of_get ho
  unfold m_base_Apply
  rw [if_neg (by omega), if_neg (by omega), atI_eq, ho, bnd_some, holds_eq, bnd_some, hp, if_t, bnd_some, if_f, appI_eq (by simp; omega) (by simp; omega), bnd_some, bnd_some, List.nil_append, effs_run he m_base_Holds holds_eq s rfl, bnd_some, fin_d]
  rfl
theorem TaskOk.effs {t : Tsk} (h : TaskOk t) {s : List Int} (hs : StateOk t.vars s) : ∀ (i : Nat) o, t.ops[i]? = some o → EffsIn s o.effs := fun i o ho j e he => by
  obtain ⟨h1, _, y, hy, _⟩ := ((h.2.2.2.2.2 i o ho).2.2.2.2.2 j e he).2
  refine ⟨h1, ?_⟩
  have := lt_of_get hy
  rw [hs.1]
  simp only at h1 this
  omega
theorem effsOn_ok {vars s : List Int} : ∀ (l : List Eff), (∀ e ∈ l, EffOk vars e) → ∀ (u : List Int), StateOk vars u → StateOk vars (effsOn s l u)
  | [], _, _, hu => hu
  | e :: l, he, u, hu => by
    refine effsOn_ok l (fun e' h' => he e' (List.mem_cons_of_mem _ h')) _ ?_
    split
    · obtain ⟨_, h1, h2, y, hy, h3⟩ := he e List.mem_cons_self
      refine ⟨by rw [List.length_set]; exact hu.1, fun i x n hx hn => ?_⟩
      rw [List.getElem?_set] at hx
      by_cases hi : e.var.toNat = i
      · subst hi
        rw [if_pos rfl] at hx
        split at hx
        · obtain rfl := Option.some.inj hx
          simp only at hy h2 h3
          rw [hy] at hn
          obtain rfl := Option.some.inj hn
          exact ⟨h2, h3⟩
        · cases hx
      · rw [if_neg hi] at hx
        exact hu.2 i x n hx hn
    · exact hu
theorem succ_ok {t : Tsk} (h : TaskOk t) {s : List Int} (hs : StateOk t.vars s) {k : Nat} {o : Opr} (ho : t.ops[k]? = some o) : StateOk t.vars (succ o s) :=
  effsOn_ok o.effs (fun e he => by obtain ⟨j, hj⟩ := List.getElem?_of_mem he; exact (h.2.2.2.2.2 k o ho).2.2.2.2.2 j e hj) s hs
theorem apply_all {t : Tsk} (h : TaskOk t) {s : List Int} (hs : StateOk t.vars s) {k : Nat} {o : Opr} (ho : t.ops[k]? = some o) : m_base_Apply t s (k : Int) = some (if holdsB o.pre s = true then (succ o s, true) else ([], false)) := by
  have hk := lt_of_get ho
  by_cases hp : holdsB o.pre s = true
  · rw [apply_eq ho hp (by have := hs.1; have := h.1; omega) (h.effs hs k o ho), if_pos hp]
  · unfold m_base_Apply
    rw [if_neg (by omega), if_neg (by omega), atI_eq, ho, bnd_some, holds_eq, bnd_some, if_neg hp, if_neg hp, bnd_some, if_t]
theorem flat_get {n : Nat} (hn : 0 < n) : ∀ (l : List (List Int)) (q : Nat), (l.flatMap (exts n))[q]? = (l[q / n]?).map (· ++ [((q % n : Nat) : Int)])
  | [], q => by simp
  | a :: l, q => by
    rw [List.flatMap_cons]
    by_cases hq : q < n
    · rw [List.getElem?_append_left (by rw [exts_len]; exact hq), Nat.div_eq_of_lt hq, Nat.mod_eq_of_lt hq]
      simp [exts, hq]
    · rw [List.getElem?_append_right (by rw [exts_len]; omega), exts_len, flat_get hn l (q - n)]
      obtain ⟨r, rfl⟩ : ∃ r, q = r + n := ⟨q - n, by omega⟩
      rw [Nat.add_sub_cancel, Nat.add_div_right _ hn, Nat.add_mod_right]
      simp
theorem states_inj {vars : List Int} (hv : ∀ (i : Nat) n, vars[i]? = some n → 1 ≤ n) : ∀ (k : Nat), k ≤ vars.length → ∀ (i j : Nat) (s : List Int), (statesL (vars.take k))[i]? = some s → (statesL (vars.take k))[j]? = some s → i = j
  | 0, _, i, j, s, h1, h2 => by
    have e1 := lt_of_get h1
    have e2 := lt_of_get h2
    simp [statesL] at e1 e2
    omega
  | k + 1, hk, i, j, s, h1, h2 => by
    obtain ⟨n, hn⟩ := some_of_lt (l := vars) (k := k) (by omega)
    have hn1 := hv k n hn
    rw [statesL_step hn] at h1 h2
    unfold grows at h1 h2
    rw [flat_get (by omega)] at h1 h2
    obtain ⟨p, hp, rfl⟩ := Option.map_eq_some_iff.1 h1
    obtain ⟨p', hp', e⟩ := Option.map_eq_some_iff.1 h2
    obtain ⟨e1, e2⟩ := List.append_inj' e rfl
    subst e1
    have := states_inj hv k (by omega) _ _ _ hp hp'
    have e3 : j % n.toNat = i % n.toNat := by
      have := List.singleton_inj.1 e2
      omega
    have d1 := Nat.div_add_mod i n.toNat
    have d2 := Nat.div_add_mod j n.toNat
    rw [this, ← e3] at d1
    omega
theorem states_uniq {t : Tsk} (h : TaskOk t) {i j : Nat} {s : List Int} (h1 : (statesL t.vars)[i]? = some s) (h2 : (statesL t.vars)[j]? = some s) : i = j := by
  have := states_inj (vars := t.vars) (fun i n hn => (h.vars i n hn).1) t.vars.length (Nat.le_refl _) i j s
  rw [List.take_length] at this
  exact this h1 h2
theorem rank_at {t : Tsk} (h : SmallOk t) {s : List Int} (hs : StateOk t.vars s) : ∃ i : Nat, m_base_Rank t.vars s = some (i : Int) ∧ (statesL t.vars)[i]? = some s := by
  unfold m_base_Rank
  obtain ⟨r, h1, i, rfl, h2⟩ := rng_all (ρ := Int) (f := fun (k11 : Nat) (a12 : Int) (s9 : Int) => bnd (t.vars[k11]?) fun a24 => bnd (chkI (s9 * a24)) fun n34 => bnd (chkI (n34 + a12)) fun n45 => some (.next n45)) (xs := s) (s₀ := 0) (fun k r => ∃ i : Nat, r = (i : Int) ∧ (statesL (t.vars.take k))[i]? = some (s.take k)) ⟨0, rfl, by simp [statesL]⟩ (fun k x r hk hI => by
    obtain ⟨i, rfl, hi⟩ := hI
    have hlt := lt_of_get hk
    obtain ⟨n, hn⟩ := some_of_lt (l := t.vars) (k := k) (by rw [← hs.1]; exact hlt)
    have hn1 := h.ok.vars k n hn
    obtain ⟨hx1, hx2⟩ := hs.2 k x n hk hn
    obtain ⟨x, rfl⟩ := Int.eq_ofNat_of_zero_le hx1
    obtain ⟨n, rfl⟩ := Int.eq_ofNat_of_zero_le (by omega : 0 ≤ n)
    have hget : (statesL (t.vars.take (k + 1)))[i * n + x]? = some (s.take (k + 1)) := by
      rw [statesL_step hn]
      show ((statesL (t.vars.take k)).flatMap (exts ((n : Int)).toNat))[i * n + x]? = _
      rw [show ((n : Int)).toNat = n from by omega, flat_get (by omega)]
      have e1 : (i * n + x) / n = i := by
        rw [Nat.mul_comm, Nat.mul_add_div (by omega), Nat.div_eq_of_lt (by omega)]; omega
      have e2 : (i * n + x) % n = x := by
        rw [Nat.mul_comm, Nat.mul_add_mod, Nat.mod_eq_of_lt (by omega)]
      rw [e1, e2, hi, List.take_add_one, hk]; rfl
    have hb := lt_of_get hget
    have hb2 := h.states (k + 1)
    have e3 : (i : Int) * (n : Int) = ((i * n : Nat) : Int) := by simp
    rw [hn, bnd_some, e3, chkI_eq (by unfold inI64; omega), bnd_some, chkI_eq (by unfold inI64; omega), bnd_some]
    exact ⟨_, rfl, i * n + x, by omega, hget⟩)
  rw [List.take_length, hs.1, List.take_length] at h2
  exact ⟨i, by rw [h1, bnd_some, fin_d], h2⟩
theorem rank_eq {t : Tsk} (h : SmallOk t) {s : List Int} {i : Nat} (hi : (statesL t.vars)[i]? = some s) : m_base_Rank t.vars s = some (i : Int) := by
  obtain ⟨j, h1, h2⟩ := rank_at h (mem_statesL.1 (List.mem_of_getElem? hi))
  rw [h1, states_uniq h.ok h2 hi]
/-- A step from a state to another, both by rank. -/
def EdgeOk (t : Tsk) (e : Edg) : Prop := ∃ (i k j : Nat) (s : List Int) (o : Opr), e = ⟨i, k, j⟩ ∧ (statesL t.vars)[i]? = some s ∧ t.ops[k]? = some o ∧ holdsB o.pre s = true ∧ (statesL t.vars)[j]? = some (succ o s)
theorem edges_eq {t : Tsk} (h : SmallOk t) : ∃ es, m_base_Edges t = some es ∧ ∀ e, e ∈ es ↔ EdgeOk t e := by
  have hlen : (statesL t.vars).length ≤ 512 := by have := h.states t.vars.length; rwa [List.take_length] at this
  have hops := h.2.1
  have uniq : ∀ {i i' : Nat} {s : List Int}, (statesL t.vars)[i]? = some s → (statesL t.vars)[i']? = some s → i = i' := fun h1 h2 => states_uniq h.ok h1 h2
  unfold m_base_Edges
  rw [states_small h, bnd_some]
  obtain ⟨es, h1, h2, h3⟩ := rng_all (ρ := List Edg) (f := fun (k38 : Nat) (a39 : List Int) (s36 : (List Edg)) => bnd (rng (ρ := Ctl (List Edg) (List Edg)) (fun (k70 : Nat) (_ : Opr) (s68 : (List Edg)) => bnd (m_base_Apply t a39 (k70 : Int)) fun q85 => if q85.2 = true then (bnd (m_base_Rank t.vars q85.1) fun q99 => bnd (appI 24 s68 [(⟨(k38 : Int), (k70 : Int), q99⟩ : Edg)]) fun u107 => some (.next u107)) else (some (.next s68))) t.ops 0 s36) fun res66 => fin res66 fun (s123 : (List Edg)) => some (.next s123)) (xs := statesL t.vars) (s₀ := [])
    (fun n acc => acc.length ≤ n * 20 ∧ ∀ e, e ∈ acc ↔ EdgeOk t e ∧ e.src < (n : Int)) ⟨by simp, fun e => ⟨fun he => by simp at he, fun ⟨⟨i, _, _, _, _, hE, _⟩, hlt⟩ => by subst hE; simp only at hlt; omega⟩⟩ (fun n s acc hn hI => by
      obtain ⟨i1, i2⟩ := hI
      have hnlt := lt_of_get hn
      have hs : StateOk t.vars s := mem_statesL.1 (List.mem_of_getElem? hn)
      obtain ⟨es, g1, g2, g3⟩ := rng_all (ρ := Ctl (List Edg) (List Edg)) (f := fun (k70 : Nat) (_ : Opr) (s68 : (List Edg)) => bnd (m_base_Apply t s (k70 : Int)) fun q85 => if q85.2 = true then (bnd (m_base_Rank t.vars q85.1) fun q99 => bnd (appI 24 s68 [(⟨(n : Int), (k70 : Int), q99⟩ : Edg)]) fun u107 => some (.next u107)) else (some (.next s68))) (xs := t.ops) (s₀ := acc)
        (fun m acc' => acc'.length ≤ n * 20 + m ∧ ∀ e, e ∈ acc' ↔ EdgeOk t e ∧ (e.src < (n : Int) ∨ e.src = (n : Int) ∧ e.op < (m : Int))) ⟨by omega, fun e => by
          rw [i2]
          constructor
          · rintro ⟨a, b⟩; exact ⟨a, .inl b⟩
          · rintro ⟨a, b | ⟨b, c⟩⟩
            · exact ⟨a, b⟩
            · obtain ⟨i, k, j, s', o, rfl, _⟩ := a
              simp at c; omega⟩ (fun m o acc' hm hI => by
          obtain ⟨j1, j2⟩ := hI
          have hmlt := lt_of_get hm
          rw [apply_all h.ok hs hm, bnd_some]
          by_cases hp : holdsB o.pre s = true
          · obtain ⟨r, hr, hr2⟩ := rank_at h (succ_ok h.ok hs hm)
            rw [if_pos hp, if_t, hr, bnd_some, appI_eq (by simp; omega) (by simp; omega), bnd_some]
            refine ⟨_, rfl, by simp; omega, fun e => ?_⟩
            rw [List.mem_append, j2]
            constructor
            · rintro (⟨a, b⟩ | hmem)
              · refine ⟨a, ?_⟩
                rcases b with b | ⟨b, c⟩
                · exact .inl b
                · exact .inr ⟨b, by omega⟩
              · obtain rfl : e = ⟨(n : Int), (m : Int), (r : Int)⟩ := by simpa using hmem
                exact ⟨⟨n, m, r, s, o, rfl, hn, hm, hp, hr2⟩, .inr ⟨rfl, by simp; omega⟩⟩
            · rintro ⟨a, b⟩
              obtain ⟨i, k, j, s', o', rfl, a1, a2, a3, a4⟩ := a
              simp only at b
              by_cases hc : i = n ∧ k = m
              · obtain ⟨rfl, rfl⟩ := hc
                obtain rfl : s' = s := by rw [hn] at a1; exact (Option.some.inj a1).symm
                obtain rfl : o' = o := by rw [hm] at a2; exact (Option.some.inj a2).symm
                obtain rfl := uniq a4 hr2
                exact .inr (by simp)
              · exact .inl ⟨⟨i, k, j, s', o', rfl, a1, a2, a3, a4⟩, by simp only; omega⟩
          · rw [if_neg hp]
            refine ⟨_, if_neg (by simp), by omega, fun e => ?_⟩
            rw [j2]
            constructor
            · rintro ⟨a, b⟩
              refine ⟨a, ?_⟩
              rcases b with b | ⟨b, c⟩
              · exact .inl b
              · exact .inr ⟨b, by omega⟩
            · rintro ⟨a, b⟩
              obtain ⟨i, k, j, s', o', rfl, a1, a2, a3, a4⟩ := a
              simp only at b
              by_cases hc : i = n ∧ k = m
              · obtain ⟨rfl, rfl⟩ := hc
                obtain rfl : s' = s := by rw [hn] at a1; exact (Option.some.inj a1).symm
                obtain rfl : o' = o := by rw [hm] at a2; exact (Option.some.inj a2).symm
                exact absurd a3 hp
              · exact ⟨⟨i, k, j, s', o', rfl, a1, a2, a3, a4⟩, by simp only; omega⟩)
      rw [g1, bnd_some, fin_d]
      refine ⟨_, rfl, by omega, fun e => ?_⟩
      rw [g3]
      constructor
      · rintro ⟨a, b⟩
        exact ⟨a, by rcases b with b | ⟨b, _⟩ <;> omega⟩
      · rintro ⟨a, b⟩
        refine ⟨a, ?_⟩
        obtain ⟨i, k, j, s', o', rfl, a1, a2, a3, a4⟩ := a
        simp only at b ⊢
        have := lt_of_get a2
        omega)
  refine ⟨es, by rw [h1, bnd_some, fin_d], fun e => ?_⟩
  rw [h3]
  refine ⟨fun a => a.1, fun a => ⟨a, ?_⟩⟩
  obtain ⟨i, k, j, s', o', rfl, a1, a2, a3, a4⟩ := a
  have := lt_of_get a1
  simp only; omega
end Go.Proofs.Ytdhaelekmjgbmaa

/- Own text: the models of the laws SuccgenOrders and SuccgenNarrows answer true. Plain, no program in sight. -/
import Derived.Test.YtfbcjknlihopcaaLaw24
namespace Go.Proofs.Ytfbcjknlihopcaa
open Go Go.RowKit
def prB (t : Tsk) (s : List Int) (i : Nat) : Bool := match t.ops[i]? with | some o => holdsB o.pre s | none => false
theorem appl_def (t : Tsk) (s : List Int) : appl t s = ((List.range t.ops.length).filter (prB t s)).map fun i : Nat => (i : Int) := rfl
theorem range_count (t : Tsk) (s : List Int) : ∀ k, k ≤ t.ops.length → ((List.range k).filter (prB t s)).length = (t.ops.take k).countP fun o => holdsB o.pre s := by
  intro k
  induction k with
  | zero => intro _; rfl
  | succ k ih =>
    intro hk
    obtain ⟨o, ho⟩ := some_of_lt (l := t.ops) (k := k) (by omega)
    rw [List.range_succ, List.filter_append, List.length_append, ih (by omega), List.take_add_one, ho, List.countP_append]
    congr 1
    have : prB t s k = holdsB o.pre s := by unfold prB; rw [ho]
    cases hb : holdsB o.pre s <;> simp [this, hb]
theorem appl_count (t : Tsk) (s : List Int) : (appl t s).length = t.ops.countP fun o => holdsB o.pre s := by
  rw [appl_def, List.length_map, range_count t s _ (Nat.le_refl _), List.take_length]
theorem mem_appl {t : Tsk} {s : List Int} {j : Nat} {o : Opr} (ho : t.ops[j]? = some o) (hp : holdsB o.pre s = true) : (j : Int) ∈ appl t s := by
  rw [appl_def]
  exact List.mem_map.2 ⟨j, List.mem_filter.2 ⟨List.mem_range.2 (lt_of_get ho), by unfold prB; rw [ho]; exact hp⟩, rfl⟩
theorem rot_get {α : Type} {l : List α} {k j : Nat} (hk : k < l.length) (hj : j < l.length) : (l.drop k ++ l.take k)[j]? = l[(j + k) % l.length]? := by
  by_cases h : j < l.length - k
  · rw [List.getElem?_append_left (by rw [List.length_drop]; exact h), List.getElem?_drop, Nat.mod_eq_of_lt (by omega), Nat.add_comm]
  · rw [List.getElem?_append_right (by rw [List.length_drop]; omega), List.length_drop, List.getElem?_take, if_pos (by omega)]
    congr 1
    rw [show j + k = (j - (l.length - k)) + l.length from by omega, Nat.add_mod_right, Nat.mod_eq_of_lt (by omega)]
theorem rot_ok {t : Tsk} {ops : List Opr} (h : TaskOk t) (hl : ops.length ≤ 4096) (hm : ∀ o ∈ ops, o ∈ t.ops) : TaskOk ⟨t.vars, t.init, t.goal, ops⟩ :=
  ⟨h.1, hl, h.2.2.1, h.2.2.2.1, h.2.2.2.2.1, fun i o ho => by
    obtain ⟨j, hj, he⟩ := List.getElem_of_mem (hm o (List.mem_of_getElem? ho))
    exact h.2.2.2.2.2 j o (by rw [← he]; exact List.getElem?_eq_getElem hj)⟩
theorem applG {t : Tsk} {s : List Int} (h : StateOk t.vars s) (hl : s.length ≤ 1000000) : m_succgen_Generator_Applicable (some ⟨t⟩) s = some (appl t s) := appl_ok h hl
theorem orders_eq (t : Tsk) (turn : Byt) : m_law24_SuccgenOrders t turn = some true := by
  have haw : (bnd (bnd m_law24_awake fun q => if q = true then some true else some false : Option Bool) fun y => some y) = some true := by rw [awake_eq, bnd_some, if_t, bnd_some]
  unfold m_law24_SuccgenOrders
  by_cases h : SmallOk t
  case neg => rw [small_f h, bnd_some, if_f, bnd_some, if_t, haw]
  by_cases h0 : (t.ops.length : Int) = 0
  case pos => rw [small_t h, bnd_some, if_t, if_pos h0, bnd_some, if_t, haw]
  rw [small_t h, bnd_some, if_t, if_neg h0, awake_eq, bnd_some, if_t, bnd_some, if_f]
  have hn := h.2.1
  have hpos : 0 < t.ops.length := by omega
  obtain ⟨b, hb⟩ := Int.eq_ofNat_of_zero_le turn.lo
  have hk : turn.n % (t.ops.length : Int) = ((b % t.ops.length : Nat) : Int) := by rw [hb]; rfl
  have hkl : b % t.ops.length < t.ops.length := Nat.mod_lt _ hpos
  rw [remI_eq turn.lo (by omega), bnd_some, hk]
  generalize b % t.ops.length = k at hkl
  clear hk
  rw [cutI_eq (by omega) (Nat.le_refl _), bnd_some, show cutI t.ops 0 (k : Int) = some ((t.ops.take k).drop 0) from cutI_eq (a := 0) (Nat.zero_le _) (by omega), bnd_some, appI_eq (by simp; omega) (by simp; omega), bnd_some, appI_eq (by simp; omega) (by simp; omega), bnd_some, List.take_length, List.nil_append, List.drop_zero]
  have hlen : (t.ops.drop k ++ t.ops.take k).length = t.ops.length := by rw [List.length_append, List.length_drop, List.length_take]; omega
  have hok2 : TaskOk ⟨t.vars, t.init, t.goal, t.ops.drop k ++ t.ops.take k⟩ := rot_ok h.ok (by omega) fun o ho => by
    rcases List.mem_append.1 ho with ho | ho
    · exact List.mem_of_mem_drop ho
    · exact List.mem_of_mem_take ho
  rw [new_ok h.ok, bnd_some, new_ok hok2, bnd_some, if_neg (by simp), if_neg (by simp), bnd_some, if_f, states_small h, bnd_some, rng_unit, bnd_some, fin_d]
  intro q s hq
  have hs := mem_statesL.1 (List.mem_of_getElem? hq)
  have hsl := state_len h.ok hs
  rw [mkI_eq (by omega) (by omega), bnd_some, applG hs hsl, bnd_some]
  obtain ⟨is, hr, hil, his⟩ := rng_all (ρ := Ctl Unit Bool) (f := fun (_ : Nat) (a226 : Int) (s223 : (List Bool)) => bnd (if a226 < 0 then (some true) else (if (s223.length : Int) ≤ a226 then (some true) else (some false)) : Option Bool) fun y246 => if y246 = true then (some (.ret (.ret false))) else (bnd (atI s223 a226) fun _ => some (.next (s223.set (a226).toNat true)))) (xs := appl t s) (s₀ := List.replicate t.ops.length false)
    (fun i l => l.length = t.ops.length ∧ ∀ x ∈ (appl t s).take i, l[x.toNat]? = some true) ⟨by simp, by simp⟩ (fun i x l hx hI => by
      obtain ⟨j, o, rfl, hj, hp⟩ := appl_mem (List.mem_of_getElem? hx)
      have hjl := lt_of_get hj
      have hll := hI.1
      rw [if_neg (by omega), if_neg (by omega), bnd_some, if_f, atI_eq, List.getElem?_eq_getElem (by omega), bnd_some]
      refine ⟨_, rfl, by simpa using hI.1, fun y hy => ?_⟩
      rw [List.take_add_one, hx] at hy
      rw [List.getElem?_set]
      by_cases hyj : (j : Int).toNat = y.toNat
      · rw [if_pos hyj, if_pos (by simp; omega)]
      · rw [if_neg hyj]
        rcases List.mem_append.1 hy with hy | hy
        · exact hI.2 y hy
        · have : y = (j : Int) := by simpa using hy
          exact absurd (by rw [this]) hyj)
  rw [hr, bnd_some, fin_d]
  rw [List.take_length] at his
  have hs2 : StateOk (⟨t.vars, t.init, t.goal, t.ops.drop k ++ t.ops.take k⟩ : Tsk).vars s := hs
  rw [applG (t := ⟨t.vars, t.init, t.goal, t.ops.drop k ++ t.ops.take k⟩) hs2 hsl, bnd_some]
  have hal := appl_len ⟨t.vars, t.init, t.goal, t.ops.drop k ++ t.ops.take k⟩ s
  rw [rng_from (fun i : Nat => (i : Int)) ?_ ?_]
  · have hcnt : m_succgen_Generator_Count (some ⟨t⟩) s = some ((appl t s).length : Int) := by rw [← appS_ok hs]; exact if_pos hsl
    rw [bnd_some, fin_d, hcnt, bnd_some, if_neg]
    have e : (appl ⟨t.vars, t.init, t.goal, t.ops.drop k ++ t.ops.take k⟩ s).length = (appl t s).length := by
      rw [appl_count, appl_count]
      show List.countP _ (t.ops.drop k ++ t.ops.take k) = _
      rw [List.countP_append, Nat.add_comm, ← List.countP_append, List.take_append_drop]
    simp [e]
  · rfl
  · intro i x hx
    obtain ⟨j, o, rfl, hj, hp⟩ := appl_mem (List.mem_of_getElem? hx)
    have hjl : j < t.ops.length := by have := lt_of_get hj; rw [← hlen]; exact this
    have hil2 := lt_of_get hx
    have hal2 : (appl ⟨t.vars, t.init, t.goal, t.ops.drop k ++ t.ops.take k⟩ s).length ≤ t.ops.length := by rw [← hlen]; exact hal
    have hj2 : t.ops[(j + k) % t.ops.length]? = some o := by rw [← rot_get hkl hjl]; exact hj
    have hset := his _ (mem_appl hj2 hp)
    rw [if_neg (by omega), if_neg (by omega), chkI_eq (by unfold inI64; omega), bnd_some, remI_eq (by omega) (by omega), bnd_some]
    rw [show ((j : Int) + (k : Int)) % (is.length : Int) = (((j + k) % t.ops.length : Nat) : Int) from by rw [hil]; rfl, atI_eq]
    rw [show (((j + k) % t.ops.length : Nat) : Int).toNat = (j + k) % t.ops.length from by omega] at hset
    rw [hset, bnd_some, bnd_some, if_neg (by simp), chkI_eq (by unfold inI64; omega), bnd_some]
    rfl
theorem factsOk_pw {vars : List Int} {f : List Fct} : FactsOk vars f ↔ (∀ x ∈ f, FactOk vars x) ∧ f.Pairwise fun x y => x.var < y.var := by
  constructor
  · intro h
    refine ⟨fun x hx => ?_, List.pairwise_iff_getElem.2 fun i j hi hj hij => factsOk_lt h j i _ _ hij (List.getElem?_eq_getElem hi) (List.getElem?_eq_getElem hj)⟩
    obtain ⟨i, hi, rfl⟩ := List.getElem_of_mem hx
    exact h.1 i _ (List.getElem?_eq_getElem hi)
  · rintro ⟨h1, h2⟩
    refine ⟨fun i x hx => h1 x (List.mem_of_getElem? hx), fun i x y hx hy => ?_⟩
    obtain ⟨hi, rfl⟩ := List.getElem?_eq_some_iff.1 hx
    obtain ⟨hj, rfl⟩ := List.getElem?_eq_some_iff.1 hy
    exact List.pairwise_iff_getElem.1 h2 i (i + 1) hi hj (Nat.lt_succ_self i)
def narrow (f : Fct) (pre : List Fct) : List Fct := pre.filter (fun x => decide (x.var < f.var)) ++ [f] ++ pre.filter (fun x => decide (f.var < x.var))
theorem narrow_ok {vars : List Int} {f : Fct} {pre : List Fct} (hf : FactOk vars f) (h : FactsOk vars pre) : FactsOk vars (narrow f pre) := by
  obtain ⟨h1, h2⟩ := factsOk_pw.1 h
  refine factsOk_pw.2 ⟨fun x hx => ?_, ?_⟩
  · unfold narrow at hx
    rcases List.mem_append.1 hx with hx | hx
    · rcases List.mem_append.1 hx with hx | hx
      · exact h1 x (List.mem_filter.1 hx).1
      · have : x = f := by simpa using hx
        rw [this]; exact hf
    · exact h1 x (List.mem_filter.1 hx).1
  · unfold narrow
    refine List.pairwise_append.2 ⟨List.pairwise_append.2 ⟨h2.filter _, by simp, fun x hx y hy => ?_⟩, h2.filter _, fun x hx y hy => ?_⟩
    · have : y = f := by simpa using hy
      rw [this]; simpa using (List.mem_filter.1 hx).2
    · have hy2 : f.var < y.var := by simpa using (List.mem_filter.1 hy).2
      rcases List.mem_append.1 hx with hx | hx
      · have : x.var < f.var := by simpa using (List.mem_filter.1 hx).2
        omega
      · have : x = f := by simpa using hx
        rw [this]; exact hy2
theorem narrow_holds {f : Fct} {pre : List Fct} {s : List Int} (hne : ∀ x ∈ pre, x.var ≠ f.var) : holdsB (narrow f pre) s = (holdsB pre s && hasB s f) := by
  apply Bool.eq_iff_iff.2
  unfold holdsB narrow
  rw [Bool.and_eq_true, List.all_eq_true, List.all_eq_true]
  constructor
  · intro h
    refine ⟨fun x hx => h x ?_, h f (by simp)⟩
    have := hne x hx
    rcases Int.lt_or_gt_of_ne this with hl | hl
    · exact List.mem_append_left _ (List.mem_append_left _ (List.mem_filter.2 ⟨hx, by simpa using hl⟩))
    · exact List.mem_append_right _ (List.mem_filter.2 ⟨hx, by simpa using hl⟩)
  · rintro ⟨h1, h2⟩ x hx
    rcases List.mem_append.1 hx with hx | hx
    · rcases List.mem_append.1 hx with hx | hx
      · exact h1 x (List.mem_filter.1 hx).1
      · have : x = f := by simpa using hx
        rw [this]; exact h2
    · exact h1 x (List.mem_filter.1 hx).1
def wantB (k : Nat) (s : List Int) (f : Fct) (x : Int) : Bool := decide (x ≠ (k : Int)) || hasB s f
theorem appl_narrow {t : Tsk} {s : List Int} {k : Nat} {o : Opr} {f : Fct} (ho : t.ops[k]? = some o) (hne : ∀ x ∈ o.pre, x.var ≠ f.var) :
    appl ⟨t.vars, t.init, t.goal, t.ops.set k { o with pre := narrow f o.pre }⟩ s = (appl t s).filter (wantB k s f) := by
  rw [appl_def, appl_def, List.filter_map, List.filter_filter]
  congr 1
  show List.filter _ (List.range (t.ops.set k { o with pre := narrow f o.pre }).length) = _
  rw [List.length_set]
  apply List.filter_congr
  intro i hi
  have hil := List.mem_range.1 hi
  by_cases hik : i = k
  · subst hik
    have e1 : prB ⟨t.vars, t.init, t.goal, t.ops.set i { o with pre := narrow f o.pre }⟩ s i = holdsB (narrow f o.pre) s := by
      unfold prB
      show (match (t.ops.set i { o with pre := narrow f o.pre })[i]? with | some o => holdsB o.pre s | none => false) = _
      rw [List.getElem?_set_self hil]
    have e2 : prB t s i = holdsB o.pre s := by unfold prB; rw [ho]
    rw [e1, e2, narrow_holds hne]
    simp [wantB, Bool.and_comm]
  · have e1 : prB ⟨t.vars, t.init, t.goal, t.ops.set k { o with pre := narrow f o.pre }⟩ s i = prB t s i := by
      unfold prB
      show (match (t.ops.set k { o with pre := narrow f o.pre })[i]? with | some o => holdsB o.pre s | none => false) = _
      rw [List.getElem?_set_ne (fun h => hik h.symm)]
    rw [e1]
    have : ((i : Int) ≠ (k : Int)) := by omega
    simp [wantB, this]
theorem filt_step {α : Type} (p : α → Bool) {l : List α} {k : Nat} {x : α} (h : l[k]? = some x) : (l.take (k + 1)).filter p = (l.take k).filter p ++ if p x = true then [x] else [] := by
  rw [List.take_add_one, h, List.filter_append]
  congr 1
  cases hp : p x <;> simp [hp]
theorem filter_le {α : Type} (p : α → Bool) (l : List α) (k : Nat) : ((l.take k).filter p).length ≤ l.length := Nat.le_trans (List.length_filter_le _ _) (by rw [List.length_take]; omega)
theorem narrows_eq (t : Tsk) (op : Byt) (f : Fct) : m_law24_SuccgenNarrows t op f = some true := by
  have haw : (bnd (bnd m_law24_awake fun q => if q = true then some true else some false : Option Bool) fun y => some y) = some true := by rw [awake_eq, bnd_some, if_t, bnd_some]
  unfold m_law24_SuccgenNarrows
  by_cases h : SmallOk t
  case neg => rw [small_f h, bnd_some, if_f, bnd_some, if_t, haw]
  by_cases h0 : (t.ops.length : Int) = 0
  case pos => rw [small_t h, bnd_some, if_t, if_pos h0, bnd_some, if_t, haw]
  by_cases hp : FactsOk t.vars [f]
  case neg =>
    have e : m_base_Proper t.vars [f] = some false := by unfold m_base_Proper; rw [bof_f hp]
    rw [small_t h, bnd_some, if_t, if_neg h0, e, bnd_some, if_f, bnd_some, if_t, haw]
  have e : m_base_Proper t.vars [f] = some true := by unfold m_base_Proper; rw [bof_t hp]
  rw [small_t h, bnd_some, if_t, if_neg h0, e, bnd_some, if_t, awake_eq, bnd_some, if_t, bnd_some, if_f]
  have hf := factsOk_one.1 hp
  have hn := h.2.1
  have hpos : 0 < t.ops.length := by omega
  obtain ⟨b, hb⟩ := Int.eq_ofNat_of_zero_le op.lo
  have hk : op.n % (t.ops.length : Int) = ((b % t.ops.length : Nat) : Int) := by rw [hb]; rfl
  have hkl : b % t.ops.length < t.ops.length := Nat.mod_lt _ hpos
  rw [remI_eq op.lo (by omega), bnd_some, hk]
  generalize b % t.ops.length = k at hkl
  clear hk
  obtain ⟨o, ho⟩ := some_of_lt hkl
  have hoo := h.ok.2.2.2.2.2 k o ho
  have hpl := factsOk_len hoo.2.2.2.2.1
  have hvl := h.1
  rw [atI_eq, ho, bnd_some]
  rcases rng_inv (ρ := Bool) (f := fun (_ : Nat) (a118 : Fct) (s115 : (List Fct)) => if a118.var = f.var then (some (.ret true)) else (if a118.var < f.var then (bnd (appI 16 s115 [a118]) fun u148 => some (.next u148)) else (some (.next s115)))) (xs := o.pre) (s₀ := [])
    (fun i l => l = (o.pre.take i).filter (fun x => decide (x.var < f.var)) ∧ ∀ x ∈ o.pre.take i, x.var ≠ f.var) (fun r => r = true) ⟨rfl, by simp⟩ (fun i x l hx hI => by
      by_cases hv : x.var = f.var
      · rw [if_pos hv]; exact .inr ⟨_, rfl, rfl⟩
      · have hil := lt_of_get hx
        have hfl := filter_le (fun x => decide (x.var < f.var)) o.pre i
        have hne : ∀ y ∈ o.pre.take (i + 1), y.var ≠ f.var := fun y hy => by
          rw [List.take_add_one, hx] at hy
          rcases List.mem_append.1 hy with hy | hy
          · exact hI.2 y hy
          · have : y = x := by simpa using hy
            rw [this]; exact hv
        rw [if_neg hv]
        by_cases hlt : x.var < f.var
        · rw [if_pos hlt, appI_eq (by rw [hI.1]; simp only [List.length_singleton]; omega) (by rw [hI.1]; simp only [List.length_singleton]; omega), bnd_some]
          exact .inl ⟨_, rfl, by rw [filt_step _ hx, hI.1, if_pos (by simpa using hlt)], hne⟩
        · rw [if_neg hlt]
          exact .inl ⟨_, rfl, by rw [filt_step _ hx, hI.1, if_neg (by simpa using hlt), List.append_nil], hne⟩) with ⟨lo, hr, hlo, hne⟩ | ⟨r, hr, rfl⟩
  case inr => rw [hr, bnd_some, fin_r]
  rw [List.take_length] at hlo hne
  have hlol := filter_le (fun x => decide (x.var < f.var)) o.pre o.pre.length
  rw [List.take_length] at hlol
  rw [hr, bnd_some, fin_d, hlo, appI_eq (by simp only [List.length_singleton]; omega) (by simp only [List.length_singleton]; omega), bnd_some, bnd_some]
  rw [rng_from (fun i => o.pre.filter (fun x => decide (x.var < f.var)) ++ [f] ++ (o.pre.take i).filter (fun x => decide (f.var < x.var))) ?ha ?hb]
  case ha => simp
  case hb =>
    intro i x hx
    have hil := lt_of_get hx
    have hfl := filter_le (fun x => decide (f.var < x.var)) o.pre i
    by_cases hlt : f.var < x.var
    · rw [if_pos hlt, appI_eq (by simp only [List.length_append, List.length_singleton]; omega) (by simp only [List.length_append, List.length_singleton]; omega), bnd_some, filt_step _ hx, if_pos (by simpa using hlt)]
      simp
    · rw [if_neg hlt, filt_step _ hx, if_neg (by simpa using hlt), List.append_nil]
  rw [bnd_some, fin_d, List.take_length, appI_eq (by simp; omega) (by simp; omega), bnd_some, List.nil_append, atI_eq, ho, bnd_some]
  rw [show ((k : Int)).toNat = k from by omega]
  have hpre : o.pre.filter (fun x => decide (x.var < f.var)) ++ [f] ++ o.pre.filter (fun x => decide (f.var < x.var)) = narrow f o.pre := rfl
  rw [hpre]
  have hok2 : TaskOk ⟨t.vars, t.init, t.goal, t.ops.set k { o with pre := narrow f o.pre }⟩ := by
    refine ⟨h.ok.1, by show (t.ops.set k _).length ≤ _; rw [List.length_set]; omega, h.ok.2.2.1, h.ok.2.2.2.1, h.ok.2.2.2.2.1, fun i o' ho' => ?_⟩
    replace ho' : (t.ops.set k { o with pre := narrow f o.pre })[i]? = some o' := ho'
    by_cases hki : k = i
    · subst hki
      rw [List.getElem?_set_self hkl] at ho'
      obtain rfl := Option.some.inj ho'
      exact ⟨hoo.1, hoo.2.1, hoo.2.2.1, hoo.2.2.2.1, narrow_ok hf hoo.2.2.2.2.1, hoo.2.2.2.2.2⟩
    · rw [List.getElem?_set_ne hki] at ho'
      exact h.ok.2.2.2.2.2 i o' ho'
  rw [new_ok h.ok, bnd_some, new_ok hok2, bnd_some, if_neg (by simp), if_neg (by simp), bnd_some, if_f, states_small h, bnd_some, rng_unit, bnd_some, fin_d]
  intro q s hq
  have hs := mem_statesL.1 (List.mem_of_getElem? hq)
  have hsl := state_len h.ok hs
  have hal := appl_len t s
  have hs2 : StateOk (⟨t.vars, t.init, t.goal, t.ops.set k { o with pre := narrow f o.pre }⟩ : Tsk).vars s := hs
  rw [applG hs hsl, bnd_some, rng_from (fun i => ((appl t s).take i).filter (wantB k s f)) ?ha ?hb]
  case ha => rfl
  case hb =>
    intro i x hx
    have hil := lt_of_get hx
    have hfl := filter_le (wantB k s f) (appl t s) i
    have key : (bnd (if x ≠ (k : Int) then (some true) else (bnd (atI s f.var) fun a432 => if a432 = f.val then (some true) else (some false)) : Option Bool) fun y427 => if y427 = true then (bnd (appI 8 (((appl t s).take i).filter (wantB k s f)) [x]) fun u450 => some (Ctl.next (ρ := Ctl Unit Bool) u450)) else (some (.next (((appl t s).take i).filter (wantB k s f))))) = if wantB k s f x = true then some (.next (((appl t s).take i).filter (wantB k s f) ++ [x])) else some (.next (((appl t s).take i).filter (wantB k s f))) := by
      by_cases hxk : x ≠ (k : Int)
      · rw [if_pos hxk, bnd_some, if_t, appI_eq (by simp only [List.length_singleton]; omega) (by simp only [List.length_singleton]; omega), bnd_some, if_pos (by simp [wantB, hxk])]
      · rw [if_neg hxk]
        obtain ⟨hv0, _, y, hy, _⟩ := hf
        have hvl2 := lt_of_get hy
        obtain ⟨z, hz⟩ := some_of_lt (l := s) (k := f.var.toNat) (by rw [hs.1]; exact hvl2)
        have hat : atI s f.var = some z := by unfold atI; rw [if_pos hv0, hz]
        have hw : wantB k s f x = decide (z = f.val) := by
          have : hasB s f = decide (z = f.val) := by unfold hasB; rw [hz]; simp [hv0]
          simp only [wantB, this]
          simp [hxk]
        rw [hat, bnd_some, hw]
        by_cases hzf : z = f.val
        · rw [if_pos hzf, bnd_some, if_t, appI_eq (by simp only [List.length_singleton]; omega) (by simp only [List.length_singleton]; omega), bnd_some, if_pos (by simpa using hzf)]
        · rw [if_neg hzf, bnd_some, if_f, if_neg (by simpa using hzf)]
    rw [key, filt_step _ hx]
    by_cases hw : wantB k s f x = true
    · rw [if_pos hw, if_pos hw]
    · rw [if_neg hw, if_neg hw, List.append_nil]
  rw [bnd_some, fin_d, applG (t := ⟨t.vars, t.init, t.goal, t.ops.set k { o with pre := narrow f o.pre }⟩) hs2 hsl, bnd_some, appl_narrow ho hne, List.take_length, ints_t, bnd_some, if_t]
end Go.Proofs.Ytfbcjknlihopcaa

/- Own text: stratagembase.Distances: the least costs to the goal. Plain, no program in sight. -/
import Derived.Test.YtdhaelekmjgbmaaBaseQ
namespace Go.Proofs.Ytdhaelekmjgbmaa
open Go Go.RowKit
/-- A way to the goal with its cost. -/
inductive Walk (t : Tsk) : List Int → Int → Prop
  | goal {s : List Int} : holdsB t.goal s = true → Walk t s 0
  | step {s : List Int} {k : Nat} {o : Opr} {c : Int} : t.ops[k]? = some o → holdsB o.pre s = true → Walk t (succ o s) c → Walk t s (c + o.cost)
def Inf : Int := 1125899906842624
theorem lop_wf {σ ρ : Type} {f : σ → Option (Ctl σ ρ)} (I : σ → Prop) (B : σ → Prop) (μ : σ → Nat) (h : ∀ s, I s → (∃ s', f s = some (.next s') ∧ I s' ∧ μ s' < μ s) ∨ (∃ s', f s = some (.brk s') ∧ B s')) : ∀ s, I s → ∃ s', lop f s = some (.done s') ∧ B s' := by
  have key : ∀ (n : Nat) s, I s → μ s < n → ∃ s', itr f n s = some (.done s') ∧ B s' := by
    intro n
    induction n with
    | zero => intro s _ h0; omega
    | succ n ih =>
      intro s hs hn
      rcases h s hs with ⟨s', h1, h2, h3⟩ | ⟨s', h1, h2⟩
      · obtain ⟨r, hr, hb⟩ := ih s' h2 (by omega)
        exact ⟨r, by simp only [itr, h1]; exact hr, hb⟩
      · exact ⟨s', by simp only [itr, h1], h2⟩
  intro s hs
  obtain ⟨r, hr, hb⟩ := key (μ s + 1) s hs (by omega)
  exact ⟨r, lop_some.2 ⟨_, hr⟩, hb⟩
def sumN : List Int → Nat
  | [] => 0
  | x :: l => x.toNat + sumN l
theorem sumN_set : ∀ (l : List Int) (i : Nat) (x y : Int), l[i]? = some x → 0 ≤ y → y < x → sumN (l.set i y) < sumN l
  | [], i, x, y, h, _, _ => by simp at h
  | a :: l, 0, x, y, h, h1, h2 => by
    obtain rfl : a = x := by simpa using h
    show y.toNat + sumN l < a.toNat + sumN l
    omega
  | a :: l, i + 1, x, y, h, h1, h2 => by
    have := sumN_set l i x y (by simpa using h) h1 h2
    show a.toNat + sumN (l.set i y) < a.toNat + sumN l
    omega
/-- What is true of distances at all times. -/
def DistI (t : Tsk) (d : List Int) : Prop := d.length = (statesL t.vars).length ∧ ∀ (i : Nat) s, (statesL t.vars)[i]? = some s → ∃ c, d[i]? = some c ∧ 0 ≤ c ∧ c ≤ Inf ∧ (c < Inf → Walk t s c) ∧ (holdsB t.goal s = true → c = 0)
/-- The distances are the least costs. -/
def DistP (t : Tsk) (d : List Int) : Prop := DistI t d ∧ ∀ (i : Nat) s c C, (statesL t.vars)[i]? = some s → d[i]? = some c → Walk t s C → c ≤ C
theorem take_mem {α : Type} {l : List α} {k : Nat} {x y : α} (h : l[k]? = some x) : y ∈ l.take (k + 1) ↔ y ∈ l.take k ∨ y = x := by
  rw [List.take_add_one, h, List.mem_append]; simp
theorem walk_pos {t : Tsk} (h : TaskOk t) {s : List Int} {C : Int} (hw : Walk t s C) : 0 ≤ C := by
  induction hw with
  | goal => omega
  | step ho _ _ ih => have := (h.2.2.2.2.2 _ _ ho).1; omega
theorem dist_eq {t : Tsk} (h : SmallOk t) : ∃ d, m_base_Distances t = some d ∧ DistP t d := by
  have hlen : (statesL t.vars).length ≤ 512 := by have := h.states t.vars.length; rwa [List.take_length] at this
  unfold m_base_Distances
  rw [states_small h, bnd_some, mkI_eq (by omega) (by omega), bnd_some]
  obtain ⟨d0, h1, h2, h3⟩ := rng_all (ρ := List Int) (f := fun (k53 : Nat) (a54 : List Int) (s51 : (List Int)) => bnd (s51[k53]?) fun _ => bnd (m_base_Holds t.goal a54) fun q91 => if q91 = true then bnd ((s51.set k53 1125899906842624)[k53]?) fun _ => some (.next ((s51.set k53 1125899906842624).set k53 0)) else some (.next (s51.set k53 1125899906842624))) (xs := statesL t.vars) (s₀ := List.replicate (statesL t.vars).length 0)
    (fun n d => d.length = (statesL t.vars).length ∧ ∀ (i : Nat) s, i < n → (statesL t.vars)[i]? = some s → d[i]? = some (if holdsB t.goal s = true then 0 else Inf)) ⟨by simp, fun i s hi => by omega⟩ (fun n s d hn hI => by
      obtain ⟨i1, i2⟩ := hI
      have hlt := lt_of_get hn
      obtain ⟨u, hu⟩ := some_of_lt (l := d) (k := n) (by omega)
      rw [hu, bnd_some, holds_eq, bnd_some]
      by_cases hg : holdsB t.goal s = true
      · rw [if_pos hg, List.getElem?_set_self (by omega), bnd_some]
        refine ⟨_, rfl, by simpa using i1, fun i s' hi hs' => ?_⟩
        by_cases e : i = n
        · subst e
          obtain rfl : s' = s := by rw [hn] at hs'; exact (Option.some.inj hs').symm
          rw [List.getElem?_set_self (by simp; omega), if_pos hg]
        · rw [List.getElem?_set_ne (by omega), List.getElem?_set_ne (by omega)]
          exact i2 i s' (by omega) hs'
      · rw [if_neg hg]
        refine ⟨_, rfl, by simpa using i1, fun i s' hi hs' => ?_⟩
        by_cases e : i = n
        · subst e
          obtain rfl : s' = s := by rw [hn] at hs'; exact (Option.some.inj hs').symm
          rw [List.getElem?_set_self (by omega), if_neg hg]; rfl
        · rw [List.getElem?_set_ne (by omega)]
          exact i2 i s' (by omega) hs')
  obtain ⟨es, he, hes⟩ := edges_eq h
  rw [h1, bnd_some, fin_d, he, bnd_some]
  have hd0 : DistI t d0 := ⟨h2, fun i s hi => by
    refine ⟨_, h3 i s (lt_of_get hi) hi, ?_⟩
    by_cases hg : holdsB t.goal s = true
    · rw [if_pos hg]; exact ⟨by omega, by unfold Inf; omega, fun _ => .goal hg, fun _ => rfl⟩
    · rw [if_neg hg]; exact ⟨by unfold Inf; omega, by omega, fun hh => absurd hh (by omega), fun hh => absurd hh hg⟩⟩
  -- one pass over the edges
  have pass : ∀ d, DistI t d → ∃ (d' : List Int) (b : Bool), rng (ρ := Ctl ((List Int) × Bool) (List Int)) (fun (_ : Nat) (a152 : Edg) (s149 : (List Int) × Bool) => bnd (atI t.ops a152.op) fun a183 => bnd (bnd (atI s149.1 a152.dst) fun a208 => if a208 < 1125899906842624 then (bnd (atI s149.1 a152.dst) fun a221 => bnd (chkI (a221 + a183.cost)) fun n233 => bnd (atI s149.1 a152.src) fun a236 => if n233 < a236 then (some true) else (some false)) else (some false) : Option Bool) fun y204 => if y204 = true then (bnd (atI s149.1 a152.dst) fun a254 => bnd (chkI (a254 + a183.cost)) fun n266 => bnd (atI s149.1 a152.src) fun _ => some (.next ((s149.1.set (a152.src).toNat n266), true))) else (some (.next (s149.1, s149.2)))) es 0 (d, false) = some (.done (d', b)) ∧ DistI t d' ∧ (b = true → sumN d' < sumN d) ∧ (b = false → d' = d ∧ ∀ e ∈ es, ∀ (i k j : Nat) o x y, e = ⟨i, k, j⟩ → t.ops[k]? = some o → d[i]? = some x → d[j]? = some y → y < Inf → x ≤ y + o.cost) := by
    intro d hd
    obtain ⟨⟨d', b⟩, g1, g2, g3, g4⟩ := rng_all (ρ := Ctl ((List Int) × Bool) (List Int)) (f := fun (_ : Nat) (a152 : Edg) (s149 : (List Int) × Bool) => bnd (atI t.ops a152.op) fun a183 => bnd (bnd (atI s149.1 a152.dst) fun a208 => if a208 < 1125899906842624 then (bnd (atI s149.1 a152.dst) fun a221 => bnd (chkI (a221 + a183.cost)) fun n233 => bnd (atI s149.1 a152.src) fun a236 => if n233 < a236 then (some true) else (some false)) else (some false) : Option Bool) fun y204 => if y204 = true then (bnd (atI s149.1 a152.dst) fun a254 => bnd (chkI (a254 + a183.cost)) fun n266 => bnd (atI s149.1 a152.src) fun _ => some (.next ((s149.1.set (a152.src).toNat n266), true))) else (some (.next (s149.1, s149.2)))) (xs := es) (s₀ := (d, false))
      (fun m r => DistI t r.1 ∧ (r.2 = true → sumN r.1 < sumN d) ∧ (r.2 = false → r.1 = d ∧ ∀ e ∈ es.take m, ∀ (i k j : Nat) o x y, e = ⟨i, k, j⟩ → t.ops[k]? = some o → d[i]? = some x → d[j]? = some y → y < Inf → x ≤ y + o.cost)) ⟨hd, fun hh => by simp at hh, fun _ => ⟨rfl, fun e he => by simp at he⟩⟩ (fun m e r hm hI => by
        obtain ⟨i1, i2, i3⟩ := hI
        obtain ⟨r1, r2⟩ := r
        simp only at i1 i2 i3
        obtain ⟨i, k, j, s, o, rfl, a1, a2, a3, a4⟩ := (hes e).1 (List.mem_of_getElem? hm)
        obtain ⟨x, x1, x2, x3, x4, x5⟩ := i1.2 i s a1
        obtain ⟨y, y1, y2, y3, y4, y5⟩ := i1.2 j _ a4
        have hco := h.ok.2.2.2.2.2 k o a2
        have hc1 := hco.1
        have hc2 := hco.2.1
        simp only
        rw [atI_eq, a2, bnd_some, atI_eq, y1, bnd_some, atI_eq, x1]
        have keep : ∀ (hx : y < Inf → x ≤ y + o.cost), DistI t r1 ∧ (r2 = true → sumN r1 < sumN d) ∧ (r2 = false → r1 = d ∧ ∀ e ∈ es.take (m + 1), ∀ (i k j : Nat) o x y, e = ⟨i, k, j⟩ → t.ops[k]? = some o → d[i]? = some x → d[j]? = some y → y < Inf → x ≤ y + o.cost) := fun hx => by
          refine ⟨i1, i2, fun hf => ⟨(i3 hf).1, fun e' he' => ?_⟩⟩
          obtain ⟨e1, e2⟩ := i3 hf
          rcases (take_mem hm).1 he' with hh | rfl
          · exact e2 e' hh
          · intro i' k' j' o' x' y' hE ho' hx' hy' hlt
            injection hE with h1 h2 h3
            obtain rfl : i = i' := by omega
            obtain rfl : k = k' := by omega
            obtain rfl : j = j' := by omega
            obtain rfl : o = o' := by rw [a2] at ho'; exact Option.some.inj ho'
            rw [← e1, x1] at hx'
            rw [← e1, y1] at hy'
            obtain rfl := Option.some.inj hx'
            obtain rfl := Option.some.inj hy'
            exact hx hlt
        by_cases hy : y < 1125899906842624
        · rw [if_pos hy, bnd_some, chkI_eq (by unfold inI64; unfold Inf at *; omega), bnd_some, bnd_some]
          by_cases hx : y + o.cost < x
          · rw [if_pos hx, bnd_some, if_t, bnd_some, chkI_eq (by unfold inI64; unfold Inf at *; omega), bnd_some, bnd_some]
            refine ⟨_, rfl, ⟨by simpa using i1.1, fun i' s' hs' => ?_⟩, fun _ => ?_, fun hh => by simp at hh⟩
            · show ∃ c, (r1.set ((i : Int)).toNat (y + o.cost))[i']? = some c ∧ _
              rw [show ((i : Int)).toNat = i from by omega]
              by_cases e : i = i'
              · subst e
                obtain rfl : s = s' := by rw [a1] at hs'; exact Option.some.inj hs'
                refine ⟨_, by rw [List.getElem?_set_self (lt_of_get x1)], by omega, by omega, fun _ => .step a2 a3 (y4 hy), fun hg => ?_⟩
                have := x5 hg; omega
              · rw [List.getElem?_set_ne e]; exact i1.2 i' s' hs'
            · show sumN (r1.set ((i : Int)).toNat (y + o.cost)) < _
              rw [show ((i : Int)).toNat = i from by omega]
              have hlt := sumN_set r1 i x (y + o.cost) x1 (by omega) hx
              cases hr : r2 with
              | true => have := i2 hr; omega
              | false => rw [(i3 hr).1] at hlt; rwa [(i3 hr).1]
          · rw [if_neg hx, bnd_some, if_f]
            exact ⟨_, rfl, keep fun _ => by omega⟩
        · rw [if_neg hy, bnd_some, if_f]
          exact ⟨_, rfl, keep fun hh => absurd hh hy⟩)
    refine ⟨d', b, g1, g2, g3, fun hb => ?_⟩
    obtain ⟨e1, e2⟩ := g4 hb
    rw [List.take_length] at e2
    exact ⟨e1, e2⟩
  obtain ⟨⟨d, b⟩, l1, l2, l3⟩ := lop_wf (ρ := List Int) (f := fun (s127 : (List Int) × Bool) => if s127.2 = true then (bnd (rng (ρ := Ctl ((List Int) × Bool) (List Int)) (fun (_ : Nat) (a152 : Edg) (s149 : (List Int) × Bool) => bnd (atI t.ops a152.op) fun a183 => bnd (bnd (atI s149.1 a152.dst) fun a208 => if a208 < 1125899906842624 then (bnd (atI s149.1 a152.dst) fun a221 => bnd (chkI (a221 + a183.cost)) fun n233 => bnd (atI s149.1 a152.src) fun a236 => if n233 < a236 then (some true) else (some false)) else (some false) : Option Bool) fun y204 => if y204 = true then (bnd (atI s149.1 a152.dst) fun a254 => bnd (chkI (a254 + a183.cost)) fun n266 => bnd (atI s149.1 a152.src) fun _ => some (.next ((s149.1.set (a152.src).toNat n266), true))) else (some (.next (s149.1, s149.2)))) es 0 (s127.1, false)) fun res147 => fin res147 fun (s287 : (List Int) × Bool) => some (.next (s287.1, s287.2))) else (some (.brk (s127.1, s127.2))))
    (fun r => DistI t r.1 ∧ (r.2 = false → ∀ e ∈ es, ∀ (i k j : Nat) o x y, e = ⟨i, k, j⟩ → t.ops[k]? = some o → r.1[i]? = some x → r.1[j]? = some y → y < Inf → x ≤ y + o.cost)) (fun r => DistI t r.1 ∧ ∀ e ∈ es, ∀ (i k j : Nat) o x y, e = ⟨i, k, j⟩ → t.ops[k]? = some o → r.1[i]? = some x → r.1[j]? = some y → y < Inf → x ≤ y + o.cost) (fun r => 2 * sumN r.1 + if r.2 = true then 1 else 0) (fun r hr => by
      obtain ⟨r1, r2⟩ := r
      obtain ⟨i1, i2⟩ := hr
      cases r2 with
      | true =>
        obtain ⟨d', b, p1, p2, p3, p4⟩ := pass r1 i1
        refine .inl ⟨(d', b), ?_, ⟨p2, fun hb => ?_⟩, ?_⟩
        · simp only [if_true]
          rw [p1, bnd_some, fin_d]
        · obtain ⟨e1, e2⟩ := p4 hb
          show ∀ e ∈ es, _
          intro e he i k j o x y hE ho hx hy
          simp only at hx hy
          rw [e1] at hx hy
          exact e2 e he i k j o x y hE ho hx hy
        · cases b with
          | true => have := p3 rfl; simp; omega
          | false => rw [(p4 rfl).1]; simp
      | false => exact .inr ⟨(r1, false), by simp, i1, i2 rfl⟩) (d0, true) ⟨hd0, fun hh => by simp at hh⟩
  refine ⟨d, by rw [l1, bnd_some, fin_d], l2, fun i s c C hi hc hw => ?_⟩
  induction hw generalizing i c with
  | goal hg =>
    obtain ⟨c', q1, _, _, _, q5⟩ := l2.2 i _ hi
    rw [hc] at q1
    obtain rfl := Option.some.inj q1
    have := q5 hg; omega
  | @step s k o C' ho hp hw ih =>
    have hs : StateOk t.vars s := mem_statesL.1 (List.mem_of_getElem? hi)
    obtain ⟨j, _, hj⟩ := rank_at h (succ_ok h.ok hs ho)
    obtain ⟨y, y1, y2, y3, y4, y5⟩ := l2.2 j _ hj
    have h5 := ih j y hj y1
    obtain ⟨x, x1, x2, x3, x4, x5⟩ := l2.2 i s hi
    rw [x1] at hc
    obtain rfl := Option.some.inj hc
    have hco := (h.ok.2.2.2.2.2 k o ho).1
    by_cases hy : y < Inf
    · have := l3 ⟨i, k, j⟩ ((hes _).2 ⟨i, k, j, s, o, rfl, hi, ho, hp, hj⟩) i k j o x y rfl ho x1 y1 hy
      omega
    · omega
end Go.Proofs.Ytdhaelekmjgbmaa

/- Own text: a symmetry maps steps to steps, keeps costs; the law of keeping. Plain, no program in sight. -/
import Derived.Test.YtdhaelekmjgbmaaSymG0
import Derived.Test.YtdhaelekmjgbmaaLaw51p
import Derived.Test.YtdhaelekmjgbmaaSym5
import Derived.Test.YtdhaelekmjgbmaaDist
namespace Go.Proofs.Ytdhaelekmjgbmaa
open Go Go.RowKit
theorem hasB_iff {s : List Int} {v u : Nat} : hasB s ⟨v, u⟩ = true ↔ s[v]? = some (u : Int) := by
  unfold hasB
  simp
theorem has_im {t : Tsk} {x : Swp} {f : Fct} {s a : List Int} (hok : TaskOk t) (hp : FactsPerm t x) (hf : FactOk t.vars f) (hs : StateOk t.vars s) (ha : ImS x s a) : hasB a (imF x f) = hasB s f := by
  obtain ⟨v, u, n, b, z, l, rfl, h1, h2, h3, hu, h4, h5, h6, h7, h8, h9, h10, e⟩ := fact_cases hok hp hf
  rw [e, Bool.eq_iff_iff, hasB_iff, hasB_iff]
  obtain ⟨y, hy⟩ := some_of_lt (l := s) (k := v) (by rw [hs.1]; exact h1)
  obtain ⟨b', l', z', q1, q2, q3, q4⟩ := ha.2 v y hy
  obtain rfl : b = b' := by rw [h4] at q1; have := Option.some.inj q1; omega
  obtain rfl : l = l' := by rw [h5] at q2; exact Option.some.inj q2
  obtain ⟨y, rfl, hy2⟩ := atI_some q3
  rw [q4, hy]
  constructor
  · intro hz
    rw [Option.some.inj hz] at hy2
    rw [perm_inj h6 hy2 h7]
  · intro hz
    have : y = u := by have := Option.some.inj hz; omega
    subst this
    rw [h7] at hy2
    exact hy2.symm
theorem holds_im {t : Tsk} {x : Swp} {fs : List Fct} {s a : List Int} (hok : TaskOk t) (hp : FactsPerm t x) (hf : FactsOk t.vars fs) (hs : StateOk t.vars s) (ha : ImS x s a) : holdsB (imL x fs) a = holdsB fs s := by
  unfold holdsB imL
  rw [Bool.eq_iff_iff, List.all_eq_true, List.all_eq_true]
  constructor
  · intro h f hf'
    rw [← has_im hok hp ((facts_pw hf).1 f hf') hs ha]
    exact h _ ((srtF_perm _).mem_iff.2 (List.mem_map.2 ⟨f, hf', rfl⟩))
  · intro h g hg
    obtain ⟨f, hf', rfl⟩ := List.mem_map.1 ((srtF_perm _).mem_iff.1 hg)
    rw [has_im hok hp ((facts_pw hf).1 f hf') hs ha]
    exact h f hf'
theorem ims_set {t : Tsk} {x : Swp} {f : Fct} {u b : List Int} (hok : TaskOk t) (hp : FactsPerm t x) (hf : FactOk t.vars f) (hu : u.length = t.vars.length) (hb : ImS x u b) : ImS x (u.set f.var.toNat f.val) (b.set (imF x f).var.toNat (imF x f).val) := by
  obtain ⟨v, y, n, c, z, l, rfl, h1, h2, h3, hy, h4, h5, h6, h7, h8, h9, h10, e⟩ := fact_cases hok hp hf
  rw [e]
  simp only [Int.toNat_natCast]
  refine ⟨by simp [hb.1], fun k w hk => ?_⟩
  rw [List.getElem?_set] at hk
  by_cases hvk : v = k
  · subst hvk
    rw [if_pos rfl, if_pos (by omega)] at hk
    obtain rfl := Option.some.inj hk
    exact ⟨c, l, z, h4, h5, by rw [atI_eq, h7], by rw [List.getElem?_set_self (by rw [hb.1]; omega)]⟩
  · rw [if_neg hvk] at hk
    obtain ⟨c', l', z', q1, q2, q3, q4⟩ := hb.2 k w hk
    refine ⟨c', l', z', q1, q2, q3, ?_⟩
    rw [List.getElem?_set_ne (fun ec => hvk ?_), q4]
    subst ec
    exact perm_inj hp.1 h4 q1
theorem ims_effs {t : Tsk} {x : Swp} {s a : List Int} (hok : TaskOk t) (hp : FactsPerm t x) (hs : StateOk t.vars s) (ha : ImS x s a) : ∀ (l : List Eff), (∀ e ∈ l, EffOk t.vars e) → ∀ (u b : List Int), u.length = t.vars.length → ImS x u b → ImS x (effsOn s l u) (effsOn a (l.map (imE x)) b)
  | [], _, _, _, _, hb => hb
  | e :: l, he, u, b, hu, hb => by
    obtain ⟨h1, h2⟩ := he e List.mem_cons_self
    rw [List.map_cons]
    unfold effsOn
    have hc : holdsB (imE x e).cond a = holdsB e.cond s := holds_im hok hp h1 hs ha
    rw [hc]
    by_cases hh : holdsB e.cond s = true
    · rw [if_pos hh, if_pos hh]
      exact ims_effs hok hp hs ha l (fun e' h' => he e' (List.mem_cons_of_mem _ h')) _ _ (by simp [hu]) (ims_set hok hp h2 hu hb)
    · rw [if_neg hh, if_neg hh]
      exact ims_effs hok hp hs ha l (fun e' h' => he e' (List.mem_cons_of_mem _ h')) _ _ hu hb
/-- A step and its image. -/
theorem step_im {t : Tsk} {x : Swp} {s a : List Int} {k b : Nat} {o p : Opr} (hok : TaskOk t) (hx : SymP t x) (hs : StateOk t.vars s) (ha : ImS x s a) (ho : t.ops[k]? = some o) (hk : x.ops[k]? = some (b : Int)) (hb : t.ops[b]? = some p) :
    holdsB p.pre a = holdsB o.pre s ∧ ImS x (succ o s) (succ p a) ∧ p.cost = o.cost := by
  obtain ⟨o', p', b', h1, h2, _, h3, h4, h5, h6⟩ := ops_cases hx (lt_of_get ho)
  obtain rfl : o = o' := by rw [ho] at h1; exact Option.some.inj h1
  obtain rfl : b = b' := by rw [hk] at h2; have := Option.some.inj h2; omega
  obtain rfl : p = p' := by rw [hb] at h3; exact Option.some.inj h3
  have hoo := hok.2.2.2.2.2 k o ho
  refine ⟨by rw [← h5]; exact holds_im hok hx.1 hoo.2.2.2.2.1 hs ha, ?_, h4.symm⟩
  unfold succ
  rw [← h6]
  exact ims_effs hok hx.1 hs ha o.effs (effs_ok hoo) s a hs.1 ha
theorem walk_im {t : Tsk} {x : Swp} (hok : TaskOk t) (hx : SymP t x) {s : List Int} {C : Int} (hw : Walk t s C) : ∀ {a : List Int}, StateOk t.vars s → ImS x s a → Walk t a C := by
  induction hw with
  | goal hg =>
    intro a hs ha
    refine .goal ?_
    have := holds_im hok hx.1 hok.2.2.2.2.1 hs ha
    rw [hx.2.2.1] at this
    rw [this]; exact hg
  | @step s k o C ho hp hw ih =>
    intro a hs ha
    obtain ⟨o', p, b, h1, h2, hb, h3, _⟩ := ops_cases hx (lt_of_get ho)
    obtain ⟨g1, g2, g3⟩ := step_im hok hx hs ha ho h2 h3
    have := ih (succ_ok hok hs ho) g2
    rw [← g3]
    exact .step h3 (by rw [g1]; exact hp) this
theorem ims_back {t : Tsk} {x : Swp} {s a : List Int} (hok : TaskOk t) (hx : SymP t x) (hs : StateOk t.vars s) (ha : ImS x s a) : ImS (invX x) a s := by
  have hi := inv_sym hok hx
  obtain ⟨r, _, hr⟩ := moved_eq hok hi.1 (ims_ok hx.1 hs ha)
  have := ims_comp hx.1 hi.1 hs ha hr
  rw [comp_inv hok hx] at this
  rwa [ims_uniq (id_perm hok) hs.1 this (ims_id hok hs)] at hr
/-- A state and its image have the same distance. -/
theorem dist_im {t : Tsk} {x : Swp} {d : List Int} {s a : List Int} {i j : Nat} {c c' : Int} (hok : TaskOk t) (hx : SymP t x) (hd : DistP t d) (hs : StateOk t.vars s) (ha : ImS x s a) (hi : (statesL t.vars)[i]? = some s) (hj : (statesL t.vars)[j]? = some a) (h1 : d[i]? = some c) (h2 : d[j]? = some c') : c = c' := by
  obtain ⟨u, u1, u2, u3, u4, _⟩ := hd.1.2 i s hi
  obtain rfl : u = c := by rw [h1] at u1; exact (Option.some.inj u1).symm
  obtain ⟨w, w1, w2, w3, w4, _⟩ := hd.1.2 j a hj
  obtain rfl : w = c' := by rw [h2] at w1; exact (Option.some.inj w1).symm
  have le1 : w ≤ u := by
    by_cases hu : u < Inf
    · exact hd.2 j a w u hj h2 (walk_im hok hx (u4 hu) hs ha)
    · omega
  have le2 : u ≤ w := by
    by_cases hw : w < Inf
    · exact hd.2 i s u w hi h1 (walk_im hok (inv_sym hok hx) (w4 hw) (ims_ok hx.1 hs ha) (ims_back hok hx hs ha))
    · omega
  omega
end Go.Proofs.Ytdhaelekmjgbmaa

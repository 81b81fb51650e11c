/- Own text: regions that draw their order: one order is walked; what is taken early yields the same in every world that meets a condition S, and S is shown anew behind each operation that acts. It holds for every program. -/
import Derived.Test.YtdhaelekmjgbmaaMem
namespace Go.Proofs.Ytdhaelekmjgbmaa
open Go Go.RowKit

class Mixed (P : Program) : Prop where eq : P.follows .mixedOrders = true
/-- Operation k comes before operation j in every order. -/
def comesB (ops : Array Oper) : Nat → Nat → Nat → Bool
  | 0, _, _ => false
  | fuel + 1, j, k => (ops[j]?).any fun o => o.after.any fun e => Region.binds .any e && (e.on == k || comesB ops fuel e.on k)
/-- Operation j comes last in every order. -/
def isLast (ops : Array Oper) (j : Nat) : Bool := (List.range ops.size).all fun k => k == j || comesB ops ops.size j k
/-- What has come up is closed under what must come before. -/
def Closed (ops : Array Oper) (listed : Array Bool) : Prop := ∀ m om, listed.getD m false = true → ops[m]? = some om → ∀ e ∈ om.after, Region.binds .any e = true → listed.getD e.on false = true
theorem comesB_listed {ops : Array Oper} {listed : Array Bool} (hc : Closed ops listed) : ∀ (fuel j k : Nat) (oj : Oper), ops[j]? = some oj → (∀ e ∈ oj.after, Region.binds .any e = true → listed.getD e.on false = true) → comesB ops fuel j k = true → listed.getD k false = true
  | 0, _, _, _, _, _, h => by simp [comesB] at h
  | fuel + 1, j, k, oj, hj, ha, h => by
    simp only [comesB, hj, Option.any_some] at h
    obtain ⟨e, he, hb⟩ := Array.any_eq_true'.1 h
    rw [Bool.and_eq_true, Bool.or_eq_true] at hb
    have h1 := ha e he hb.1
    rcases hb.2 with hk | hk
    · have : e.on = k := by simpa using hk
      rw [← this]; exact h1
    · cases hm : ops[e.on]? with
      | none =>
        exfalso
        cases fuel with
        | zero => simp [comesB] at hk
        | succ f => simp [comesB, hm] at hk
      | some om => exact comesB_listed hc fuel e.on k om hm (hc e.on om h1 hm) hk
theorem Closed.set {ops : Array Oper} {listed : Array Bool} (hc : Closed ops listed) {i : Nat} (hi : i ∈ Region.ready .any ops listed) : Closed ops (listed.setIfInBounds i true) := by
  intro m om hm hom e he hb
  obtain ⟨_, oi, hoi, hall⟩ := mem_ready.1 hi
  by_cases hmi : m = i
  · subst hmi
    rw [hom] at hoi
    injection hoi with hoi
    subst hoi
    exact getD_set_true (hall e he hb)
  · have : listed.getD m false = true := by rwa [getD_set_ne false (Ne.symm hmi)] at hm
    exact getD_set_true (hc m om this hom e he hb)
/-- Whatever order is picked from here on, and S holds behind every operation that is carried out, but for one that comes last in every order. -/
def wpAnyG (P : Program) (ops : Array Oper) (Q : Exit → Act → World → Prop) (S : World → Prop) : Nat → Array Bool → Act → World → Prop
  | 0, listed, a, w => Region.ready .any ops listed = [] ∧ Q .normal a w
  | fuel + 1, listed, a, w =>
    (Region.ready .any ops listed = [] → Q .normal a w) ∧
    ∀ i ∈ Region.ready .any ops listed, wpOp P ops Q i (fun a' w' => (isLast ops i = false → S w') ∧ wpAnyG P ops Q S fuel (listed.setIfInBounds i true) a' w') a w
theorem wpAny_of_G {P : Program} {ops : Array Oper} {Q : Exit → Act → World → Prop} {S : World → Prop} : ∀ (fuel : Nat) (listed : Array Bool) (a : Act) (w : World), wpAnyG P ops Q S fuel listed a w → wpAny P .any ops Q fuel listed a w
  | 0, _, _, _, h => h
  | fuel + 1, _, _, _, h => ⟨h.1, fun i hi => wpOp_mono (fun a' w' h' => wpAny_of_G fuel _ a' w' h'.2) (h.2 i hi)⟩
theorem wpAnyG_first {P : Program} {ops : Array Oper} {Q : Exit → Act → World → Prop} {S : World → Prop} {i : Nat} {oi : Oper} {v : Value} (hi : ops[i]? = some oi) (hsel : ∀ (j : Nat) (o : Oper) cs b, ops[j]? = some o → o.op ≠ .select cs b)
    (hQ : ∀ c a w, Q (.panic c) (a.put oi.dst v) w → Q (.panic c) a w) :
    ∀ (fuel : Nat) (listed : Array Bool) (a : Act) (w : World), Closed ops listed →
      (∀ j oj, ops[j]? = some oj → j ≠ i → listed.getD j true = false → (∀ e ∈ oj.after, Region.binds .any e = true → e.on ≠ i) → oi.apart ops oj = true) →
      i ∈ Region.ready .any ops listed → YieldsIf P ops S oi v a → S w →
      wpAnyG P ops Q S fuel (listed.setIfInBounds i true) (a.put oi.dst v) w → wpAnyG P ops Q S (fuel + 1) listed a w := by
  intro fuel
  induction fuel with
  | zero =>
    intro listed a w _ _ hr hy hS H
    refine ⟨fun h => (by rw [h] at hr; cases hr), fun j hj => ?_⟩
    by_cases hji : j = i
    · subst hji; exact hy.wpOp hi hS ⟨fun _ => hS, H⟩
    · have := ready_mono hj hji
      rw [H.1] at this
      cases this
  | succ fuel ih =>
    intro listed a w hcl hfree hr hy hS H
    refine ⟨fun h => (by rw [h] at hr; cases hr), fun j hj => ?_⟩
    by_cases hji : j = i
    · subst hji; exact hy.wpOp hi hS ⟨fun _ => hS, H⟩
    · have h1 := H.2 j (ready_mono hj hji)
      obtain ⟨hjun, oj, hoj, hall⟩ := mem_ready.1 hj
      have hnot : ∀ e ∈ oj.after, Region.binds .any e = true → e.on ≠ i := fun e he hb heq => by
        have h1 := hall e he hb
        have h0 := (mem_ready.1 hr).1
        rw [heq] at h1
        rcases Nat.lt_or_ge i listed.size with h' | h'
        · simp [h'] at h0 h1; rw [h0] at h1; cases h1
        · simp [Array.getElem?_eq_none h'] at h1
      have hap := hfree j oj hoj hji hjun hnot
      have hrj : i ∈ Region.ready .any ops (listed.setIfInBounds j true) := ready_mono hr (Ne.symm hji)
      have hil : i < ops.size := by
        rcases Nat.lt_or_ge i ops.size with h | h
        · exact h
        · rw [Array.getElem?_eq_none h] at hi; cases hi
      have hnl : isLast ops j = false := by
        cases hl : isLast ops j with
        | false => rfl
        | true =>
          exfalso
          have h4 := List.all_eq_true.1 hl i (List.mem_range.2 hil)
          rw [Bool.or_eq_true] at h4
          rcases h4 with h4 | h4
          · exact hji (by simpa using h4 : i = j).symm
          · have h5 := comesB_listed hcl ops.size j i oj hoj hall h4
            have h6 := (mem_ready.1 hr).1
            rcases Nat.lt_or_ge i listed.size with h' | h'
            · simp [h'] at h5 h6; rw [h6] at h5; cases h5
            · simp [Array.getElem?_eq_none h'] at h5
      have hfree' : ∀ k ok, ops[k]? = some ok → k ≠ i → (listed.setIfInBounds j true).getD k true = false →
          (∀ e ∈ ok.after, Region.binds .any e = true → e.on ≠ i) → oi.apart ops ok = true := fun k ok hk hki hun hno => by
        refine hfree k ok hk hki ?_ hno
        by_cases hjk : j = k
        · subst hjk; exact hjun
        · rw [getD_set_ne true hjk] at hun; exact hun
      have h2 := wpOp_putIf hoj hap (fun cs b => hsel i oi cs b hi) (fun cs b => hsel j oj cs b hoj) hQ hy h1
      refine wpOp_mono (fun a' w' h3 => ?_) h2
      have hS' : S w' := h3.2.1 hnl
      refine ⟨fun _ => hS', ih (listed.setIfInBounds j true) a' w' (hcl.set hj) hfree' hrj h3.1 hS' ?_⟩
      rw [Array.setIfInBounds_comm _ _ hji]
      exact h3.2.2
def wpOrd (P : Program) (ops : Array Oper) (Q : Exit → Act → World → Prop) (S : World → Prop) : List (Nat × Bool) → Act → World → Prop
  | [], a, w => Q .normal a w
  | (i, true) :: r, a, w => ∃ o v, ops[i]? = some o ∧ YieldsIf P ops S o v a ∧ wpOrd P ops Q S r (a.put o.dst v) w
  | (i, false) :: r, a, w => wpOp P ops Q i (fun a' w' => (r ≠ [] → S w') ∧ wpOrd P ops Q S r a' w') a w
def ordOk (ops : Array Oper) : Array Bool → List (Nat × Bool) → Bool
  | listed, [] => (Region.ready .any ops listed).isEmpty
  | listed, (i, true) :: r => (Region.ready .any ops listed).contains i && (Region.free .any ops listed i && ordOk ops (listed.setIfInBounds i true) r)
  | listed, [(i, false)] => (Region.ready .any ops listed == [i]) && (isLast ops i && ordOk ops (listed.setIfInBounds i true) [])
  | listed, (i, false) :: r => (Region.ready .any ops listed == [i]) && ordOk ops (listed.setIfInBounds i true) r
theorem wpOrd_sound {P : Program} {ops : Array Oper} {Q : Exit → Act → World → Prop} {S : World → Prop} (hs : Region.noSelect ops = true) (hQ : ∀ c a w, ¬ Q (.panic c) a w) :
    ∀ (ord : List (Nat × Bool)) (listed : Array Bool) (a : Act) (w : World), Closed ops listed → ordOk ops listed ord = true → (ord ≠ [] → S w) → wpOrd P ops Q S ord a w → wpAnyG P ops Q S ord.length listed a w
  | [], listed, a, w, _, hc, _, h => ⟨by simpa [ordOk] using hc, h⟩
  | (i, true) :: r, listed, a, w, hcl, hc, hS, h => by
    simp only [ordOk, Bool.and_eq_true] at hc
    obtain ⟨o, v, ho, hy, hr⟩ := h
    have hi : i ∈ Region.ready .any ops listed := by simpa using hc.1
    exact wpAnyG_first ho (Region.noSelect_spec hs) (fun c a w hq => (hQ c _ _ hq).elim) r.length listed a w hcl (Region.free_spec ho hc.2.1) hi hy (hS (by simp)) (wpOrd_sound hs hQ r _ _ w (hcl.set hi) hc.2.2 (fun _ => hS (by simp)) hr)
  | [(i, false)], listed, a, w, hcl, hc, hS, h => by
    simp only [ordOk, Bool.and_eq_true] at hc
    have hr : Region.ready .any ops listed = [i] := by simpa using hc.1
    refine ⟨fun h0 => by rw [hr] at h0; simp at h0, fun j hj => ?_⟩
    rw [hr] at hj
    have : j = i := by simpa using hj
    subst this
    have hji : j ∈ Region.ready .any ops listed := by rw [hr]; simp
    exact wpOp_mono (fun a' w' hh => ⟨(fun hl => by rw [hc.2.1] at hl; cases hl), wpOrd_sound hs hQ [] _ a' w' (hcl.set hji) (by simpa [ordOk] using hc.2.2) (fun h => absurd rfl h) hh.2⟩) h
  | (i, false) :: x :: r, listed, a, w, hcl, hc, hS, h => by
    simp only [ordOk, Bool.and_eq_true] at hc
    have hr : Region.ready .any ops listed = [i] := by simpa using hc.1
    refine ⟨fun h0 => by rw [hr] at h0; simp at h0, fun j hj => ?_⟩
    rw [hr] at hj
    have : j = i := by simpa using hj
    subst this
    have hji : j ∈ Region.ready .any ops listed := by rw [hr]; simp
    exact wpOp_mono (fun a' w' hh => ⟨fun _ => hh.1 (by simp), wpOrd_sound hs hQ (x :: r) _ a' w' (hcl.set hji) hc.2 hh.1 hh.2⟩) h

def hwp (P : Program) (n : Nat) (ops : Array Oper) (Q : Post) (S : World → Prop) (ord : List (Nat × Bool)) (l : Env) (w : World) : Prop :=
  ∀ a d, Ok n a l → wpOrd P ops (lift n Q) (fun w' => ∃ d', S (dr w' d')) ord a (dr w d)
/-- An operation with its guard. -/
def Evg (P : Program) (ops : Array Oper) (o : Oper) (l : Env) (S : World → Prop) (v : Value) : Prop :=
  ∀ n a, Ok n a l → YieldsIf P ops (fun w' => ∃ d', S (dr w' d')) o v a
section
variable {P : Program} {n : Nat} {ops : Array Oper} {Q : Post} {S : World → Prop} {l : Env} {w : World} {d : Tmp} {op : Op} {ty : TypeId} {pos : String} {aft : Array Edge}
theorem evg {dst : Option Tmp} {v : Value} (h : ∀ w, S w → Ev P ⟨dst, op, ty, pos, aft, none⟩ l w v) : Evg P ops ⟨dst, op, ty, pos, aft, none⟩ l S v := fun n a ha =>
  .inl ⟨by simp [Region.wanted], fun w' ⟨d', hS⟩ => h _ hS n a w'.drawn ha⟩
theorem evg_yes {dst : Option Tmp} {v : Value} {j dj : Nat} {b : Bool} (hj : gdst ops j = some dj) (hl : lk l dj = some (.bool b)) (h : ∀ w, S w → Ev P ⟨dst, op, ty, pos, aft, none⟩ l w v) : Evg P ops ⟨dst, op, ty, pos, aft, some (j, b)⟩ l S v := fun n a ha =>
  .inl ⟨by simp [Region.wanted, ha.yielded hj hl], fun w' ⟨d', hS⟩ => by
    have := h _ hS n a w'.drawn ha
    exact this⟩
theorem evg_no {dst : Option Tmp} {j dj : Nat} {b : Bool} {u : Value} (hj : gdst ops j = some dj) (hl : lk l dj = some u) (hu : isB u b = false) : Evg P ops ⟨dst, op, ty, pos, aft, some (j, b)⟩ l S undef := fun n a ha =>
  .inr ⟨by simpa [Region.wanted] using ha.unwanted (b := b) hj hl hu, rfl⟩
theorem hwp_nil (h : Q .normal l w) : hwp P n ops Q S [] l w := fun _ _ ha => lift_mk trivial ha h
theorem hwp_q {i : Nat} {o : Oper} {r : List (Nat × Bool)} {v : Value} (hi : ops[i]? = some o) (hd : o.dst = some d) (hn : Nat.blt d n = true) (he : Evg P ops o l S v) (h : hwp P n ops Q S r ((d, v) :: l) w) : hwp P n ops Q S ((i, true) :: r) l w := fun a e ha =>
  ⟨o, v, hi, he n a ha, by rw [hd]; exact h _ _ (ha.put hn v)⟩
def loud (P : Program) (n : Nat) (ops : Array Oper) (Q : Post) (S : World → Prop) (r : List (Nat × Bool)) : Post
  | .normal, l, w => (r ≠ [] → S w) ∧ hwp P n ops Q S r l w
  | _, _, _ => False
theorem hwp_loud {i : Nat} {o : Oper} {r : List (Nat × Bool)} (hi : ops[i]? = some o) (h : owp P n ops (loud P n ops Q S r) [o] l w) : hwp P n ops Q S ((i, false) :: r) l w := fun a e ha => by
  have h1 := h a e ha
  show wpOp P ops (lift n Q) i _ a (dr w e)
  unfold wpList at h1
  unfold wpOp
  simp only [hi]
  have conv : ∀ a' w', lift n (loud P n ops Q S r) .normal a' w' → (r ≠ [] → ∃ d', S (dr w' d')) ∧ wpOrd P ops (lift n Q) (fun w' => ∃ d', S (dr w' d')) r a' w' := by
    rintro a' w' ⟨_, l', w₀, d', rfl, ho, hS, hh⟩
    exact ⟨fun hr => ⟨w₀.drawn, hS hr⟩, hh a' d' ho⟩
  have nope : ∀ e' a' w', lift n (loud P n ops Q S r) e' a' w' → e' = .normal := by
    rintro e' a' w' ⟨hn, l', w₀, d', rfl, ho, hh⟩
    cases e' <;> first | rfl | exact hh.elim
  by_cases hw : Region.wanted o (yielded ops a.tmps) = true
  · rw [if_pos hw] at h1
    rw [if_pos hw]
    rcases h1 with h1 | ⟨h1, a0, w0, h2⟩
    · refine .inl ?_
      unfold Oper.wp at *
      generalize (execOp a.eval o).run P (dr w e) = res at *
      cases res with
      | ok nx w' =>
        cases nx <;> simp only [Oper.upon] at h1 ⊢ <;>
          first
            | exact conv _ _ h1
            | exact Calls.mono h1 (fun en w'' he => by
                cases en with
                | returned v => exact conv _ _ he
                | panicked c => exact absurd (nope _ _ _ he) (by simp)
                | outgrown => obtain ⟨a0, w0, hq⟩ := he; exact absurd (nope _ _ _ hq) (by simp))
            | exact Rows.mono h1 (fun _ _ he => conv _ _ he)
            | exact h1.elim
      | halt x w' => cases x <;> simp only [Oper.upon] at h1 ⊢ <;> first | exact h1.elim | exact absurd (nope _ _ _ h1) (by simp)
    · exact absurd (nope _ _ _ h2) (by simp)
  · rw [if_neg hw] at h1
    rw [if_neg hw]
    exact conv _ _ h1
theorem ewp_draw [hm : Mixed P] {id : Nat} {L : List Oper} (S : World → Prop) (ord : List (Nat × Bool)) (hs : Region.noSelect L.toArray = true) (hl : ord.length = L.toArray.size) (hc : ordOk L.toArray (Array.replicate L.toArray.size false) ord = true) (hS : S w)
    (h : hwp P n L.toArray Q S ord l w) : ewp P n (.region id L.toArray true) Q l w := fun a d ha =>
  wp_region_any hm.eq (by
    have := wpOrd_sound (P := P) hs (Q := lift n Q) (S := fun w' => ∃ d', S (dr w' d')) (fun c a w hq => hq.1) ord (Array.replicate L.toArray.size false) a (dr w (d + 1)) (fun m om hm => by
      simp only [Array.getD_eq_getD_getElem?, Array.getElem?_replicate] at hm
      split at hm <;> simp at hm) hc (fun _ => ⟨w.drawn, hS⟩) (h a (d + 1) ha)
    rw [hl] at this
    exact wpAny_of_G _ _ _ _ this)
end
end Go.Proofs.Ytdhaelekmjgbmaa

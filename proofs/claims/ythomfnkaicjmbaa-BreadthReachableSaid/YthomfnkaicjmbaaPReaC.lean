/- Own text: what the proof of breadthReachable_holds uses, part 3: rules, models and their proofs, plain laws. -/
import Derived.Test.YthomfnkaicjmbaaPReaB
namespace Go.Proofs.Ythomfnkaicjmbaa
open Go Go.RowKit
section
open Go Go.RowKit
/-- As wpAnyG, but what holds behind an operation depends on what has come up. -/
def wpAnyX (P : Program) (ops : Array Oper) (Q : Exit → Act → World → Prop) (S : Array Bool → World → Prop) : Nat → Array Bool → Act → World → Prop
  | 0, listed, a, w => Region.ready .any ops listed = [] ∧ Q .normal a w
  | fuel + 1, listed, a, w =>
    (Region.ready .any ops listed = [] → Q .normal a w) ∧
    ∀ i ∈ Region.ready .any ops listed, wpOp P ops Q i (fun a' w' => (isLast ops i = false → S (listed.setIfInBounds i true) w') ∧ wpAnyX P ops Q S fuel (listed.setIfInBounds i true) a' w') a w
theorem wpAny_of_X {P : Program} {ops : Array Oper} {Q : Exit → Act → World → Prop} {S : Array Bool → World → Prop} : ∀ (fuel : Nat) (listed : Array Bool) (a : Act) (w : World), wpAnyX P ops Q S fuel listed a w → wpAny P .any ops Q fuel listed a w
  | 0, _, _, _, h => h
  | fuel + 1, _, _, _, h => ⟨h.1, fun i hi => wpOp_mono (fun a' w' h' => wpAny_of_X fuel _ a' w' h'.2) (h.2 i hi)⟩
theorem wpAnyX_first {P : Program} {ops : Array Oper} {Q : Exit → Act → World → Prop} {S : Array Bool → World → Prop} {Si : World → Prop} {i : Nat} {oi : Oper} {v : Value} (hi : ops[i]? = some oi) (hsel : ∀ (j : Nat) (o : Oper) cs b, ops[j]? = some o → o.op ≠ .select cs b)
    (hQ : ∀ c a w, Q (.panic c) (a.put oi.dst v) w → Q (.panic c) a w) (hinv : ∀ listed w, S (listed.setIfInBounds i true) w → S listed w) (hinv' : ∀ listed w, S listed w → S (listed.setIfInBounds i true) w)
    (hSi : ∀ listed w, Closed ops listed → i ∈ Region.ready .any ops listed → S listed w → Si w) :
    ∀ (fuel : Nat) (listed : Array Bool) (a : Act) (w : World), Closed ops listed →
      (∀ j oj, ops[j]? = some oj → j ≠ i → listed.getD j true = false → (∀ e ∈ oj.after, Region.binds .any e = true → e.on ≠ i) → oi.apart ops oj = true) →
      i ∈ Region.ready .any ops listed → YieldsIf P ops Si oi v a → S listed w →
      wpAnyX P ops Q S fuel (listed.setIfInBounds i true) (a.put oi.dst v) w → wpAnyX P ops Q S (fuel + 1) listed a w := by
  intro fuel
  induction fuel with
  | zero =>
    intro listed a w hcl _ hr hy hS H
    refine ⟨fun h => (by rw [h] at hr; cases hr), fun j hj => ?_⟩
    by_cases hji : j = i
    · subst hji; exact hy.wpOp hi (hSi _ _ hcl hr hS) ⟨fun _ => hinv' _ _ hS, H⟩
    · have := ready_mono hj hji
      rw [H.1] at this
      cases this
  | succ fuel ih =>
    intro listed a w hcl hfree hr hy hS H
    refine ⟨fun h => (by rw [h] at hr; cases hr), fun j hj => ?_⟩
    by_cases hji : j = i
    · subst hji; exact hy.wpOp hi (hSi _ _ hcl hr hS) ⟨fun _ => hinv' _ _ hS, H⟩
    · have h1 := H.2 j (ready_mono hj hji)
      obtain ⟨hjun, oj, hoj, hall⟩ := mem_ready.1 hj
      have hnot : ∀ e ∈ oj.after, Region.binds .any e = true → e.on ≠ i := fun e he hb heq => by
        have h1 := hall e he hb
        have h0 := (mem_ready.1 hr).1
        rw [heq] at h1
        rcases Nat.lt_or_ge i listed.size with h' | h'
        · simp [h'] at h0 h1; rw [h0] at h1; cases h1
        · simp [Array.getElem?_eq_none h'] at h1
      have hap := hfree j oj hoj hji hjun hnot
      have hrj : i ∈ Region.ready .any ops (listed.setIfInBounds j true) := ready_mono hr (Ne.symm hji)
      have hil : i < ops.size := by
        rcases Nat.lt_or_ge i ops.size with h | h
        · exact h
        · rw [Array.getElem?_eq_none h] at hi; cases hi
      have hnl : isLast ops j = false := by
        cases hl : isLast ops j with
        | false => rfl
        | true =>
          exfalso
          have h4 := List.all_eq_true.1 hl i (List.mem_range.2 hil)
          rw [Bool.or_eq_true] at h4
          rcases h4 with h4 | h4
          · exact hji (by simpa using h4 : i = j).symm
          · have h5 := comesB_listed hcl ops.size j i oj hoj hall h4
            have h6 := (mem_ready.1 hr).1
            rcases Nat.lt_or_ge i listed.size with h' | h'
            · simp [h'] at h5 h6; rw [h6] at h5; cases h5
            · simp [Array.getElem?_eq_none h'] at h5
      have hfree' : ∀ k ok, ops[k]? = some ok → k ≠ i → (listed.setIfInBounds j true).getD k true = false →
          (∀ e ∈ ok.after, Region.binds .any e = true → e.on ≠ i) → oi.apart ops ok = true := fun k ok hk hki hun hno => by
        refine hfree k ok hk hki ?_ hno
        by_cases hjk : j = k
        · subst hjk; exact hjun
        · rw [getD_set_ne true hjk] at hun; exact hun
      have h2 := wpOp_putIf hoj hap (fun cs b => hsel i oi cs b hi) (fun cs b => hsel j oj cs b hoj) hQ hy h1
      refine wpOp_mono (fun a' w' h3 => ?_) h2
      have hS' : S (listed.setIfInBounds j true) w' := hinv _ _ (by
        have := h3.2.1 hnl
        rwa [Array.setIfInBounds_comm _ _ (Ne.symm hji)] at this)
      refine ⟨fun _ => hS', ih (listed.setIfInBounds j true) a' w' (hcl.set hj) hfree' hrj h3.1 hS' ?_⟩
      rw [Array.setIfInBounds_comm _ _ hji]
      exact h3.2.2
theorem wpAnyX_mono {P : Program} {ops : Array Oper} {Q : Exit → Act → World → Prop} {S S' : Array Bool → World → Prop} (P0 : Array Bool → Prop) (hP : ∀ listed i, P0 listed → P0 (listed.setIfInBounds i true)) (hS : ∀ listed w, P0 listed → S' listed w → S listed w) :
    ∀ (fuel : Nat) (listed : Array Bool) (a : Act) (w : World), P0 listed → wpAnyX P ops Q S' fuel listed a w → wpAnyX P ops Q S fuel listed a w
  | 0, _, _, _, _, h => h
  | fuel + 1, listed, _, _, hp, h => ⟨h.1, fun i hi => wpOp_mono (fun a' w' h' => ⟨fun hl => hS _ _ (hP _ i hp) (h'.1 hl), wpAnyX_mono P0 hP hS fuel _ a' w' (hP _ i hp) h'.2⟩) (h.2 i hi)⟩
/-- The labels that may have been touched, by what has come up. -/
def tcs (acts : List (Nat × List Nat)) (listed : Array Bool) : List Nat := (acts.filter fun p => listed.getD p.1 false).flatMap (·.2)
/-- The labels that may be touched before an operation. -/
def tci (ops : Array Oper) (acts : List (Nat × List Nat)) (i : Nat) : List Nat := (acts.filter fun p => !comesB ops ops.size p.1 i).flatMap (·.2)
def Sx (acts : List (Nat × List Nat)) (w0 : World) (O0 : Lab) (listed : Array Bool) (w : World) : Prop := ∃ d O', St (· ∈ tcs acts listed) w0 O0 (dr w d) O'
theorem St.mono {T T' : Nat → Prop} {w w' : World} {O O' : Lab} (h : St T w O w' O') (ht : ∀ i, T i → T' i) : St T' w O w' O' :=
  ⟨h.os, h.tape, h.output, h.size, fun k hk hn => h.same k hk fun e => hn (ht _ e)⟩
theorem St.lst {T : Nat → Prop} {w w' : World} {O O' : Lab} (h : St T w O w' O') (ls : List Nat) (ht : ∀ i, T i → i ∈ ls) : St (· ∈ ls) w O w' O' := h.mono ht
theorem St.cmp {T : Nat → Prop} {ls : List Nat} {w w' w'' : World} {O O' O'' : Lab} (h : St (· ∈ ls) w O w' O') (k : St T w' O' w'' O'') (ls' : List Nat) (ht : ∀ i, T i → i ∈ ls') (hl : (ls.all (ls'.contains ·)) = true) : St (· ∈ ls') w O w'' O'' :=
  St.comp (h.mono fun q hq => by simpa using List.all_eq_true.1 hl q hq) (k.mono ht) fun _ h => h
theorem tcs_inv {acts : List (Nat × List Nat)} {i : Nat} (hi : (acts.any (·.1 == i)) = false) (listed : Array Bool) : tcs acts (listed.setIfInBounds i true) = tcs acts listed := by
  unfold tcs
  congr 1
  apply List.filter_congr
  intro p hp
  have : p.1 ≠ i := fun e => by
    have h2 : (acts.any (·.1 == i)) = true := List.any_eq_true.2 ⟨p, hp, by simp [e]⟩
    rw [hi] at h2; cases h2
  exact getD_set_ne false (Ne.symm this)
theorem tcs_sub {ops : Array Oper} {acts : List (Nat × List Nat)} {i : Nat} {listed : Array Bool} (hb : (acts.all fun p => (ops[p.1]?).isSome) = true) (hcl : Closed ops listed) (hr : i ∈ Region.ready .any ops listed) : ∀ q, q ∈ tcs acts listed → q ∈ tci ops acts i := by
  intro q hq
  unfold tcs at hq
  unfold tci
  rw [List.mem_flatMap] at hq ⊢
  obtain ⟨p, hp, hq⟩ := hq
  rw [List.mem_filter] at hp
  refine ⟨p, List.mem_filter.2 ⟨hp.1, ?_⟩, hq⟩
  cases hc : comesB ops ops.size p.1 i with
  | false => rfl
  | true =>
    exfalso
    have hp2 := hp.2
    have hs := List.all_eq_true.1 hb p hp.1
    obtain ⟨o, ho⟩ := Option.isSome_iff_exists.1 hs
    have h5 := comesB_listed hcl ops.size p.1 i o ho (fun e he hbi => hcl p.1 o hp2 ho e he hbi) hc
    have h6 := (mem_ready.1 hr).1
    rcases Nat.lt_or_ge i listed.size with h' | h'
    · simp [h'] at h5 h6; rw [h6] at h5; cases h5
    · simp [Array.getElem?_eq_none h'] at h5
/-- The rest of a region, by what has come up so far. -/
def hwx (P : Program) (n : Nat) (ops : Array Oper) (Q : Post) (acts : List (Nat × List Nat)) (w0 : World) (O0 : Lab) (fuel : Nat) (listed : Array Bool) (l : Env) (w : World) : Prop :=
  Closed ops listed → ∀ a d, Ok n a l → wpAnyX P ops (lift n Q) (Sx acts w0 O0) fuel listed a (dr w d)
def loudX (P : Program) (n : Nat) (ops : Array Oper) (Q : Post) (acts : List (Nat × List Nat)) (w0 : World) (O0 : Lab) (i : Nat) (fuel : Nat) (listed : Array Bool) : Post
  | .normal, l, w => (isLast ops i = false → Sx acts w0 O0 (listed.setIfInBounds i true) w) ∧ hwx P n ops Q acts w0 O0 fuel (listed.setIfInBounds i true) l w
  | _, _, _ => False
abbrev SS (w0 : World) (O0 : Lab) (ls : List Nat) : World → Prop := fun w' => ∃ O', St (· ∈ ls) w0 O0 w' O'
theorem Sx.dr {acts : List (Nat × List Nat)} {w0 w : World} {O0 : Lab} {listed : Array Bool} (h : Sx acts w0 O0 listed w) (d : Nat) : Sx acts w0 O0 listed (dr w d) := by
  obtain ⟨e, O', h⟩ := h
  exact ⟨e, O', h⟩
theorem pre_soundX {P : Program} {ops : Array Oper} {Q Q' : Exit → Act → World → Prop} {acts : List (Nat × List Nat)} {w0 : World} {O0 : Lab} {fuel : Nat} (ls : List Nat) (hs : Region.noSelect ops = true) (hb : (acts.all fun p => (ops[p.1]?).isSome) = true) (hQ : ∀ c a w, ¬ Q (.panic c) a w) :
    ∀ (ord : List (Nat × Bool)) (listed : Array Bool) (a : Act) (w : World), Closed ops listed → ordPre ops listed ord = true → (ord.all fun p => (tci ops acts p.1).all (ls.contains ·) && !acts.any (·.1 == p.1)) = true → Sx acts w0 O0 listed w →
      (∀ a w, Closed ops (listAll listed ord) → Q' .normal a w → wpAnyX P ops Q (Sx acts w0 O0) fuel (listAll listed ord) a w) → wpOrd P ops Q' (fun w' => ∃ d', SS w0 O0 ls (dr w' d')) ord a w → wpAnyX P ops Q (Sx acts w0 O0) (ord.length + fuel) listed a w
  | [], listed, a, w, hcl, _, _, _, hk, h => by rw [List.length_nil, Nat.zero_add]; exact hk a w hcl h
  | (i, true) :: r, listed, a, w, hcl, hc, hl, hS, hk, h => by
    simp only [ordPre, Bool.and_eq_true] at hc
    rw [List.all_cons, Bool.and_eq_true, Bool.and_eq_true] at hl
    obtain ⟨o, v, ho, hy, hr⟩ := h
    have hi : i ∈ Region.ready .any ops listed := by simpa using hc.1
    have hna : (acts.any (·.1 == i)) = false := by simpa using hl.1.2
    have e1 : ∀ listed w, Sx acts w0 O0 (listed.setIfInBounds i true) w → Sx acts w0 O0 listed w := fun listed w h => by unfold Sx at *; rwa [tcs_inv hna] at h
    have e2 : ∀ listed w, Sx acts w0 O0 listed w → Sx acts w0 O0 (listed.setIfInBounds i true) w := fun listed w h => by unfold Sx at *; rwa [tcs_inv hna]
    have := wpAnyX_first ho (Region.noSelect_spec hs) (fun c a w hq => (hQ c _ _ hq).elim) e1 e2 (fun listed w hc hr ⟨d, O', hS⟩ => (⟨d, O', hS.mono fun q hq => by
        have := List.all_eq_true.1 hl.1.1 q (tcs_sub hb hc hr q hq)
        simpa using this⟩ : ∃ d', SS w0 O0 ls (Proofs.Ythomfnkaicjmbaa.dr w d'))) (r.length + fuel) listed a w hcl (Region.free_spec ho hc.2.1) hi hy hS (pre_soundX ls hs hb hQ r _ _ w (hcl.set hi) hc.2.2 hl.2 (e2 _ _ hS) hk hr)
    rwa [List.length_cons, show r.length + 1 + fuel = r.length + fuel + 1 from by omega]
  | (i, false) :: r, listed, a, w, hcl, hc, _, _, _, _ => by simp [ordPre] at hc
section
variable {P : Program} {n : Nat} {ops : Array Oper} {Q : Post} {acts : List (Nat × List Nat)} {w0 : World} {O0 : Lab} {l : Env} {w : World}
/-- Operations that only read come up: under what may be touched before them. -/
theorem x_pre0 {fuel tot : Nat} {listed : Array Bool} (ls : List Nat) (ord : List (Nat × Bool)) (hs : (Region.noSelect ops && (acts.all fun p => (ops[p.1]?).isSome) && ordPre ops listed ord && (ord.all fun p => (tci ops acts p.1).all (ls.contains ·) && !acts.any (·.1 == p.1))) = true) (hl : ord.length + fuel = tot)
    (h : hwp P n ops (thn (hwx P n ops Q acts w O0 fuel (listAll listed ord)) fun _ _ _ => False) (SS w O0 ls) ord l w) : hwx P n ops Q acts w O0 tot listed l w := fun hcl a e ha => by
  subst hl
  simp only [Bool.and_eq_true] at hs
  obtain ⟨⟨⟨h1, h2⟩, h3⟩, h4⟩ := hs
  refine pre_soundX (P := P) ls h1 h2 (Q := lift n Q) (fun c a w hq => hq.1) ord listed a (dr w e) hcl h3 (by simpa using h4) ⟨w.drawn, O0, St.refl _ _ _⟩ ?_ (h a e ha)
  rintro a' w' hcl' ⟨_, l', w₀, d', rfl, ho, hh⟩
  exact hh hcl' a' d' ho
theorem loudX_op {fuel i : Nat} {o : Oper} {listed : Array Bool} (hi : ops[i]? = some o) (hr : i ∈ Region.ready .any ops listed) (h : owp P n ops (loudX P n ops Q acts w0 O0 i fuel listed) [o] l w) (hcl : Closed ops listed) (a : Act) (e : Nat) (ha : Ok n a l) :
    wpOp P ops (lift n Q) i (fun a' w' => (isLast ops i = false → Sx acts w0 O0 (listed.setIfInBounds i true) w') ∧ wpAnyX P ops (lift n Q) (Sx acts w0 O0) fuel (listed.setIfInBounds i true) a' w') a (dr w e) := by
  have h1 := h a e ha
  unfold wpList at h1
  unfold wpOp
  simp only [hi]
  have conv : ∀ a' w', lift n (loudX P n ops Q acts w0 O0 i fuel listed) .normal a' w' → (isLast ops i = false → Sx acts w0 O0 (listed.setIfInBounds i true) w') ∧ wpAnyX P ops (lift n Q) (Sx acts w0 O0) fuel (listed.setIfInBounds i true) a' w' := by
    rintro a' w' ⟨_, l', w₀, d', rfl, ho, hS, hh⟩
    exact ⟨fun hl => (hS hl).dr d', hh (hcl.set hr) a' d' ho⟩
  have nope : ∀ e' a' w', lift n (loudX P n ops Q acts w0 O0 i fuel listed) e' a' w' → e' = .normal := by
    rintro e' a' w' ⟨hn, l', w₀, d', rfl, ho, hh⟩
    cases e' <;> first | rfl | exact hh.elim
  by_cases hw : Region.wanted o (yielded ops a.tmps) = true
  · rw [if_pos hw] at h1
    rw [if_pos hw]
    rcases h1 with h1 | ⟨h1, a0, w0, h2⟩
    · refine .inl ?_
      unfold Oper.wp at *
      generalize (execOp a.eval o).run P (dr w e) = res at *
      cases res with
      | ok nx w' =>
        cases nx <;> simp only [Oper.upon] at h1 ⊢ <;>
          first
            | exact conv _ _ h1
            | exact Calls.mono h1 (fun en w'' he => by
                cases en with
                | returned v => exact conv _ _ he
                | panicked c => exact absurd (nope _ _ _ he) (by simp)
                | outgrown => obtain ⟨a0, w0, hq⟩ := he; exact absurd (nope _ _ _ hq) (by simp))
            | exact Rows.mono h1 (fun _ _ he => conv _ _ he)
            | exact h1.elim
      | halt x w' => cases x <;> simp only [Oper.upon] at h1 ⊢ <;> first | exact h1.elim | exact absurd (nope _ _ _ h1) (by simp)
    · exact absurd (nope _ _ _ h2) (by simp)
  · rw [if_neg hw] at h1
    rw [if_neg hw]
    exact conv _ _ h1
theorem x_one {fuel i : Nat} {oi : Oper} {listed : Array Bool} (hr : Region.ready .any ops listed = [i]) (hi : ops[i]? = some oi) (h1 : owp P n ops (loudX P n ops Q acts w0 O0 i fuel listed) [oi] l w) : hwx P n ops Q acts w0 O0 (fuel + 1) listed l w := fun hcl a e ha => by
  refine ⟨fun h0 => by rw [hr] at h0; simp at h0, fun k hk => ?_⟩
  have hk' := hk
  rw [hr] at hk
  have : k = i := by simpa using hk
  subst this
  exact loudX_op hi hk' h1 hcl a e ha
theorem x_go {fuel i : Nat} {listed : Array Bool} {ls : List Nat} {O' : Lab} (acts' : List (Nat × List Nat)) (hZ : St (· ∈ ls) w0 O0 w O') (hs : (ls.all ((tcs acts (listed.setIfInBounds i true)).contains ·) && acts'.all (acts.contains ·)) = true) (h2 : hwx P n ops Q acts' w O' fuel (listed.setIfInBounds i true) l w) : owp P n ops (loudX P n ops Q acts w0 O0 i fuel listed) [] l w := by
  rw [Bool.and_eq_true] at hs
  have hls : ∀ q, q ∈ ls → q ∈ tcs acts (listed.setIfInBounds i true) := fun q hq => by simpa using List.all_eq_true.1 hs.1 q hq
  have hac : ∀ p, p ∈ acts' → p ∈ acts := fun q hq => by simpa using List.all_eq_true.1 hs.2 q hq
  refine owp_nil ⟨fun _ => ⟨w.drawn, O', hZ.mono hls⟩, fun hcl a d ha => ?_⟩
  refine wpAnyX_mono (fun listed' => ∀ j, (listed.setIfInBounds i true).getD j false = true → listed'.getD j false = true) (fun listed' k h j hj => getD_set_true (h j hj)) ?_ _ _ _ _ (fun j hj => hj) (h2 hcl a d ha)
  rintro listed' v hp ⟨e, O'', hS⟩
  refine ⟨e, O'', ((hZ.mono fun q hq => ?_).comp (hS.mono fun q hq => ?_) fun _ h => h : St (· ∈ tcs acts listed') w0 O0 _ O'')⟩
  · have := hls q hq
    unfold tcs at this ⊢
    rw [List.mem_flatMap] at this ⊢
    obtain ⟨p, h1, h3⟩ := this
    rw [List.mem_filter] at h1
    exact ⟨p, List.mem_filter.2 ⟨h1.1, hp _ h1.2⟩, h3⟩
  · unfold tcs at hq ⊢
    rw [List.mem_flatMap] at hq ⊢
    obtain ⟨p, h1, h3⟩ := hq
    rw [List.mem_filter] at h1
    exact ⟨p, List.mem_filter.2 ⟨hac _ h1.1, h1.2⟩, h3⟩
theorem x_end0 {fuel i : Nat} {listed : Array Bool} (hl : isLast ops i = true) (h2 : hwx P n ops Q acts w0 O0 fuel (listed.setIfInBounds i true) l w) : owp P n ops (loudX P n ops Q acts w0 O0 i fuel listed) [] l w := owp_nil ⟨(fun h => by rw [hl] at h; exact Bool.noConfusion h), h2⟩
theorem x_nil {listed : Array Bool} (hr : Region.ready .any ops listed = []) (h : Q .normal l w) : hwx P n ops Q acts w0 O0 0 listed l w := fun _ _ _ ha => ⟨hr, lift_mk trivial ha h⟩
/-- What comes before an operation in every order, as the bits of a number; each operation once. -/
def maskOf (ms : List Nat) (o : Oper) : Nat := o.after.toList.foldl (fun m e => if Region.binds .any e = true then m ||| (2 ^ e.on ||| ms.getD e.on 0) else m) 0
def masksFrom : List Oper → List Nat → List Nat
  | [], ms => ms
  | o :: r, ms => masksFrom r (ms ++ [maskOf ms o])
def bef (ops : Array Oper) (j k : Nat) : Bool := ((masksFrom ops.toList []).getD j 0).testBit k
theorem comesB_succ {ops : Array Oper} : ∀ (f j k : Nat), comesB ops f j k = true → comesB ops (f + 1) j k = true
  | 0, j, k, h => by simp [comesB] at h
  | f + 1, j, k, h => by
    rw [comesB] at h ⊢
    cases hj : ops[j]? with
    | none => rw [hj] at h; simp at h
    | some o =>
      rw [hj] at h
      simp only [Option.any_some, Array.any_eq_true'] at h ⊢
      obtain ⟨e, he, h⟩ := h
      refine ⟨e, he, ?_⟩
      simp only [Bool.and_eq_true, Bool.or_eq_true] at h ⊢
      refine ⟨h.1, h.2.imp id fun h => comesB_succ f e.on k h⟩
theorem comesB_le {ops : Array Oper} {f g j k : Nat} (h : comesB ops f j k = true) (hl : f ≤ g) : comesB ops g j k = true := by
  induction hl with
  | refl => exact h
  | step _ ih => exact comesB_succ _ _ _ ih
theorem mask_fold {ms : List Nat} {k : Nat} : ∀ (l : List Edge) (m : Nat), (l.foldl (fun m e => if Region.binds .any e = true then m ||| (2 ^ e.on ||| ms.getD e.on 0) else m) m).testBit k = true → m.testBit k = true ∨ ∃ e ∈ l, Region.binds .any e = true ∧ (e.on = k ∨ (ms.getD e.on 0).testBit k = true)
  | [], m, h => .inl h
  | e :: l, m, h => by
    rw [List.foldl_cons] at h
    rcases mask_fold l _ h with h | ⟨e', h1, h2⟩
    · by_cases hb : Region.binds .any e = true
      · rw [if_pos hb, Nat.testBit_or, Nat.testBit_or, Nat.testBit_two_pow, Bool.or_eq_true, Bool.or_eq_true] at h
        rcases h with h | h | h
        · exact .inl h
        · exact .inr ⟨e, List.mem_cons_self, hb, .inl (by simpa using h)⟩
        · exact .inr ⟨e, List.mem_cons_self, hb, .inr h⟩
      · rw [if_neg hb] at h; exact .inl h
    · exact .inr ⟨e', List.mem_cons_of_mem _ h1, h2⟩
theorem masks_ok {ops : Array Oper} : ∀ (rest pre : List Oper) (ms : List Nat), ops.toList = pre ++ rest → ms.length = pre.length → (∀ a k, (ms.getD a 0).testBit k = true → comesB ops (a + 1) a k = true) → (masksFrom rest ms).length = ops.size ∧ ∀ a k, ((masksFrom rest ms).getD a 0).testBit k = true → comesB ops (a + 1) a k = true
  | [], pre, ms, h1, h2, h3 => ⟨by rw [masksFrom, h2, ← Array.length_toList, h1, List.append_nil], h3⟩
  | o :: rest, pre, ms, h1, h2, h3 => by
    refine masks_ok rest (pre ++ [o]) (ms ++ [maskOf ms o]) (by rw [h1, List.append_assoc]; rfl) (by simp [h2]) fun a k hk => ?_
    by_cases ha : a < ms.length
    · rw [List.getD_eq_getElem?_getD, List.getElem?_append_left ha, ← List.getD_eq_getElem?_getD] at hk; exact h3 a k hk
    · by_cases ha2 : a = ms.length
      · subst ha2
        have : (ms ++ [maskOf ms o]).getD ms.length 0 = maskOf ms o := by simp
        rw [this] at hk
        rcases mask_fold _ _ hk with h | ⟨e, he, hb, h⟩
        · simp at h
        · have ho : ops[ms.length]? = some o := by rw [← Array.getElem?_toList, h1, h2]; simp
          rw [comesB, ho]
          simp only [Option.any_some, Array.any_eq_true', Bool.and_eq_true, Bool.or_eq_true]
          refine ⟨e, by simpa using he, hb, ?_⟩
          rcases h with h | h
          · exact .inl (by simpa using h)
          · have hlt : e.on < ms.length := by
              rcases Nat.lt_or_ge e.on ms.length with h' | h'
              · exact h'
              · rw [List.getD_eq_getElem?_getD, List.getElem?_eq_none h'] at h; simp at h
            exact .inr (comesB_le (h3 _ _ h) hlt)
      · rw [List.getD_eq_getElem?_getD, List.getElem?_eq_none (by simp; omega)] at hk; simp at hk
theorem bef_comes {ops : Array Oper} {j k : Nat} (h : bef ops j k = true) : comesB ops ops.size j k = true := by
  obtain ⟨h1, h2⟩ := masks_ok (ops := ops) ops.toList [] [] (by simp) rfl (fun a k h => by simp at h)
  refine comesB_le (h2 j k h) ?_
  rcases Nat.lt_or_ge j ops.size with h' | h'
  · exact h'
  · unfold bef at h
    rw [List.getD_eq_getElem?_getD, List.getElem?_eq_none (by omega)] at h; simp at h
theorem x_pre {fuel tot : Nat} {listed : Array Bool} (ls : List Nat) (ord : List (Nat × Bool)) (hs : (Region.noSelect ops && (acts.all fun p => (ops[p.1]?).isSome) && ordPre ops listed ord && (ord.all fun p => (acts.all fun q => q.2.all (ls.contains ·) || bef ops q.1 p.1) && !acts.any (·.1 == p.1))) = true) (hl : ord.length + fuel = tot)
    (h : hwp P n ops (thn (hwx P n ops Q acts w O0 fuel (listAll listed ord)) fun _ _ _ => False) (SS w O0 ls) ord l w) : hwx P n ops Q acts w O0 tot listed l w := by
  refine x_pre0 ls ord ?_ hl h
  simp only [Bool.and_eq_true] at hs ⊢
  refine ⟨hs.1, List.all_eq_true.2 fun p hp => ?_⟩
  have h1 := List.all_eq_true.1 hs.2 p hp
  rw [Bool.and_eq_true] at h1 ⊢
  refine ⟨List.all_eq_true.2 fun q hq => ?_, h1.2⟩
  unfold tci at hq
  rw [List.mem_flatMap] at hq
  obtain ⟨a, ha, hqa⟩ := hq
  rw [List.mem_filter] at ha
  have h2 := List.all_eq_true.1 h1.1 a ha.1
  rw [Bool.or_eq_true] at h2
  rcases h2 with h2 | h2
  · exact List.all_eq_true.1 h2 q hqa
  · have := ha.2; rw [bef_comes h2] at this; simp at this
theorem x_end {fuel i : Nat} {listed : Array Bool} (hl : ((List.range ops.size).all fun k => k == i || bef ops i k) = true) (h2 : hwx P n ops Q acts w0 O0 fuel (listed.setIfInBounds i true) l w) : owp P n ops (loudX P n ops Q acts w0 O0 i fuel listed) [] l w := by
  refine x_end0 ?_ h2
  refine List.all_eq_true.2 fun k hk => ?_
  have := List.all_eq_true.1 hl k hk
  rw [Bool.or_eq_true] at this ⊢
  exact this.imp id bef_comes
theorem ewp_drawX [hm : Mixed P] {id : Nat} {L : List Oper} (acts : List (Nat × List Nat)) (O : Lab) (h : hwx P n L.toArray Q acts w O L.toArray.size (Array.replicate L.toArray.size false) l w) : ewp P n (.region id L.toArray true) Q l w := fun a d ha =>
  wp_region_any hm.eq (wpAny_of_X _ _ _ _ (h (fun m om hm => by
      simp only [Array.getD_eq_getD_getElem?, Array.getElem?_replicate] at hm
      split at hm <;> simp at hm) a (d + 1) ha))
end
end
section
open Go Go.RowKit
attribute [local irreducible] ewp owp hwp hwq hws Ev Evg Fn retPost loud loudS Res1
section
variable {w : World} {A : Nat → Prop} (hA : ∀ k, A k → k < w.heap.size) {v0 v1 : Value}
include hA
omit hA in
def m_base_Holds (f : List Fct) (s : List Int) : Option Bool := some (holdsB f s)
theorem c_base_Holds {x0 : List Fct} (h0 : Vb w A v0 x0) {x1 : List Int} (h1 : Vb w A v1 x1) {r : Bool} (hm : m_base_Holds x0 x1 = some r) : Fn Try.prog 43 [v0, v1] w fun v w' => Ext w w' ∧ Vb w' (upA A w w') v r := by
  obtain rfl := sm hm
  refine (baseHolds (h0.mono hA) (h1.mono hA)).mono fun v w' h => ⟨h.2, ?_⟩
  rw [h.1, bof_b]; exact vBool
omit hA in
def m_task_Holds (f : List Fct) (s : List Int) : Option Bool := some (holdsB f s)
theorem c_task_Holds {x0 : List Fct} (h0 : Vb w A v0 x0) {x1 : List Int} (h1 : Vb w A v1 x1) {r : Bool} (hm : m_task_Holds x0 x1 = some r) : Fn Try.prog 37 [v0, v1] w fun v w' => Ext w w' ∧ Vb w' (upA A w w') v r := by
  obtain rfl := sm hm
  refine (taskHolds (h0.mono hA) (h1.mono hA)).mono fun v w' h => ⟨h.2, ?_⟩
  rw [h.1, bof_b]; exact vBool
omit hA in
noncomputable def m_base_Ints (x : List Int) (y : List Int) : Option Bool := some (bof (x = y))
theorem c_base_Ints {x0 : List Int} (h0 : Vb w A v0 x0) {x1 : List Int} (h1 : Vb w A v1 x1) {r : Bool} (hm : m_base_Ints x0 x1 = some r) : Fn Try.prog 33 [v0, v1] w fun v w' => Ext w w' ∧ Vb w' (upA A w w') v r := by
  obtain rfl := sm hm
  refine (baseInts (h0.mono hA) (h1.mono hA)).mono fun v w' h => ⟨h.2, ?_⟩
  rw [h.1]; exact vBool
omit hA in
noncomputable def m_base_Small (t : Tsk) : Option Bool := some (bof (SmallOk t))
theorem c_base_Small {x0 : Tsk} (h0 : Vb w A v0 x0) {r : Bool} (hm : m_base_Small x0 = some r) : Fn Try.prog 11 [v0] w fun v w' => Ext w w' ∧ Vb w' (upA A w w') v r := by
  obtain rfl := sm hm
  refine (baseSmall (h0.mono hA)).mono fun v w' h => ⟨h.2, ?_⟩
  rw [h.1]; exact vBool
end
theorem checkN_rng (t : Tsk) : inI64 (checkN t) := by unfold checkN; (repeat' split) <;> decide
def m_base_Num (x : Err) : Option Int := some x.n
theorem c_base_Num {w : World} {A : Nat → Prop} (hA : ∀ k, A k → k < w.heap.size) {x0 : Err} (r0 : inI64 x0.n) {r : Int} (hm : m_base_Num x0 = some r) : Fn Try.prog 28 [errV x0.n] w fun v w' => Ext w w' ∧ Vb w' (upA A w w') v r := by
  obtain rfl := sm hm
  refine fn_enter Try.func28 rfl Try.ntmps28 rfl ?_
  by_cases h : x0.n = 0
  · rw [h, errV_zero]
    ((repeat (first | refine ewp_seq ?_ | refine ewp_block ?_ | refine ewp_region ?_ | refine ewp_skip ?_ | refine ewp_exit ?_ | refine ewp_ret ?_ | refine ewp_true rfl ?_ | refine ewp_false rfl ?_)) <;> (refine o_as rfl rfl ?_ <;> (first | refine owp_nilT ?_ | refine owp_nilB ?_ | refine owp_nilBB ?_ | refine owp_nil ?_)) <;> (repeat (first | refine ewp_seq ?_ | refine ewp_block ?_ | refine ewp_region ?_ | refine ewp_skip ?_ | refine ewp_exit ?_ | refine ewp_ret ?_ | refine ewp_true rfl ?_ | refine ewp_false rfl ?_)) <;> (refine o_mv rfl rfl ?_ <;> (first | refine o_en rfl rfl ?_ | refine o_eo rfl rfl ?_) <;> (first | refine owp_nilT ?_ | refine owp_nilB ?_ | refine owp_nilBB ?_ | refine owp_nil ?_)) <;> (repeat (first | refine ewp_seq ?_ | refine ewp_block ?_ | refine ewp_region ?_ | refine ewp_skip ?_ | refine ewp_exit ?_ | refine ewp_ret ?_ | refine ewp_true rfl ?_ | refine ewp_false rfl ?_)) <;> (refine o_as rfl rfl ?_ <;> (first | refine owp_nilT ?_ | refine owp_nilB ?_ | refine owp_nilBB ?_ | refine owp_nil ?_)) <;> (repeat (first | refine ewp_seq ?_ | refine ewp_block ?_ | refine ewp_region ?_ | refine ewp_skip ?_ | refine ewp_exit ?_ | refine ewp_ret ?_ | refine ewp_true rfl ?_ | refine ewp_false rfl ?_)))
    exact ret1 rfl rfl ⟨Below.refl _ _, vInt (by decide)⟩
  · rw [errV_pos h]
    have h2 : -9223372036854775808 ≤ x0.n ∧ x0.n ≤ 9223372036854775807 := r0
    ((repeat (first | refine ewp_seq ?_ | refine ewp_block ?_ | refine ewp_region ?_ | refine ewp_skip ?_ | refine ewp_exit ?_ | refine ewp_ret ?_ | refine ewp_true rfl ?_ | refine ewp_false rfl ?_)) <;> (refine o_as rfl rfl ?_ <;> (first | refine owp_nilT ?_ | refine owp_nilB ?_ | refine owp_nilBB ?_ | refine owp_nil ?_)) <;> (repeat (first | refine ewp_seq ?_ | refine ewp_block ?_ | refine ewp_region ?_ | refine ewp_skip ?_ | refine ewp_exit ?_ | refine ewp_ret ?_ | refine ewp_true rfl ?_ | refine ewp_false rfl ?_)) <;> (refine o_mv rfl rfl ?_ <;> (first | refine o_en rfl rfl ?_ | refine o_eo rfl rfl ?_) <;> (first | refine owp_nilT ?_ | refine owp_nilB ?_ | refine owp_nilBB ?_ | refine owp_nil ?_)) <;> (repeat (first | refine ewp_seq ?_ | refine ewp_block ?_ | refine ewp_region ?_ | refine ewp_skip ?_ | refine ewp_exit ?_ | refine ewp_ret ?_ | refine ewp_true rfl ?_ | refine ewp_false rfl ?_)) <;> (refine o_mv rfl rfl ?_ <;> refine o_ta rfl rfl ?_ <;> refine o_mv rfl rfl ?_ <;> refine o_ex rfl rfl rfl ?_ <;> refine o_ex rfl rfl rfl ?_ <;> refine o_as rfl rfl ?_ <;> refine o_as rfl rfl ?_ <;> (first | refine owp_nilT ?_ | refine owp_nilB ?_ | refine owp_nilBB ?_ | refine owp_nil ?_)) <;> (repeat (first | refine ewp_seq ?_ | refine ewp_block ?_ | refine ewp_region ?_ | refine ewp_skip ?_ | refine ewp_exit ?_ | refine ewp_ret ?_ | refine ewp_true rfl ?_ | refine ewp_false rfl ?_)) <;> (refine o_mv rfl rfl ?_ <;> (first | refine owp_nilT ?_ | refine owp_nilB ?_ | refine owp_nilBB ?_ | refine owp_nil ?_)) <;> (repeat (first | refine ewp_seq ?_ | refine ewp_block ?_ | refine ewp_region ?_ | refine ewp_skip ?_ | refine ewp_exit ?_ | refine ewp_ret ?_ | refine ewp_true rfl ?_ | refine ewp_false rfl ?_)) <;> (refine o_mv rfl rfl ?_ <;> refine o_as rfl rfl ?_ <;> (first | refine owp_nilT ?_ | refine owp_nilB ?_ | refine owp_nilBB ?_ | refine owp_nil ?_)) <;> (repeat (first | refine ewp_seq ?_ | refine ewp_block ?_ | refine ewp_region ?_ | refine ewp_skip ?_ | refine ewp_exit ?_ | refine ewp_ret ?_ | refine ewp_true rfl ?_ | refine ewp_false rfl ?_)))
    exact ret1 rfl rfl ⟨Below.refl _ _, vInt r0⟩
def m_slices_Clone_Lint_int (xs : List Int) : Option (List Int) := if xs.length * 8 ≤ 140737488355328 ∧ xs.length ≤ 9223372036854775807 then some xs else none
theorem c_slices_Clone_Lint_int {w : World} {A : Nat → Prop} (hA : ∀ k, A k → k < w.heap.size) {v0 : Value} {x0 : List Int} (h0 : Vb w A v0 x0) {r : List Int} (hm : m_slices_Clone_Lint_int x0 = some r) :
    Fn Try.prog 65 [v0] w fun v w' => Ext w w' ∧ RowR w w' (upA A w w') 3 v r := by
  obtain ⟨⟨hl, hl2⟩, rfl⟩ := ite_some hm
  obtain ⟨O, hB, hA0⟩ := enter hA
  replace h0 := h0.mono hA0
  obtain ⟨Ad, c, rfl⟩ := h0.form
  refine fn_enter Try.func65 rfl Try.ntmps65 rfl ?_
  cases Ad with
  | none =>
    have hx : x0 = [] := by
      cases x0 with
      | nil => rfl
      | cons x xs => obtain ⟨_, _, _, h, _⟩ := h0.elem (k := 0) (x := x) rfl; cases h
    subst hx
    ((repeat (first | refine ewp_seq ?_ | refine ewp_block ?_ | refine ewp_region ?_ | refine ewp_skip ?_ | refine ewp_exit ?_ | refine ewp_ret ?_ | refine ewp_true rfl ?_ | refine ewp_false rfl ?_)) <;> (refine o_as rfl rfl ?_ <;> (first | refine owp_nilT ?_ | refine owp_nilB ?_ | refine owp_nilBB ?_ | refine owp_nil ?_)) <;> (repeat (first | refine ewp_seq ?_ | refine ewp_block ?_ | refine ewp_region ?_ | refine ewp_skip ?_ | refine ewp_exit ?_ | refine ewp_ret ?_ | refine ewp_true rfl ?_ | refine ewp_false rfl ?_)) <;> (refine o_mv rfl rfl ?_ <;> refine o_sn rfl rfl ?_ <;> (first | refine owp_nilT ?_ | refine owp_nilB ?_ | refine owp_nilBB ?_ | refine owp_nil ?_)) <;> (repeat (first | refine ewp_seq ?_ | refine ewp_block ?_ | refine ewp_region ?_ | refine ewp_skip ?_ | refine ewp_exit ?_ | refine ewp_ret ?_ | refine ewp_true rfl ?_ | refine ewp_false rfl ?_)) <;> (refine o_as rfl rfl ?_ <;> (first | refine owp_nilT ?_ | refine owp_nilB ?_ | refine owp_nilBB ?_ | refine owp_nil ?_)) <;> (repeat (first | refine ewp_seq ?_ | refine ewp_block ?_ | refine ewp_region ?_ | refine ewp_skip ?_ | refine ewp_exit ?_ | refine ewp_ret ?_ | refine ewp_true rfl ?_ | refine ewp_false rfl ?_)))
    exact ret1 rfl rfl ⟨Below.refl _ _, RowR.nil⟩
  | some ad =>
    ((repeat (first | refine ewp_seq ?_ | refine ewp_block ?_ | refine ewp_region ?_ | refine ewp_skip ?_ | refine ewp_exit ?_ | refine ewp_ret ?_ | refine ewp_true rfl ?_ | refine ewp_false rfl ?_)) <;> (refine o_as rfl rfl ?_ <;> (first | refine owp_nilT ?_ | refine owp_nilB ?_ | refine owp_nilBB ?_ | refine owp_nil ?_)) <;> (repeat (first | refine ewp_seq ?_ | refine ewp_block ?_ | refine ewp_region ?_ | refine ewp_skip ?_ | refine ewp_exit ?_ | refine ewp_ret ?_ | refine ewp_true rfl ?_ | refine ewp_false rfl ?_)) <;> (refine o_mv rfl rfl ?_ <;> refine o_sn rfl rfl ?_ <;> (first | refine owp_nilT ?_ | refine owp_nilB ?_ | refine owp_nilBB ?_ | refine owp_nil ?_)) <;> (repeat (first | refine ewp_seq ?_ | refine ewp_block ?_ | refine ewp_region ?_ | refine ewp_skip ?_ | refine ewp_exit ?_ | refine ewp_ret ?_ | refine ewp_true rfl ?_ | refine ewp_false rfl ?_)))
    refine l_bslice 2 (by decide) O (xs := ([] : List Int)) rfl rfl rfl rfl trivial (by decide) (by decide) rfl fun g w1 O1 S1 h1 => ?_
    replace hB := hB.st S1 (fun h => h) (fun h => h)
    replace h0 := h0.st S1 (fun h => h)
    (refine o_mv rfl rfl ?_)
    refine l_append rfl h1 h0.rd rfl rfl (by decide) (by simpa using hl) (by simpa using hl2) rfl fun A2 c2 w2 O2 S2 h2 => ?_
    replace hB := hB.st S2 (by decide) (by decide)
    rw [List.nil_append] at h2 ⊢
    (refine o_as rfl rfl ?_ <;> (first | refine owp_nilT ?_ | refine owp_nilB ?_ | refine owp_nilBB ?_ | refine owp_nil ?_))
    repeat (first | refine ewp_seq ?_ | refine ewp_block ?_ | refine ewp_region ?_ | refine ewp_skip ?_ | refine ewp_exit ?_ | refine ewp_ret ?_ | refine ewp_true rfl ?_ | refine ewp_false rfl ?_)
    exact ret1 rfl rfl ⟨hB.ext, h2.out hB (by decide)⟩
end
section
open Go Go.RowKit
attribute [local irreducible] ewp owp hwp hwq hws Ev Evg Fn retPost loud loudS Res1
structure Rsl where
  verdict : Int
  plan : List Int
  cost : Int
  expanded : Int
instance : Rp Rsl where
  isAgg := true
  size := 4
  R w F cs x := ∃ v0, cs = [.int .i64 x.verdict, v0, .int .i64 x.cost, .int .i64 x.expanded] ∧ Vb w F v0 x.plan ∧ inI64 x.verdict ∧ inI64 x.cost ∧ inI64 x.expanded
  len := by rintro w F cs x ⟨v0, rfl, h0, h1, h2, h3⟩; rfl
  one := by rintro w F cs x ⟨v0, rfl, h0, h1, h2, h3⟩ u hu; simp at hu; rcases hu with rfl | rfl | rfl | rfl <;> first | rfl | exact Vb.one rfl (by assumption)
  agree := by rintro w w' F cs x ⟨v0, rfl, h0, h1, h2, h3⟩ ha; exact ⟨v0, rfl, h0.agree ha, h1, h2, h3⟩
  mono := by rintro w F G cs x ⟨v0, rfl, h0, h1, h2, h3⟩ ha; exact ⟨v0, rfl, h0.mono ha, h1, h2, h3⟩
end
section
open Go Go.RowKit
attribute [local irreducible] ewp owp hwp hwq hws Ev Evg Fn retPost loud loudS Res1
def exts (n : Nat) (s : List Int) : List (List Int) := (List.range n).map fun x : Nat => s ++ [(x : Int)]
def grows (out : List (List Int)) (k : Int) : List (List Int) := out.flatMap (exts k.toNat)
def statesL (vars : List Int) : List (List Int) := vars.foldl grows [[]]
theorem statesL_step {vars : List Int} {k : Nat} {n : Int} (h : vars[k]? = some n) : statesL (vars.take (k + 1)) = grows (statesL (vars.take k)) n := by
  unfold statesL
  rw [List.take_add_one, h, List.foldl_append]; rfl
theorem exts_step (n : Nat) (s : List Int) : exts (n + 1) s = exts n s ++ [s ++ [(n : Int)]] := by unfold exts; rw [List.range_succ]; simp
theorem exts_len (n : Nat) (s : List Int) : (exts n s).length = n := by simp [exts]
theorem grows_len (n : Nat) : ∀ l : List (List Int), (l.flatMap (exts n)).length = l.length * n
  | [] => by simp
  | s :: l => by rw [List.flatMap_cons, List.length_append, exts_len, grows_len n l, List.length_cons, Nat.add_mul]; omega
theorem flat_step {α β : Type} (f : α → List β) {l : List α} {k : Nat} {x : α} (h : l[k]? = some x) : (l.take (k + 1)).flatMap f = (l.take k).flatMap f ++ f x := by
  rw [List.take_add_one, h]; simp
theorem statesL_mem (vars : List Int) : ∀ (k : Nat), k ≤ vars.length → ∀ s ∈ statesL (vars.take k), s.length = k := by
  intro k
  induction k with
  | zero => intro _ s hs; simp [statesL] at hs; simp [hs]
  | succ k ih =>
    intro hk s hs
    obtain ⟨n, hn⟩ : ∃ n, vars[k]? = some n := ⟨vars[k], List.getElem?_eq_getElem (by omega)⟩
    rw [statesL_step hn] at hs
    obtain ⟨s', h1, h2⟩ := List.mem_flatMap.1 hs
    obtain ⟨x, _, rfl⟩ := List.mem_map.1 h2
    simp [ih (by omega) s' h1]
end
section
open Go Go.RowKit
def prodV : List Int → Nat → Nat
  | [], n => n
  | k :: r, n => prodV r (n * k.toNat)
theorem foldl_grows_len : ∀ (vars : List Int) (out : List (List Int)), (vars.foldl grows out).length = prodV vars out.length
  | [], _ => rfl
  | k :: r, out => by
    simp only [List.foldl_cons, prodV]
    rw [foldl_grows_len r, grows, grows_len]
theorem statesL_len (vars : List Int) : (statesL vars).length = prodV vars 1 := foldl_grows_len vars [[]]
theorem many_prod {most : Nat} : ∀ (vars : List Int) (n : Nat), (∀ x ∈ vars, 1 ≤ x) → 1 ≤ n → manyF most vars (n : Int) ≤ most → ∀ k, prodV (vars.take k) n ≤ most
  | [], n, _, _, h, k => by simp only [List.take_nil, prodV]; simp only [manyF] at h; omega
  | x :: r, n, hx, hn, h, k => by
    have h1 : 1 ≤ x := hx x List.mem_cons_self
    simp only [manyF] at h
    have hmax : max x 0 = x := by omega
    rw [hmax] at h
    obtain ⟨m, rfl⟩ : ∃ m : Nat, x = (m : Int) := ⟨x.toNat, by omega⟩
    by_cases hm : (m : Int) ≤ most
    · rw [show min (m : Int) (most + 1) = (m : Int) from by omega, ← Int.natCast_mul] at h
      have hnm : n ≤ n * m := Nat.le_mul_of_pos_right n (by omega)
      by_cases hc : (most : Int) < ((n * m : Nat) : Int)
      · rw [if_pos hc] at h; omega
      · rw [if_neg hc] at h
        cases k with
        | zero => simp only [List.take_zero, prodV]; omega
        | succ k =>
          simp only [List.take_succ_cons, prodV, Int.toNat_natCast]
          exact many_prod r (n * m) (fun y hy => hx y (List.mem_cons_of_mem _ hy)) (by omega) h k
    · exfalso
      rw [show min (m : Int) (most + 1) = ((most + 1 : Nat) : Int) from by omega, ← Int.natCast_mul] at h
      have : most + 1 ≤ n * (most + 1) := Nat.le_mul_of_pos_left _ hn
      rw [if_pos (by omega)] at h
      omega
theorem stateOk_cons {y x : Int} {vs s : List Int} : StateOk (y :: vs) (x :: s) ↔ (0 ≤ x ∧ x < y) ∧ StateOk vs s := by
  constructor
  · intro h
    exact ⟨h.2 0 x y rfl rfl, by have := h.1; simpa using this, fun i a b ha hb => h.2 (i + 1) a b (by simpa using ha) (by simpa using hb)⟩
  · rintro ⟨h1, h2, h3⟩
    refine ⟨by simpa using h2, fun i a b ha hb => ?_⟩
    cases i with
    | zero => simp at ha hb; subst ha; subst hb; exact h1
    | succ i => exact h3 i a b (by simpa using ha) (by simpa using hb)
theorem stateOk_nil : StateOk [] [] := ⟨rfl, fun i a b ha => by simp at ha⟩
theorem mem_exts {n : Nat} {s t : List Int} : t ∈ exts n s ↔ ∃ x : Nat, x < n ∧ t = s ++ [(x : Int)] := by
  unfold exts
  rw [List.mem_map]
  constructor
  · rintro ⟨x, hx, rfl⟩; exact ⟨x, List.mem_range.1 hx, rfl⟩
  · rintro ⟨x, hx, rfl⟩; exact ⟨x, List.mem_range.2 hx, rfl⟩
theorem mem_foldl_grows : ∀ (vars : List Int) (out : List (List Int)) (s : List Int), s ∈ vars.foldl grows out ↔ ∃ s0 ∈ out, ∃ r, s = s0 ++ r ∧ StateOk vars r
  | [], out, s => by
    constructor
    · intro h; exact ⟨s, h, [], by simp, stateOk_nil⟩
    · rintro ⟨s0, h, r, rfl, hr⟩
      have : r = [] := List.eq_nil_of_length_eq_zero hr.1
      subst this; simpa using h
  | k :: vs, out, s => by
    simp only [List.foldl_cons]
    rw [mem_foldl_grows vs (grows out k) s]
    constructor
    · rintro ⟨s1, h1, r, rfl, hr⟩
      obtain ⟨s0, h0, h2⟩ := List.mem_flatMap.1 h1
      obtain ⟨x, hx, rfl⟩ := mem_exts.1 h2
      exact ⟨s0, h0, (x : Int) :: r, by simp, stateOk_cons.2 ⟨⟨by omega, by omega⟩, hr⟩⟩
    · rintro ⟨s0, h0, r, rfl, hr⟩
      cases r with
      | nil => have := hr.1; simp at this
      | cons x r =>
        obtain ⟨⟨h1, h2⟩, h3⟩ := stateOk_cons.1 hr
        exact ⟨s0 ++ [x], List.mem_flatMap.2 ⟨s0, h0, mem_exts.2 ⟨x.toNat, by omega, by rw [show ((x.toNat : Nat) : Int) = x from by omega]⟩⟩, r, by simp, h3⟩
theorem mem_statesL {vars s : List Int} : s ∈ statesL vars ↔ StateOk vars s := by
  unfold statesL
  rw [mem_foldl_grows]
  constructor
  · rintro ⟨s0, h0, r, rfl, hr⟩
    have : s0 = [] := by simpa using h0
    subst this; exact hr
  · intro h; exact ⟨[], by simp, s, rfl, h⟩
theorem SmallOk.ok {t : Tsk} (h : SmallOk t) : TaskOk t := h.2.2.2.1
theorem SmallOk.states {t : Tsk} (h : SmallOk t) : ∀ k, (statesL (t.vars.take k)).length ≤ 512 := fun k => by
  rw [statesL_len]
  refine many_prod (most := 512) t.vars 1 (fun x hx => ?_) (Nat.le_refl _) h.2.2.2.2 k
  obtain ⟨i, hi, rfl⟩ := List.getElem_of_mem hx
  exact (h.ok.vars i _ (List.getElem?_eq_getElem hi)).1
theorem SmallOk.many {t : Tsk} (h : SmallOk t) : (statesL t.vars).length ≤ 512 := by
  have := h.states t.vars.length
  rwa [List.take_length] at this
end
section
open Go Go.RowKit
attribute [local irreducible] ewp owp hwp hwq hws Ev Evg Fn retPost loud loudS Res1
structure Edg where
  src : Int
  op : Int
  dst : Int
instance : Rp Edg where
  isAgg := true
  size := 3
  R w F cs x := cs = [.int .i64 x.src, .int .i64 x.op, .int .i64 x.dst] ∧ inI64 x.src ∧ inI64 x.op ∧ inI64 x.dst
  len := by rintro w F cs x ⟨rfl, h0, h1, h2⟩; rfl
  one := by rintro w F cs x ⟨rfl, h0, h1, h2⟩ u hu; simp at hu; rcases hu with rfl | rfl | rfl <;> first | rfl | exact Vb.one rfl (by assumption)
  agree := by rintro w w' F cs x ⟨rfl, h0, h1, h2⟩ ha; exact ⟨rfl, h0, h1, h2⟩
  mono := by rintro w F G cs x ⟨rfl, h0, h1, h2⟩ ha; exact ⟨rfl, h0, h1, h2⟩
noncomputable def m_base_States (x0 : List Int) : Option (List (List Int)) :=
  bnd (rng (ρ := (List (List Int))) (fun (k24 : Nat) (a25 : Int) (s22 : (List (List Int))) => bnd (rng (ρ := Ctl (List (List Int)) (List (List Int))) (fun (k53 : Nat) (a54 : List Int) (s51 : (List (List Int))) => bnd (natI a25) fun N92 => bnd (rngN (ρ := Ctl (List (List Int)) (Ctl (List (List Int)) (List (List Int)))) (fun (k83 : Nat) (s81 : (List (List Int))) => bnd (appI 8 ([] : List Int) a54) fun u104 => bnd (appI 8 u104 [(k83 : Int)]) fun u115 => bnd (appI 24 s81 [u115]) fun u129 => some (.next u129)) N92 s51) fun res79 => fin res79 fun (s145 : (List (List Int))) => some (.next s145)) s22 0 ([] : List (List Int))) fun res49 => fin res49 fun (s151 : (List (List Int))) => some (.next s151)) x0 0 [([] : List Int)]) fun res20 => fin res20 fun (s159 : (List (List Int))) => some s159
theorem c_base_States {w : World} {A : Nat → Prop} (hA : ∀ k, A k → k < w.heap.size) {vx0 : Value} {x0 : List Int} (hx0 : Vb w A vx0 x0) {r : (List (List Int))} (hm : m_base_States x0 = some r) :
    Fn Try.prog 45 [vx0] w fun v w' => Ext w w' ∧ Vb w' (upA A w w') v r := by
 obtain ⟨O, hB, hA0⟩ := enter hA
 replace hx0 := hx0.mono hA0
 obtain ⟨A2, c3, rfl⟩ := hx0.form
 refine fn_enter Try.func45 rfl Try.ntmps45 rfl ?_
 unfold m_base_States at hm
 refine ewp_seq (ewp_region (o_as rfl rfl (o_z ?_)))
 refine ewp_seq (ewp_region (l_bslice 2 (by decide) O (xs := (([] : List Int) : List Int)) rfl rfl rfl rfl trivial (by decide) (by decide) rfl fun g4 w5 O6 S7 h8 => ?_))
 obtain ⟨O10, S11, h8⟩ := h8.freeze
 refine l_bslice 3 (by decide) O10 (xs := ([([] : List Int)] : List (List Int))) rfl rfl rfl rfl ⟨h8, trivial⟩ (by decide) (by decide) rfl fun g12 w13 O14 S15 h16 => ?_
 refine o_as rfl rfl (o_z ?_)
 refine ewp_seq (ewp_seq (ewp_region (o_mv rfl rfl (o_ln rfl rfl ?_))))
 replace hx0 := ((hx0.st S7).st S11).st S15
 have l19 : x0.length ≤ 9223372036854775807 := Nat.le_trans hx0.len.2.1 hx0.len.2.2
 have r18 : inI64 (x0.length : Int) := rngNat l19
 refine o_mv rfl rfl (o_z ?_)
 obtain ⟨res20, hL21, hm⟩ := bs hm
 refine ewp_join (aft res20 (fun (s22 : (List (List Int))) (x23 : (Option Addr × Nat)) => [(3, (.slice x23.1 s22.length x23.2))]) (fun s22 x23 w' => ∃ O' : Lab, Bs w A w' O' ∧ Vb w' (Fr 0 w' O') (.slice x23.1 s22.length x23.2) s22)) ?_ ?_
 ·
  refine ewp_block ?_
  obtain ⟨O37, S38, h16⟩ := h16.freeze
  replace hB := (((hB.st S7).st S11).st S15).st S38
  replace hx0 := hx0.st S38
  refine ewp_rng (σ := (List (List Int))) (X := (Option Addr × Nat)) (x0.length) hL21 rfl l19 (fun (s22 : (List (List Int))) (x23 : (Option Addr × Nat)) => [(3, (.slice x23.1 s22.length x23.2)), (12, (.slice A2 x0.length c3))]) _ (fun s22 x23 w' => ∃ O' : Lab, Bs w A w' O' ∧ Vb w' (Fr 0 w' O') (.slice x23.1 s22.length x23.2) s22 ∧ Vb w' (Fr 0 w' O') (.slice A2 x0.length c3) x0) _ ((some ⟨g12, 0, none⟩), 1) ⟨O37, hB, h16, hx0⟩ ⟨rfl, rfl, rfl, rfl, trivial⟩ (fun _ _ => ⟨rfl, rfl⟩) (fun _ _ => ⟨rfl, trivial⟩) (fun _ _ _ ⟨O', hB, h36, hx0⟩ => ⟨O', hB, h36⟩) ⟨rfl, rfl, rfl⟩ ⟨rfl, rfl⟩ ?_
  rintro k24 a25 s22 x23 w26 cc28 hx29 ⟨O27, hB, h36, hx0⟩ hf30 hret31 hbrk32
  have rk24 : inI64 (k24 : Int) := rngK hx29 l19
  refine ewp_seq (ewp_region ?_)
  obtain ⟨b39, o40, ce41, hA42, hl43, hd44, rfl, r46⟩ := hx0.elem' hx29
  refine o_iaE (hA := hA42) (hj := rfl) (hlt := hl43) rfl rfl rfl ?_
  refine o_ld (hc := cat0 hd44) rfl rfl ?_
  refine o_as rfl rfl (o_z ?_)
  refine ewp_seq (ewp_region (o_as rfl rfl (o_z ?_)))
  refine ewp_seq (ewp_seq (ewp_region (o_mv rfl rfl (o_ln rfl rfl ?_))))
  have l48 : s22.length ≤ 9223372036854775807 := Nat.le_trans h36.len.2.1 h36.len.2.2
  have r47 : inI64 (s22.length : Int) := rngNat l48
  refine o_mv rfl rfl (o_z ?_)
  obtain ⟨res49, hL50, hf30⟩ := bs hf30
  refine ewp_join (aft res49 (fun (s51 : (List (List Int))) (x52 : (Option Addr × Nat)) => [(6, (.slice x52.1 s51.length x52.2)), (12, (.slice A2 x0.length c3)), (13, (.int .i64 (x0.length : Int))), (14, (.int .i64 (k24 : Int)))]) (fun s51 x52 w' => ∃ O' : Lab, Bs w A w' O' ∧ Rw 5 w' O' 22 (.slice x52.1 s51.length x52.2) s51 ∧ Vb w' (Fr 0 w' O') (.slice A2 x0.length c3) x0)) ?_ ?_
  ·
   refine ewp_block (ewp_rng (σ := (List (List Int))) (X := (Option Addr × Nat)) (s22.length) hL50 rfl l48 (fun (s51 : (List (List Int))) (x52 : (Option Addr × Nat)) => [(5, (.int .i64 a25)), (6, (.slice x52.1 s51.length x52.2)), (12, (.slice A2 x0.length c3)), (13, (.int .i64 (x0.length : Int))), (14, (.int .i64 (k24 : Int))), (18, (.slice x23.1 s22.length x23.2))]) _ (fun s51 x52 w' => ∃ O' : Lab, Bs w A w' O' ∧ Rw 5 w' O' 22 (.slice x52.1 s51.length x52.2) s51 ∧ Vb w' (Fr 0 w' O') (.slice A2 x0.length c3) x0 ∧ Vb w' (Fr 0 w' O') (.slice x23.1 s22.length x23.2) s22) _ (none, 0) ⟨O27, hB, (Rw.nil 5 (by decide)), hx0, h36⟩ ⟨rfl, rfl, rfl, rfl, rfl, rfl, rfl, rfl, trivial⟩ (fun _ _ => ⟨rfl, rfl⟩) (fun _ _ => ⟨rfl, rfl, rfl, rfl, trivial⟩) (fun _ _ _ ⟨O', hB, h66, hx0, h36⟩ => ⟨O', hB, h66, hx0⟩) ⟨rfl, rfl, rfl⟩ ⟨rfl, rfl⟩ ?_)
   rintro k53 a54 s51 x52 w55 cc57 hx58 ⟨O56, hB, h66, hx0, h36⟩ hf59 hret60 hbrk61
   have rk53 : inI64 (k53 : Int) := rngK hx58 l48
   refine ewp_seq (ewp_region ?_)
   obtain ⟨b68, o69, ce70, hA71, hl72, hd73, v75, rfl, h76⟩ := h36.elem' hx58
   replace h76 := Vb.of_slice h76
   obtain ⟨A77, c78, rfl⟩ := h76.form
   refine o_iaE (hA := hA71) (hj := rfl) (hlt := hl72) rfl rfl rfl ?_
   refine o_ld (hc := cat0 hd73) rfl rfl ?_
   refine o_as rfl rfl (o_z ?_)
   refine ewp_seq (ewp_region (o_mv rfl rfl (o_mv rfl rfl (o_z ?_))))
   obtain ⟨N92, hN93, hf59⟩ := bs hf59
   replace hN93 := natI_some hN93
   obtain ⟨res79, hL80, hf59⟩ := bs hf59
   refine ewp_join (aft res79 (fun (s81 : (List (List Int))) (x82 : (Option Addr × Nat)) => [(5, (.int .i64 a25)), (6, (.slice x82.1 s81.length x82.2)), (12, (.slice A2 x0.length c3)), (13, (.int .i64 (x0.length : Int))), (14, (.int .i64 (k24 : Int))), (18, (.slice x23.1 s22.length x23.2)), (19, (.int .i64 (s22.length : Int))), (20, (.int .i64 (k53 : Int)))]) (fun s81 x82 w' => ∃ O' : Lab, Bs w A w' O' ∧ Rw 5 w' O' 22 (.slice x82.1 s81.length x82.2) s81 ∧ Vb w' (Fr 0 w' O') (.slice A2 x0.length c3) x0 ∧ Vb w' (Fr 0 w' O') (.slice x23.1 s22.length x23.2) s22)) ?_ ?_
   ·
    refine ewp_block (ewp_rngN (σ := (List (List Int))) (X := (Option Addr × Nat)) N92 hL80 (natI_le hN93 r46) (fun (s81 : (List (List Int))) (x82 : (Option Addr × Nat)) => [(5, (.int .i64 a25)), (6, (.slice x82.1 s81.length x82.2)), (8, (.slice A77 a54.length c78)), (12, (.slice A2 x0.length c3)), (13, (.int .i64 (x0.length : Int))), (14, (.int .i64 (k24 : Int))), (18, (.slice x23.1 s22.length x23.2)), (19, (.int .i64 (s22.length : Int))), (20, (.int .i64 (k53 : Int)))]) _ (fun s81 x82 w' => ∃ O' : Lab, Bs w A w' O' ∧ Rw 5 w' O' 22 (.slice x82.1 s81.length x82.2) s81 ∧ Vb w' (Fr 0 w' O') (.slice A77 a54.length c78) a54 ∧ Vb w' (Fr 0 w' O') (.slice A2 x0.length c3) x0 ∧ Vb w' (Fr 0 w' O') (.slice x23.1 s22.length x23.2) s22) _ (x52.1, x52.2) ⟨O56, hB, h66, h76, hx0, h36⟩ ⟨rfl, (congrArg (fun z => some (Value.int .i64 z)) hN93), rfl, rfl, rfl, rfl, rfl, rfl, rfl, rfl, rfl, trivial⟩ (fun _ _ => ⟨rfl, rfl⟩) (fun _ _ => ⟨rfl, rfl, rfl, rfl, rfl, rfl, rfl, rfl, trivial⟩) (fun _ _ _ ⟨O', hB, h96, h76, hx0, h36⟩ => ⟨O', hB, h96, hx0, h36⟩) ⟨rfl, rfl, rfl⟩ ⟨rfl, rfl⟩ ?_)
    rintro k83 s81 x82 w85 cc87 hx88 ⟨O86, hB, h96, h76, hx0, h36⟩ hf89 hret90 hbrk91
    have rk83 : inI64 (k83 : Int) := rngKN hx88 (natI_le hN93 r46)
    refine ewp_seq (ewp_region (o_mv rfl rfl (o_as rfl rfl (o_z ?_))))
    refine ewp_region (o_mv rfl rfl (l_bslice 4 (by decide) O86 (xs := (([] : List Int) : List Int)) rfl rfl rfl rfl trivial (by decide) (by decide) rfl fun g98 w99 O100 S101 h102 => ?_))
    refine o_mv rfl rfl ?_
    obtain ⟨u104, e105, hf89⟩ := bs hf89
    obtain ⟨e105, e106, e107⟩ := appI_some e105
    replace h76 := h76.st S101
    refine l_append rfl h102 (h76.rd) rfl rfl (by decide) e106 e107 rfl fun A108 c109 w110 O111 S112 h113 => ?_
    rw [← e105] at h113 ⊢
    refine o_mv rfl rfl ?_
    obtain ⟨u115, e116, hf89⟩ := bs hf89
    obtain ⟨e116, e117, e118⟩ := appI_some e116
    refine l_append1 rfl (a := (k83 : Int)) h113 (vInt rk83) (fun _ => rfl) rfl (by decide) (by decide) e117 e118 ⟨rfl, rfl⟩ fun g119 A120 c121 w122 O123 S124 h125 => ?_
    rw [← e116] at h125 ⊢
    obtain ⟨O127, S128, h125⟩ := h125.freeze
    obtain ⟨u129, e130, hf89⟩ := bs hf89
    obtain ⟨e130, e131, e132⟩ := appI_some e130
    replace h96 := (((h96.st S101).st S112).st S124).st S128
    refine l_append1 rfl (a := u115) h96 h125 (fun _ => rfl) rfl (by decide) (by decide) e131 e132 ⟨rfl, rfl⟩ fun g133 A134 c135 w136 O137 S138 h139 => ?_
    rw [← e130] at h139 ⊢
    refine o_as rfl rfl (o_z ?_)
    obtain rfl := sm hf89
    refine (?_ : Exists _)
    replace hx0 := ((((hx0.st S101).st S112).st S124).st S128).st S138
    replace hB := ((((hB.st S101).st S112).st S124).st S128).st S138
    replace h36 := ((((h36.st S101).st S112).st S124).st S128).st S138
    replace h76 := (((h76.st S112).st S124).st S128).st S138
    exact ⟨_, (A134, c135), rfl, ⟨rfl, rfl, rfl, rfl, rfl, rfl, rfl, rfl, rfl, rfl, rfl, trivial⟩, _, hB, h139, h76, hx0, h36⟩
   rintro l141 w142 ⟨s145, x146, rfl, hs144, O143, hB, h96, hx0, h36⟩
   replace hf59 := fin_done hf59
   obtain rfl := sm hf59
   refine (?_ : Exists _)
   exact ⟨_, (x146.1, x146.2), rfl, ⟨(subs_lk hs144 _ _ rfl), (subs_lk hs144 _ _ rfl), (subs_lk hs144 _ _ rfl), (subs_lk hs144 _ _ rfl), (subs_lk hs144 _ _ rfl), (subs_lk hs144 _ _ rfl), (subs_lk hs144 _ _ rfl), (subs_lk hs144 _ _ rfl), trivial⟩, _, hB, h96, hx0, h36⟩
  rintro l147 w148 ⟨s151, x152, rfl, hs150, O149, hB, h66, hx0⟩
  replace hf30 := fin_done hf30
  refine ewp_sub _ hs150 ?_
  refine ewp_region (o_mv rfl rfl (o_as rfl rfl (o_z ?_)))
  obtain ⟨O153, S154, h66⟩ := h66.freeze
  obtain rfl := sm hf30
  refine (?_ : Exists _)
  replace hB := hB.st S154
  replace hx0 := hx0.st S154
  exact ⟨_, (x152.1, x152.2), rfl, ⟨rfl, rfl, rfl, rfl, trivial⟩, _, hB, h66, hx0⟩
 replace hB := ((hB.st S7).st S11).st S15
 rintro l155 w156 ⟨s159, x160, rfl, hs158, O157, hB, h36⟩
 replace hm := fin_done hm
 refine ewp_sub _ hs158 ?_
 refine ewp_seq (ewp_region (o_mv rfl rfl (o_as rfl rfl (o_z ?_))))
 refine ewp_ret ?_
 obtain rfl := sm hm
 exact ret1v rfl (res_tmp rfl) ⟨hB.ext, (Vb.mono (F := Fr 0 w156 O157) h36 hB.out)⟩
noncomputable def m_base_Apply (x0 : Tsk) (x1 : List Int) (x2 : Int) : Option ((List Int) × Bool) :=
  bnd (if x2 < 0 then (some true) else (if (x0.ops.length : Int) ≤ x2 then (some true) else (bnd (atI x0.ops x2) fun a36 => bnd (m_base_Holds a36.pre x1) fun q57 => if q57 = true then some false else some true)) : Option Bool) fun y28 => if y28 = true then (some (([] : List Int), false)) else (bnd (appI 8 ([] : List Int) x1) fun u75 => bnd (atI x0.ops x2) fun a86 => bnd (rng (ρ := (List Int) × Bool) (fun (k113 : Nat) (a114 : Eff) (s111 : (List Int)) => bnd (m_base_Holds a114.cond x1) fun q148 => if q148 = true then bnd (atI s111 a114.var) fun a155 => some (.next (s111.set (a114.var : Int).toNat a114.val)) else some (.next s111)) a86.effs 0 u75) fun res109 => fin res109 fun (s173 : (List Int)) => some (s173, true))
theorem c_base_Apply {w : World} {A : Nat → Prop} (hA : ∀ k, A k → k < w.heap.size) {vx0 : Value} {x0 : Tsk} (hx0 : Vb w A vx0 x0) {vx1 : Value} {x1 : List Int} (hx1 : Vb w A vx1 x1) {x2 : Int} (rx2 : inI64 x2) {r : (List Int) × Bool} (hm : m_base_Apply x0 x1 x2 = some r) :
    Fn Try.prog 19 [vx0, vx1, (.int .i64 x2)] w fun v w' => Ext w w' ∧ T2 w' (upA A w w') v r := by
 obtain ⟨O, hB, hA0⟩ := enter hA
 replace hx0 := hx0.mono hA0
 obtain ⟨cs4, rfl, v5, v6, v7, v8, rfl, h9, h12, h15, h18⟩ := hx0
 obtain ⟨A10, c11, rfl⟩ := h9.form
 obtain ⟨A13, c14, rfl⟩ := h12.form
 obtain ⟨A16, c17, rfl⟩ := h15.form
 obtain ⟨A19, c20, rfl⟩ := h18.form
 replace hx1 := hx1.mono hA0
 obtain ⟨A21, c22, rfl⟩ := hx1.form
 refine fn_enter Try.func19 rfl Try.ntmps19 rfl ?_
 unfold m_base_Apply at hm
 refine ewp_seq (ewp_region (l_box 2 O rfl rfl fun g23 w24 O25 S26 h27 => ?_))
 replace h27 : Lc 2 w24 O25 g23 26 [(.slice A10 x0.vars.length c11), (.slice A13 x0.init.length c14), (.slice A16 x0.goal.length c17), (.slice A19 x0.ops.length c20)] := h27
 refine o_as rfl rfl (o_as rfl rfl (o_z ?_))
 refine ewp_seq (ewp_seq ?_)
 obtain ⟨y28, hy29, hm⟩ := bs hm
 refine ewp_join (fun l' w' => ∃ (x31 : Unit) (O' : Lab), subs l' [(1, (.slice A21 x1.length c22)), (2, (.int .i64 x2)), (3, (.pointer (some ⟨g23, 0, none⟩))), (30, (.bool y28))] ∧ Bs w A w' O' ∧ Vb w' (Fr 0 w' O') (.slice A21 x1.length c22) x1 ∧ Lc 2 w' O' g23 26 [(.slice A10 x0.vars.length c11), (.slice A13 x0.init.length c14), (.slice A16 x0.goal.length c17), (.slice A19 x0.ops.length c20)] ∧ Vb w' (Fr 0 w' O') (.slice A10 x0.vars.length c11) x0.vars ∧ Vb w' (Fr 0 w' O') (.slice A13 x0.init.length c14) x0.init ∧ Vb w' (Fr 0 w' O') (.slice A16 x0.goal.length c17) x0.goal ∧ Vb w' (Fr 0 w' O') (.slice A19 x0.ops.length c20) x0.ops) ?_ ?_
 ·
  refine ewp_region (o_mv rfl rfl (o_ltS rfl rfl rfl (fun c32 => ?_) fun c32 => ?_))
  ·
   replace hy29 := ip hy29 c32
   refine o_mv rfl rfl (owp_no rfl rfl rfl rfl (owp_no rfl rfl rfl rfl (owp_no rfl rfl rfl rfl (owp_no rfl rfl rfl rfl (owp_no rfl rfl rfl rfl (o_pt rfl rfl rfl (o_mv rfl rfl (owp_no rfl rfl rfl rfl (owp_no rfl rfl rfl rfl (owp_no rfl rfl rfl rfl (owp_no rfl rfl rfl rfl (owp_no rfl rfl rfl rfl (owp_no rfl rfl rfl rfl (owp_no rfl rfl rfl rfl ?_))))))))))))))
   refine owp_no rfl rfl rfl rfl (owp_no rfl rfl rfl rfl (o_pt rfl rfl rfl (o_z ?_)))
   obtain rfl := sm hy29
   replace hB := hB.st S26
   replace hx1 := hx1.st S26
   replace h9 := h9.st S26
   replace h12 := h12.st S26
   replace h15 := h15.st S26
   replace h18 := h18.st S26
   exact ⟨(), _, ⟨rfl, rfl, rfl, rfl, trivial⟩, hB, hx1, h27, h9, h12, h15, h18⟩
  ·
   replace hy29 := im hy29 c32
   refine o_mv rfl rfl (owp_yes rfl rfl (o_mv rfl rfl (owp_yes rfl rfl (o_fa rfl rfl (owp_yes rfl rfl (o_ld (hc := Blk.cell (i := 3) (h27.1) rfl) rfl rfl ?_))))))
   refine owp_yes rfl rfl (o_ln rfl rfl ?_)
   replace h18 := h18.st S26
   have l34 : x0.ops.length ≤ 9223372036854775807 := Nat.le_trans h18.len.2.1 h18.len.2.2
   have r33 : inI64 (x0.ops.length : Int) := rngNat l34
   refine owp_yes rfl rfl (o_geS rfl rfl rfl (fun c35 => ?_) fun c35 => ?_)
   ·
    replace hy29 := ip hy29 c35
    refine o_pf rfl rfl rfl (o_mv rfl rfl (owp_no rfl rfl rfl rfl (owp_no rfl rfl rfl rfl (owp_no rfl rfl rfl rfl (owp_no rfl rfl rfl rfl (owp_no rfl rfl rfl rfl (owp_no rfl rfl rfl rfl (owp_no rfl rfl rfl rfl (owp_no rfl rfl rfl rfl (owp_no rfl rfl rfl rfl (o_pt rfl rfl rfl (o_z ?_))))))))))))
    obtain rfl := sm hy29
    replace hB := hB.st S26
    replace hx1 := hx1.st S26
    replace h9 := h9.st S26
    replace h12 := h12.st S26
    replace h15 := h15.st S26
    exact ⟨(), _, ⟨rfl, rfl, rfl, rfl, trivial⟩, hB, hx1, h27, h9, h12, h15, h18⟩
   ·
    replace hy29 := im hy29 c35
    refine o_pf rfl rfl rfl (o_mv rfl rfl (owp_yes rfl rfl (o_fa rfl rfl (owp_yes rfl rfl (o_ld (hc := Blk.cell (i := 3) (h27.1) rfl) rfl rfl ?_)))))
    refine owp_yes rfl rfl (o_mv rfl rfl (owp_yes rfl rfl ?_))
    obtain ⟨a36, e37, hy29⟩ := bs hy29
    obtain ⟨p39, x38⟩ := atI_some' e37
    obtain ⟨b40, o41, ce42, hA43, hl44, hd45, v47, v48, rfl, h49, h52, r55, z56⟩ := h18.elem' x38
    obtain ⟨A50, c51, rfl⟩ := h49.form
    obtain ⟨A53, c54, rfl⟩ := h52.form
    refine o_iaE (hA := hA43) (hj := (Int.toNat_of_nonneg p39).symm) (hlt := hl44) rfl rfl rfl ?_
    refine owp_yes rfl rfl (o_fa rfl rfl (owp_yes rfl rfl (o_ld (hc := cat2 hd45) rfl rfl ?_)))
    refine owp_yes rfl rfl (o_mv rfl rfl (owp_yes rfl rfl ?_))
    obtain ⟨q57, e58, hy29⟩ := bs hy29
    replace hx1 := hx1.st S26
    refine l_callA (O := O25) (A := All w24) (R := fun w' F v => Vb w' F v q57) (c_base_Holds (fun _ h => h) (Vb.mono (F := Fr 0 w24 O25) h49 Fr.lt) (Vb.mono (F := Fr 0 w24 O25) hx1 Fr.lt) e58) rfl rfl fun v63 w59 O60 S61 h62 => ?_
    obtain rfl := h62.bool
    cases q57
    case false =>
     replace hy29 := iF hy29
     refine owp_yes rfl rfl (o_nf rfl rfl (o_pf rfl rfl rfl (o_z ?_)))
     obtain rfl := sm hy29
     replace hB := (hB.st S26).st S61
     replace hx1 := hx1.st S61
     replace h9 := (h9.st S26).st S61
     replace h12 := (h12.st S26).st S61
     replace h15 := (h15.st S26).st S61
     replace h18 := h18.st S61
     replace h27 := h27.st S61
     exact ⟨(), _, ⟨rfl, rfl, rfl, rfl, trivial⟩, hB, hx1, h27, h9, h12, h15, h18⟩
    replace hy29 := iT hy29
    refine owp_yes rfl rfl (o_nt rfl rfl (o_pf rfl rfl rfl (o_z ?_)))
    obtain rfl := sm hy29
    replace hB := (hB.st S26).st S61
    replace hx1 := hx1.st S61
    replace h9 := (h9.st S26).st S61
    replace h12 := (h12.st S26).st S61
    replace h15 := (h15.st S26).st S61
    replace h18 := h18.st S61
    replace h27 := h27.st S61
    exact ⟨(), _, ⟨rfl, rfl, rfl, rfl, trivial⟩, hB, hx1, h27, h9, h12, h15, h18⟩
 replace hB := hB.st S26
 replace hx1 := hx1.st S26
 replace h9 := h9.st S26
 replace h12 := h12.st S26
 replace h15 := h15.st S26
 replace h18 := h18.st S26
 rintro l64 w65 ⟨x31, O66, hs67, hB, hx1, h27, h9, h12, h15, h18⟩
 refine ewp_sub _ hs67 ?_
 refine ewp_cond rfl (fun c68 => ?_) (fun c68 => ?_)
 ·
  replace hm := ip hm c68
  refine ewp_seq (ewp_region (o_as rfl rfl (o_as rfl rfl (o_z ?_))))
  refine ewp_ret ?_
  obtain rfl := sm hm
  exact ret2 rfl (res_tmp rfl) (res_tmp rfl) ⟨hB.ext, _, _, rfl, (Vb.mono (F := Fr 0 w65 O66) (Vb.nil _ _) hB.out), vBool⟩
 ·
  replace hm := im' hm c68
  refine ewp_skip (ewp_seq (ewp_region (l_bslice 3 (by decide) O66 (xs := (([] : List Int) : List Int)) rfl rfl rfl rfl trivial (by decide) (by decide) rfl fun g69 w70 O71 S72 h73 => ?_)))
  refine o_mv rfl rfl ?_
  obtain ⟨u75, e76, hm⟩ := bs hm
  obtain ⟨e76, e77, e78⟩ := appI_some e76
  replace hx1 := hx1.st S72
  refine l_append rfl h73 (hx1.rd) rfl rfl (by decide) e77 e78 rfl fun A79 c80 w81 O82 S83 h84 => ?_
  rw [← e76] at h84 ⊢
  refine o_as rfl rfl (o_z ?_)
  refine ewp_seq (ewp_seq (ewp_region (o_fa rfl rfl ?_)))
  replace h27 := (h27.st S72).st S83
  refine o_ld (hc := Blk.cell (i := 3) (h27.1) rfl) rfl rfl ?_
  refine o_mv rfl rfl ?_
  obtain ⟨a86, e87, hm⟩ := bs hm
  obtain ⟨p89, x88⟩ := atI_some' e87
  replace h18 := (h18.st S72).st S83
  obtain ⟨b90, o91, ce92, hA93, hl94, hd95, v97, v98, rfl, h99, h102, r105, z106⟩ := h18.elem' x88
  obtain ⟨A100, c101, rfl⟩ := h99.form
  obtain ⟨A103, c104, rfl⟩ := h102.form
  refine o_iaE (hA := hA93) (hj := (Int.toNat_of_nonneg p89).symm) (hlt := hl94) rfl rfl rfl ?_
  refine o_fa rfl rfl (o_ld (hc := cat3 hd95) rfl rfl ?_)
  refine o_ln rfl rfl ?_
  have l108 : a86.effs.length ≤ 9223372036854775807 := Nat.le_trans h102.len.2.1 h102.len.2.2
  have r107 : inI64 (a86.effs.length : Int) := rngNat l108
  refine o_mv rfl rfl (o_z ?_)
  obtain ⟨res109, hL110, hm⟩ := bs hm
  refine ewp_join (aft res109 (fun (s111 : (List Int)) (x112 : Unit) => [(8, (.slice A79 u75.length c80))]) (fun s111 x112 w' => ∃ O' : Lab, Bs w A w' O' ∧ Rw 3 w' O' 3 (.slice A79 u75.length c80) s111)) ?_ ?_
  ·
   refine ewp_block ?_
   replace hB := (hB.st S72).st S83
   replace hx1 := hx1.st S83
   refine ewp_rng (σ := (List Int)) (X := Unit) (a86.effs.length) hL110 rfl l108 (fun (s111 : (List Int)) (x112 : Unit) => [(1, (.slice A21 x1.length c22)), (8, (.slice A79 u75.length c80)), (39, (.slice A103 a86.effs.length c104))]) _ (fun s111 x112 w' => ∃ O' : Lab, Bs w A w' O' ∧ Vb w' (Fr 0 w' O') (.slice A21 x1.length c22) x1 ∧ Rw 3 w' O' 3 (.slice A79 u75.length c80) s111 ∧ Vb w' (Fr 0 w' O') (.slice A103 a86.effs.length c104) a86.effs) _ () ⟨O82, hB, hx1, h84, h102⟩ ⟨rfl, rfl, rfl, rfl, rfl, trivial⟩ (fun _ _ => ⟨rfl, rfl⟩) (fun _ _ => ⟨rfl, trivial⟩) (fun _ _ _ ⟨O', hB, hx1, h126, h102⟩ => ⟨O', hB, h126⟩) ⟨rfl, rfl, rfl⟩ ⟨rfl, rfl⟩ ?_
   rintro k113 a114 s111 x112 w115 cc117 hx118 ⟨O116, hB, hx1, h126, h102⟩ hf119 hret120 hbrk121
   have rk113 : inI64 (k113 : Int) := rngK hx118 l108
   refine ewp_seq (ewp_region ?_)
   obtain ⟨b128, o129, ce130, hA131, hl132, hd133, v135, rfl, h136, r139, r140⟩ := h102.elem' hx118
   obtain ⟨A137, c138, rfl⟩ := h136.form
   refine o_iaE (hA := hA131) (hj := rfl) (hlt := hl132) rfl rfl rfl ?_
   refine o_la (hl := rfl) (hc := hd133) rfl rfl ?_
   refine l_alloc 4 O116 rfl fun g141 w142 O143 S144 h145 => ?_
   refine l_store h145 rfl rfl rfl (Nat.le_of_ble_eq_true rfl) (by first | exact allOne rfl | simp [Value.cells, Value.oneCell', errV_one]) fun w146 S147 h145 => ?_
   replace h145 : Lc 4 w146 O143 g141 59 [(.slice A137 a114.cond.length c138), (.int .i64 a114.var), (.int .i64 a114.val)] := h145
   refine o_z ?_
   refine ewp_seq (ewp_region (o_fa rfl rfl (o_ld (hc := Blk.cell (i := 0) (h145.1) rfl) rfl rfl ?_)))
   refine o_mv rfl rfl ?_
   obtain ⟨q148, e149, hf119⟩ := bs hf119
   replace hx1 := (hx1.st S144).st S147
   replace h136 := (h136.st S144).st S147
   refine l_callA (O := O143) (A := All w146) (R := fun w' F v => Vb w' F v q148) (c_base_Holds (fun _ h => h) (Vb.mono (F := Fr 0 w146 O143) h136 Fr.lt) (Vb.mono (F := Fr 0 w146 O143) hx1 Fr.lt) e149) rfl rfl fun v154 w150 O151 S152 h153 => ?_
   obtain rfl := h153.bool
   cases q148
   case false =>
    replace hf119 := iF hf119
    refine o_z ?_
    refine ewp_false rfl (ewp_skip ?_)
    obtain rfl := sm hf119
    refine (?_ : Exists _)
    replace hB := ((hB.st S144).st S147).st S152
    replace hx1 := hx1.st S152
    replace h102 := ((h102.st S144).st S147).st S152
    replace h126 := ((h126.st S144).st S147).st S152
    exact ⟨_, (), rfl, ⟨rfl, rfl, rfl, rfl, rfl, trivial⟩, _, hB, hx1, h126, h102⟩
   replace hf119 := iT hf119
   refine o_z ?_
   refine ewp_true rfl (ewp_region (o_mv rfl rfl (o_fa rfl rfl ?_)))
   replace h145 := h145.st S152
   refine o_ld (hc := Blk.cell (i := 1) (h145.1) rfl) rfl rfl ?_
   refine o_fa rfl rfl (o_ld (hc := Blk.cell (i := 2) (h145.1) rfl) rfl rfl ?_)
   obtain ⟨a155, e156, hf119⟩ := bs hf119
   obtain ⟨p158, x157⟩ := atI_some' e156
   replace h126 := ((h126.st S144).st S147).st S152
   obtain ⟨b159, o160, ce161, hA162, hl163, hd164, rfl, r166⟩ := h126.elem x157
   refine o_iaE (hA := hA162) (hj := (Int.toNat_of_nonneg p158).symm) (hlt := hl163) rfl rfl rfl ?_
   refine l_setE rfl h126 (a := a114.val) (vInt r140) hA162 rfl rfl (lt_of_get x157) fun w167 S168 h126 => ?_
   refine o_z ?_
   obtain rfl := sm hf119
   refine (?_ : Exists _)
   replace hB := (((hB.st S144).st S147).st S152).st S168
   replace hx1 := (hx1.st S152).st S168
   replace h102 := (((h102.st S144).st S147).st S152).st S168
   exact ⟨_, (), rfl, ⟨rfl, rfl, rfl, rfl, rfl, trivial⟩, _, hB, hx1, h126, h102⟩
  replace hB := (hB.st S72).st S83
  rintro l169 w170 ⟨s173, x174, rfl, hs172, O171, hB, h126⟩
  replace hm := fin_done hm
  refine ewp_sub _ hs172 ?_
  refine ewp_seq (ewp_region (o_mv rfl rfl (o_as rfl rfl (o_as rfl rfl (o_z ?_)))))
  refine ewp_ret ?_
  obtain ⟨O175, S176, h126⟩ := h126.freeze
  obtain rfl := sm hm
  replace hB := hB.st S176
  exact ret2 rfl (res_tmp rfl) (res_tmp rfl) ⟨hB.ext, _, _, rfl, (Vb.mono (F := Fr 0 w170 O175) h126 hB.out), vBool⟩
noncomputable def m_base_Rank (x0 : List Int) (x1 : List Int) : Option Int :=
  bnd (rng (ρ := Int) (fun (k13 : Nat) (a14 : Int) (s11 : Int) => bnd (x0[k13]?) fun a26 => bnd (chkI (s11 * a26)) fun n36 => bnd (chkI (n36 + a14)) fun n47 => some (.next n47)) x1 0 0) fun res9 => fin res9 fun (s54 : Int) => some s54
theorem c_base_Rank {w : World} {A : Nat → Prop} (hA : ∀ k, A k → k < w.heap.size) {vx0 : Value} {x0 : List Int} (hx0 : Vb w A vx0 x0) {vx1 : Value} {x1 : List Int} (hx1 : Vb w A vx1 x1) {r : Int} (hm : m_base_Rank x0 x1 = some r) :
    Fn Try.prog 17 [vx0, vx1] w fun v w' => Ext w w' ∧ Vb w' (upA A w w') v r := by
 obtain ⟨O, hB, hA0⟩ := enter hA
 replace hx0 := hx0.mono hA0
 obtain ⟨A3, c4, rfl⟩ := hx0.form
 replace hx1 := hx1.mono hA0
 obtain ⟨A5, c6, rfl⟩ := hx1.form
 refine fn_enter Try.func17 rfl Try.ntmps17 rfl ?_
 unfold m_base_Rank at hm
 refine ewp_seq (ewp_region (o_as rfl rfl (o_z ?_)))
 refine ewp_seq (ewp_region (o_as rfl rfl (o_z ?_)))
 refine ewp_seq (ewp_seq (ewp_region (o_mv rfl rfl (o_ln rfl rfl ?_))))
 have l8 : x1.length ≤ 9223372036854775807 := Nat.le_trans hx1.len.2.1 hx1.len.2.2
 have r7 : inI64 (x1.length : Int) := rngNat l8
 refine o_mv rfl rfl (o_z ?_)
 obtain ⟨res9, hL10, hm⟩ := bs hm
 refine ewp_join (aft res9 (fun (s11 : Int) (x12 : Unit) => [(5, (.int .i64 s11))]) (fun s11 x12 w' => ∃ O' : Lab, Bs w A w' O' ∧ inI64 s11)) ?_ ?_
 ·
  refine ewp_block (ewp_rng (σ := Int) (X := Unit) (x1.length) hL10 rfl l8 (fun (s11 : Int) (x12 : Unit) => [(0, (.slice A3 x0.length c4)), (1, (.slice A5 x1.length c6)), (5, (.int .i64 s11))]) _ (fun s11 x12 w' => ∃ O' : Lab, Bs w A w' O' ∧ Vb w' (Fr 0 w' O') (.slice A3 x0.length c4) x0 ∧ Vb w' (Fr 0 w' O') (.slice A5 x1.length c6) x1 ∧ inI64 s11) _ () ⟨O, hB, hx0, hx1, (show inI64 (0) from by decide)⟩ ⟨rfl, rfl, rfl, rfl, rfl, trivial⟩ (fun _ _ => ⟨rfl, rfl⟩) (fun _ _ => ⟨rfl, trivial⟩) (fun _ _ _ ⟨O', hB, hx0, hx1, r25⟩ => ⟨O', hB, r25⟩) ⟨rfl, rfl, rfl⟩ ⟨rfl, rfl⟩ ?_)
  rintro k13 a14 s11 x12 w15 cc17 hx18 ⟨O16, hB, hx0, hx1, r25⟩ hf19 hret20 hbrk21
  have rk13 : inI64 (k13 : Int) := rngK hx18 l8
  refine ewp_seq (ewp_region (o_mv rfl rfl (o_as rfl rfl (o_z ?_))))
  refine ewp_draw (· = w15) [(0, true), (1, true), (2, true), (3, true), (4, true), (5, true), (6, true), (7, true), (8, true), (9, true), (10, true), (11, true)] (by kernel_rfl) rfl (by kernel_rfl) rfl ?_
  refine h_mv rfl rfl rfl (h_mv rfl rfl rfl (h_mv rfl rfl rfl ?_))
  obtain ⟨a26, e27, hf19⟩ := bs hf19
  obtain ⟨b28, o29, ce30, hA31, hl32, hd33, rfl, r35⟩ := hx0.elem' e27
  refine h_iaE (hA := hA31) (hj := rfl) (hlt := hl32) rfl rfl rfl rfl ?_
  refine h_ldA (hc := cat0 hd33) rfl rfl rfl ?_
  obtain ⟨n36, e37, hf19⟩ := bs hf19
  have r38 := (chkI_rng e37)
  refine h_mlE (he := e37) rfl rfl rfl rfl ?_
  refine h_mv rfl rfl rfl (h_mv rfl rfl rfl ?_)
  obtain ⟨b39, o40, ce41, hA42, hl43, hd44, rfl, r46⟩ := hx1.elem' hx18
  refine h_iaE (hA := hA42) (hj := rfl) (hlt := hl43) rfl rfl rfl rfl ?_
  refine h_ldA (hc := cat0 hd44) rfl rfl rfl ?_
  obtain ⟨n47, e48, hf19⟩ := bs hf19
  have r49 := (chkI_rng e48)
  refine h_adE (he := e48) rfl rfl rfl rfl ?_
  refine h_as rfl rfl rfl (h_z ?_)
  obtain rfl := sm hf19
  refine (?_ : Exists _)
  exact ⟨_, (), rfl, ⟨rfl, rfl, rfl, rfl, rfl, trivial⟩, _, hB, hx0, hx1, r49⟩
 rintro l50 w51 ⟨s54, x55, rfl, hs53, O52, hB, r25⟩
 replace hm := fin_done hm
 refine ewp_sub _ hs53 ?_
 refine ewp_seq (ewp_region (o_mv rfl rfl (o_as rfl rfl (o_z ?_))))
 refine ewp_ret ?_
 obtain rfl := sm hm
 exact ret1v rfl (res_tmp rfl) ⟨hB.ext, (vInt r25)⟩
noncomputable def m_base_Edges (x0 : Tsk) : Option (List Edg) :=
  bnd (m_base_States x0.vars) fun q24 => bnd (rng (ρ := (List Edg)) (fun (k39 : Nat) (a40 : List Int) (s37 : (List Edg)) => bnd (rng (ρ := Ctl (List Edg) (List Edg)) (fun (k71 : Nat) (a72 : Opr) (s69 : (List Edg)) => bnd (m_base_Apply x0 a40 (k71 : Int)) fun q86 => if q86.2 = true then (bnd (m_base_Rank x0.vars q86.1) fun q100 => bnd (appI 24 s69 [(⟨(k39 : Int), (k71 : Int), q100⟩ : Edg)]) fun u108 => some (.next u108)) else (some (.next s69))) x0.ops 0 s37) fun res67 => fin res67 fun (s124 : (List Edg)) => some (.next s124)) q24 0 ([] : List Edg)) fun res35 => fin res35 fun (s130 : (List Edg)) => some s130
theorem c_base_Edges {w : World} {A : Nat → Prop} (hA : ∀ k, A k → k < w.heap.size) {vx0 : Value} {x0 : Tsk} (hx0 : Vb w A vx0 x0) {r : (List Edg)} (hm : m_base_Edges x0 = some r) :
    Fn Try.prog 46 [vx0] w fun v w' => Ext w w' ∧ Vb w' (upA A w w') v r := by
 obtain ⟨O, hB, hA0⟩ := enter hA
 replace hx0 := hx0.mono hA0
 obtain ⟨cs2, rfl, v3, v4, v5, v6, rfl, h7, h10, h13, h16⟩ := hx0
 obtain ⟨A8, c9, rfl⟩ := h7.form
 obtain ⟨A11, c12, rfl⟩ := h10.form
 obtain ⟨A14, c15, rfl⟩ := h13.form
 obtain ⟨A17, c18, rfl⟩ := h16.form
 refine fn_enter Try.func46 rfl Try.ntmps46 rfl ?_
 unfold m_base_Edges at hm
 refine ewp_seq (ewp_region (l_box 2 O rfl rfl fun g19 w20 O21 S22 h23 => ?_))
 replace h23 : Lc 2 w20 O21 g19 26 [(.slice A8 x0.vars.length c9), (.slice A11 x0.init.length c12), (.slice A14 x0.goal.length c15), (.slice A17 x0.ops.length c18)] := h23
 refine o_as rfl rfl (o_z ?_)
 refine ewp_seq (ewp_region (o_as rfl rfl (o_z ?_)))
 refine ewp_seq (ewp_seq (ewp_region (o_fa rfl rfl (o_ld (hc := Blk.cell (i := 0) (h23.1) rfl) rfl rfl ?_))))
 obtain ⟨q24, e25, hm⟩ := bs hm
 replace h7 := h7.st S22
 refine l_call (O := O21) (R := fun w' F v => Vb w' F v q24) (c_base_States Fr.lt h7 e25) rfl rfl fun v30 w26 O27 S28 h29 => ?_
 obtain ⟨A31, c32, rfl⟩ := h29.form
 refine o_ln rfl rfl ?_
 have l34 : q24.length ≤ 9223372036854775807 := Nat.le_trans h29.len.2.1 h29.len.2.2
 have r33 : inI64 (q24.length : Int) := rngNat l34
 refine o_mv rfl rfl (o_z ?_)
 obtain ⟨res35, hL36, hm⟩ := bs hm
 refine ewp_join (aft res35 (fun (s37 : (List Edg)) (x38 : (Option Addr × Nat)) => [(3, (.slice x38.1 s37.length x38.2))]) (fun s37 x38 w' => ∃ O' : Lab, Bs w A w' O' ∧ Rw 3 w' O' 93 (.slice x38.1 s37.length x38.2) s37)) ?_ ?_
 ·
  refine ewp_block ?_
  replace hB := (hB.st S22).st S28
  replace h7 := h7.st S28
  replace h10 := (h10.st S22).st S28
  replace h13 := (h13.st S22).st S28
  replace h16 := (h16.st S22).st S28
  replace h23 := h23.st S28
  refine ewp_rng (σ := (List Edg)) (X := (Option Addr × Nat)) (q24.length) hL36 rfl l34 (fun (s37 : (List Edg)) (x38 : (Option Addr × Nat)) => [(1, (.pointer (some ⟨g19, 0, none⟩))), (3, (.slice x38.1 s37.length x38.2)), (11, (.slice A31 q24.length c32))]) _ (fun s37 x38 w' => ∃ O' : Lab, Bs w A w' O' ∧ Lc 2 w' O' g19 26 [(.slice A8 x0.vars.length c9), (.slice A11 x0.init.length c12), (.slice A14 x0.goal.length c15), (.slice A17 x0.ops.length c18)] ∧ Vb w' (Fr 0 w' O') (.slice A8 x0.vars.length c9) x0.vars ∧ Vb w' (Fr 0 w' O') (.slice A11 x0.init.length c12) x0.init ∧ Vb w' (Fr 0 w' O') (.slice A14 x0.goal.length c15) x0.goal ∧ Vb w' (Fr 0 w' O') (.slice A17 x0.ops.length c18) x0.ops ∧ Rw 3 w' O' 93 (.slice x38.1 s37.length x38.2) s37 ∧ Vb w' (Fr 0 w' O') (.slice A31 q24.length c32) q24) _ (none, 0) ⟨O27, hB, h23, h7, h10, h13, h16, (Rw.nil 3 (by decide)), h29⟩ ⟨rfl, rfl, rfl, rfl, rfl, trivial⟩ (fun _ _ => ⟨rfl, rfl⟩) (fun _ _ => ⟨rfl, trivial⟩) (fun _ _ _ ⟨O', hB, h23, h7, h10, h13, h16, h52, h29⟩ => ⟨O', hB, h52⟩) ⟨rfl, rfl, rfl⟩ ⟨rfl, rfl⟩ ?_
  rintro k39 a40 s37 x38 w41 cc43 hx44 ⟨O42, hB, h23, h7, h10, h13, h16, h52, h29⟩ hf45 hret46 hbrk47
  have rk39 : inI64 (k39 : Int) := rngK hx44 l34
  refine ewp_seq (ewp_region (o_mv rfl rfl ?_))
  obtain ⟨b54, o55, ce56, hA57, hl58, hd59, v61, rfl, h62⟩ := h29.elem' hx44
  replace h62 := Vb.of_slice h62
  obtain ⟨A63, c64, rfl⟩ := h62.form
  refine o_iaE (hA := hA57) (hj := rfl) (hlt := hl58) rfl rfl rfl ?_
  refine o_ld (hc := cat0 hd59) rfl rfl ?_
  refine o_as rfl rfl (o_as rfl rfl (o_z ?_))
  refine ewp_seq (ewp_region (o_fa rfl rfl (o_ld (hc := Blk.cell (i := 3) (h23.1) rfl) rfl rfl ?_)))
  refine o_ln rfl rfl ?_
  have l66 : x0.ops.length ≤ 9223372036854775807 := Nat.le_trans h16.len.2.1 h16.len.2.2
  have r65 : inI64 (x0.ops.length : Int) := rngNat l66
  refine o_mv rfl rfl (o_z ?_)
  obtain ⟨res67, hL68, hf45⟩ := bs hf45
  refine ewp_join (aft res67 (fun (s69 : (List Edg)) (x70 : (Option Addr × Nat)) => [(1, (.pointer (some ⟨g19, 0, none⟩))), (3, (.slice x70.1 s69.length x70.2)), (11, (.slice A31 q24.length c32)), (12, (.int .i64 (q24.length : Int))), (13, (.int .i64 (k39 : Int)))]) (fun s69 x70 w' => ∃ O' : Lab, Bs w A w' O' ∧ Lc 2 w' O' g19 26 [(.slice A8 x0.vars.length c9), (.slice A11 x0.init.length c12), (.slice A14 x0.goal.length c15), (.slice A17 x0.ops.length c18)] ∧ Vb w' (Fr 0 w' O') (.slice A8 x0.vars.length c9) x0.vars ∧ Vb w' (Fr 0 w' O') (.slice A11 x0.init.length c12) x0.init ∧ Vb w' (Fr 0 w' O') (.slice A14 x0.goal.length c15) x0.goal ∧ Vb w' (Fr 0 w' O') (.slice A17 x0.ops.length c18) x0.ops ∧ Rw 3 w' O' 93 (.slice x70.1 s69.length x70.2) s69 ∧ Vb w' (Fr 0 w' O') (.slice A31 q24.length c32) q24)) ?_ ?_
  ·
   refine ewp_block (ewp_rng (σ := (List Edg)) (X := (Option Addr × Nat)) (x0.ops.length) hL68 rfl l66 (fun (s69 : (List Edg)) (x70 : (Option Addr × Nat)) => [(1, (.pointer (some ⟨g19, 0, none⟩))), (3, (.slice x70.1 s69.length x70.2)), (4, (.int .i64 (k39 : Int))), (5, (.slice A63 a40.length c64)), (11, (.slice A31 q24.length c32)), (12, (.int .i64 (q24.length : Int))), (13, (.int .i64 (k39 : Int)))]) _ (fun s69 x70 w' => ∃ O' : Lab, Bs w A w' O' ∧ Lc 2 w' O' g19 26 [(.slice A8 x0.vars.length c9), (.slice A11 x0.init.length c12), (.slice A14 x0.goal.length c15), (.slice A17 x0.ops.length c18)] ∧ Vb w' (Fr 0 w' O') (.slice A8 x0.vars.length c9) x0.vars ∧ Vb w' (Fr 0 w' O') (.slice A11 x0.init.length c12) x0.init ∧ Vb w' (Fr 0 w' O') (.slice A14 x0.goal.length c15) x0.goal ∧ Vb w' (Fr 0 w' O') (.slice A17 x0.ops.length c18) x0.ops ∧ Rw 3 w' O' 93 (.slice x70.1 s69.length x70.2) s69 ∧ Vb w' (Fr 0 w' O') (.slice A63 a40.length c64) a40 ∧ Vb w' (Fr 0 w' O') (.slice A31 q24.length c32) q24) _ (x38.1, x38.2) ⟨O42, hB, h23, h7, h10, h13, h16, h52, h62, h29⟩ ⟨rfl, rfl, rfl, rfl, rfl, rfl, rfl, rfl, rfl, trivial⟩ (fun _ _ => ⟨rfl, rfl⟩) (fun _ _ => ⟨rfl, rfl, rfl, rfl, rfl, trivial⟩) (fun _ _ _ ⟨O', hB, h23, h7, h10, h13, h16, h84, h62, h29⟩ => ⟨O', hB, h23, h7, h10, h13, h16, h84, h29⟩) ⟨rfl, rfl, rfl⟩ ⟨rfl, rfl⟩ ?_)
   rintro k71 a72 s69 x70 w73 cc75 hx76 ⟨O74, hB, h23, h7, h10, h13, h16, h84, h62, h29⟩ hf77 hret78 hbrk79
   have rk71 : inI64 (k71 : Int) := rngK hx76 l66
   refine ewp_seq (ewp_region (o_mv rfl rfl (o_as rfl rfl (o_z ?_))))
   refine ewp_seq (ewp_region (o_la (hl := rfl) (hc := (h23.1).cellsAt) rfl rfl ?_))
   refine o_mv rfl rfl (o_mv rfl rfl ?_)
   obtain ⟨q86, e87, hf77⟩ := bs hf77
   refine l_call (O := O74) (R := fun w' F v => T2 w' F v q86) (c_base_Apply Fr.lt (Vb.ofAgg (cs := [(.slice A8 x0.vars.length c9), (.slice A11 x0.init.length c12), (.slice A14 x0.goal.length c15), (.slice A17 x0.ops.length c18)]) (x := x0) rfl ⟨_, _, _, _, rfl, h7, h10, h13, h16⟩) h62 rk71 e87) rfl rfl fun v92 w88 O89 S90 h91 => ?_
   obtain ⟨v93, v94, rfl, h95, h96⟩ := h91
   obtain ⟨A97, c98, rfl⟩ := h95.form
   obtain rfl := h96.bool
   refine o_mv rfl rfl (o_ex rfl rfl rfl (o_ex rfl rfl rfl (o_as rfl rfl (o_as rfl rfl (o_z ?_)))))
   refine ewp_seq (ewp_region (o_mv rfl rfl (o_z ?_)))
   refine ewp_cond rfl (fun c99 => ?_) (fun c99 => ?_)
   ·
    replace hf77 := ip hf77 c99
    refine ewp_region (o_mv rfl rfl (o_mv rfl rfl (o_mv rfl rfl (o_fa rfl rfl ?_))))
    replace h23 := h23.st S90
    refine o_ld (hc := Blk.cell (i := 0) (h23.1) rfl) rfl rfl ?_
    refine o_mv rfl rfl ?_
    obtain ⟨q100, e101, hf77⟩ := bs hf77
    replace h7 := h7.st S90
    refine l_callA (O := O89) (A := All w88) (R := fun w' F v => Vb w' F v q100) (c_base_Rank (fun _ h => h) (Vb.mono (F := Fr 0 w88 O89) h7 Fr.lt) (Vb.mono (F := Fr 0 w88 O89) h95 Fr.lt) e101) rfl rfl fun v106 w102 O103 S104 h105 => ?_
    obtain ⟨rfl, r107⟩ := h105.int
    refine o_bd rfl rfl rfl ?_
    obtain ⟨u108, e109, hf77⟩ := bs hf77
    obtain ⟨e109, e110, e111⟩ := appI_some e109
    replace h84 := (h84.st S90).st S104
    refine l_append1 rfl (a := (⟨(k39 : Int), (k71 : Int), q100⟩ : Edg)) h84 (Vb.ofAgg (cs := [(.int .i64 (k39 : Int)), (.int .i64 (k71 : Int)), (.int .i64 q100)]) (x := (⟨(k39 : Int), (k71 : Int), q100⟩ : Edg)) rfl ⟨rfl, rk39, rk71, r107⟩) (fun _ => rfl) rfl (by decide) (by decide) e110 e111 ⟨rfl, rfl⟩ fun g112 A113 c114 w115 O116 S117 h118 => ?_
    rw [← e109] at h118 ⊢
    refine o_as rfl rfl (o_z ?_)
    obtain rfl := sm hf77
    refine (?_ : Exists _)
    replace hB := ((hB.st S90).st S104).st S117
    replace h7 := (h7.st S104).st S117
    replace h10 := ((h10.st S90).st S104).st S117
    replace h13 := ((h13.st S90).st S104).st S117
    replace h16 := ((h16.st S90).st S104).st S117
    replace h23 := (h23.st S104).st S117
    replace h29 := ((h29.st S90).st S104).st S117
    replace h62 := ((h62.st S90).st S104).st S117
    exact ⟨_, (A113, c114), rfl, ⟨rfl, rfl, rfl, rfl, rfl, rfl, rfl, rfl, rfl, trivial⟩, _, hB, h23, h7, h10, h13, h16, h118, h62, h29⟩
   ·
    replace hf77 := im' hf77 c99
    refine ewp_skip ?_
    obtain rfl := sm hf77
    refine (?_ : Exists _)
    replace hB := hB.st S90
    replace h7 := h7.st S90
    replace h10 := h10.st S90
    replace h13 := h13.st S90
    replace h16 := h16.st S90
    replace h23 := h23.st S90
    replace h29 := h29.st S90
    replace h62 := h62.st S90
    replace h84 := h84.st S90
    exact ⟨_, (x70.1, x70.2), rfl, ⟨rfl, rfl, rfl, rfl, rfl, rfl, rfl, rfl, rfl, trivial⟩, _, hB, h23, h7, h10, h13, h16, h84, h62, h29⟩
  rintro l120 w121 ⟨s124, x125, rfl, hs123, O122, hB, h23, h7, h10, h13, h16, h84, h29⟩
  replace hf45 := fin_done hf45
  obtain rfl := sm hf45
  refine (?_ : Exists _)
  exact ⟨_, (x125.1, x125.2), rfl, ⟨(subs_lk hs123 _ _ rfl), (subs_lk hs123 _ _ rfl), (subs_lk hs123 _ _ rfl), (subs_lk hs123 _ _ rfl), (subs_lk hs123 _ _ rfl), trivial⟩, _, hB, h23, h7, h10, h13, h16, h84, h29⟩
 replace hB := (hB.st S22).st S28
 rintro l126 w127 ⟨s130, x131, rfl, hs129, O128, hB, h52⟩
 replace hm := fin_done hm
 refine ewp_sub _ hs129 ?_
 refine ewp_seq (ewp_region (o_mv rfl rfl (o_as rfl rfl (o_z ?_))))
 refine ewp_ret ?_
 obtain ⟨O132, S133, h52⟩ := h52.freeze
 obtain rfl := sm hm
 replace hB := hB.st S133
 exact ret1v rfl (res_tmp rfl) ⟨hB.ext, (Vb.mono (F := Fr 0 w127 O132) h52 hB.out)⟩
noncomputable def m_base_Cost (x0 : Tsk) (x1 : List Int) (x2 : List Int) : Option (Int × Bool) :=
  bnd (rng (ρ := Int × Bool) (fun (k36 : Nat) (a37 : Int) (s34 : (List Int) × Int) => bnd (m_base_Apply x0 s34.1 a37) fun q59 => if (!q59.2) = true then (some (.ret (0, false))) else (bnd (atI x0.ops a37) fun a73 => bnd (chkI (s34.2 + a73.cost)) fun n94 => some (.next (q59.1, n94)))) x2 0 (x1, 0)) fun res32 => fin res32 fun (s101 : (List Int) × Int) => bnd (bnd (m_base_Holds x0.goal s101.1) fun q107 => if q107 = true then some true else some false : Option Bool) fun y103 => some (s101.2, y103)
theorem c_base_Cost {w : World} {A : Nat → Prop} (hA : ∀ k, A k → k < w.heap.size) {vx0 : Value} {x0 : Tsk} (hx0 : Vb w A vx0 x0) {vx1 : Value} {x1 : List Int} (hx1 : Vb w A vx1 x1) {vx2 : Value} {x2 : List Int} (hx2 : Vb w A vx2 x2) {r : Int × Bool} (hm : m_base_Cost x0 x1 x2 = some r) :
    Fn Try.prog 18 [vx0, vx1, vx2] w fun v w' => Ext w w' ∧ T2 w' (upA A w w') v r := by
 obtain ⟨O, hB, hA0⟩ := enter hA
 replace hx0 := hx0.mono hA0
 obtain ⟨cs4, rfl, v5, v6, v7, v8, rfl, h9, h12, h15, h18⟩ := hx0
 obtain ⟨A10, c11, rfl⟩ := h9.form
 obtain ⟨A13, c14, rfl⟩ := h12.form
 obtain ⟨A16, c17, rfl⟩ := h15.form
 obtain ⟨A19, c20, rfl⟩ := h18.form
 replace hx1 := hx1.mono hA0
 obtain ⟨A21, c22, rfl⟩ := hx1.form
 replace hx2 := hx2.mono hA0
 obtain ⟨A23, c24, rfl⟩ := hx2.form
 refine fn_enter Try.func18 rfl Try.ntmps18 rfl ?_
 unfold m_base_Cost at hm
 refine ewp_seq (ewp_region (l_box 2 O rfl rfl fun g25 w26 O27 S28 h29 => ?_))
 replace h29 : Lc 2 w26 O27 g25 26 [(.slice A10 x0.vars.length c11), (.slice A13 x0.init.length c14), (.slice A16 x0.goal.length c17), (.slice A19 x0.ops.length c20)] := h29
 refine o_as rfl rfl (o_as rfl rfl (o_z ?_))
 refine ewp_seq (ewp_region (o_as rfl rfl (o_z ?_)))
 refine ewp_seq (ewp_seq (ewp_region (o_mv rfl rfl (o_ln rfl rfl ?_))))
 replace hx2 := hx2.st S28
 have l31 : x2.length ≤ 9223372036854775807 := Nat.le_trans hx2.len.2.1 hx2.len.2.2
 have r30 : inI64 (x2.length : Int) := rngNat l31
 refine o_mv rfl rfl (o_z ?_)
 obtain ⟨res32, hL33, hm⟩ := bs hm
 refine ewp_join (aft res32 (fun (s34 : (List Int) × Int) (x35 : (Option Addr × Nat)) => [(1, (.slice x35.1 s34.1.length x35.2)), (3, (.pointer (some ⟨g25, 0, none⟩))), (8, (.int .i64 s34.2))]) (fun s34 x35 w' => ∃ O' : Lab, Bs w A w' O' ∧ Vb w' (Fr 0 w' O') (.slice x35.1 s34.1.length x35.2) s34.1 ∧ Lc 2 w' O' g25 26 [(.slice A10 x0.vars.length c11), (.slice A13 x0.init.length c14), (.slice A16 x0.goal.length c17), (.slice A19 x0.ops.length c20)] ∧ Vb w' (Fr 0 w' O') (.slice A10 x0.vars.length c11) x0.vars ∧ Vb w' (Fr 0 w' O') (.slice A13 x0.init.length c14) x0.init ∧ Vb w' (Fr 0 w' O') (.slice A16 x0.goal.length c17) x0.goal ∧ Vb w' (Fr 0 w' O') (.slice A19 x0.ops.length c20) x0.ops ∧ inI64 s34.2)) ?_ ?_
 ·
  refine ewp_block ?_
  replace hB := hB.st S28
  replace hx1 := hx1.st S28
  replace h9 := h9.st S28
  replace h12 := h12.st S28
  replace h15 := h15.st S28
  replace h18 := h18.st S28
  refine ewp_rng (σ := (List Int) × Int) (X := (Option Addr × Nat)) (x2.length) hL33 rfl l31 (fun (s34 : (List Int) × Int) (x35 : (Option Addr × Nat)) => [(1, (.slice x35.1 s34.1.length x35.2)), (3, (.pointer (some ⟨g25, 0, none⟩))), (8, (.int .i64 s34.2)), (13, (.slice A23 x2.length c24))]) _ (fun s34 x35 w' => ∃ O' : Lab, Bs w A w' O' ∧ Vb w' (Fr 0 w' O') (.slice x35.1 s34.1.length x35.2) s34.1 ∧ Lc 2 w' O' g25 26 [(.slice A10 x0.vars.length c11), (.slice A13 x0.init.length c14), (.slice A16 x0.goal.length c17), (.slice A19 x0.ops.length c20)] ∧ Vb w' (Fr 0 w' O') (.slice A10 x0.vars.length c11) x0.vars ∧ Vb w' (Fr 0 w' O') (.slice A13 x0.init.length c14) x0.init ∧ Vb w' (Fr 0 w' O') (.slice A16 x0.goal.length c17) x0.goal ∧ Vb w' (Fr 0 w' O') (.slice A19 x0.ops.length c20) x0.ops ∧ Vb w' (Fr 0 w' O') (.slice A23 x2.length c24) x2 ∧ inI64 s34.2) _ (A21, c22) ⟨O27, hB, hx1, h29, h9, h12, h15, h18, hx2, (show inI64 (0) from by decide)⟩ ⟨rfl, rfl, rfl, rfl, rfl, rfl, trivial⟩ (fun _ _ => ⟨rfl, rfl⟩) (fun _ _ => ⟨rfl, rfl, rfl, trivial⟩) (fun _ _ _ ⟨O', hB, h49, h29, h9, h12, h15, h18, hx2, r50⟩ => ⟨O', hB, h49, h29, h9, h12, h15, h18, r50⟩) ⟨rfl, rfl, rfl⟩ ⟨rfl, rfl⟩ ?_
  rintro k36 a37 s34 x35 w38 cc40 hx41 ⟨O39, hB, h49, h29, h9, h12, h15, h18, hx2, r50⟩ hf42 hret43 hbrk44
  have rk36 : inI64 (k36 : Int) := rngK hx41 l31
  refine ewp_seq (ewp_region ?_)
  obtain ⟨b51, o52, ce53, hA54, hl55, hd56, rfl, r58⟩ := hx2.elem' hx41
  refine o_iaE (hA := hA54) (hj := rfl) (hlt := hl55) rfl rfl rfl ?_
  refine o_ld (hc := cat0 hd56) rfl rfl ?_
  refine o_as rfl rfl (o_z ?_)
  refine ewp_seq (ewp_region (o_la (hl := rfl) (hc := (h29.1).cellsAt) rfl rfl ?_))
  refine o_mv rfl rfl (o_mv rfl rfl ?_)
  obtain ⟨q59, e60, hf42⟩ := bs hf42
  refine l_call (O := O39) (R := fun w' F v => T2 w' F v q59) (c_base_Apply Fr.lt (Vb.ofAgg (cs := [(.slice A10 x0.vars.length c11), (.slice A13 x0.init.length c14), (.slice A16 x0.goal.length c17), (.slice A19 x0.ops.length c20)]) (x := x0) rfl ⟨_, _, _, _, rfl, h9, h12, h15, h18⟩) h49 r58 e60) rfl rfl fun v65 w61 O62 S63 h64 => ?_
  obtain ⟨v66, v67, rfl, h68, h69⟩ := h64
  obtain ⟨A70, c71, rfl⟩ := h68.form
  obtain rfl := h69.bool
  refine o_mv rfl rfl (o_ex rfl rfl rfl (o_ex rfl rfl rfl (o_as rfl rfl (o_as rfl rfl (o_z ?_)))))
  refine ewp_seq (ewp_seq (ewp_region (o_mv rfl rfl (o_nn rfl rfl (o_z ?_)))))
  refine ewp_cond rfl (fun c72 => ?_) (fun c72 => ?_)
  ·
   replace hf42 := ip hf42 c72
   refine ewp_seq (ewp_region (o_as rfl rfl (o_as rfl rfl (o_z ?_))))
   refine ewp_ret ?_
   obtain rfl := sm hf42
   obtain rfl := hret43 _ rfl
   obtain rfl := sm (fin_ret hm)
   replace hB := hB.st S63
   exact ret2 rfl (res_tmp rfl) (res_tmp rfl) ⟨hB.ext, _, _, rfl, (vInt (show inI64 (0) from by decide)), vBool⟩
  ·
   replace hf42 := im' hf42 c72
   refine ewp_skip (ewp_seq (ewp_region (o_mv rfl rfl (o_as rfl rfl (o_z ?_)))))
   refine ewp_region (o_mv rfl rfl (o_fa rfl rfl ?_))
   replace h29 := h29.st S63
   refine o_ld (hc := Blk.cell (i := 3) (h29.1) rfl) rfl rfl ?_
   refine o_mv rfl rfl ?_
   obtain ⟨a73, e74, hf42⟩ := bs hf42
   obtain ⟨p76, x75⟩ := atI_some' e74
   replace h18 := h18.st S63
   obtain ⟨b77, o78, ce79, hA80, hl81, hd82, v84, v85, rfl, h86, h89, r92, z93⟩ := h18.elem' x75
   obtain ⟨A87, c88, rfl⟩ := h86.form
   obtain ⟨A90, c91, rfl⟩ := h89.form
   refine o_iaE (hA := hA80) (hj := (Int.toNat_of_nonneg p76).symm) (hlt := hl81) rfl rfl rfl ?_
   refine o_fa rfl rfl (o_ld (hc := cat1 hd82) rfl rfl ?_)
   obtain ⟨n94, e95, hf42⟩ := bs hf42
   have r96 := (chkI_rng e95)
   refine o_adE (he := e95) rfl rfl rfl ?_
   refine o_as rfl rfl (o_z ?_)
   obtain rfl := sm hf42
   refine (?_ : Exists _)
   replace hB := hB.st S63
   replace hx2 := hx2.st S63
   replace h9 := h9.st S63
   replace h12 := h12.st S63
   replace h15 := h15.st S63
   exact ⟨_, (A70, c71), rfl, ⟨rfl, rfl, rfl, rfl, rfl, rfl, trivial⟩, _, hB, h68, h29, h9, h12, h15, h18, hx2, r96⟩
 replace hB := hB.st S28
 replace h9 := h9.st S28
 replace h12 := h12.st S28
 replace h15 := h15.st S28
 replace h18 := h18.st S28
 rintro l97 w98 ⟨s101, x102, rfl, hs100, O99, hB, h49, h29, h9, h12, h15, h18, r50⟩
 replace hm := fin_done hm
 refine ewp_sub _ hs100 ?_
 refine ewp_seq ?_
 obtain ⟨y103, hy104, hm⟩ := bs hm
 refine ewp_join (fun l' w' => ∃ (x106 : Unit) (O' : Lab), subs l' [(6, (.int .i64 s101.2)), (7, (.bool y103))] ∧ Bs w A w' O') ?_ ?_
 ·
  refine ewp_region (o_mv rfl rfl (o_fa rfl rfl (o_ld (hc := Blk.cell (i := 2) (h29.1) rfl) rfl rfl ?_)))
  refine o_mv rfl rfl ?_
  obtain ⟨q107, e108, hy104⟩ := bs hy104
  refine l_callA (O := O99) (A := All w98) (R := fun w' F v => Vb w' F v q107) (c_base_Holds (fun _ h => h) (Vb.mono (F := Fr 0 w98 O99) h15 Fr.lt) (Vb.mono (F := Fr 0 w98 O99) h49 Fr.lt) e108) rfl rfl fun v113 w109 O110 S111 h112 => ?_
  obtain rfl := h112.bool
  cases q107
  case false =>
   replace hy104 := iF hy104
   refine o_as rfl rfl (o_as rfl rfl (o_z ?_))
   obtain rfl := sm hy104
   replace hB := hB.st S111
   exact ⟨(), _, ⟨rfl, rfl, trivial⟩, hB⟩
  replace hy104 := iT hy104
  refine o_as rfl rfl (o_as rfl rfl (o_z ?_))
  obtain rfl := sm hy104
  replace hB := hB.st S111
  exact ⟨(), _, ⟨rfl, rfl, trivial⟩, hB⟩
 rintro l114 w115 ⟨x106, O116, hs117, hB⟩
 refine ewp_sub _ hs117 ?_
 refine ewp_ret ?_
 obtain rfl := sm hm
 exact ret2 rfl (res_tmp rfl) (res_tmp rfl) ⟨hB.ext, _, _, rfl, (vInt r50), vBool⟩
end
section
section
variable {α σ ρ : Type}
theorem fin_d {s : σ} {f : σ → Option ρ} : fin (.done s) f = f s := rfl
theorem if_t {x y : α} : (if true = true then x else y) = x := rfl
theorem if_f {x y : α} : (if false = true then x else y) = y := rfl
theorem rng_inv_from {f : Nat → α → σ → Option (Ctl σ ρ)} {I : Nat → σ → Prop} {R : ρ → Prop} : ∀ (ys : List α) (j : Nat) (s : σ), I j s →
    (∀ k x s, ys[k]? = some x → I (j + k) s → (∃ s', f (j + k) x s = some (.next s') ∧ I (j + k + 1) s') ∨ (∃ r, f (j + k) x s = some (.ret r) ∧ R r)) →
    (∃ s', rng f ys j s = some (.done s') ∧ I (j + ys.length) s') ∨ ∃ r, rng f ys j s = some (.ret r) ∧ R r
  | [], j, s, h0, _ => .inl ⟨s, rfl, h0⟩
  | y :: ys, j, s, h0, h => by
    rcases h 0 y s rfl h0 with ⟨s', h1, h2⟩ | ⟨r, h1, h2⟩
    · have h1' : f j y s = some (.next s') := h1
      simp only [rng, h1']
      rcases rng_inv_from (I := I) (R := R) ys (j + 1) s' h2 (fun k x s hk hI => by
        have := h (k + 1) x s (by simpa using hk) (by rwa [show j + (k + 1) = j + 1 + k from by omega])
        rwa [show j + (k + 1) = j + 1 + k from by omega] at this) with ⟨s2, h3, h4⟩ | h3
      · exact .inl ⟨s2, h3, by rw [List.length_cons, show j + (ys.length + 1) = j + 1 + ys.length from by omega]; exact h4⟩
      · exact .inr h3
    · have h1' : f j y s = some (.ret r) := h1
      simp only [rng, h1']
      exact .inr ⟨r, rfl, h2⟩
theorem rng_inv {f : Nat → α → σ → Option (Ctl σ ρ)} {xs : List α} {s₀ : σ} (I : Nat → σ → Prop) (R : ρ → Prop) (h0 : I 0 s₀)
    (h : ∀ k x s, xs[k]? = some x → I k s → (∃ s', f k x s = some (.next s') ∧ I (k + 1) s') ∨ (∃ r, f k x s = some (.ret r) ∧ R r)) :
    (∃ s', rng f xs 0 s₀ = some (.done s') ∧ I xs.length s') ∨ ∃ r, rng f xs 0 s₀ = some (.ret r) ∧ R r := by
  have := rng_inv_from (f := f) (I := I) (R := R) xs 0 s₀ h0 (fun k x s hk hI => by rw [Nat.zero_add] at hI ⊢; exact h k x s hk hI)
  rwa [Nat.zero_add] at this
/-- A loop that runs to its end. -/
theorem rng_all {f : Nat → α → σ → Option (Ctl σ ρ)} {xs : List α} {s₀ : σ} (I : Nat → σ → Prop) (h0 : I 0 s₀) (h : ∀ k x s, xs[k]? = some x → I k s → ∃ s', f k x s = some (.next s') ∧ I (k + 1) s') :
    ∃ s', rng f xs 0 s₀ = some (.done s') ∧ I xs.length s' := by
  rcases rng_inv I (fun _ => False) h0 (fun k x s hk hI => .inl (h k x s hk hI)) with h | ⟨_, _, h⟩
  · exact h
  · exact h.elim
/-- A loop whose state is known in each round. -/
theorem rng_fun {f : Nat → α → σ → Option (Ctl σ ρ)} {xs : List α} (g : Nat → σ) (h : ∀ k x, xs[k]? = some x → f k x (g k) = some (.next (g (k + 1)))) : rng f xs 0 (g 0) = some (.done (g xs.length)) := by
  obtain ⟨s', h1, h2⟩ := rng_all (f := f) (xs := xs) (s₀ := g 0) (fun k s => s = g k) rfl (fun k x s hk hI => ⟨_, by rw [hI]; exact h k x hk, rfl⟩)
  rw [h1, h2]
theorem rng_from {f : Nat → α → σ → Option (Ctl σ ρ)} {xs : List α} {s₀ : σ} (g : Nat → σ) (h0 : s₀ = g 0) (h : ∀ k x, xs[k]? = some x → f k x (g k) = some (.next (g (k + 1)))) : rng f xs 0 s₀ = some (.done (g xs.length)) := by
  rw [h0]; exact rng_fun g h
theorem rngN_fun {f : Nat → σ → Option (Ctl σ ρ)} {N : Nat} (g : Nat → σ) (h : ∀ k, k < N → f k (g k) = some (.next (g (k + 1)))) : rngN f N (g 0) = some (.done (g N)) := by
  have := rng_fun (f := fun _ k s => f k s) (xs := List.range N) g (fun k x hk => by
    obtain ⟨hlt, rfl⟩ := List.getElem?_eq_some_iff.1 hk
    simpa using h k (by simpa using hlt))
  rwa [List.length_range] at this
theorem rngN_from {f : Nat → σ → Option (Ctl σ ρ)} {N : Nat} {s₀ : σ} (g : Nat → σ) (h0 : s₀ = g 0) (h : ∀ k, k < N → f k (g k) = some (.next (g (k + 1)))) : rngN f N s₀ = some (.done (g N)) := by
  rw [h0]; exact rngN_fun g h
end
end
section
open Go Go.RowKit
theorem states_eq {vars : List Int} (h0 : ∀ (i : Nat) n, vars[i]? = some n → 0 ≤ n ∧ n ≤ 64) (hb : ∀ k, (statesL (vars.take k)).length ≤ 1000000) (hvn : vars.length ≤ 1000) : m_base_States vars = some (statesL vars) := by
  unfold m_base_States
  rw [rng_from (fun k => statesL (vars.take k)) ?_ ?_]
  · rw [bnd_some, fin_d, List.take_length]
  · rfl
  intro k n hn
  obtain ⟨N, rfl⟩ := Int.eq_ofNat_of_zero_le (h0 k n hn).1
  have hN := (h0 k _ hn).2
  have hk := lt_of_get hn
  have hlen := hb k
  rw [rng_from (fun i => ((statesL (vars.take k)).take i).flatMap (exts N)) ?_ ?_]
  · rw [bnd_some, fin_d, List.take_length, statesL_step hn]; rfl
  · rfl
  intro i s hs
  have hsl := statesL_mem vars k (by omega) s (List.mem_of_getElem? hs)
  have hfl := grows_len N ((statesL (vars.take k)).take i)
  have hfl2 : ((statesL (vars.take k)).take i).length * N ≤ 1000000 * 64 := Nat.mul_le_mul (by rw [List.length_take]; omega) (by omega)
  rw [natI_eq, bnd_some, rngN_from (fun x => ((statesL (vars.take k)).take i).flatMap (exts N) ++ exts x s) ?_ ?_]
  · rw [bnd_some, fin_d, flat_step _ hs]
  · simp [exts]
  intro x hx
  rw [appI_eq (by simp; omega) (by simp; omega), bnd_some, appI_eq (by simp; omega) (by simp; omega), bnd_some, appI_eq (by simp only [List.length_append, exts_len, List.length_singleton]; omega) (by simp only [List.length_append, exts_len, List.length_singleton]; omega), bnd_some, exts_step]
  simp
theorem states_small {t : Tsk} (h : SmallOk t) : m_base_States t.vars = some (statesL t.vars) :=
  states_eq (fun i n hn => by have := h.ok.vars i n hn; omega) (fun k => by have := h.states k; omega) (by have := h.1; omega)
end
section
open Go Go.RowKit
/-- The state after an operator's effects. -/
def effsOn (s : List Int) : List Eff → List Int → List Int
  | [], out => out
  | e :: r, out => effsOn s r (if holdsB e.cond s = true then out.set e.var.toNat e.val else out)
theorem effsOn_append (s : List Int) : ∀ (a b : List Eff) (out : List Int), effsOn s (a ++ b) out = effsOn s b (effsOn s a out)
  | [], _, _ => rfl
  | e :: a, b, out => by simp [effsOn, effsOn_append s a b]
theorem effsOn_length (s : List Int) : ∀ (a : List Eff) (out : List Int), (effsOn s a out).length = out.length
  | [], _ => rfl
  | e :: a, out => by
    rw [effsOn, effsOn_length s a]
    split <;> simp
theorem effsOn_step (s : List Int) {l : List Eff} {k : Nat} {e : Eff} (h : l[k]? = some e) (out : List Int) : effsOn s (l.take (k + 1)) out = if holdsB e.cond s = true then (effsOn s (l.take k) out).set e.var.toNat e.val else effsOn s (l.take k) out := by
  rw [List.take_add_one, h, effsOn_append]; rfl
/-- The effects name variables of the state. -/
def EffsIn (s : List Int) (l : List Eff) : Prop := ∀ (i : Nat) e, l[i]? = some e → 0 ≤ e.var ∧ e.var < s.length
def succ (o : Opr) (s : List Int) : List Int := effsOn s o.effs s
end
section
open Go Go.RowKit
theorem TaskOk.effs {t : Tsk} (h : TaskOk t) {s : List Int} (hs : StateOk t.vars s) : ∀ (i : Nat) o, t.ops[i]? = some o → EffsIn s o.effs := fun i o ho j e he => by
  obtain ⟨h1, _, y, hy, _⟩ := ((h.2.2.2.2.2 i o ho).2.2.2.2.2 j e he).2
  refine ⟨h1, ?_⟩
  have := (List.getElem?_eq_some_iff.1 hy).1
  rw [hs.1]
  simp only at h1 this
  omega
end
section
open Go Go.RowKit
theorem holds_eq (f : List Fct) (s : List Int) : m_base_Holds f s = some (holdsB f s) := rfl
theorem effs_run {ρ : Type} {s : List Int} {effs : List Eff} (he : EffsIn s effs) (m : List Fct → List Int → Option Bool) (hm : ∀ f s, m f s = some (holdsB f s)) (u : List Int) (hu : u.length = s.length) :
    rng (ρ := ρ) (fun (_ : Nat) (e : Eff) (out : List Int) => bnd (m e.cond s) fun q => if q = true then bnd (atI out e.var) fun _ => some (.next (out.set (e.var).toNat e.val)) else some (.next out)) effs 0 u = some (.done (effsOn s effs u)) := by
  rw [rng_from (fun k => effsOn s (effs.take k) u) ?_ ?_, List.take_length]
  · rfl
  intro k e hk
  rw [hm, bnd_some, effsOn_step s hk]
  have hin := he k e hk
  have hl := effsOn_length s (effs.take k) u
  by_cases hb : holdsB e.cond s = true
  · rw [if_pos hb, if_pos hb]
    obtain ⟨j, hj⟩ := Int.eq_ofNat_of_zero_le hin.1
    rw [hj, atI_eq, List.getElem?_eq_getElem (by omega), bnd_some]
  · rw [if_neg hb, if_neg hb]
theorem apply_eq {t : Tsk} {s : List Int} {j : Nat} {o : Opr} (ho : t.ops[j]? = some o) (hp : holdsB o.pre s = true) (hl : s.length ≤ 1000000) (he : EffsIn s o.effs) : m_base_Apply t s (j : Int) = some (succ o s, true) := by
  have hj := lt_of_get ho
  unfold m_base_Apply
  rw [if_neg (by omega), if_neg (by omega), atI_eq, ho, bnd_some, holds_eq, bnd_some, hp, if_t, bnd_some, if_f, appI_eq (by simp; omega) (by simp; omega), bnd_some, bnd_some, List.nil_append, effs_run he m_base_Holds holds_eq s rfl, bnd_some, fin_d]
  rfl
theorem effsOn_ok {vars s : List Int} : ∀ (l : List Eff), (∀ e ∈ l, EffOk vars e) → ∀ (u : List Int), StateOk vars u → StateOk vars (effsOn s l u)
  | [], _, _, hu => hu
  | e :: l, he, u, hu => by
    refine effsOn_ok l (fun e' h' => he e' (List.mem_cons_of_mem _ h')) _ ?_
    split
    · obtain ⟨_, h1, h2, y, hy, h3⟩ := he e List.mem_cons_self
      refine ⟨by rw [List.length_set]; exact hu.1, fun i x n hx hn => ?_⟩
      rw [List.getElem?_set] at hx
      by_cases hi : e.var.toNat = i
      · subst hi
        rw [if_pos rfl] at hx
        split at hx
        · obtain rfl := Option.some.inj hx
          simp only at hy h2 h3
          rw [hy] at hn
          obtain rfl := Option.some.inj hn
          exact ⟨h2, h3⟩
        · cases hx
      · rw [if_neg hi] at hx
        exact hu.2 i x n hx hn
    · exact hu
theorem succ_ok {t : Tsk} (h : TaskOk t) {s : List Int} (hs : StateOk t.vars s) {k : Nat} {o : Opr} (ho : t.ops[k]? = some o) : StateOk t.vars (succ o s) :=
  effsOn_ok o.effs (fun e he => by obtain ⟨j, hj⟩ := List.getElem?_of_mem he; exact (h.2.2.2.2.2 k o ho).2.2.2.2.2 j e hj) s hs
theorem apply_all {t : Tsk} (h : TaskOk t) {s : List Int} (hs : StateOk t.vars s) {k : Nat} {o : Opr} (ho : t.ops[k]? = some o) : m_base_Apply t s (k : Int) = some (if holdsB o.pre s = true then (succ o s, true) else ([], false)) := by
  have hk := lt_of_get ho
  by_cases hp : holdsB o.pre s = true
  · rw [apply_eq ho hp (by have := hs.1; have := h.1; omega) (h.effs hs k o ho), if_pos hp]
  · unfold m_base_Apply
    rw [if_neg (by omega), if_neg (by omega), atI_eq, ho, bnd_some, holds_eq, bnd_some, if_neg hp, if_neg hp, bnd_some, if_t]
theorem flat_get {n : Nat} (hn : 0 < n) : ∀ (l : List (List Int)) (q : Nat), (l.flatMap (exts n))[q]? = (l[q / n]?).map (· ++ [((q % n : Nat) : Int)])
  | [], q => by simp
  | a :: l, q => by
    rw [List.flatMap_cons]
    by_cases hq : q < n
    · rw [List.getElem?_append_left (by rw [exts_len]; exact hq), Nat.div_eq_of_lt hq, Nat.mod_eq_of_lt hq]
      simp [exts, hq]
    · rw [List.getElem?_append_right (by rw [exts_len]; omega), exts_len, flat_get hn l (q - n)]
      obtain ⟨r, rfl⟩ : ∃ r, q = r + n := ⟨q - n, by omega⟩
      rw [Nat.add_sub_cancel, Nat.add_div_right _ hn, Nat.add_mod_right]
      simp
theorem states_inj {vars : List Int} (hv : ∀ (i : Nat) n, vars[i]? = some n → 1 ≤ n) : ∀ (k : Nat), k ≤ vars.length → ∀ (i j : Nat) (s : List Int), (statesL (vars.take k))[i]? = some s → (statesL (vars.take k))[j]? = some s → i = j
  | 0, _, i, j, s, h1, h2 => by
    have e1 := lt_of_get h1
    have e2 := lt_of_get h2
    simp [statesL] at e1 e2
    omega
  | k + 1, hk, i, j, s, h1, h2 => by
    obtain ⟨n, hn⟩ := some_of_lt (l := vars) (k := k) (by omega)
    have hn1 := hv k n hn
    rw [statesL_step hn] at h1 h2
    unfold grows at h1 h2
    rw [flat_get (by omega)] at h1 h2
    obtain ⟨p, hp, rfl⟩ := Option.map_eq_some_iff.1 h1
    obtain ⟨p', hp', e⟩ := Option.map_eq_some_iff.1 h2
    obtain ⟨e1, e2⟩ := List.append_inj' e rfl
    subst e1
    have := states_inj hv k (by omega) _ _ _ hp hp'
    have e3 : j % n.toNat = i % n.toNat := by
      have := List.singleton_inj.1 e2
      omega
    have d1 := Nat.div_add_mod i n.toNat
    have d2 := Nat.div_add_mod j n.toNat
    rw [this, ← e3] at d1
    omega
theorem states_uniq {t : Tsk} (h : TaskOk t) {i j : Nat} {s : List Int} (h1 : (statesL t.vars)[i]? = some s) (h2 : (statesL t.vars)[j]? = some s) : i = j := by
  have := states_inj (vars := t.vars) (fun i n hn => (h.vars i n hn).1) t.vars.length (Nat.le_refl _) i j s
  rw [List.take_length] at this
  exact this h1 h2
theorem rank_at {t : Tsk} (h : SmallOk t) {s : List Int} (hs : StateOk t.vars s) : ∃ i : Nat, m_base_Rank t.vars s = some (i : Int) ∧ (statesL t.vars)[i]? = some s := by
  unfold m_base_Rank
  obtain ⟨r, h1, i, rfl, h2⟩ := rng_all (ρ := Int) (f := fun (k11 : Nat) (a12 : Int) (s9 : Int) => bnd (t.vars[k11]?) fun a24 => bnd (chkI (s9 * a24)) fun n34 => bnd (chkI (n34 + a12)) fun n45 => some (.next n45)) (xs := s) (s₀ := 0) (fun k r => ∃ i : Nat, r = (i : Int) ∧ (statesL (t.vars.take k))[i]? = some (s.take k)) ⟨0, rfl, by simp [statesL]⟩ (fun k x r hk hI => by
    obtain ⟨i, rfl, hi⟩ := hI
    have hlt := lt_of_get hk
    obtain ⟨n, hn⟩ := some_of_lt (l := t.vars) (k := k) (by rw [← hs.1]; exact hlt)
    have hn1 := h.ok.vars k n hn
    obtain ⟨hx1, hx2⟩ := hs.2 k x n hk hn
    obtain ⟨x, rfl⟩ := Int.eq_ofNat_of_zero_le hx1
    obtain ⟨n, rfl⟩ := Int.eq_ofNat_of_zero_le (by omega : 0 ≤ n)
    have hget : (statesL (t.vars.take (k + 1)))[i * n + x]? = some (s.take (k + 1)) := by
      rw [statesL_step hn]
      show ((statesL (t.vars.take k)).flatMap (exts ((n : Int)).toNat))[i * n + x]? = _
      rw [show ((n : Int)).toNat = n from by omega, flat_get (by omega)]
      have e1 : (i * n + x) / n = i := by
        rw [Nat.mul_comm, Nat.mul_add_div (by omega), Nat.div_eq_of_lt (by omega)]; omega
      have e2 : (i * n + x) % n = x := by
        rw [Nat.mul_comm, Nat.mul_add_mod, Nat.mod_eq_of_lt (by omega)]
      rw [e1, e2, hi, List.take_add_one, hk]; rfl
    have hb := lt_of_get hget
    have hb2 := h.states (k + 1)
    have e3 : (i : Int) * (n : Int) = ((i * n : Nat) : Int) := by simp
    rw [hn, bnd_some, e3, chkI_eq (by unfold inI64; omega), bnd_some, chkI_eq (by unfold inI64; omega), bnd_some]
    exact ⟨_, rfl, i * n + x, by omega, hget⟩)
  rw [List.take_length, hs.1, List.take_length] at h2
  exact ⟨i, by rw [h1, bnd_some, fin_d], h2⟩
theorem rank_eq {t : Tsk} (h : SmallOk t) {s : List Int} {i : Nat} (hi : (statesL t.vars)[i]? = some s) : m_base_Rank t.vars s = some (i : Int) := by
  obtain ⟨j, h1, h2⟩ := rank_at h (mem_statesL.1 (List.mem_of_getElem? hi))
  rw [h1, states_uniq h.ok h2 hi]
/-- A step from a state to another, both by rank. -/
def EdgeOk (t : Tsk) (e : Edg) : Prop := ∃ (i k j : Nat) (s : List Int) (o : Opr), e = ⟨i, k, j⟩ ∧ (statesL t.vars)[i]? = some s ∧ t.ops[k]? = some o ∧ holdsB o.pre s = true ∧ (statesL t.vars)[j]? = some (succ o s)
theorem edges_eq {t : Tsk} (h : SmallOk t) : ∃ es, m_base_Edges t = some es ∧ ∀ e, e ∈ es ↔ EdgeOk t e := by
  have hlen : (statesL t.vars).length ≤ 512 := by have := h.states t.vars.length; rwa [List.take_length] at this
  have hops := h.2.1
  have uniq : ∀ {i i' : Nat} {s : List Int}, (statesL t.vars)[i]? = some s → (statesL t.vars)[i']? = some s → i = i' := fun h1 h2 => states_uniq h.ok h1 h2
  unfold m_base_Edges
  rw [states_small h, bnd_some]
  obtain ⟨es, h1, h2, h3⟩ := rng_all (ρ := List Edg) (f := fun (k38 : Nat) (a39 : List Int) (s36 : (List Edg)) => bnd (rng (ρ := Ctl (List Edg) (List Edg)) (fun (k70 : Nat) (_ : Opr) (s68 : (List Edg)) => bnd (m_base_Apply t a39 (k70 : Int)) fun q85 => if q85.2 = true then (bnd (m_base_Rank t.vars q85.1) fun q99 => bnd (appI 24 s68 [(⟨(k38 : Int), (k70 : Int), q99⟩ : Edg)]) fun u107 => some (.next u107)) else (some (.next s68))) t.ops 0 s36) fun res66 => fin res66 fun (s123 : (List Edg)) => some (.next s123)) (xs := statesL t.vars) (s₀ := [])
    (fun n acc => acc.length ≤ n * 20 ∧ ∀ e, e ∈ acc ↔ EdgeOk t e ∧ e.src < (n : Int)) ⟨by simp, fun e => ⟨fun he => by simp at he, fun ⟨⟨i, _, _, _, _, hE, _⟩, hlt⟩ => by subst hE; simp only at hlt; omega⟩⟩ (fun n s acc hn hI => by
      obtain ⟨i1, i2⟩ := hI
      have hnlt := lt_of_get hn
      have hs : StateOk t.vars s := mem_statesL.1 (List.mem_of_getElem? hn)
      obtain ⟨es, g1, g2, g3⟩ := rng_all (ρ := Ctl (List Edg) (List Edg)) (f := fun (k70 : Nat) (_ : Opr) (s68 : (List Edg)) => bnd (m_base_Apply t s (k70 : Int)) fun q85 => if q85.2 = true then (bnd (m_base_Rank t.vars q85.1) fun q99 => bnd (appI 24 s68 [(⟨(n : Int), (k70 : Int), q99⟩ : Edg)]) fun u107 => some (.next u107)) else (some (.next s68))) (xs := t.ops) (s₀ := acc)
        (fun m acc' => acc'.length ≤ n * 20 + m ∧ ∀ e, e ∈ acc' ↔ EdgeOk t e ∧ (e.src < (n : Int) ∨ e.src = (n : Int) ∧ e.op < (m : Int))) ⟨by omega, fun e => by
          rw [i2]
          constructor
          · rintro ⟨a, b⟩; exact ⟨a, .inl b⟩
          · rintro ⟨a, b | ⟨b, c⟩⟩
            · exact ⟨a, b⟩
            · obtain ⟨i, k, j, s', o, rfl, _⟩ := a
              simp at c; omega⟩ (fun m o acc' hm hI => by
          obtain ⟨j1, j2⟩ := hI
          have hmlt := lt_of_get hm
          rw [apply_all h.ok hs hm, bnd_some]
          by_cases hp : holdsB o.pre s = true
          · obtain ⟨r, hr, hr2⟩ := rank_at h (succ_ok h.ok hs hm)
            rw [if_pos hp, if_t, hr, bnd_some, appI_eq (by simp; omega) (by simp; omega), bnd_some]
            refine ⟨_, rfl, by simp; omega, fun e => ?_⟩
            rw [List.mem_append, j2]
            constructor
            · rintro (⟨a, b⟩ | hmem)
              · refine ⟨a, ?_⟩
                rcases b with b | ⟨b, c⟩
                · exact .inl b
                · exact .inr ⟨b, by omega⟩
              · obtain rfl : e = ⟨(n : Int), (m : Int), (r : Int)⟩ := by simpa using hmem
                exact ⟨⟨n, m, r, s, o, rfl, hn, hm, hp, hr2⟩, .inr ⟨rfl, by simp; omega⟩⟩
            · rintro ⟨a, b⟩
              obtain ⟨i, k, j, s', o', rfl, a1, a2, a3, a4⟩ := a
              simp only at b
              by_cases hc : i = n ∧ k = m
              · obtain ⟨rfl, rfl⟩ := hc
                obtain rfl : s' = s := by rw [hn] at a1; exact (Option.some.inj a1).symm
                obtain rfl : o' = o := by rw [hm] at a2; exact (Option.some.inj a2).symm
                obtain rfl := uniq a4 hr2
                exact .inr (by simp)
              · exact .inl ⟨⟨i, k, j, s', o', rfl, a1, a2, a3, a4⟩, by simp only; omega⟩
          · rw [if_neg hp]
            refine ⟨_, if_neg (by simp), by omega, fun e => ?_⟩
            rw [j2]
            constructor
            · rintro ⟨a, b⟩
              refine ⟨a, ?_⟩
              rcases b with b | ⟨b, c⟩
              · exact .inl b
              · exact .inr ⟨b, by omega⟩
            · rintro ⟨a, b⟩
              obtain ⟨i, k, j, s', o', rfl, a1, a2, a3, a4⟩ := a
              simp only at b
              by_cases hc : i = n ∧ k = m
              · obtain ⟨rfl, rfl⟩ := hc
                obtain rfl : s' = s := by rw [hn] at a1; exact (Option.some.inj a1).symm
                obtain rfl : o' = o := by rw [hm] at a2; exact (Option.some.inj a2).symm
                exact absurd a3 hp
              · exact ⟨⟨i, k, j, s', o', rfl, a1, a2, a3, a4⟩, by simp only; omega⟩)
      rw [g1, bnd_some, fin_d]
      refine ⟨_, rfl, by omega, fun e => ?_⟩
      rw [g3]
      constructor
      · rintro ⟨a, b⟩
        exact ⟨a, by rcases b with b | ⟨b, _⟩ <;> omega⟩
      · rintro ⟨a, b⟩
        refine ⟨a, ?_⟩
        obtain ⟨i, k, j, s', o', rfl, a1, a2, a3, a4⟩ := a
        simp only at b ⊢
        have := lt_of_get a2
        omega)
  refine ⟨es, by rw [h1, bnd_some, fin_d], fun e => ?_⟩
  rw [h3]
  refine ⟨fun a => a.1, fun a => ⟨a, ?_⟩⟩
  obtain ⟨i, k, j, s', o', rfl, a1, a2, a3, a4⟩ := a
  have := lt_of_get a1
  simp only; omega
end
section
open Go Go.RowKit
/-- A plan leads from a state to another at a cost. -/
inductive PlanR (t : Tsk) : List Int → List Int → List Int → Int → Prop
  | nil {s : List Int} : PlanR t s [] s 0
  | cons {s rest s' : List Int} {k : Nat} {o : Opr} {C : Int} : t.ops[k]? = some o → holdsB o.pre s = true → PlanR t (succ o s) rest s' C → PlanR t s ((k : Int) :: rest) s' (o.cost + C)
end
section
section
variable {α σ ρ β : Type}
theorem lop_wf' {f : σ → Option (Ctl σ ρ)} (I : σ → Prop) (B : σ → Prop) (R : ρ → Prop) (μ : σ → Nat) (h : ∀ s, I s → (∃ s', f s = some (.next s') ∧ I s' ∧ μ s' < μ s) ∨ (∃ s', f s = some (.brk s') ∧ B s') ∨ ∃ r, f s = some (.ret r) ∧ R r) :
    ∀ s, I s → (∃ s', lop f s = some (.done s') ∧ B s') ∨ ∃ r, lop f s = some (.ret r) ∧ R r := by
  have key : ∀ (n : Nat) s, I s → μ s < n → (∃ s', lop f s = some (.done s') ∧ B s') ∨ ∃ r, lop f s = some (.ret r) ∧ R r := by
    intro n
    induction n with
    | zero => intro s _ hn; omega
    | succ n ih =>
      intro s hI hn
      rw [lop_eq]
      rcases h s hI with ⟨s', h1, h2, h3⟩ | ⟨s', h1, h2⟩ | ⟨r, h1, h2⟩
      · rw [h1]; exact ih s' h2 (by omega)
      · rw [h1]; exact .inl ⟨s', rfl, h2⟩
      · rw [h1]; exact .inr ⟨r, rfl, h2⟩
  exact fun s hI => key (μ s + 1) s hI (by omega)
/-- A loop, and what is said of what comes behind it. -/
theorem lop_ex {f : σ → Option (Ctl σ ρ)} {s₀ : σ} {k : Fin σ ρ → Option β} {P : β → Prop} (I : σ → Prop) (B : σ → Prop) (R : ρ → Prop) (μ : σ → Nat) (h0 : I s₀)
    (h : ∀ s, I s → (∃ s', f s = some (.next s') ∧ I s' ∧ μ s' < μ s) ∨ (∃ s', f s = some (.brk s') ∧ B s') ∨ ∃ r, f s = some (.ret r) ∧ R r)
    (hb : ∀ s, B s → ∃ r, k (.done s) = some r ∧ P r) (hr : ∀ q, R q → ∃ r, k (.ret q) = some r ∧ P r) : ∃ r, bnd (lop f s₀) k = some r ∧ P r := by
  rcases lop_wf' I B R μ h s₀ h0 with ⟨s, h1, h2⟩ | ⟨q, h1, h2⟩
  · rw [h1, bnd_some]; exact hb s h2
  · rw [h1, bnd_some]; exact hr q h2
theorem rng_ex {f : Nat → α → σ → Option (Ctl σ ρ)} {xs : List α} {s₀ : σ} {k : Fin σ ρ → Option β} {P : β → Prop} (I : Nat → σ → Prop) (R : ρ → Prop) (h0 : I 0 s₀)
    (h : ∀ i x s, xs[i]? = some x → I i s → (∃ s', f i x s = some (.next s') ∧ I (i + 1) s') ∨ ∃ q, f i x s = some (.ret q) ∧ R q)
    (hb : ∀ s, I xs.length s → ∃ r, k (.done s) = some r ∧ P r) (hr : ∀ q, R q → ∃ r, k (.ret q) = some r ∧ P r) : ∃ r, bnd (rng f xs 0 s₀) k = some r ∧ P r := by
  have key : ∀ (ys : List α) (j : Nat) (s : σ), (∀ i, ys[i]? = xs[j + i]?) → j + ys.length = xs.length → I j s → ∃ r, bnd (rng f ys j s) k = some r ∧ P r := by
    intro ys
    induction ys with
    | nil => intro j s _ hl hI; exact hb s (by simp at hl; rw [← hl]; exact hI)
    | cons y ys ih =>
      intro j s hg hl hI
      have hy : xs[j]? = some y := by have := hg 0; simpa using this.symm
      simp only [rng]
      rcases h j y s hy hI with ⟨s', h1, h2⟩ | ⟨q, h1, h2⟩
      · rw [h1]
        exact ih (j + 1) s' (fun i => by have := hg (i + 1); rw [show j + 1 + i = j + (i + 1) from by omega, ← this]; simp) (by simp at hl; omega) h2
      · rw [h1, bnd_some]; exact hr q h2
  exact key xs 0 s₀ (fun i => by rw [Nat.zero_add]) (by omega) h0
theorem rng_bnd {f : Nat → α → σ → Option (Ctl σ ρ)} {xs : List α} {s₀ : σ} {k : Fin σ ρ → Option β} {r : Option β} (I : Nat → σ → Prop) (h0 : I 0 s₀)
    (h : ∀ i x s, xs[i]? = some x → I i s → ∃ s', f i x s = some (.next s') ∧ I (i + 1) s') (hb : ∀ s, I xs.length s → k (.done s) = r) : bnd (rng f xs 0 s₀) k = r := by
  obtain ⟨s, h1, h2⟩ := rng_all I h0 h
  rw [h1, bnd_some]
  exact hb s h2
end
end
section
open Go Go.RowKit
theorem take_mem {α : Type} {l : List α} {k : Nat} {x y : α} (h : l[k]? = some x) : y ∈ l.take (k + 1) ↔ y ∈ l.take k ∨ y = x := by
  rw [List.take_add_one, h, List.mem_append]; simp
end
section
open Go Go.RowKit
abbrev U64 := BitVec 64
instance : Rp U64 where
  isAgg := false
  size := 1
  R _ _ cs x := cs = [.int .u64 (x.toNat : Int)]
  len := by rintro w F cs x rfl; rfl
  one := by
    rintro w F cs x rfl u hu
    have : u = .int .u64 (x.toNat : Int) := by simpa using hu
    subst this; rfl
  agree := fun h _ => h
  mono := fun h _ => h
theorem Vb.u64 {w : World} {F : Nat → Prop} {v : Value} {x : U64} (h : Vb w F v x) : v = .int .u64 (x.toNat : Int) := by
  have : [v] = [.int .u64 (x.toNat : Int)] := h
  simpa using this
theorem vU64 {w : World} {F : Nat → Prop} {x : U64} : Vb w F (.int .u64 (x.toNat : Int)) x := rfl
theorem wrapU (a : Int) : IntKind.u64.wrap a = a % 18446744073709551616 := by simp [IntKind.wrap, IntKind.bits, IntKind.signed]
theorem wrapN (x : BitVec 64) : IntKind.u64.wrap (x.toNat : Int) = (x.toNat : Int) := by
  rw [wrapU]
  have := x.isLt
  omega
theorem ofIntU (x : U64) : BitVec.ofInt 64 (x.toNat : Int) = x := by simp
def shlU (a : U64) (q : Int) : Option U64 := if 0 ≤ q then some (a <<< q.toNat) else none
def shrU (a : U64) (q : Int) : Option U64 := if 0 ≤ q then some (a >>> q.toNat) else none
def shlI (a q : Int) : Option Int := if 0 ≤ q then some (wr (a * 2 ^ (min q.toNat 64))) else none
theorem shlI_rng {a q c : Int} (h : shlI a q = some c) : inI64 c := by
  unfold shlI at h
  split at h
  · rw [← sm h]; exact wr_rng _
  · cases h
theorem toIntR (a : U64) : inI64 a.toInt := by
  have h1 := BitVec.toInt_lt (x := a)
  have h2 := BitVec.le_toInt (x := a)
  simp at h1 h2
  exact ⟨by omega, by omega⟩
section
variable {P : Program} {l : Env} {w : World} {dst : Option Tmp} {ty : TypeId} {pos : String} {aft : Array Edge}
theorem ev_uan {t u : TypeId} {x y : Operand} {a b : U64} (hx : opv l x = some (.int .u64 (a.toNat : Int))) (hy : opv l y = some (.int .u64 (b.toNat : Int))) : Ev P ⟨dst, .binOp .and t x y u, ty, pos, aft, none⟩ l w (.int .u64 ((a &&& b).toNat : Int)) := fun _ _ d ha => by
  have h := wrapN (a &&& b)
  have h1 : (BitVec.ofInt IntKind.u64.bits (a.toNat : Int)) = a := ofIntU a
  have h2 : (BitVec.ofInt IntKind.u64.bits (b.toNat : Int)) = b := ofIntU b
  simp only [execOp, ha.eval hx, ha.eval hy, eqGuard, binOp, Op.intBits, h1, h2]
  simp
  exact h.trans (by simp)
theorem ev_uor {t u : TypeId} {x y : Operand} {a b : U64} (hx : opv l x = some (.int .u64 (a.toNat : Int))) (hy : opv l y = some (.int .u64 (b.toNat : Int))) : Ev P ⟨dst, .binOp .or t x y u, ty, pos, aft, none⟩ l w (.int .u64 ((a ||| b).toNat : Int)) := fun _ _ d ha => by
  have h := wrapN (a ||| b)
  have h1 : (BitVec.ofInt IntKind.u64.bits (a.toNat : Int)) = a := ofIntU a
  have h2 : (BitVec.ofInt IntKind.u64.bits (b.toNat : Int)) = b := ofIntU b
  simp only [execOp, ha.eval hx, ha.eval hy, eqGuard, binOp, Op.intBits, h1, h2]
  simp
  exact h.trans (by simp)
theorem ev_uxo {t u : TypeId} {x y : Operand} {a b : U64} (hx : opv l x = some (.int .u64 (a.toNat : Int))) (hy : opv l y = some (.int .u64 (b.toNat : Int))) : Ev P ⟨dst, .binOp .xor t x y u, ty, pos, aft, none⟩ l w (.int .u64 ((a ^^^ b).toNat : Int)) := fun _ _ d ha => by
  have h := wrapN (a ^^^ b)
  have h1 : (BitVec.ofInt IntKind.u64.bits (a.toNat : Int)) = a := ofIntU a
  have h2 : (BitVec.ofInt IntKind.u64.bits (b.toNat : Int)) = b := ofIntU b
  simp only [execOp, ha.eval hx, ha.eval hy, eqGuard, binOp, Op.intBits, h1, h2]
  simp
  exact h.trans (by simp)
theorem ev_uns {t u : TypeId} {x y : Operand} {a b : U64} (hx : opv l x = some (.int .u64 (a.toNat : Int))) (hy : opv l y = some (.int .u64 (b.toNat : Int))) : Ev P ⟨dst, .binOp .andNot t x y u, ty, pos, aft, none⟩ l w (.int .u64 ((a &&& ~~~b).toNat : Int)) := fun _ _ d ha => by
  have h := wrapN (a &&& ~~~b)
  have h1 : (BitVec.ofInt IntKind.u64.bits (a.toNat : Int)) = a := ofIntU a
  have h2 : (BitVec.ofInt IntKind.u64.bits (b.toNat : Int)) = b := ofIntU b
  simp only [execOp, ha.eval hx, ha.eval hy, eqGuard, binOp, Op.intBits, h1, h2]
  simp
  exact h.trans (by simp)
theorem ev_uad {t u : TypeId} {x y : Operand} {a b : U64} (hx : opv l x = some (.int .u64 (a.toNat : Int))) (hy : opv l y = some (.int .u64 (b.toNat : Int))) : Ev P ⟨dst, .binOp .add t x y u, ty, pos, aft, none⟩ l w (.int .u64 ((a + b).toNat : Int)) := fun _ _ d ha => by
  have h : IntKind.u64.wrap ((a.toNat : Int) + (b.toNat : Int)) = ((a + b).toNat : Int) := by
    rw [wrapU]
    have h1 := a.isLt
    have h2 := b.isLt
    rw [BitVec.toNat_add]; omega
  simp [execOp, ha.eval hx, ha.eval hy, eqGuard, binOp, Op.intArith, h]
theorem ev_usb {t u : TypeId} {x y : Operand} {a b : U64} (hx : opv l x = some (.int .u64 (a.toNat : Int))) (hy : opv l y = some (.int .u64 (b.toNat : Int))) : Ev P ⟨dst, .binOp .sub t x y u, ty, pos, aft, none⟩ l w (.int .u64 ((a - b).toNat : Int)) := fun _ _ d ha => by
  have h : IntKind.u64.wrap ((a.toNat : Int) - (b.toNat : Int)) = ((a - b).toNat : Int) := by
    rw [wrapU]
    have h1 := a.isLt
    have h2 := b.isLt
    rw [BitVec.toNat_sub]; omega
  simp [execOp, ha.eval hx, ha.eval hy, eqGuard, binOp, Op.intArith, h]
theorem ev_uml {t u : TypeId} {x y : Operand} {a b : U64} (hx : opv l x = some (.int .u64 (a.toNat : Int))) (hy : opv l y = some (.int .u64 (b.toNat : Int))) : Ev P ⟨dst, .binOp .mul t x y u, ty, pos, aft, none⟩ l w (.int .u64 ((a * b).toNat : Int)) := fun _ _ d ha => by
  have h : IntKind.u64.wrap ((a.toNat : Int) * (b.toNat : Int)) = ((a * b).toNat : Int) := by
    rw [wrapU]
    have h1 := a.isLt
    have h2 := b.isLt
    rw [BitVec.toNat_mul, Int.natCast_emod, Int.natCast_mul]; rfl
  simp [execOp, ha.eval hx, ha.eval hy, eqGuard, binOp, Op.intArith, h]
theorem ev_ush {t u : TypeId} {x y : Operand} {a c : U64} {q : Int} {k : IntKind} (hx : opv l x = some (.int .u64 (a.toNat : Int))) (hy : opv l y = some (.int k q)) (he : shlU a q = some c) : Ev P ⟨dst, .binOp .shl t x y u, ty, pos, aft, none⟩ l w (.int .u64 (c.toNat : Int)) := fun _ _ d ha => by
  unfold shlU at he
  split at he
  · rename_i hq
    have hc := sm he
    subst hc
    have h : IntKind.u64.wrap ((a.toNat : Int) * 2 ^ (min q.toNat IntKind.u64.bits)) = ((a <<< q.toNat).toNat : Int) := by
      rw [wrapU, BitVec.toNat_shiftLeft, Nat.shiftLeft_eq]
      show (a.toNat : Int) * 2 ^ (min q.toNat 64) % 18446744073709551616 = ((a.toNat * 2 ^ q.toNat % 18446744073709551616 : Nat) : Int)
      by_cases hk : q.toNat ≤ 64
      · rw [Nat.min_eq_left hk, Int.natCast_emod, Int.natCast_mul, Int.natCast_pow]; rfl
      · have hb : q.toNat = 64 + (q.toNat - 64) := by omega
        rw [Nat.min_eq_right (by omega), hb, Nat.pow_add]
        have e1 : a.toNat * (2 ^ 64 * 2 ^ (q.toNat - 64)) % 18446744073709551616 = 0 := by
          rw [← Nat.mul_assoc, Nat.mul_right_comm]
          exact Nat.mul_mod_left _ _
        have e2 : (a.toNat : Int) * 2 ^ 64 % 18446744073709551616 = 0 := Int.mul_emod_left _ _
        rw [e1, e2]; rfl
    have hn : ¬ q < 0 := by omega
    simp [execOp, ha.eval hx, ha.eval hy, eqGuard, binOp, Op.shift, hn, h]
  · cases he
theorem ev_usr {t u : TypeId} {x y : Operand} {a c : U64} {q : Int} {k : IntKind} (hx : opv l x = some (.int .u64 (a.toNat : Int))) (hy : opv l y = some (.int k q)) (he : shrU a q = some c) : Ev P ⟨dst, .binOp .shr t x y u, ty, pos, aft, none⟩ l w (.int .u64 (c.toNat : Int)) := fun _ _ d ha => by
  unfold shrU at he
  split at he
  · rename_i hq
    have hc := sm he
    subst hc
    have h : (a.toNat : Int).fdiv (2 ^ (min q.toNat IntKind.u64.bits)) = ((a >>> q.toNat).toNat : Int) := by
      rw [BitVec.toNat_ushiftRight, Nat.shiftRight_eq_div_pow]
      show (a.toNat : Int).fdiv (2 ^ (min q.toNat 64)) = _
      have hl := a.isLt
      rw [Int.fdiv_eq_ediv_of_nonneg _ (by exact_mod_cast Nat.zero_le (2 ^ (min q.toNat 64)))]
      by_cases hk : q.toNat ≤ 64
      · rw [Nat.min_eq_left hk, Int.natCast_ediv, Int.natCast_pow]; rfl
      · rw [Nat.min_eq_right (by omega)]
        have e1 : a.toNat / 2 ^ q.toNat = 0 := Nat.div_eq_of_lt (Nat.lt_of_lt_of_le hl (Nat.pow_le_pow_right (by decide) (by omega)))
        rw [e1]
        omega
    have hn : ¬ q < 0 := by omega
    simp [execOp, ha.eval hx, ha.eval hy, eqGuard, binOp, Op.shift, hn, h]
  · cases he
theorem ev_ish {t u : TypeId} {x y : Operand} {a c q : Int} (hx : opv l x = some (.int .i64 a)) (hy : opv l y = some (.int .i64 q)) (he : shlI a q = some c) : Ev P ⟨dst, .binOp .shl t x y u, ty, pos, aft, none⟩ l w (.int .i64 c) := fun _ _ d ha => by
  unfold shlI at he
  split at he
  · rename_i hq
    have hc := sm he
    subst hc
    have hn : ¬ q < 0 := by omega
    simp [execOp, ha.eval hx, ha.eval hy, eqGuard, binOp, Op.shift, hn, wr, IntKind.bits]
  · cases he
theorem ev_cvU {s t : TypeId} {k : IntKind} [hs : TInt P s k] [ht : TInt P t .u64] {x : Operand} {a : Int} (hx : opv l x = some (.int k a)) : Ev P ⟨dst, .convert s t x, ty, pos, aft, none⟩ l w (.int .u64 ((BitVec.ofInt 64 a).toNat : Int)) := fun _ _ d ha => by
  have h : IntKind.u64.wrap a = ((BitVec.ofInt 64 a).toNat : Int) := by
    rw [wrapU, BitVec.toNat_ofInt]
    have : (0 : Int) ≤ a % 18446744073709551616 := by omega
    simp
    omega
  simp [execOp, ha.eval hx, convert, run_underlying hs.eq, run_underlying ht.eq, Conv.intToInt, h]
theorem ev_cvI {s t : TypeId} [hs : TInt P s .u64] [ht : TInt P t .i64] {x : Operand} {a : U64} (hx : opv l x = some (.int .u64 (a.toNat : Int))) : Ev P ⟨dst, .convert s t x, ty, pos, aft, none⟩ l w (.int .i64 a.toInt) := fun _ _ d ha => by
  have h : IntKind.i64.wrap (a.toNat : Int) = a.toInt := by
    rw [IntKind.wrap_i64, BitVec.toInt_eq_toNat_cond]
    have := a.isLt
    split <;> omega
  simp [execOp, ha.eval hx, convert, run_underlying hs.eq, run_underlying ht.eq, Conv.intToInt, h]
end
section
variable {P : Program} {n : Nat} {ops : Array Oper} {Q : Post} {rest : List Oper} {l : Env} {w : World} {d : Tmp} {ty : TypeId} {pos : String} {aft : Array Edge}
theorem o_uxo {t u : TypeId} {x y : Operand} {a b : U64} (hx : opv l x = some (.int .u64 (a.toNat : Int))) (hy : opv l y = some (.int .u64 (b.toNat : Int))) (hd : Nat.blt d n = true) (h : owp P n ops Q rest ((d, .int .u64 ((a ^^^ b).toNat : Int)) :: l) w)  : owp P n ops Q (⟨some d, .binOp .xor t x y u, ty, pos, aft, none⟩ :: rest) l w := owp_ev (ev_uxo hx hy) hd h
theorem o_uad {t u : TypeId} {x y : Operand} {a b : U64} (hx : opv l x = some (.int .u64 (a.toNat : Int))) (hy : opv l y = some (.int .u64 (b.toNat : Int))) (hd : Nat.blt d n = true) (h : owp P n ops Q rest ((d, .int .u64 ((a + b).toNat : Int)) :: l) w)  : owp P n ops Q (⟨some d, .binOp .add t x y u, ty, pos, aft, none⟩ :: rest) l w := owp_ev (ev_uad hx hy) hd h
theorem o_uml {t u : TypeId} {x y : Operand} {a b : U64} (hx : opv l x = some (.int .u64 (a.toNat : Int))) (hy : opv l y = some (.int .u64 (b.toNat : Int))) (hd : Nat.blt d n = true) (h : owp P n ops Q rest ((d, .int .u64 ((a * b).toNat : Int)) :: l) w)  : owp P n ops Q (⟨some d, .binOp .mul t x y u, ty, pos, aft, none⟩ :: rest) l w := owp_ev (ev_uml hx hy) hd h
theorem o_usr {t u : TypeId} {x y : Operand} {a c : U64} {q : Int} {k : IntKind} (hx : opv l x = some (.int .u64 (a.toNat : Int))) (hy : opv l y = some (.int k q)) (hd : Nat.blt d n = true) (h : owp P n ops Q rest ((d, .int .u64 (c.toNat : Int)) :: l) w) (he : shrU a q = some c := by assumption) : owp P n ops Q (⟨some d, .binOp .shr t x y u, ty, pos, aft, none⟩ :: rest) l w := owp_ev (ev_usr hx hy he) hd h
theorem o_ish {t u : TypeId} {x y : Operand} {a c q : Int} (hx : opv l x = some (.int .i64 a)) (hy : opv l y = some (.int .i64 q)) (hd : Nat.blt d n = true) (h : owp P n ops Q rest ((d, .int .i64 c) :: l) w) (he : shlI a q = some c := by assumption) : owp P n ops Q (⟨some d, .binOp .shl t x y u, ty, pos, aft, none⟩ :: rest) l w := owp_ev (ev_ish hx hy he) hd h
theorem o_cvU {s t : TypeId} {k : IntKind} [TInt P s k] [TInt P t .u64] {x : Operand} {a : Int} (hx : opv l x = some (.int k a)) (hd : Nat.blt d n = true) (h : owp P n ops Q rest ((d, .int .u64 ((BitVec.ofInt 64 a).toNat : Int)) :: l) w)  : owp P n ops Q (⟨some d, .convert s t x, ty, pos, aft, none⟩ :: rest) l w := owp_ev (ev_cvU hx) hd h
theorem o_cvI {s t : TypeId} [TInt P s .u64] [TInt P t .i64] {x : Operand} {a : U64} (hx : opv l x = some (.int .u64 (a.toNat : Int))) (hd : Nat.blt d n = true) (h : owp P n ops Q rest ((d, .int .i64 a.toInt) :: l) w)  : owp P n ops Q (⟨some d, .convert s t x, ty, pos, aft, none⟩ :: rest) l w := owp_ev (ev_cvI hx) hd h
variable {S : World → Prop} {r : List (Nat × Bool)} {i : Nat}
theorem h_uan {t u : TypeId} {x y : Operand} {a b : U64} (hi : ops[i]? = some ⟨some d, .binOp .and t x y u, ty, pos, aft, none⟩) (hx : opv l x = some (.int .u64 (a.toNat : Int))) (hy : opv l y = some (.int .u64 (b.toNat : Int))) (hd : Nat.blt d n = true) (h : hwp P n ops Q S r ((d, .int .u64 ((a &&& b).toNat : Int)) :: l) w)  : hwp P n ops Q S ((i, true) :: r) l w := hwp_o hi (hwq_ev (fun _ _ => ev_uan hx hy) hd h)
theorem h_uor {t u : TypeId} {x y : Operand} {a b : U64} (hi : ops[i]? = some ⟨some d, .binOp .or t x y u, ty, pos, aft, none⟩) (hx : opv l x = some (.int .u64 (a.toNat : Int))) (hy : opv l y = some (.int .u64 (b.toNat : Int))) (hd : Nat.blt d n = true) (h : hwp P n ops Q S r ((d, .int .u64 ((a ||| b).toNat : Int)) :: l) w)  : hwp P n ops Q S ((i, true) :: r) l w := hwp_o hi (hwq_ev (fun _ _ => ev_uor hx hy) hd h)
theorem h_uns {t u : TypeId} {x y : Operand} {a b : U64} (hi : ops[i]? = some ⟨some d, .binOp .andNot t x y u, ty, pos, aft, none⟩) (hx : opv l x = some (.int .u64 (a.toNat : Int))) (hy : opv l y = some (.int .u64 (b.toNat : Int))) (hd : Nat.blt d n = true) (h : hwp P n ops Q S r ((d, .int .u64 ((a &&& ~~~b).toNat : Int)) :: l) w)  : hwp P n ops Q S ((i, true) :: r) l w := hwp_o hi (hwq_ev (fun _ _ => ev_uns hx hy) hd h)
theorem h_usb {t u : TypeId} {x y : Operand} {a b : U64} (hi : ops[i]? = some ⟨some d, .binOp .sub t x y u, ty, pos, aft, none⟩) (hx : opv l x = some (.int .u64 (a.toNat : Int))) (hy : opv l y = some (.int .u64 (b.toNat : Int))) (hd : Nat.blt d n = true) (h : hwp P n ops Q S r ((d, .int .u64 ((a - b).toNat : Int)) :: l) w)  : hwp P n ops Q S ((i, true) :: r) l w := hwp_o hi (hwq_ev (fun _ _ => ev_usb hx hy) hd h)
theorem h_ush {t u : TypeId} {x y : Operand} {a c : U64} {q : Int} {k : IntKind} (hi : ops[i]? = some ⟨some d, .binOp .shl t x y u, ty, pos, aft, none⟩) (hx : opv l x = some (.int .u64 (a.toNat : Int))) (hy : opv l y = some (.int k q)) (hd : Nat.blt d n = true) (h : hwp P n ops Q S r ((d, .int .u64 (c.toNat : Int)) :: l) w) (he : shlU a q = some c := by assumption) : hwp P n ops Q S ((i, true) :: r) l w := hwp_o hi (hwq_ev (fun _ _ => ev_ush hx hy he) hd h)
theorem h_usr {t u : TypeId} {x y : Operand} {a c : U64} {q : Int} {k : IntKind} (hi : ops[i]? = some ⟨some d, .binOp .shr t x y u, ty, pos, aft, none⟩) (hx : opv l x = some (.int .u64 (a.toNat : Int))) (hy : opv l y = some (.int k q)) (hd : Nat.blt d n = true) (h : hwp P n ops Q S r ((d, .int .u64 (c.toNat : Int)) :: l) w) (he : shrU a q = some c := by assumption) : hwp P n ops Q S ((i, true) :: r) l w := hwp_o hi (hwq_ev (fun _ _ => ev_usr hx hy he) hd h)
theorem h_cvU {s t : TypeId} {k : IntKind} [TInt P s k] [TInt P t .u64] {x : Operand} {a : Int} (hi : ops[i]? = some ⟨some d, .convert s t x, ty, pos, aft, none⟩) (hx : opv l x = some (.int k a)) (hd : Nat.blt d n = true) (h : hwp P n ops Q S r ((d, .int .u64 ((BitVec.ofInt 64 a).toNat : Int)) :: l) w)  : hwp P n ops Q S ((i, true) :: r) l w := hwp_o hi (hwq_ev (fun _ _ => ev_cvU hx) hd h)
theorem h_cvI {s t : TypeId} [TInt P s .u64] [TInt P t .i64] {x : Operand} {a : U64} (hi : ops[i]? = some ⟨some d, .convert s t x, ty, pos, aft, none⟩) (hx : opv l x = some (.int .u64 (a.toNat : Int))) (hd : Nat.blt d n = true) (h : hwp P n ops Q S r ((d, .int .i64 a.toInt) :: l) w)  : hwp P n ops Q S ((i, true) :: r) l w := hwp_o hi (hwq_ev (fun _ _ => ev_cvI hx) hd h)
end
end
section
open Go Go.RowKit
attribute [local irreducible] ewp owp hwp hwq hws Ev Evg Fn retPost loud loudS Res1
attribute [local irreducible] hwx loudX
def m_slices_Clone_Luint64_uint64 (xs : List U64) : Option (List U64) := if xs.length * 8 ≤ 140737488355328 ∧ xs.length ≤ 9223372036854775807 then some xs else none
theorem c_slices_Clone_Luint64_uint64 {w : World} {A : Nat → Prop} (hA : ∀ k, A k → k < w.heap.size) {v0 : Value} {x0 : List U64} (h0 : Vb w A v0 x0) {r : List U64} (hm : m_slices_Clone_Luint64_uint64 x0 = some r) :
    Fn Try.prog 75 [v0] w fun v w' => Ext w w' ∧ RowR w w' (upA A w w') 150 v r := by
  obtain ⟨⟨hl, hl2⟩, rfl⟩ := ite_some hm
  obtain ⟨O, hB, hA0⟩ := enter hA
  replace h0 := h0.mono hA0
  obtain ⟨Ad, c, rfl⟩ := h0.form
  refine fn_enter Try.func75 rfl Try.ntmps75 rfl ?_
  cases Ad with
  | none =>
    have hx : x0 = [] := by
      cases x0 with
      | nil => rfl
      | cons x xs => obtain ⟨_, _, _, h, _⟩ := h0.elem (k := 0) (x := x) rfl; cases h
    subst hx
    ((repeat (first | refine ewp_seq ?_ | refine ewp_block ?_ | refine ewp_region ?_ | refine ewp_skip ?_ | refine ewp_exit ?_ | refine ewp_ret ?_ | refine ewp_true rfl ?_ | refine ewp_false rfl ?_)) <;> (refine o_as rfl rfl ?_ <;> (first | refine owp_nilT ?_ | refine owp_nilB ?_ | refine owp_nilBB ?_ | refine owp_nil ?_)) <;> (repeat (first | refine ewp_seq ?_ | refine ewp_block ?_ | refine ewp_region ?_ | refine ewp_skip ?_ | refine ewp_exit ?_ | refine ewp_ret ?_ | refine ewp_true rfl ?_ | refine ewp_false rfl ?_)) <;> (refine o_mv rfl rfl ?_ <;> refine o_sn rfl rfl ?_ <;> (first | refine owp_nilT ?_ | refine owp_nilB ?_ | refine owp_nilBB ?_ | refine owp_nil ?_)) <;> (repeat (first | refine ewp_seq ?_ | refine ewp_block ?_ | refine ewp_region ?_ | refine ewp_skip ?_ | refine ewp_exit ?_ | refine ewp_ret ?_ | refine ewp_true rfl ?_ | refine ewp_false rfl ?_)) <;> (refine o_as rfl rfl ?_ <;> (first | refine owp_nilT ?_ | refine owp_nilB ?_ | refine owp_nilBB ?_ | refine owp_nil ?_)) <;> (repeat (first | refine ewp_seq ?_ | refine ewp_block ?_ | refine ewp_region ?_ | refine ewp_skip ?_ | refine ewp_exit ?_ | refine ewp_ret ?_ | refine ewp_true rfl ?_ | refine ewp_false rfl ?_)))
    exact ret1 rfl rfl ⟨Below.refl _ _, RowR.nil⟩
  | some ad =>
    ((repeat (first | refine ewp_seq ?_ | refine ewp_block ?_ | refine ewp_region ?_ | refine ewp_skip ?_ | refine ewp_exit ?_ | refine ewp_ret ?_ | refine ewp_true rfl ?_ | refine ewp_false rfl ?_)) <;> (refine o_as rfl rfl ?_ <;> (first | refine owp_nilT ?_ | refine owp_nilB ?_ | refine owp_nilBB ?_ | refine owp_nil ?_)) <;> (repeat (first | refine ewp_seq ?_ | refine ewp_block ?_ | refine ewp_region ?_ | refine ewp_skip ?_ | refine ewp_exit ?_ | refine ewp_ret ?_ | refine ewp_true rfl ?_ | refine ewp_false rfl ?_)) <;> (refine o_mv rfl rfl ?_ <;> refine o_sn rfl rfl ?_ <;> (first | refine owp_nilT ?_ | refine owp_nilB ?_ | refine owp_nilBB ?_ | refine owp_nil ?_)) <;> (repeat (first | refine ewp_seq ?_ | refine ewp_block ?_ | refine ewp_region ?_ | refine ewp_skip ?_ | refine ewp_exit ?_ | refine ewp_ret ?_ | refine ewp_true rfl ?_ | refine ewp_false rfl ?_)))
    refine l_bslice 2 (by decide) O (xs := ([] : List U64)) rfl rfl rfl rfl trivial (by decide) (by decide) rfl fun g w1 O1 S1 h1 => ?_
    replace hB := hB.st S1 (fun h => h) (fun h => h)
    replace h0 := h0.st S1 (fun h => h)
    (refine o_mv rfl rfl ?_)
    refine l_append rfl h1 h0.rd rfl rfl (by decide) (by simpa using hl) (by simpa using hl2) rfl fun A2 c2 w2 O2 S2 h2 => ?_
    replace hB := hB.st S2 (by decide) (by decide)
    rw [List.nil_append] at h2 ⊢
    (refine o_as rfl rfl ?_ <;> (first | refine owp_nilT ?_ | refine owp_nilB ?_ | refine owp_nilBB ?_ | refine owp_nil ?_))
    repeat (first | refine ewp_seq ?_ | refine ewp_block ?_ | refine ewp_region ?_ | refine ewp_skip ?_ | refine ewp_exit ?_ | refine ewp_ret ?_ | refine ewp_true rfl ?_ | refine ewp_false rfl ?_)
    exact ret1 rfl rfl ⟨hB.ext, h2.out hB (by decide)⟩
structure PFd where
  word : Int
  bit : Int
  width : Int
  size : Int
instance : Rp PFd where
  isAgg := true
  size := 4
  R w F cs x := cs = [.int .i64 x.word, .int .i64 x.bit, .int .i64 x.width, .int .i64 x.size] ∧ inI64 x.word ∧ inI64 x.bit ∧ inI64 x.width ∧ inI64 x.size
  len := by rintro w F cs x ⟨rfl, h0, h1, h2, h3⟩; rfl
  one := by rintro w F cs x ⟨rfl, h0, h1, h2, h3⟩ u hu; simp at hu; rcases hu with rfl | rfl | rfl | rfl <;> first | rfl | exact Vb.one rfl (by assumption)
  agree := by rintro w w' F cs x ⟨rfl, h0, h1, h2, h3⟩ ha; exact ⟨rfl, h0, h1, h2, h3⟩
  mono := by rintro w F G cs x ⟨rfl, h0, h1, h2, h3⟩ ha; exact ⟨rfl, h0, h1, h2, h3⟩
structure Pkr where
  fields : List PFd
  words : Int
instance : Ow Pkr where
  R w F M v x := ∃ (g : Nat) (L : Lab) (c0 : Value), v = .pointer (some ⟨g, 0, none⟩) ∧ Blk w g 148 [c0, .int .i64 x.words] ∧ M g ∧ L g = 0 ∧ RwM w F (fun k => M k ∧ L k = 1) 152 c0 x.fields ∧ inI64 x.words
  agree := by rintro w w' F M v x ⟨g, L, c0, rfl, hb, hM, hL, h0, h1⟩ a1 a2; exact ⟨g, L, c0, rfl, hb.keep (a2 g hM), hM, hL, h0.agree a1 fun k hk => a2 k hk.1, h1⟩
  mono := by rintro w F M F' M' v x ⟨g, L, c0, rfl, hb, hM, hL, h0, h1⟩ a1 a2 a3; exact ⟨g, L, c0, rfl, hb, a2 g hM, hL, h0.mono a1 (fun k hk => ⟨a2 k hk.1, hk.2⟩) fun k hf hm => a3 k hf hm.1, h1⟩
instance : OwP Pkr := ⟨by rintro w F M v x ⟨g, L, c0, rfl, _⟩; exact ⟨g, rfl⟩⟩
theorem Pkr.opn {i : Nat} {w : World} {O : Lab} {p : Nat} {x : Pkr} (h : Ob i w O (.pointer (some ⟨p, 0, none⟩)) x) (l0 l1 : Nat) (hl : l0 ≠ 0 ∧ l1 ≠ 0) : ∃ (O' : Lab) (c0 : Value), St (eT i) w O w O' ∧ (∀ k, Fr i w O k → ∃ q, q ∈ [l0, l1] ∧ Fr q w O' k) ∧ Lc l0 w O' p 148 [c0, .int .i64 x.words] ∧ Rw l1 w O' 152 c0 x.fields ∧ inI64 x.words := by
  obtain ⟨⟨g, L, c0, hv, hb, hM, hL, h0, h1⟩, hi⟩ := h
  obtain rfl : p = g := by injection hv with hv; injection hv with hv; injection hv
  exact ⟨part O i L [l0, l1], c0, part_st hi, part_all (by simp), ⟨hb, (part_fr (j := 0) rfl p ⟨hM, hL⟩).2⟩, h0.rw (part_fr0 hi) (part_fr (j := 1) rfl) hl.2, h1⟩
theorem Pkr.shut {w : World} {O : Lab} {p : Nat} {x : Pkr} {l0 l1 : Nat} {c0 : Value} (hd : ¬ 0 ∈ [l0, l1] ∧ [l0, l1].idxOf l0 = 0 ∧ [l0, l1].idxOf l1 = 1) (hb : Lc l0 w O p 148 [c0, .int .i64 x.words]) (h0 : Rw l1 w O 152 c0 x.fields) (h1 : inI64 x.words) : ∃ O', St (· ∈ [l0, l1]) w O w O' ∧ (∀ k, Fr 0 w O k → Fr 0 w O' k) ∧ (∀ q, q ∈ [l0, l1] → ∀ k, Fr q w O k → Fr l0 w O' k) ∧ Ob l0 w O' (.pointer (some ⟨p, 0, none⟩)) x := by
  have hb1 : l0 ≠ 0 := fun e => hd.1 (by simp [e])
  have hg := whole_fr (i := l0) hd.2.1 (by simp) p ⟨hb.1.lt, hb.2⟩
  exact ⟨whole O l0 [l0, l1], whole_st, whole_fr0 hd.1, whole_all, ⟨p, fun k => [l0, l1].idxOf (O k), c0, rfl, hb.1, hg.1, hg.2, h0.m (whole_fr0 hd.1) (whole_fr hd.2.2 (by simp)) (fun k a b => frNe0 hb1 k a b.1), h1⟩, hb1⟩
noncomputable def m_pack_New (x0 : List Int) : Option ((Option Pkr) × Err) :=
  if 64 < (x0.length : Int) then (some (none, (⟨5⟩ : Err))) else (bnd (rng (ρ := (Option Pkr) × Err) (fun (k25 : Nat) (a26 : Int) (s23 : Int × Pkr) => bnd (if a26 < 1 then (some true) else (if 64 < a26 then (some true) else (some false)) : Option Bool) fun y48 => if y48 = true then (some (.ret (none, (⟨1⟩ : Err)))) else (bnd (lop (ρ := Ctl (Int × Pkr) ((Option Pkr) × Err)) (fun (s61 : Int) => bnd (shlI 1 s61) fun n76 => if n76 < a26 then (bnd (chkI (s61 + 1)) fun n80 => some (.next n80)) else (some (.brk s61))) 0) fun res59 => fin res59 fun (s87 : Int) => bnd (bnd (chkI (s23.1 + s87)) fun n95 => if 64 < n95 then (bnd (chkI (s23.2.words + 1)) fun n109 => some (0, (⟨s23.2.fields, n109⟩ : Pkr))) else (some (s23.1, s23.2)) : Option (Int × Pkr)) fun y89 => bnd (chkI (y89.2.words - 1)) fun n133 => bnd (appI 32 y89.2.fields [(⟨n133, y89.1, s87, a26⟩ : PFd)]) fun u142 => bnd (chkI (y89.1 + s87)) fun n155 => some (.next (n155, (⟨u142, y89.2.words⟩ : Pkr))))) x0 0 (0, (⟨([] : List PFd), 1⟩ : Pkr))) fun res21 => fin res21 fun (s167 : Int × Pkr) => some ((some s167.2), (⟨0⟩ : Err)))
theorem c_pack_New {w : World} {O : Lab} {vx0 : Value} {x0 : List Int} (hx0 : Vb w (Fr 0 w O) vx0 x0) (j0 : Nat) (hj0 : j0 ≠ 0) {r : (Option Pkr) × Err} (hm : m_pack_New x0 = some r) :
    Fn Try.prog 74 [vx0] w fun v w' => ∃ O', St nT w O w' O' ∧ ∃ v0 v1 : Value, v = .tuple #[v0, v1] ∧ Obo j0 w' O' v0 r.1 ∧ Vb w' (Fr 0 w' O') v1 r.2 := by
 obtain ⟨O0, hE, hz0⟩ := ent0 (w := w) (O := O)
 have hB : Bm w O0 w O0 := Bm.refl
 replace hx0 := hx0.mono hz0
 obtain ⟨A2, c3, rfl⟩ := hx0.form
 refine fn_enter Try.func74 rfl Try.ntmps74 rfl ?_
 unfold m_pack_New at hm
 refine ewp_seq (ewp_region (o_as rfl rfl (o_as rfl rfl (o_z ?_))))
 refine ewp_seq (ewp_seq (ewp_region (o_mv rfl rfl (o_ln rfl rfl ?_))))
 have l5 : x0.length ≤ 9223372036854775807 := Nat.le_trans hx0.len.2.1 hx0.len.2.2
 have r4 : inI64 (x0.length : Int) := rngNat l5
 refine o_gtS rfl rfl rfl (fun c6 => ?_) fun c6 => ?_
 ·
  replace hm := ip hm c6
  refine o_z ?_
  refine ewp_true rfl (ewp_seq (ewp_region (o_miE rfl rfl ?_)))
  refine o_as rfl rfl (o_as rfl rfl (o_z ?_))
  refine ewp_ret ?_
  obtain rfl := sm hm
  obtain ⟨O', hS', hz, hl⟩ := hE.leave (fun _ => 0) rfl hB
  exact ret2 rfl (res_tmp rfl) (res_tmp rfl) ⟨O', hS', _, _, rfl, rfl, (vErr (by decide))⟩
 ·
  replace hm := im hm c6
  refine o_z ?_
  refine ewp_false rfl (ewp_skip (ewp_seq (ewp_region (o_bd rfl rfl rfl ?_))))
  refine l_box 2 O0 rfl rfl fun g7 w8 O9 S10 h11 => ?_
  replace h11 : Lc 2 w8 O9 g7 148 [(.slice none 0 0), (.int .i64 1)] := h11
  refine o_as rfl rfl (o_z ?_)
  refine ewp_seq (ewp_region (o_as rfl rfl (o_z ?_)))
  refine ewp_seq (ewp_seq (ewp_region (o_mv rfl rfl (o_ln rfl rfl ?_))))
  replace hx0 := hx0.st S10
  have l13 : x0.length ≤ 9223372036854775807 := Nat.le_trans hx0.len.2.1 hx0.len.2.2
  have r12 : inI64 (x0.length : Int) := rngNat l13
  refine o_mv rfl rfl (o_z ?_)
  have h14 : Rw 3 w8 O9 152 (.slice none 0 0) ([] : List PFd) := Rw.nil 3 (by decide)
  obtain ⟨O16, S17, hz19, ha20, h18⟩ := Pkr.shut (x := (⟨([] : List PFd), 1⟩ : Pkr)) (l0 := 2) (l1 := 3) (by decide) h11 h14 (show inI64 (1) from by decide)
  obtain ⟨res21, hL22, hm⟩ := bs hm
  refine ewp_join (aft res21 (fun (s23 : Int × Pkr) (x24 : Unit) => [(4, (.pointer (some ⟨g7, 0, none⟩)))]) (fun s23 x24 w' => ∃ O' : Lab, Bm w O0 w' O' ∧ Ob 2 w' O' (.pointer (some ⟨g7, 0, none⟩)) s23.2 ∧ inI64 s23.1)) ?_ ?_
  ·
   refine ewp_block ?_
   replace hB := (hB.st S10).st S17
   replace hx0 := hx0.st S17
   refine ewp_rng (σ := Int × Pkr) (X := Unit) (x0.length) hL22 rfl l13 (fun (s23 : Int × Pkr) (x24 : Unit) => [(4, (.pointer (some ⟨g7, 0, none⟩))), (5, (.int .i64 s23.1)), (15, (.slice A2 x0.length c3))]) _ (fun s23 x24 w' => ∃ O' : Lab, Bm w O0 w' O' ∧ Ob 2 w' O' (.pointer (some ⟨g7, 0, none⟩)) s23.2 ∧ Vb w' (Fr 0 w' O') (.slice A2 x0.length c3) x0 ∧ inI64 s23.1) _ () ⟨O16, hB, h18, hx0, (show inI64 (0) from by decide)⟩ ⟨rfl, rfl, rfl, rfl, rfl, trivial⟩ (fun _ _ => ⟨rfl, rfl⟩) (fun _ _ => ⟨rfl, trivial⟩) (fun _ _ _ ⟨O', hB, h39, hx0, r38⟩ => ⟨O', hB, h39, r38⟩) ⟨rfl, rfl, rfl⟩ ⟨rfl, rfl⟩ ?_
   rintro k25 a26 s23 x24 w27 cc29 hx30 ⟨O28, hB, h39, hx0, r38⟩ hf31 hret32 hbrk33
   have rk25 : inI64 (k25 : Int) := rngK hx30 l13
   refine ewp_seq (ewp_region ?_)
   obtain ⟨b40, o41, ce42, hA43, hl44, hd45, rfl, r47⟩ := hx0.elem' hx30
   refine o_iaE (hA := hA43) (hj := rfl) (hlt := hl44) rfl rfl rfl ?_
   refine o_ld (hc := cat0 hd45) rfl rfl ?_
   refine o_as rfl rfl (o_z ?_)
   refine ewp_seq (ewp_seq ?_)
   obtain ⟨y48, hy49, hf31⟩ := bs hf31
   refine ewp_join (fun l' w' => ∃ (x51 : Unit) (O' : Lab), subs l' [(4, (.pointer (some ⟨g7, 0, none⟩))), (5, (.int .i64 s23.1)), (7, (.int .i64 a26)), (15, (.slice A2 x0.length c3)), (16, (.int .i64 (x0.length : Int))), (17, (.int .i64 (k25 : Int))), (26, (.bool y48))] ∧ Bm w O0 w' O' ∧ Ob 2 w' O' (.pointer (some ⟨g7, 0, none⟩)) s23.2 ∧ Vb w' (Fr 0 w' O') (.slice A2 x0.length c3) x0) ?_ ?_
   ·
    refine ewp_region (o_mv rfl rfl (o_ltS rfl rfl rfl (fun c52 => ?_) fun c52 => ?_))
    ·
     replace hy49 := ip hy49 c52
     refine o_mv rfl rfl (owp_no rfl rfl rfl rfl (owp_no rfl rfl rfl rfl (o_pt rfl rfl rfl (o_z ?_))))
     obtain rfl := sm hy49
     exact ⟨(), _, ⟨rfl, rfl, rfl, rfl, rfl, rfl, rfl, trivial⟩, hB, h39, hx0⟩
    ·
     replace hy49 := im hy49 c52
     refine o_mv rfl rfl (owp_yes rfl rfl (o_mv rfl rfl (owp_yes rfl rfl (o_gtS rfl rfl rfl (fun c53 => ?_) fun c53 => ?_))))
     ·
      replace hy49 := ip hy49 c53
      refine o_pf rfl rfl rfl (o_z ?_)
      obtain rfl := sm hy49
      exact ⟨(), _, ⟨rfl, rfl, rfl, rfl, rfl, rfl, rfl, trivial⟩, hB, h39, hx0⟩
     ·
      replace hy49 := im hy49 c53
      refine o_pf rfl rfl rfl (o_z ?_)
      obtain rfl := sm hy49
      exact ⟨(), _, ⟨rfl, rfl, rfl, rfl, rfl, rfl, rfl, trivial⟩, hB, h39, hx0⟩
   rintro l54 w55 ⟨x51, O56, hs57, hB, h39, hx0⟩
   refine ewp_sub _ hs57 ?_
   refine ewp_cond rfl (fun c58 => ?_) (fun c58 => ?_)
   ·
    replace hf31 := ip hf31 c58
    refine ewp_seq (ewp_region (o_miE rfl rfl ?_))
    refine o_as rfl rfl (o_as rfl rfl (o_z ?_))
    refine ewp_ret ?_
    obtain rfl := sm hf31
    obtain rfl := hret32 _ rfl
    obtain rfl := sm (fin_ret hm)
    obtain ⟨O', hS', hz, hl⟩ := hE.leave (fun _ => 0) rfl hB
    exact ret2 rfl (res_tmp rfl) (res_tmp rfl) ⟨O', hS', _, _, rfl, rfl, (vErr (by decide))⟩
   ·
    replace hf31 := im' hf31 c58
    refine ewp_skip (ewp_seq (ewp_region (o_as rfl rfl (o_z ?_))))
    refine ewp_seq ?_
    obtain ⟨res59, hL60, hf31⟩ := bs hf31
    refine ewp_join (aft res59 (fun (s61 : Int) (x62 : Unit) => [(4, (.pointer (some ⟨g7, 0, none⟩))), (5, (.int .i64 s23.1)), (7, (.int .i64 a26)), (8, (.int .i64 s61)), (15, (.slice A2 x0.length c3)), (16, (.int .i64 (x0.length : Int))), (17, (.int .i64 (k25 : Int)))]) (fun s61 x62 w' => ∃ O' : Lab, Bm w O0 w' O' ∧ Ob 2 w' O' (.pointer (some ⟨g7, 0, none⟩)) s23.2 ∧ Vb w' (Fr 0 w' O') (.slice A2 x0.length c3) x0 ∧ inI64 s61)) ?_ ?_
    ·
     refine ewp_block (ewp_lop (σ := Int) (X := Unit) hL60 (fun (s61 : Int) (x62 : Unit) => [(4, (.pointer (some ⟨g7, 0, none⟩))), (5, (.int .i64 s23.1)), (7, (.int .i64 a26)), (8, (.int .i64 s61)), (15, (.slice A2 x0.length c3)), (16, (.int .i64 (x0.length : Int))), (17, (.int .i64 (k25 : Int)))]) _ (fun s61 x62 w' => ∃ O' : Lab, Bm w O0 w' O' ∧ Ob 2 w' O' (.pointer (some ⟨g7, 0, none⟩)) s23.2 ∧ Vb w' (Fr 0 w' O') (.slice A2 x0.length c3) x0 ∧ inI64 s61) _ () ⟨O56, hB, h39, hx0, (show inI64 (0) from by decide)⟩ ⟨rfl, rfl, rfl, rfl, rfl, rfl, rfl, trivial⟩ ?_)
     rintro s61 x62 w65 cc67 ⟨O66, hB, h39, hx0, r75⟩ hf69 hret70 hbrk71
     refine ewp_seq (ewp_seq (ewp_region (o_mv rfl rfl ?_)))
     obtain ⟨n76, e77, hf69⟩ := bs hf69
     have r78 := shlI_rng e77
     refine o_ish (he := e77) rfl rfl rfl ?_
     refine o_mv rfl rfl (o_ltS rfl rfl rfl (fun c79 => ?_) fun c79 => ?_)
     ·
      replace hf69 := ip hf69 c79
      refine o_z ?_
      refine ewp_true rfl (ewp_skip (ewp_block (ewp_region (o_mv rfl rfl ?_))))
      obtain ⟨n80, e81, hf69⟩ := bs hf69
      have r82 := (chkI_rng e81)
      refine o_adE (he := e81) rfl rfl rfl ?_
      refine o_as rfl rfl (o_z ?_)
      obtain rfl := sm hf69
      refine (?_ : Exists _)
      exact ⟨_, (), rfl, ⟨rfl, rfl, rfl, rfl, rfl, rfl, rfl, trivial⟩, _, hB, h39, hx0, r82⟩
     ·
      replace hf69 := im hf69 c79
      refine o_z ?_
      refine ewp_false rfl (ewp_exit ?_)
      obtain rfl := sm hf69
      refine (?_ : Exists _)
      exact ⟨_, (), hbrk71 _ rfl, ⟨rfl, rfl, rfl, rfl, rfl, rfl, rfl, trivial⟩, _, hB, h39, hx0, r75⟩
    rintro l83 w84 ⟨s87, x88, rfl, hs86, O85, hB, h39, hx0, r75⟩
    replace hf31 := fin_done hf31
    refine ewp_sub _ hs86 ?_
    refine ewp_seq ?_
    obtain ⟨y89, hy90, hf31⟩ := bs hf31
    refine ewp_join (fun l' w' => ∃ (x92 : Unit) (O' : Lab), subs l' [(4, (.pointer (some ⟨g7, 0, none⟩))), (5, (.int .i64 y89.1)), (7, (.int .i64 a26)), (8, (.int .i64 s87)), (15, (.slice A2 x0.length c3)), (16, (.int .i64 (x0.length : Int))), (17, (.int .i64 (k25 : Int)))] ∧ Bm w O0 w' O' ∧ Ob 2 w' O' (.pointer (some ⟨g7, 0, none⟩)) y89.2 ∧ Vb w' (Fr 0 w' O') (.slice A2 x0.length c3) x0 ∧ inI64 y89.1) ?_ ?_
    ·
     refine ewp_seq (ewp_region (o_mv rfl rfl (o_mv rfl rfl ?_)))
     obtain ⟨n95, e96, hy90⟩ := bs hy90
     have r97 := (chkI_rng e96)
     refine o_adE (he := e96) rfl rfl rfl ?_
     refine o_gtS rfl rfl rfl (fun c98 => ?_) fun c98 => ?_
     ·
      replace hy90 := ip hy90 c98
      refine o_z ?_
      refine ewp_true rfl (ewp_seq (ewp_region (o_mv rfl rfl (o_nc rfl rfl ?_))))
      obtain ⟨O99, v103, S100, ha102, h101, h104, r108⟩ := Pkr.opn h39 2 4 (by decide)
      obtain ⟨A105, c106, rfl⟩ := h104.form
      refine o_fa rfl rfl (o_ld (hc := Blk.cell (i := 1) (h101.1) rfl) rfl rfl ?_)
      obtain ⟨n109, e110, hy90⟩ := bs hy90
      have r111 := (chkI_rng e110)
      refine o_adE (he := e110) rfl rfl rfl ?_
      refine o_nc rfl rfl (o_fa rfl rfl (l_store h101 rfl rfl rfl (Nat.le_of_ble_eq_true rfl) (by first | exact allOne rfl | simp [Value.cells, Value.oneCell', errV_one]) fun w112 S113 h101 => ?_))
      replace h101 : Lc 2 w112 O99 g7 148 [(.slice A105 s23.2.fields.length c106), (.int .i64 n109)] := h101
      refine o_z ?_
      refine ewp_region (o_as rfl rfl (o_z ?_))
      replace h104 := h104.st S113
      obtain ⟨O114, S115, hz117, ha118, h116⟩ := Pkr.shut (x := (⟨s23.2.fields, n109⟩ : Pkr)) (l0 := 2) (l1 := 4) (by decide) h101 h104 r111
      obtain rfl := sm hy90
      replace hB := ((hB.st S100).st S113).st S115
      replace hx0 := ((hx0.st S100).st S113).st S115
      exact ⟨(), _, ⟨rfl, rfl, rfl, rfl, rfl, rfl, rfl, trivial⟩, hB, h116, hx0, (show inI64 (0) from by decide)⟩
     ·
      replace hy90 := im hy90 c98
      refine o_z ?_
      refine ewp_false rfl (ewp_skip ?_)
      obtain rfl := sm hy90
      exact ⟨(), _, ⟨rfl, rfl, rfl, rfl, rfl, rfl, rfl, trivial⟩, hB, h39, hx0, r38⟩
    rintro l119 w120 ⟨x92, O121, hs122, hB, h94, hx0, r93⟩
    refine ewp_sub _ hs122 ?_
    refine ewp_seq ?_
    obtain ⟨O123, v127, S124, ha126, h125, h128, r132⟩ := Pkr.opn h94 2 4 (by decide)
    obtain ⟨A129, c130, rfl⟩ := h128.form
    refine ewp_drawX [(14, []), (15, [4])] O123 ?_
    refine x_pre (fuel := 6) [] [(1, true), (2, true), (3, true), (4, true), (5, true), (6, true), (7, true), (8, true), (9, true), (10, true), (11, true), (12, true), (13, true)] (by kernel_rfl) rfl ?_
    refine h_mv rfl rfl rfl (h_nc rfl rfl rfl (h_fa rfl rfl rfl (h_ldC (hc := fun w' ⟨O', hq⟩ => Blk.cell (i := 0) ((h125.st hq (by decide)).1) rfl) rfl rfl rfl ?_)))
    refine h_mv rfl rfl rfl (h_nc rfl rfl rfl (h_fa rfl rfl rfl (h_ldC (hc := fun w' ⟨O', hq⟩ => Blk.cell (i := 1) ((h125.st hq (by decide)).1) rfl) rfl rfl rfl ?_)))
    obtain ⟨n133, e134, hf31⟩ := bs hf31
    have r135 := (chkI_rng e134)
    refine h_sbE (he := e134) rfl rfl rfl rfl ?_
    refine h_mv rfl rfl rfl (h_mv rfl rfl rfl (h_mv rfl rfl rfl (h_bd rfl rfl rfl rfl ?_)))
    refine hwp_nilT ?_
    refine x_pre (fuel := 5) [4] [(0, true)] (by kernel_rfl) rfl ?_
    refine h_mv rfl rfl rfl (hwp_nilT ?_)
    refine x_one (i := 14) (by kernel_rfl) rfl ?_
    refine l_bslice 5 (by decide) O123 (xs := ([(⟨n133, y89.1, s87, a26⟩ : PFd)] : List PFd)) rfl rfl rfl rfl ⟨(Vb.ofAgg (cs := [(.int .i64 n133), (.int .i64 y89.1), (.int .i64 s87), (.int .i64 a26)]) (x := (⟨n133, y89.1, s87, a26⟩ : PFd)) rfl ⟨rfl, r135, r93, r75, r47⟩), trivial⟩ (by decide) (by decide) rfl fun g136 w137 O138 S139 h140 => ?_
    have hZ := S139.lst [] (fun _ h => h.elim)
    refine x_go [(15, [4])] hZ (by kernel_rfl) ?_
    refine x_one (i := 15) (by kernel_rfl) rfl ?_
    obtain ⟨u142, e143, hf31⟩ := bs hf31
    obtain ⟨e143, e144, e145⟩ := appI_some e143
    replace h128 := h128.st S139
    refine l_append rfl h128 (h140.rd) rfl rfl (by decide) e144 e145 rfl fun A146 c147 w148 O149 S150 h151 => ?_
    rw [← e143] at h151 ⊢
    have hZ := S150.lst [4] (fun _ h => by cases h; decide)
    refine x_go [] hZ (by kernel_rfl) ?_
    refine x_pre (fuel := 1) [] [(16, true), (17, true)] (by kernel_rfl) rfl ?_
    refine h_nc rfl rfl rfl (h_fa rfl rfl rfl (hwp_nilT ?_))
    refine x_one (i := 18) (by kernel_rfl) rfl ?_
    replace h125 := (h125.st S139).st S150
    refine l_store h125 rfl rfl rfl (Nat.le_of_ble_eq_true rfl) (by first | exact allOne rfl | simp [Value.cells, Value.oneCell', errV_one]) fun w153 S154 h125 => ?_
    replace h125 : Lc 2 w153 O149 g7 148 [(.slice A146 u142.length c147), (.int .i64 y89.2.words)] := h125
    refine x_end (by kernel_rfl) ?_
    refine x_nil (by kernel_rfl) ?_
    refine ewp_region (o_mv rfl rfl (o_mv rfl rfl ?_))
    obtain ⟨n155, e156, hf31⟩ := bs hf31
    have r157 := (chkI_rng e156)
    refine o_adE (he := e156) rfl rfl rfl ?_
    refine o_as rfl rfl (o_z ?_)
    replace h151 := h151.st S154
    obtain ⟨O158, S159, hz161, ha162, h160⟩ := Pkr.shut (x := (⟨u142, y89.2.words⟩ : Pkr)) (l0 := 2) (l1 := 4) (by decide) h125 h151 r132
    obtain rfl := sm hf31
    refine (?_ : Exists _)
    replace hB := ((((hB.st S124).st S139).st S150).st S154).st S159
    replace hx0 := ((((hx0.st S124).st S139).st S150).st S154).st S159
    exact ⟨_, (), rfl, ⟨rfl, rfl, rfl, rfl, rfl, trivial⟩, _, hB, h160, hx0, r157⟩
  replace hB := (hB.st S10).st S17
  rintro l163 w164 ⟨s167, x168, rfl, hs166, O165, hB, h39, r38⟩
  replace hm := fin_done hm
  refine ewp_sub _ hs166 ?_
  refine ewp_seq (ewp_region (o_mv rfl rfl (o_as rfl rfl (o_as rfl rfl (o_z ?_)))))
  refine ewp_ret ?_
  obtain rfl := sm hm
  obtain ⟨O', hS', hz, hl⟩ := hE.leave (fun q => if q = 2 then j0 else 0) rfl hB
  exact ret2 rfl (res_tmp rfl) (res_tmp rfl) ⟨O', hS', _, _, rfl, (Ob.leave h39 hz (hl 2 (by decide) (by decide)) hj0), (vErr (show inI64 0 from by decide))⟩
noncomputable def m_pack_field_mask (x0 : PFd) : Option U64 :=
  bnd (shlU (1 : U64) x0.width) fun n12 => bnd (shlU (n12 - (1 : U64)) x0.bit) fun n14 => some n14
theorem c_pack_field_mask {w : World} {A : Nat → Prop} (hA : ∀ k, A k → k < w.heap.size) {vx0 : Value} {x0 : PFd} (hx0 : Vb w A vx0 x0) {r : U64} (hm : m_pack_field_mask x0 = some r) :
    Fn Try.prog 77 [vx0] w fun v w' => Ext w w' ∧ Vb w' (upA A w w') v r := by
 obtain ⟨O, hB, hA0⟩ := enter hA
 replace hx0 := hx0.mono hA0
 obtain ⟨cs2, rfl, rfl, r3, r4, r5, r6⟩ := hx0
 refine fn_enter Try.func77 rfl Try.ntmps77 rfl ?_
 unfold m_pack_field_mask at hm
 refine ewp_seq (ewp_region (l_box 2 O rfl rfl fun g7 w8 O9 S10 h11 => ?_))
 replace h11 : Lc 2 w8 O9 g7 152 [(.int .i64 x0.word), (.int .i64 x0.bit), (.int .i64 x0.width), (.int .i64 x0.size)] := h11
 refine o_as rfl rfl (o_z ?_)
 refine ewp_seq (ewp_draw (· = w8) [(0, true), (1, true), (2, true), (3, true), (4, true), (5, true), (6, true), (7, true)] (by kernel_rfl) rfl (by kernel_rfl) rfl ?_)
 refine h_fa rfl rfl rfl (h_ldA (hc := Blk.cell (i := 2) (h11.1) rfl) rfl rfl rfl ?_)
 obtain ⟨n12, e13, hm⟩ := bs hm
 refine h_ush (a := (1 : U64)) (he := e13) rfl rfl rfl rfl ?_
 refine h_usb (a := n12) (b := (1 : U64)) rfl rfl rfl rfl ?_
 refine h_fa rfl rfl rfl (h_ldA (hc := Blk.cell (i := 1) (h11.1) rfl) rfl rfl rfl ?_)
 obtain ⟨n14, e15, hm⟩ := bs hm
 refine h_ush (a := (n12 - (1 : U64))) (he := e15) rfl rfl rfl rfl ?_
 refine h_as rfl rfl rfl (h_z ?_)
 refine ewp_ret ?_
 obtain rfl := sm hm
 replace hB := hB.st S10
 exact ret1v rfl (res_tmp rfl) ⟨hB.ext, vU64⟩
noncomputable def m_pack_field_get (x0 : PFd) (x1 : List U64) : Option Int :=
  bnd (atI x1 x0.word) fun a15 => bnd (m_pack_field_mask x0) fun q26 => bnd (shrU (a15 &&& q26) x0.bit) fun n33 => some n33.toInt
theorem c_pack_field_get {w : World} {A : Nat → Prop} (hA : ∀ k, A k → k < w.heap.size) {vx0 : Value} {x0 : PFd} (hx0 : Vb w A vx0 x0) {vx1 : Value} {x1 : List U64} (hx1 : Vb w A vx1 x1) {r : Int} (hm : m_pack_field_get x0 x1 = some r) :
    Fn Try.prog 76 [vx0, vx1] w fun v w' => Ext w w' ∧ Vb w' (upA A w w') v r := by
 obtain ⟨O, hB, hA0⟩ := enter hA
 replace hx0 := hx0.mono hA0
 obtain ⟨cs3, rfl, rfl, r4, r5, r6, r7⟩ := hx0
 replace hx1 := hx1.mono hA0
 obtain ⟨A8, c9, rfl⟩ := hx1.form
 refine fn_enter Try.func76 rfl Try.ntmps76 rfl ?_
 unfold m_pack_field_get at hm
 refine ewp_seq (ewp_region (l_box 2 O rfl rfl fun g10 w11 O12 S13 h14 => ?_))
 replace h14 : Lc 2 w11 O12 g10 152 [(.int .i64 x0.word), (.int .i64 x0.bit), (.int .i64 x0.width), (.int .i64 x0.size)] := h14
 refine o_as rfl rfl (o_z ?_)
 refine ewp_seq (ewp_drawX [(6, [])] O12 ?_)
 refine x_pre (fuel := 5) [] [(0, true), (1, true), (2, true), (3, true), (4, true), (5, true), (8, true), (9, true)] (by kernel_rfl) rfl ?_
 refine h_mv rfl rfl rfl (h_fa rfl rfl rfl (h_ldC (hc := fun w' ⟨O', hq⟩ => Blk.cell (i := 0) ((h14.st hq (by decide)).1) rfl) rfl rfl rfl ?_))
 obtain ⟨a15, e16, hm⟩ := bs hm
 obtain ⟨p18, x17⟩ := atI_some' e16
 replace hx1 := hx1.st S13
 obtain ⟨b19, o20, ce21, hA22, hF25, hl23, hd24, rfl⟩ := hx1.elem x17
 refine h_iaE (hA := hA22) (hj := (Int.toNat_of_nonneg p18).symm) (hlt := hl23) rfl rfl rfl rfl ?_
 refine h_ldC (hc := fun w' ⟨O', hq⟩ => cat0 (cellsAt_agree (hq.agree (i := 0) (by decide)) hF25 hd24)) rfl rfl rfl ?_
 refine h_laB (hl := rfl) (hb := fun w' ⟨O', hq⟩ => ((h14.st hq (by decide)).1).cellsAt) rfl rfl rfl ?_
 refine h_fa rfl rfl rfl (h_ldC (hc := fun w' ⟨O', hq⟩ => Blk.cell (i := 1) ((h14.st hq (by decide)).1) rfl) rfl rfl rfl ?_)
 refine hwp_nilT ?_
 refine x_one (i := 6) (by kernel_rfl) rfl ?_
 obtain ⟨q26, e27, hm⟩ := bs hm
 refine l_callA (O := O12) (A := All w11) (R := fun w' F v => Vb w' F v q26) (c_pack_field_mask (fun _ h => h) (Vb.mono (F := Fr 0 w11 O12) (Vb.ofAgg (cs := [(.int .i64 x0.word), (.int .i64 x0.bit), (.int .i64 x0.width), (.int .i64 x0.size)]) (x := x0) rfl ⟨rfl, r4, r5, r6, r7⟩) Fr.lt) e27) rfl rfl fun v32 w28 O29 S30 h31 => ?_
 obtain rfl := h31.u64
 have hZ := S30.lst [] (fun _ h => h.elim)
 refine x_go [] hZ (by kernel_rfl) ?_
 refine x_pre (fuel := 0) [] [(7, true), (10, true), (11, true), (12, true)] (by kernel_rfl) rfl ?_
 refine h_uan (a := a15) (b := q26) rfl rfl rfl rfl ?_
 obtain ⟨n33, e34, hm⟩ := bs hm
 refine h_usr (a := (a15 &&& q26)) (he := e34) rfl rfl rfl rfl ?_
 refine h_cvI (a := n33) rfl rfl rfl ?_
 refine h_as rfl rfl rfl (hwp_nilT ?_)
 refine x_nil (by kernel_rfl) ?_
 refine ewp_ret ?_
 obtain rfl := sm hm
 replace hB := (hB.st S13).st S30
 exact ret1v rfl (res_tmp rfl) ⟨hB.ext, (vInt (toIntR _))⟩
noncomputable def m_pack_Packer_Pack (x0 : Pkr) (x1 : List Int) : Option ((List U64) × Err) :=
  if (x1.length : Int) ≠ (x0.fields.length : Int) then (some (([] : List U64), (⟨2⟩ : Err))) else (bnd (mkI 8 ((0 : U64) : U64) x0.words) fun u25 => bnd (rng (ρ := (List U64) × Err) (fun (k50 : Nat) (a51 : PFd) (s48 : (List U64)) => bnd (bnd (x1[k50]?) fun a87 => if a87 < 0 then (some true) else (bnd (x1[k50]?) fun a98 => if a51.size ≤ a98 then (some true) else (some false)) : Option Bool) fun y83 => if y83 = true then (some (.ret (([] : List U64), (⟨2⟩ : Err)))) else (bnd (atI s48 a51.word) fun a114 => bnd (x1[k50]?) fun a125 => bnd (shlU (BitVec.ofInt 64 a125) a51.bit) fun n135 => bnd (atI s48 a51.word) fun a137 => some (.next (s48.set (a51.word : Int).toNat (a114 ||| n135))))) x0.fields 0 u25) fun res46 => fin res46 fun (s154 : (List U64)) => some (s154, (⟨0⟩ : Err)))
theorem c_pack_Packer_Pack {w : World} {O : Lab} {p0 i0 : Nat} {x0 : Pkr} (hx0 : Ob i0 w O (.pointer (some ⟨p0, 0, none⟩)) x0) {vx1 : Value} {x1 : List Int} (hx1 : Vb w (Fr 0 w O) vx1 x1) {r : (List U64) × Err} (hm : m_pack_Packer_Pack x0 x1 = some r) :
    Fn Try.prog 80 [(.pointer (some ⟨p0, 0, none⟩)), vx1] w fun v w' => ∃ O', St (eT i0) w O w' O' ∧ ∃ v0 v1 : Value, Ob i0 w' O' (.pointer (some ⟨p0, 0, none⟩)) x0 ∧ v = .tuple #[v0, v1] ∧ Vb w' (Fr 0 w' O') v0 r.1 ∧ Vb w' (Fr 0 w' O') v1 r.2 := by
 obtain ⟨O0, hE, hz0, hl2⟩ := ent1 (w := w) (O := O) hx0.2
 have hx0' := Ob.leave hx0 hz0 hl2 (j := 2) (by decide)
 have hB : Bm w O0 w O0 := Bm.refl
 replace hx1 := hx1.mono hz0
 obtain ⟨A3, c4, rfl⟩ := hx1.form
 refine fn_enter Try.func80 rfl Try.ntmps80 rfl ?_
 unfold m_pack_Packer_Pack at hm
 refine ewp_seq (ewp_region (o_as rfl rfl (o_as rfl rfl (o_z ?_))))
 refine ewp_seq (ewp_seq (ewp_region (o_mv rfl rfl (o_pn rfl rfl ?_))))
 refine o_z ?_
 refine ewp_false rfl (ewp_skip (ewp_seq (ewp_seq (ewp_region (o_mv rfl rfl (o_ln rfl rfl ?_))))))
 have l6 : x1.length ≤ 9223372036854775807 := Nat.le_trans hx1.len.2.1 hx1.len.2.2
 have r5 : inI64 (x1.length : Int) := rngNat l6
 refine o_mv rfl rfl (o_nc rfl rfl ?_)
 obtain ⟨O7, v11, S8, ha10, h9, h12, r16⟩ := Pkr.opn hx0' 2 3 (by decide)
 obtain ⟨A13, c14, rfl⟩ := h12.form
 refine o_fa rfl rfl (o_ld (hc := Blk.cell (i := 0) (h9.1) rfl) rfl rfl ?_)
 refine o_ln rfl rfl ?_
 have l18 : x0.fields.length ≤ 9223372036854775807 := Nat.le_trans h12.len.2.1 h12.len.2.2
 have r17 : inI64 (x0.fields.length : Int) := rngNat l18
 refine o_neS rfl rfl rfl (fun c19 => ?_) fun c19 => ?_
 ·
  replace hm := ip hm c19
  refine o_z ?_
  refine ewp_true rfl (ewp_seq (ewp_region (o_miE rfl rfl ?_)))
  refine o_as rfl rfl (o_as rfl rfl (o_z ?_))
  refine ewp_ret ?_
  obtain ⟨O20, S21, hz23, ha24, h22⟩ := Pkr.shut (x := x0) (l0 := 2) (l1 := 3) (by decide) h9 h12 r16
  obtain rfl := sm hm
  replace hB := (hB.st S8).st S21
  obtain ⟨O', hS', hz, hl⟩ := hE.leave (fun q => if q = 2 then i0 else 0) rfl hB
  exact ret2 rfl (res_tmp rfl) (res_tmp rfl) ⟨O', hS', _, _, (Ob.leave h22 hz (hl 2 (by decide) (by decide)) hx0.2), rfl, (Vb.mono (Vb.nil _ _) hz), (vErr (by decide))⟩
 ·
  replace hm := im hm c19
  refine o_z ?_
  refine ewp_false rfl (ewp_skip (ewp_seq (ewp_region (o_mv rfl rfl (o_nc rfl rfl (o_fa rfl rfl (o_ld (hc := Blk.cell (i := 1) (h9.1) rfl) rfl rfl ?_)))))))
  obtain ⟨u25, e26, hm⟩ := bs hm
  obtain ⟨m27, e28, e29, e30, e31⟩ := mkI_some e26
  refine l_make 4 (by decide) O7 (z0 := ((0 : U64) : U64)) rfl rfl rfl rfl rfl e28 vU64 e29 e30 rfl fun g32 w33 O34 S35 h36 => ?_
  rw [← e31] at h36 ⊢
  refine o_as rfl rfl (o_z ?_)
  refine ewp_seq (ewp_seq (ewp_region (o_mv rfl rfl (o_nc rfl rfl (o_fa rfl rfl ?_)))))
  replace h9 := h9.st S35
  refine o_ld (hc := Blk.cell (i := 0) (h9.1) rfl) rfl rfl ?_
  refine o_ln rfl rfl ?_
  replace h12 := h12.st S35
  have l39 : x0.fields.length ≤ 9223372036854775807 := Nat.le_trans h12.len.2.1 h12.len.2.2
  have r38 : inI64 (x0.fields.length : Int) := rngNat l39
  refine o_mv rfl rfl (o_z ?_)
  obtain ⟨O40, S41, hz43, ha44, h42⟩ := Pkr.shut (x := x0) (l0 := 2) (l1 := 3) (by decide) h9 h12 r16
  have h45 := (h12.lend [3] (by decide)).shutS S41 hz43 ha44 [2] (by decide)
  obtain ⟨res46, hL47, hm⟩ := bs hm
  refine ewp_join (aft res46 (fun (s48 : (List U64)) (x49 : Unit) => [(6, (.slice (some ⟨g32, 0, none⟩) u25.length m27))]) (fun s48 x49 w' => ∃ O' : Lab, Bm w O0 w' O' ∧ Rw 4 w' O' 150 (.slice (some ⟨g32, 0, none⟩) u25.length m27) s48 ∧ Ob 2 w' O' (.pointer (some ⟨p0, 0, none⟩)) x0)) ?_ ?_
  ·
   refine ewp_block ?_
   replace hB := ((hB.st S8).st S35).st S41
   replace hx1 := ((hx1.st S8).st S35).st S41
   replace h36 := h36.st S41
   refine ewp_rng (σ := (List U64)) (X := Unit) (x0.fields.length) hL47 rfl l39 (fun (s48 : (List U64)) (x49 : Unit) => [(1, (.slice A3 x1.length c4)), (6, (.slice (some ⟨g32, 0, none⟩) u25.length m27)), (29, (.slice A13 x0.fields.length c14))]) _ (fun s48 x49 w' => ∃ O' : Lab, Bm w O0 w' O' ∧ Vb w' (Fr 0 w' O') (.slice A3 x1.length c4) x1 ∧ Rw 4 w' O' 150 (.slice (some ⟨g32, 0, none⟩) u25.length m27) s48 ∧ Vb w' (FrS [2] w' O') (.slice A13 x0.fields.length c14) x0.fields ∧ Ob 2 w' O' (.pointer (some ⟨p0, 0, none⟩)) x0) _ () ⟨O40, hB, hx1, h36, h45, h42⟩ ⟨rfl, rfl, rfl, rfl, rfl, trivial⟩ (fun _ _ => ⟨rfl, rfl⟩) (fun _ _ => ⟨rfl, trivial⟩) (fun _ _ _ ⟨O', hB, hx1, h63, h45, h42⟩ => ⟨O', hB, h63, h42⟩) ⟨rfl, rfl, rfl⟩ ⟨rfl, rfl⟩ ?_
   rintro k50 a51 s48 x49 w52 cc54 hx55 ⟨O53, hB, hx1, h63, h45, h42⟩ hf56 hret57 hbrk58
   have rk50 : inI64 (k50 : Int) := rngK hx55 l39
   refine ewp_seq (ewp_region (o_mv rfl rfl ?_))
   obtain ⟨b65, o66, ce67, hA68, hl69, hd70, rfl, r72, r73, r74, r75⟩ := h45.elem' hx55
   refine o_iaE (hA := hA68) (hj := rfl) (hlt := hl69) rfl rfl rfl ?_
   refine o_la (hl := rfl) (hc := hd70) rfl rfl ?_
   refine l_alloc 5 O53 rfl fun g76 w77 O78 S79 h80 => ?_
   replace h45 := h45.stS S79 id (fun _ _ => id)
   refine o_as rfl rfl (l_store h80 rfl rfl rfl (Nat.le_of_ble_eq_true rfl) (by first | exact allOne rfl | simp [Value.cells, Value.oneCell', errV_one]) fun w81 S82 h80 => ?_)
   replace h80 : Lc 5 w81 O78 g76 152 [(.int .i64 a51.word), (.int .i64 a51.bit), (.int .i64 a51.width), (.int .i64 a51.size)] := h80
   replace h45 := h45.stS S82 (by decide) (by decide)
   refine o_z ?_
   refine ewp_seq (ewp_seq ?_)
   obtain ⟨y83, hy84, hf56⟩ := bs hf56
   refine ewp_join (fun l' w' => ∃ (x86 : Unit) (O' : Lab), subs l' [(1, (.slice A3 x1.length c4)), (6, (.slice (some ⟨g32, 0, none⟩) u25.length m27)), (7, (.int .i64 (k50 : Int))), (8, (.pointer (some ⟨g76, 0, none⟩))), (29, (.slice A13 x0.fields.length c14)), (30, (.int .i64 (x0.fields.length : Int))), (31, (.int .i64 (k50 : Int))), (49, (.bool y83))] ∧ Bm w O0 w' O' ∧ Vb w' (Fr 0 w' O') (.slice A3 x1.length c4) x1 ∧ Rw 4 w' O' 150 (.slice (some ⟨g32, 0, none⟩) u25.length m27) s48 ∧ Lc 5 w' O' g76 152 [(.int .i64 a51.word), (.int .i64 a51.bit), (.int .i64 a51.width), (.int .i64 a51.size)] ∧ Vb w' (FrS [2] w' O') (.slice A13 x0.fields.length c14) x0.fields ∧ Ob 2 w' O' (.pointer (some ⟨p0, 0, none⟩)) x0) ?_ ?_
   ·
    refine ewp_draw (· = w81) [(0, true), (1, true), (2, true), (3, true), (4, true), (5, true), (6, true), (7, true), (8, true), (9, true), (10, true), (11, true), (12, true), (13, true)] (by kernel_rfl) rfl (by kernel_rfl) rfl ?_
    refine h_mv rfl rfl rfl (h_mv rfl rfl rfl ?_)
    obtain ⟨a87, e88, hy84⟩ := bs hy84
    replace hx1 := (hx1.st S79).st S82
    obtain ⟨b89, o90, ce91, hA92, hl93, hd94, rfl, r96⟩ := hx1.elem' e88
    refine h_iaE (hA := hA92) (hj := rfl) (hlt := hl93) rfl rfl rfl rfl ?_
    refine h_ldA (hc := cat0 hd94) rfl rfl rfl ?_
    refine h_ltS rfl rfl rfl rfl (fun c97 => ?_) fun c97 => ?_
    ·
     replace hy84 := ip hy84 c97
     refine h_mv rfl rfl rfl (h_no rfl rfl rfl rfl rfl (h_no rfl rfl rfl rfl rfl (h_no rfl rfl rfl rfl rfl (h_no rfl rfl rfl rfl rfl (h_no rfl rfl rfl rfl rfl (h_no rfl rfl rfl rfl rfl (h_no rfl rfl rfl rfl rfl (h_pt rfl rfl rfl rfl (h_z ?_)))))))))
     obtain rfl := sm hy84
     replace hB := (hB.st S79).st S82
     replace h42 := (h42.st S79).st S82
     replace h63 := (h63.st S79).st S82
     exact ⟨(), _, ⟨rfl, rfl, rfl, rfl, rfl, rfl, rfl, rfl, trivial⟩, hB, hx1, h63, h80, h45, h42⟩
    ·
     replace hy84 := im hy84 c97
     refine h_mv rfl rfl rfl (hwp_o rfl (hwq_yes rfl rfl (g_mv rfl rfl (hwp_o rfl (hwq_yes rfl rfl (g_mv rfl rfl (hwp_o rfl (hwq_yes rfl rfl ?_))))))))
     obtain ⟨a98, e99, hy84⟩ := bs hy84
     obtain ⟨b100, o101, ce102, hA103, hl104, hd105, rfl, r107⟩ := hx1.elem' e99
     refine g_iaE (hA := hA103) (hj := rfl) (hlt := hl104) rfl rfl rfl ?_
     refine hwp_o rfl (hwq_yes rfl rfl (g_ldA (hc := cat0 hd105) rfl rfl ?_))
     refine hwp_o rfl (hwq_yes rfl rfl (g_fa rfl rfl (hwp_o rfl (hwq_yes rfl rfl (g_ldA (hc := Blk.cell (i := 3) (h80.1) rfl) rfl rfl ?_)))))
     refine hwp_o rfl (hwq_yes rfl rfl (hwq_split (fun _ _ => ev_geq rfl rfl) rfl (fun c108 => ?_) (fun c108 => ?_)))
     ·
      replace hy84 := ip hy84 c108
      refine h_pf rfl rfl rfl rfl (h_z ?_)
      obtain rfl := sm hy84
      replace hB := (hB.st S79).st S82
      replace h42 := (h42.st S79).st S82
      replace h63 := (h63.st S79).st S82
      exact ⟨(), _, ⟨rfl, rfl, rfl, rfl, rfl, rfl, rfl, rfl, trivial⟩, hB, hx1, h63, h80, h45, h42⟩
     ·
      replace hy84 := im hy84 c108
      refine h_pf rfl rfl rfl rfl (h_z ?_)
      obtain rfl := sm hy84
      replace hB := (hB.st S79).st S82
      replace h42 := (h42.st S79).st S82
      replace h63 := (h63.st S79).st S82
      exact ⟨(), _, ⟨rfl, rfl, rfl, rfl, rfl, rfl, rfl, rfl, trivial⟩, hB, hx1, h63, h80, h45, h42⟩
   replace hB := (hB.st S79).st S82
   replace hx1 := (hx1.st S79).st S82
   replace h42 := (h42.st S79).st S82
   replace h63 := (h63.st S79).st S82
   rintro l109 w110 ⟨x86, O111, hs112, hB, hx1, h63, h80, h45, h42⟩
   refine ewp_sub _ hs112 ?_
   refine ewp_cond rfl (fun c113 => ?_) (fun c113 => ?_)
   ·
    replace hf56 := ip hf56 c113
    refine ewp_seq (ewp_region (o_miE rfl rfl ?_))
    refine o_as rfl rfl (o_as rfl rfl (o_z ?_))
    refine ewp_ret ?_
    obtain rfl := sm hf56
    obtain rfl := hret57 _ rfl
    obtain rfl := sm (fin_ret hm)
    obtain ⟨O', hS', hz, hl⟩ := hE.leave (fun q => if q = 2 then i0 else 0) rfl hB
    exact ret2 rfl (res_tmp rfl) (res_tmp rfl) ⟨O', hS', _, _, (Ob.leave h42 hz (hl 2 (by decide) (by decide)) hx0.2), rfl, (Vb.mono (Vb.nil _ _) hz), (vErr (by decide))⟩
   ·
    replace hf56 := im' hf56 c113
    refine ewp_skip (ewp_drawX [] O111 ?_)
    refine x_pre (fuel := 1) [] [(0, true), (1, true), (2, true), (3, true), (4, true), (5, true), (6, true), (7, true), (8, true), (9, true), (10, true), (11, true), (12, true), (13, true), (14, true)] (by kernel_rfl) rfl ?_
    refine h_mv rfl rfl rfl (h_fa rfl rfl rfl (h_ldC (hc := fun w' ⟨O', hq⟩ => Blk.cell (i := 0) ((h80.st hq (by decide)).1) rfl) rfl rfl rfl ?_))
    obtain ⟨a114, e115, hf56⟩ := bs hf56
    obtain ⟨p117, x116⟩ := atI_some' e115
    obtain ⟨b118, o119, ce120, hA121, hF124, hl122, hd123, rfl⟩ := h63.elemF x116
    refine h_iaE (hA := hA121) (hj := (Int.toNat_of_nonneg p117).symm) (hlt := hl122) rfl rfl rfl rfl ?_
    refine h_ldC (hc := fun w' ⟨O', hq⟩ => cat0 (cellsAt_agree (hq.agree (i := 4) (by decide)) hF124 hd123)) rfl rfl rfl ?_
    refine h_mv rfl rfl rfl (h_mv rfl rfl rfl ?_)
    obtain ⟨a125, e126, hf56⟩ := bs hf56
    obtain ⟨b127, o128, ce129, hA130, hF133, hl131, hd132, rfl, r134⟩ := hx1.elem e126
    refine h_iaE (hA := hA130) (hj := rfl) (hlt := hl131) rfl rfl rfl rfl ?_
    refine h_ldC (hc := fun w' ⟨O', hq⟩ => cat0 (cellsAt_agree (hq.agree (i := 0) (by decide)) hF133 hd132)) rfl rfl rfl ?_
    refine h_cvU rfl rfl rfl ?_
    refine h_fa rfl rfl rfl (h_ldC (hc := fun w' ⟨O', hq⟩ => Blk.cell (i := 1) ((h80.st hq (by decide)).1) rfl) rfl rfl rfl ?_)
    obtain ⟨n135, e136, hf56⟩ := bs hf56
    refine h_ush (a := (BitVec.ofInt 64 a125)) (he := e136) rfl rfl rfl rfl ?_
    refine h_uor (a := a114) (b := n135) rfl rfl rfl rfl ?_
    obtain ⟨a137, e138, hf56⟩ := bs hf56
    obtain ⟨p140, x139⟩ := atI_some' e138
    obtain ⟨b141, o142, ce143, hA144, hF147, hl145, hd146, rfl⟩ := h63.elemF x139
    refine h_iaE (hA := hA144) (hj := (Int.toNat_of_nonneg p140).symm) (hlt := hl145) rfl rfl rfl rfl ?_
    refine hwp_nilT ?_
    refine x_one (i := 15) (by kernel_rfl) rfl ?_
    refine l_setE rfl h63 (a := (a114 ||| n135)) vU64 hA144 rfl rfl (lt_of_get x139) fun w148 S149 h63 => ?_
    replace h45 := h45.stS S149 (by decide) (by decide)
    refine x_end (by kernel_rfl) ?_
    refine x_nil (by kernel_rfl) ?_
    obtain rfl := sm hf56
    refine (?_ : Exists _)
    replace hB := hB.st S149
    replace hx1 := hx1.st S149
    replace h42 := h42.st S149
    exact ⟨_, (), rfl, ⟨rfl, rfl, rfl, rfl, rfl, trivial⟩, _, hB, hx1, h63, h45, h42⟩
  replace hB := ((hB.st S8).st S35).st S41
  rintro l150 w151 ⟨s154, x155, rfl, hs153, O152, hB, h63, h42⟩
  replace hm := fin_done hm
  refine ewp_sub _ hs153 ?_
  refine ewp_seq (ewp_region (o_mv rfl rfl (o_as rfl rfl (o_as rfl rfl (o_z ?_)))))
  refine ewp_ret ?_
  obtain ⟨O156, S157, h63⟩ := h63.freeze
  obtain rfl := sm hm
  replace hB := hB.st S157
  obtain ⟨O', hS', hz, hl⟩ := hE.leave (fun q => if q = 2 then i0 else 0) rfl hB
  replace h42 := h42.st S157
  exact ret2 rfl (res_tmp rfl) (res_tmp rfl) ⟨O', hS', _, _, (Ob.leave h42 hz (hl 2 (by decide) (by decide)) hx0.2), rfl, (Vb.mono h63 hz), (vErr (show inI64 0 from by decide))⟩
noncomputable def m_pack_Packer_Unpack (x0 : Pkr) (x1 : List U64) : Option ((List Int) × Err) :=
  if (x1.length : Int) ≠ x0.words then (some (([] : List Int), (⟨2⟩ : Err))) else (bnd (mkI 8 (0 : Int) (x0.fields.length : Int)) fun u25 => bnd (m_slices_Clone_Luint64_uint64 x1) fun q38 => bnd (rng (ρ := (List Int) × Err) (fun (k60 : Nat) (a61 : PFd) (s58 : (List Int) × (List U64)) => bnd (m_pack_field_get a61 x1) fun q97 => bnd (s58.1[k60]?) fun a105 => bnd ((s58.1.set k60 q97)[k60]?) fun a117 => if a61.size ≤ a117 then (some (.ret (([] : List Int), (⟨2⟩ : Err)))) else (bnd (atI s58.2 a61.word) fun a128 => bnd (m_pack_field_mask a61) fun q139 => bnd (atI s58.2 a61.word) fun a146 => some (.next ((s58.1.set k60 q97), (s58.2.set (a61.word : Int).toNat (a128 &&& ~~~q139)))))) x0.fields 0 (u25, q38)) fun res56 => fin res56 fun (s163 : (List Int) × (List U64)) => bnd (rng (ρ := (List Int) × Err) (fun (k171 : Nat) (a172 : U64) (s169 : Unit) => bnd (s163.2[k171]?) fun a182 => if (a182.toNat : Int) ≠ ((0 : U64).toNat : Int) then (some (.ret (([] : List Int), (⟨2⟩ : Err)))) else (some (.next ()))) q38 0 ()) fun res167 => fin res167 fun (s196 : Unit) => some (s163.1, (⟨0⟩ : Err)))
theorem c_pack_Packer_Unpack {w : World} {O : Lab} {p0 i0 : Nat} {x0 : Pkr} (hx0 : Ob i0 w O (.pointer (some ⟨p0, 0, none⟩)) x0) {vx1 : Value} {x1 : List U64} (hx1 : Vb w (Fr 0 w O) vx1 x1) {r : (List Int) × Err} (hm : m_pack_Packer_Unpack x0 x1 = some r) :
    Fn Try.prog 62 [(.pointer (some ⟨p0, 0, none⟩)), vx1] w fun v w' => ∃ O', St (eT i0) w O w' O' ∧ ∃ v0 v1 : Value, Ob i0 w' O' (.pointer (some ⟨p0, 0, none⟩)) x0 ∧ v = .tuple #[v0, v1] ∧ Vb w' (Fr 0 w' O') v0 r.1 ∧ Vb w' (Fr 0 w' O') v1 r.2 := by
 obtain ⟨O0, hE, hz0, hl2⟩ := ent1 (w := w) (O := O) hx0.2
 have hx0' := Ob.leave hx0 hz0 hl2 (j := 2) (by decide)
 have hB : Bm w O0 w O0 := Bm.refl
 replace hx1 := hx1.mono hz0
 obtain ⟨A3, c4, rfl⟩ := hx1.form
 refine fn_enter Try.func62 rfl Try.ntmps62 rfl ?_
 unfold m_pack_Packer_Unpack at hm
 refine ewp_seq (ewp_region (o_as rfl rfl (o_as rfl rfl (o_z ?_))))
 refine ewp_seq (ewp_seq (ewp_region (o_mv rfl rfl (o_pn rfl rfl ?_))))
 refine o_z ?_
 refine ewp_false rfl (ewp_skip (ewp_seq (ewp_seq (ewp_region (o_mv rfl rfl (o_ln rfl rfl ?_))))))
 have l6 : x1.length ≤ 9223372036854775807 := Nat.le_trans hx1.len.2.1 hx1.len.2.2
 have r5 : inI64 (x1.length : Int) := rngNat l6
 refine o_mv rfl rfl (o_nc rfl rfl ?_)
 obtain ⟨O7, v11, S8, ha10, h9, h12, r16⟩ := Pkr.opn hx0' 2 3 (by decide)
 obtain ⟨A13, c14, rfl⟩ := h12.form
 refine o_fa rfl rfl (o_ld (hc := Blk.cell (i := 1) (h9.1) rfl) rfl rfl ?_)
 refine o_neS rfl rfl rfl (fun c17 => ?_) fun c17 => ?_
 ·
  replace hm := ip hm c17
  refine o_z ?_
  refine ewp_true rfl (ewp_seq (ewp_region (o_miE rfl rfl ?_)))
  refine o_as rfl rfl (o_as rfl rfl (o_z ?_))
  refine ewp_ret ?_
  obtain ⟨O18, S19, hz21, ha22, h20⟩ := Pkr.shut (x := x0) (l0 := 2) (l1 := 3) (by decide) h9 h12 r16
  obtain rfl := sm hm
  replace hB := (hB.st S8).st S19
  obtain ⟨O', hS', hz, hl⟩ := hE.leave (fun q => if q = 2 then i0 else 0) rfl hB
  exact ret2 rfl (res_tmp rfl) (res_tmp rfl) ⟨O', hS', _, _, (Ob.leave h20 hz (hl 2 (by decide) (by decide)) hx0.2), rfl, (Vb.mono (Vb.nil _ _) hz), (vErr (by decide))⟩
 ·
  replace hm := im hm c17
  refine o_z ?_
  refine ewp_false rfl (ewp_skip (ewp_seq (ewp_region (o_mv rfl rfl (o_nc rfl rfl (o_fa rfl rfl (o_ld (hc := Blk.cell (i := 0) (h9.1) rfl) rfl rfl ?_)))))))
  refine o_ln rfl rfl ?_
  have l24 : x0.fields.length ≤ 9223372036854775807 := Nat.le_trans h12.len.2.1 h12.len.2.2
  have r23 : inI64 (x0.fields.length : Int) := rngNat l24
  obtain ⟨u25, e26, hm⟩ := bs hm
  obtain ⟨m27, e28, e29, e30, e31⟩ := mkI_some e26
  refine l_make 4 (by decide) O7 (z0 := (0 : Int)) rfl rfl rfl rfl rfl e28 (vInt (show inI64 0 from by decide)) e29 e30 rfl fun g32 w33 O34 S35 h36 => ?_
  rw [← e31] at h36 ⊢
  refine o_as rfl rfl (o_z ?_)
  refine ewp_seq (ewp_region (o_mv rfl rfl ?_))
  obtain ⟨q38, e39, hm⟩ := bs hm
  replace hx1 := (hx1.st S8).st S35
  refine l_callRow 5 (by decide) (O := O34) (c_slices_Clone_Luint64_uint64 Fr.lt hx1 e39) rfl rfl fun A45 c46 w40 O41 S42 h43 => ?_
  refine o_as rfl rfl (o_z ?_)
  refine ewp_seq (ewp_seq (ewp_region (o_mv rfl rfl (o_nc rfl rfl (o_fa rfl rfl ?_)))))
  replace h9 := (h9.st S35).st S42
  refine o_ld (hc := Blk.cell (i := 0) (h9.1) rfl) rfl rfl ?_
  refine o_ln rfl rfl ?_
  replace h12 := (h12.st S35).st S42
  have l49 : x0.fields.length ≤ 9223372036854775807 := Nat.le_trans h12.len.2.1 h12.len.2.2
  have r48 : inI64 (x0.fields.length : Int) := rngNat l49
  refine o_mv rfl rfl (o_z ?_)
  obtain ⟨O50, S51, hz53, ha54, h52⟩ := Pkr.shut (x := x0) (l0 := 2) (l1 := 3) (by decide) h9 h12 r16
  have h55 := (h12.lend [3] (by decide)).shutS S51 hz53 ha54 [2] (by decide)
  obtain ⟨res56, hL57, hm⟩ := bs hm
  refine ewp_join (aft res56 (fun (s58 : (List Int) × (List U64)) (x59 : Unit) => [(6, (.slice (some ⟨g32, 0, none⟩) u25.length m27)), (7, (.slice A45 q38.length c46))]) (fun s58 x59 w' => ∃ O' : Lab, Bm w O0 w' O' ∧ Rw 4 w' O' 3 (.slice (some ⟨g32, 0, none⟩) u25.length m27) s58.1 ∧ Rw 5 w' O' 150 (.slice A45 q38.length c46) s58.2 ∧ Ob 2 w' O' (.pointer (some ⟨p0, 0, none⟩)) x0)) ?_ ?_
  ·
   refine ewp_block ?_
   replace hB := (((hB.st S8).st S35).st S42).st S51
   replace hx1 := (hx1.st S42).st S51
   replace h36 := (h36.st S42).st S51
   replace h43 := h43.st S51
   refine ewp_rng (σ := (List Int) × (List U64)) (X := Unit) (x0.fields.length) hL57 rfl l49 (fun (s58 : (List Int) × (List U64)) (x59 : Unit) => [(1, (.slice A3 x1.length c4)), (6, (.slice (some ⟨g32, 0, none⟩) u25.length m27)), (7, (.slice A45 q38.length c46)), (34, (.slice A13 x0.fields.length c14))]) _ (fun s58 x59 w' => ∃ O' : Lab, Bm w O0 w' O' ∧ Vb w' (Fr 0 w' O') (.slice A3 x1.length c4) x1 ∧ Rw 4 w' O' 3 (.slice (some ⟨g32, 0, none⟩) u25.length m27) s58.1 ∧ Rw 5 w' O' 150 (.slice A45 q38.length c46) s58.2 ∧ Vb w' (FrS [2] w' O') (.slice A13 x0.fields.length c14) x0.fields ∧ Ob 2 w' O' (.pointer (some ⟨p0, 0, none⟩)) x0) _ () ⟨O50, hB, hx1, h36, h43, h55, h52⟩ ⟨rfl, rfl, rfl, rfl, rfl, rfl, trivial⟩ (fun _ _ => ⟨rfl, rfl⟩) (fun _ _ => ⟨rfl, rfl, trivial⟩) (fun _ _ _ ⟨O', hB, hx1, h75, h77, h55, h52⟩ => ⟨O', hB, h75, h77, h52⟩) ⟨rfl, rfl, rfl⟩ ⟨rfl, rfl⟩ ?_
   rintro k60 a61 s58 x59 w62 cc64 hx65 ⟨O63, hB, hx1, h75, h77, h55, h52⟩ hf66 hret67 hbrk68
   have rk60 : inI64 (k60 : Int) := rngK hx65 l49
   refine ewp_seq (ewp_region (o_mv rfl rfl ?_))
   obtain ⟨b79, o80, ce81, hA82, hl83, hd84, rfl, r86, r87, r88, r89⟩ := h55.elem' hx65
   refine o_iaE (hA := hA82) (hj := rfl) (hlt := hl83) rfl rfl rfl ?_
   refine o_la (hl := rfl) (hc := hd84) rfl rfl ?_
   refine l_alloc 6 O63 rfl fun g90 w91 O92 S93 h94 => ?_
   replace h55 := h55.stS S93 id (fun _ _ => id)
   refine o_as rfl rfl (l_store h94 rfl rfl rfl (Nat.le_of_ble_eq_true rfl) (by first | exact allOne rfl | simp [Value.cells, Value.oneCell', errV_one]) fun w95 S96 h94 => ?_)
   replace h94 : Lc 6 w95 O92 g90 152 [(.int .i64 a61.word), (.int .i64 a61.bit), (.int .i64 a61.width), (.int .i64 a61.size)] := h94
   replace h55 := h55.stS S96 (by decide) (by decide)
   refine o_z ?_
   refine ewp_seq (ewp_region (o_mv rfl rfl (o_mv rfl rfl (o_la (hl := rfl) (hc := (h94.1).cellsAt) rfl rfl ?_))))
   refine o_mv rfl rfl ?_
   obtain ⟨q97, e98, hf66⟩ := bs hf66
   replace hx1 := (hx1.st S93).st S96
   refine l_callA (O := O92) (A := All w95) (R := fun w' F v => Vb w' F v q97) (c_pack_field_get (fun _ h => h) (Vb.mono (F := Fr 0 w95 O92) (Vb.ofAgg (cs := [(.int .i64 a61.word), (.int .i64 a61.bit), (.int .i64 a61.width), (.int .i64 a61.size)]) (x := a61) rfl ⟨rfl, r86, r87, r88, r89⟩) Fr.lt) (Vb.mono (F := Fr 0 w95 O92) hx1 Fr.lt) e98) rfl rfl fun v103 w99 O100 S101 h102 => ?_
   obtain ⟨rfl, r104⟩ := h102.int
   replace h55 := h55.stS S101 id (fun _ _ => id)
   obtain ⟨a105, e106, hf66⟩ := bs hf66
   replace h75 := ((h75.st S93).st S96).st S101
   obtain ⟨b107, o108, ce109, hA110, hl111, hd112, rfl, r114⟩ := h75.elem e106
   refine o_iaE (hA := hA110) (hj := rfl) (hlt := hl111) rfl rfl rfl ?_
   refine l_setE rfl h75 (a := q97) (vInt r104) hA110 rfl rfl (lt_of_get e106) fun w115 S116 h75 => ?_
   replace h55 := h55.stS S116 (by decide) (by decide)
   refine o_z ?_
   refine ewp_seq (ewp_seq (ewp_draw (· = w115) [(0, true), (1, true), (2, true), (3, true), (4, true), (5, true), (6, true)] (by kernel_rfl) rfl (by kernel_rfl) rfl ?_))
   refine h_mv rfl rfl rfl (h_mv rfl rfl rfl ?_)
   obtain ⟨a117, e118, hf66⟩ := bs hf66
   obtain ⟨b119, o120, ce121, hA122, hl123, hd124, rfl, r126⟩ := h75.elem e118
   refine h_iaE (hA := hA122) (hj := rfl) (hlt := hl123) rfl rfl rfl rfl ?_
   refine h_ldA (hc := cat0 hd124) rfl rfl rfl ?_
   refine h_fa rfl rfl rfl ?_
   replace h94 := (h94.st S101).st S116
   refine h_ldA (hc := Blk.cell (i := 3) (h94.1) rfl) rfl rfl rfl ?_
   refine h_geS rfl rfl rfl rfl (fun c127 => ?_) fun c127 => ?_
   ·
    replace hf66 := ip hf66 c127
    refine h_z ?_
    refine ewp_true rfl (ewp_seq (ewp_region (o_miE rfl rfl ?_)))
    refine o_as rfl rfl (o_as rfl rfl (o_z ?_))
    refine ewp_ret ?_
    obtain rfl := sm hf66
    obtain rfl := hret67 _ rfl
    obtain rfl := sm (fin_ret hm)
    replace hB := (((hB.st S93).st S96).st S101).st S116
    obtain ⟨O', hS', hz, hl⟩ := hE.leave (fun q => if q = 2 then i0 else 0) rfl hB
    replace h52 := (((h52.st S93).st S96).st S101).st S116
    exact ret2 rfl (res_tmp rfl) (res_tmp rfl) ⟨O', hS', _, _, (Ob.leave h52 hz (hl 2 (by decide) (by decide)) hx0.2), rfl, (Vb.mono (Vb.nil _ _) hz), (vErr (by decide))⟩
   ·
    replace hf66 := im hf66 c127
    refine h_z ?_
    refine ewp_false rfl (ewp_skip (ewp_drawX [(6, [])] O100 ?_))
    refine x_pre (fuel := 4) [] [(0, true), (1, true), (2, true), (3, true), (4, true), (5, true)] (by kernel_rfl) rfl ?_
    refine h_mv rfl rfl rfl (h_fa rfl rfl rfl (h_ldC (hc := fun w' ⟨O', hq⟩ => Blk.cell (i := 0) ((h94.st hq (by decide)).1) rfl) rfl rfl rfl ?_))
    obtain ⟨a128, e129, hf66⟩ := bs hf66
    obtain ⟨p131, x130⟩ := atI_some' e129
    replace h77 := (((h77.st S93).st S96).st S101).st S116
    obtain ⟨b132, o133, ce134, hA135, hF138, hl136, hd137, rfl⟩ := h77.elemF x130
    refine h_iaE (hA := hA135) (hj := (Int.toNat_of_nonneg p131).symm) (hlt := hl136) rfl rfl rfl rfl ?_
    refine h_ldC (hc := fun w' ⟨O', hq⟩ => cat0 (cellsAt_agree (hq.agree (i := 5) (by decide)) hF138 hd137)) rfl rfl rfl ?_
    refine h_laB (hl := rfl) (hb := fun w' ⟨O', hq⟩ => ((h94.st hq (by decide)).1).cellsAt) rfl rfl rfl ?_
    refine hwp_nilT ?_
    refine x_one (i := 6) (by kernel_rfl) rfl ?_
    obtain ⟨q139, e140, hf66⟩ := bs hf66
    refine l_callA (O := O100) (A := All w115) (R := fun w' F v => Vb w' F v q139) (c_pack_field_mask (fun _ h => h) (Vb.mono (F := Fr 0 w115 O100) (Vb.ofAgg (cs := [(.int .i64 a61.word), (.int .i64 a61.bit), (.int .i64 a61.width), (.int .i64 a61.size)]) (x := a61) rfl ⟨rfl, r86, r87, r88, r89⟩) Fr.lt) e140) rfl rfl fun v145 w141 O142 S143 h144 => ?_
    obtain rfl := h144.u64
    have hZ := S143.lst [] (fun _ h => h.elim)
    replace h55 := h55.stS S143 id (fun _ _ => id)
    refine x_go [] hZ (by kernel_rfl) ?_
    refine x_pre (fuel := 1) [] [(7, true), (8, true)] (by kernel_rfl) rfl ?_
    refine h_uns (a := a128) (b := q139) rfl rfl rfl rfl ?_
    obtain ⟨a146, e147, hf66⟩ := bs hf66
    obtain ⟨p149, x148⟩ := atI_some' e147
    replace h77 := h77.st S143
    obtain ⟨b150, o151, ce152, hA153, hF156, hl154, hd155, rfl⟩ := h77.elemF x148
    refine h_iaE (hA := hA153) (hj := (Int.toNat_of_nonneg p149).symm) (hlt := hl154) rfl rfl rfl rfl ?_
    refine hwp_nilT ?_
    refine x_one (i := 9) (by kernel_rfl) rfl ?_
    refine l_setE rfl h77 (a := (a128 &&& ~~~q139)) vU64 hA153 rfl rfl (lt_of_get x148) fun w157 S158 h77 => ?_
    replace h55 := h55.stS S158 (by decide) (by decide)
    refine x_end (by kernel_rfl) ?_
    refine x_nil (by kernel_rfl) ?_
    obtain rfl := sm hf66
    refine (?_ : Exists _)
    replace hB := (((((hB.st S93).st S96).st S101).st S116).st S143).st S158
    replace hx1 := (((hx1.st S101).st S116).st S143).st S158
    replace h52 := (((((h52.st S93).st S96).st S101).st S116).st S143).st S158
    replace h75 := (h75.st S143).st S158
    exact ⟨_, (), rfl, ⟨rfl, rfl, rfl, rfl, rfl, rfl, trivial⟩, _, hB, hx1, h75, h77, h55, h52⟩
  replace hB := (((hB.st S8).st S35).st S42).st S51
  rintro l159 w160 ⟨s163, x164, rfl, hs162, O161, hB, h75, h77, h52⟩
  replace hm := fin_done hm
  refine ewp_sub _ hs162 ?_
  refine ewp_seq (ewp_seq (ewp_region (o_mv rfl rfl (o_ln rfl rfl ?_))))
  have l166 : q38.length ≤ 9223372036854775807 := Nat.le_trans h77.len.2.1 h77.len.2.2
  have r165 : inI64 (q38.length : Int) := rngNat l166
  refine o_mv rfl rfl (o_z ?_)
  obtain ⟨res167, hL168, hm⟩ := bs hm
  refine ewp_join (aft res167 (fun (s169 : Unit) (x170 : Unit) => [(6, (.slice (some ⟨g32, 0, none⟩) u25.length m27))]) (fun s169 x170 w' => ∃ O' : Lab, Bm w O0 w' O' ∧ Rw 4 w' O' 3 (.slice (some ⟨g32, 0, none⟩) u25.length m27) s163.1 ∧ Ob 2 w' O' (.pointer (some ⟨p0, 0, none⟩)) x0)) ?_ ?_
  ·
   refine ewp_block (ewp_rng (σ := Unit) (X := Unit) (q38.length) hL168 rfl l166 (fun (s169 : Unit) (x170 : Unit) => [(6, (.slice (some ⟨g32, 0, none⟩) u25.length m27)), (65, (.slice A45 q38.length c46))]) _ (fun s169 x170 w' => ∃ O' : Lab, Bm w O0 w' O' ∧ Rw 4 w' O' 3 (.slice (some ⟨g32, 0, none⟩) u25.length m27) s163.1 ∧ Rw 5 w' O' 150 (.slice A45 q38.length c46) s163.2 ∧ Ob 2 w' O' (.pointer (some ⟨p0, 0, none⟩)) x0) _ () ⟨O161, hB, h75, h77, h52⟩ ⟨rfl, rfl, rfl, rfl, trivial⟩ (fun _ _ => ⟨rfl, rfl⟩) (fun _ _ => ⟨rfl, trivial⟩) (fun _ _ _ ⟨O', hB, h75, h77, h52⟩ => ⟨O', hB, h75, h52⟩) ⟨rfl, rfl, rfl⟩ ⟨rfl, rfl⟩ ?_)
   rintro k171 a172 s169 x170 w173 cc175 hx176 ⟨O174, hB, h75, h77, h52⟩ hf177 hret178 hbrk179
   have rk171 : inI64 (k171 : Int) := rngK hx176 l166
   refine ewp_seq (ewp_region ?_)
   obtain ⟨a182, e183, hf177⟩ := bs hf177
   obtain ⟨b184, o185, ce186, hA187, hl188, hd189, rfl⟩ := h77.elem e183
   refine o_iaE (hA := hA187) (hj := rfl) (hlt := hl188) rfl rfl rfl ?_
   refine o_ld (hc := cat0 hd189) rfl rfl ?_
   refine o_as rfl rfl (o_z ?_)
   refine ewp_seq (ewp_region (o_mv rfl rfl (o_neS rfl rfl rfl (fun c191 => ?_) fun c191 => ?_)))
   ·
    replace hf177 := ip hf177 c191
    refine o_z ?_
    refine ewp_true rfl (ewp_seq (ewp_region (o_miE rfl rfl ?_)))
    refine o_as rfl rfl (o_as rfl rfl (o_z ?_))
    refine ewp_ret ?_
    obtain rfl := sm hf177
    obtain rfl := hret178 _ rfl
    obtain rfl := sm (fin_ret hm)
    obtain ⟨O', hS', hz, hl⟩ := hE.leave (fun q => if q = 2 then i0 else 0) rfl hB
    exact ret2 rfl (res_tmp rfl) (res_tmp rfl) ⟨O', hS', _, _, (Ob.leave h52 hz (hl 2 (by decide) (by decide)) hx0.2), rfl, (Vb.mono (Vb.nil _ _) hz), (vErr (by decide))⟩
   ·
    replace hf177 := im hf177 c191
    refine o_z ?_
    refine ewp_false rfl (ewp_skip ?_)
    obtain rfl := sm hf177
    refine (?_ : Exists _)
    exact ⟨_, (), rfl, ⟨rfl, rfl, rfl, rfl, trivial⟩, _, hB, h75, h77, h52⟩
  rintro l192 w193 ⟨s196, x197, rfl, hs195, O194, hB, h75, h52⟩
  replace hm := fin_done hm
  refine ewp_sub _ hs195 ?_
  refine ewp_seq (ewp_region (o_mv rfl rfl (o_as rfl rfl (o_as rfl rfl (o_z ?_)))))
  refine ewp_ret ?_
  obtain ⟨O198, S199, h75⟩ := h75.freeze
  obtain rfl := sm hm
  replace hB := hB.st S199
  obtain ⟨O', hS', hz, hl⟩ := hE.leave (fun q => if q = 2 then i0 else 0) rfl hB
  replace h52 := h52.st S199
  exact ret2 rfl (res_tmp rfl) (res_tmp rfl) ⟨O', hS', _, _, (Ob.leave h52 hz (hl 2 (by decide) (by decide)) hx0.2), rfl, (Vb.mono h75 hz), (vErr (show inI64 0 from by decide))⟩
noncomputable def m_pack_Packer_Hash (x0 : Pkr) (x1 : List U64) : Option Int :=
  bnd (rng (ρ := Int) (fun (k13 : Nat) (a14 : U64) (s11 : U64) => bnd (shrU ((s11 ^^^ a14) * (13787848793156543929 : U64)) 29) fun n31 => some (.next (((s11 ^^^ a14) * (13787848793156543929 : U64)) ^^^ n31))) x1 0 ((BitVec.ofInt 64 (x1.length : Int)) + (11400714819323198485 : U64))) fun res9 => fin res9 fun (s37 : U64) => bnd (shrU s37 2) fun n39 => some n39.toInt
theorem c_pack_Packer_Hash {w : World} {O : Lab} {p0 i0 : Nat} {x0 : Pkr} (hx0 : Ob i0 w O (.pointer (some ⟨p0, 0, none⟩)) x0) {vx1 : Value} {x1 : List U64} (hx1 : Vb w (Fr 0 w O) vx1 x1) {r : Int} (hm : m_pack_Packer_Hash x0 x1 = some r) :
    Fn Try.prog 81 [(.pointer (some ⟨p0, 0, none⟩)), vx1] w fun v w' => ∃ O', St (eT i0) w O w' O' ∧ Ob i0 w' O' (.pointer (some ⟨p0, 0, none⟩)) x0 ∧ Vb w' (Fr 0 w' O') v r := by
 obtain ⟨O0, hE, hz0, hl2⟩ := ent1 (w := w) (O := O) hx0.2
 have hx0' := Ob.leave hx0 hz0 hl2 (j := 2) (by decide)
 have hB : Bm w O0 w O0 := Bm.refl
 replace hx1 := hx1.mono hz0
 obtain ⟨A3, c4, rfl⟩ := hx1.form
 refine fn_enter Try.func81 rfl Try.ntmps81 rfl ?_
 unfold m_pack_Packer_Hash at hm
 refine ewp_seq (ewp_region (o_as rfl rfl (o_z ?_)))
 refine ewp_seq (ewp_seq (ewp_region (o_mv rfl rfl (o_pn rfl rfl ?_))))
 refine o_z ?_
 refine ewp_false rfl (ewp_skip (ewp_seq (ewp_region (o_mv rfl rfl (o_ln rfl rfl ?_)))))
 have l6 : x1.length ≤ 9223372036854775807 := Nat.le_trans hx1.len.2.1 hx1.len.2.2
 have r5 : inI64 (x1.length : Int) := rngNat l6
 refine o_cvU rfl rfl ?_
 refine o_uad (a := (BitVec.ofInt 64 (x1.length : Int))) (b := (11400714819323198485 : U64)) rfl rfl rfl ?_
 refine o_as rfl rfl (o_z ?_)
 refine ewp_seq (ewp_seq (ewp_region (o_mv rfl rfl (o_ln rfl rfl ?_))))
 have l8 : x1.length ≤ 9223372036854775807 := Nat.le_trans hx1.len.2.1 hx1.len.2.2
 have r7 : inI64 (x1.length : Int) := rngNat l8
 refine o_mv rfl rfl (o_z ?_)
 obtain ⟨res9, hL10, hm⟩ := bs hm
 refine ewp_join (aft res9 (fun (s11 : U64) (x12 : Unit) => [(5, (.int .u64 s11.toNat))]) (fun s11 x12 w' => ∃ O' : Lab, Bm w O0 w' O' ∧ Ob 2 w' O' (.pointer (some ⟨p0, 0, none⟩)) x0)) ?_ ?_
 ·
  refine ewp_block (ewp_rng (σ := U64) (X := Unit) (x1.length) hL10 rfl l8 (fun (s11 : U64) (x12 : Unit) => [(5, (.int .u64 s11.toNat)), (14, (.slice A3 x1.length c4))]) _ (fun s11 x12 w' => ∃ O' : Lab, Bm w O0 w' O' ∧ Vb w' (Fr 0 w' O') (.slice A3 x1.length c4) x1 ∧ Ob 2 w' O' (.pointer (some ⟨p0, 0, none⟩)) x0) _ () ⟨O0, hB, hx1, hx0'⟩ ⟨rfl, rfl, rfl, rfl, trivial⟩ (fun _ _ => ⟨rfl, rfl⟩) (fun _ _ => ⟨rfl, trivial⟩) (fun _ _ _ ⟨O', hB, hx1, hx0'⟩ => ⟨O', hB, hx0'⟩) ⟨rfl, rfl, rfl⟩ ⟨rfl, rfl⟩ ?_)
  rintro k13 a14 s11 x12 w15 cc17 hx18 ⟨O16, hB, hx1, hx0'⟩ hf19 hret20 hbrk21
  have rk13 : inI64 (k13 : Int) := rngK hx18 l8
  refine ewp_seq (ewp_region ?_)
  obtain ⟨b24, o25, ce26, hA27, hl28, hd29, rfl⟩ := hx1.elem' hx18
  refine o_iaE (hA := hA27) (hj := rfl) (hlt := hl28) rfl rfl rfl ?_
  refine o_ld (hc := cat0 hd29) rfl rfl ?_
  refine o_as rfl rfl (o_z ?_)
  refine ewp_seq (ewp_region (o_mv rfl rfl (o_mv rfl rfl (o_uxo (a := s11) (b := a14) rfl rfl rfl ?_))))
  refine o_as rfl rfl (o_z ?_)
  refine ewp_seq (ewp_region (o_mv rfl rfl (o_uml (a := (s11 ^^^ a14)) (b := (13787848793156543929 : U64)) rfl rfl rfl ?_)))
  refine o_as rfl rfl (o_z ?_)
  refine ewp_region (o_mv rfl rfl (o_mv rfl rfl ?_))
  obtain ⟨n31, e32, hf19⟩ := bs hf19
  refine o_usr (a := ((s11 ^^^ a14) * (13787848793156543929 : U64))) (he := e32) rfl rfl rfl ?_
  refine o_uxo (a := ((s11 ^^^ a14) * (13787848793156543929 : U64))) (b := n31) rfl rfl rfl ?_
  refine o_as rfl rfl (o_z ?_)
  obtain rfl := sm hf19
  refine (?_ : Exists _)
  exact ⟨_, (), rfl, ⟨rfl, rfl, rfl, rfl, trivial⟩, _, hB, hx1, hx0'⟩
 rintro l33 w34 ⟨s37, x38, rfl, hs36, O35, hB, hx0'⟩
 replace hm := fin_done hm
 refine ewp_sub _ hs36 ?_
 refine ewp_seq (ewp_region (o_mv rfl rfl ?_))
 obtain ⟨n39, e40, hm⟩ := bs hm
 refine o_usr (a := s37) (he := e40) rfl rfl rfl ?_
 refine o_cvI (a := n39) rfl rfl ?_
 refine o_as rfl rfl (o_z ?_)
 refine ewp_ret ?_
 obtain rfl := sm hm
 obtain ⟨O', hS', hz, hl⟩ := hE.leave (fun q => if q = 2 then i0 else 0) rfl hB
 exact ret1v rfl (res_tmp rfl) ⟨O', hS', (Ob.leave hx0' hz (hl 2 (by decide) (by decide)) hx0.2), (vInt (toIntR _))⟩
noncomputable def m_slices_Equal_Luint64_uint64 (x0 : List U64) (x1 : List U64) : Option Bool :=
  if (x0.length : Int) ≠ (x1.length : Int) then (some false) else (bnd (rng (ρ := Bool) (fun (k18 : Nat) (a19 : U64) (s16 : Unit) => bnd (x1[k18]?) fun a36 => if (a19.toNat : Int) ≠ (a36.toNat : Int) then (some (.ret false)) else (some (.next ()))) x0 0 ()) fun res14 => fin res14 fun (s50 : Unit) => some true)
theorem c_slices_Equal_Luint64_uint64 {w : World} {A : Nat → Prop} (hA : ∀ k, A k → k < w.heap.size) {vx0 : Value} {x0 : List U64} (hx0 : Vb w A vx0 x0) {vx1 : Value} {x1 : List U64} (hx1 : Vb w A vx1 x1) {r : Bool} (hm : m_slices_Equal_Luint64_uint64 x0 x1 = some r) :
    Fn Try.prog 82 [vx0, vx1] w fun v w' => Ext w w' ∧ Vb w' (upA A w w') v r := by
 obtain ⟨O, hB, hA0⟩ := enter hA
 replace hx0 := hx0.mono hA0
 obtain ⟨A3, c4, rfl⟩ := hx0.form
 replace hx1 := hx1.mono hA0
 obtain ⟨A5, c6, rfl⟩ := hx1.form
 refine fn_enter Try.func82 rfl Try.ntmps82 rfl ?_
 unfold m_slices_Equal_Luint64_uint64 at hm
 refine ewp_seq (ewp_region (o_as rfl rfl (o_z ?_)))
 refine ewp_seq (ewp_seq (ewp_region (o_mv rfl rfl (o_ln rfl rfl ?_))))
 have l8 : x0.length ≤ 9223372036854775807 := Nat.le_trans hx0.len.2.1 hx0.len.2.2
 have r7 : inI64 (x0.length : Int) := rngNat l8
 refine o_mv rfl rfl (o_ln rfl rfl ?_)
 have l10 : x1.length ≤ 9223372036854775807 := Nat.le_trans hx1.len.2.1 hx1.len.2.2
 have r9 : inI64 (x1.length : Int) := rngNat l10
 refine o_neS rfl rfl rfl (fun c11 => ?_) fun c11 => ?_
 ·
  replace hm := ip hm c11
  refine o_z ?_
  refine ewp_true rfl (ewp_seq (ewp_region (o_as rfl rfl (o_z ?_))))
  refine ewp_ret ?_
  obtain rfl := sm hm
  exact ret1v rfl (res_tmp rfl) ⟨hB.ext, vBool⟩
 ·
  replace hm := im hm c11
  refine o_z ?_
  refine ewp_false rfl (ewp_skip (ewp_seq (ewp_seq (ewp_region (o_mv rfl rfl (o_ln rfl rfl ?_))))))
  have l13 : x0.length ≤ 9223372036854775807 := Nat.le_trans hx0.len.2.1 hx0.len.2.2
  have r12 : inI64 (x0.length : Int) := rngNat l13
  refine o_mv rfl rfl (o_z ?_)
  obtain ⟨res14, hL15, hm⟩ := bs hm
  refine ewp_join (aft res14 (fun (s16 : Unit) (x17 : Unit) => []) (fun s16 x17 w' => ∃ O' : Lab, Bs w A w' O')) ?_ ?_
  ·
   refine ewp_block (ewp_rng (σ := Unit) (X := Unit) (x0.length) hL15 rfl l13 (fun (s16 : Unit) (x17 : Unit) => [(0, (.slice A3 x0.length c4)), (1, (.slice A5 x1.length c6))]) _ (fun s16 x17 w' => ∃ O' : Lab, Bs w A w' O' ∧ Vb w' (Fr 0 w' O') (.slice A3 x0.length c4) x0 ∧ Vb w' (Fr 0 w' O') (.slice A5 x1.length c6) x1) _ () ⟨O, hB, hx0, hx1⟩ ⟨rfl, rfl, rfl, rfl, trivial⟩ (fun _ _ => ⟨rfl, rfl⟩) (fun _ _ => trivial) (fun _ _ _ ⟨O', hB, hx0, hx1⟩ => ⟨O', hB⟩) ⟨rfl, rfl, rfl⟩ ⟨rfl, rfl⟩ ?_)
   rintro k18 a19 s16 x17 w20 cc22 hx23 ⟨O21, hB, hx0, hx1⟩ hf24 hret25 hbrk26
   have rk18 : inI64 (k18 : Int) := rngK hx23 l13
   refine ewp_seq (ewp_region (o_mv rfl rfl (o_as rfl rfl (o_z ?_))))
   refine ewp_seq (ewp_draw (· = w20) [(0, true), (1, true), (2, true), (3, true), (4, true), (5, true), (6, true), (7, true), (8, true)] (by kernel_rfl) rfl (by kernel_rfl) rfl ?_)
   refine h_mv rfl rfl rfl (h_mv rfl rfl rfl ?_)
   obtain ⟨b29, o30, ce31, hA32, hl33, hd34, rfl⟩ := hx0.elem' hx23
   refine h_iaE (hA := hA32) (hj := rfl) (hlt := hl33) rfl rfl rfl rfl ?_
   refine h_ldA (hc := cat0 hd34) rfl rfl rfl ?_
   refine h_mv rfl rfl rfl (h_mv rfl rfl rfl ?_)
   obtain ⟨a36, e37, hf24⟩ := bs hf24
   obtain ⟨b38, o39, ce40, hA41, hl42, hd43, rfl⟩ := hx1.elem' e37
   refine h_iaE (hA := hA41) (hj := rfl) (hlt := hl42) rfl rfl rfl rfl ?_
   refine h_ldA (hc := cat0 hd43) rfl rfl rfl ?_
   refine h_neS rfl rfl rfl rfl (fun c45 => ?_) fun c45 => ?_
   ·
    replace hf24 := ip hf24 c45
    refine h_z ?_
    refine ewp_true rfl (ewp_seq (ewp_region (o_as rfl rfl (o_z ?_))))
    refine ewp_ret ?_
    obtain rfl := sm hf24
    obtain rfl := hret25 _ rfl
    obtain rfl := sm (fin_ret hm)
    exact ret1v rfl (res_tmp rfl) ⟨hB.ext, vBool⟩
   ·
    replace hf24 := im hf24 c45
    refine h_z ?_
    refine ewp_false rfl (ewp_skip ?_)
    obtain rfl := sm hf24
    refine (?_ : Exists _)
    exact ⟨_, (), rfl, ⟨rfl, rfl, rfl, rfl, trivial⟩, _, hB, hx0, hx1⟩
  rintro l46 w47 ⟨s50, x51, rfl, hs49, O48, hB⟩
  replace hm := fin_done hm
  refine ewp_sub _ hs49 ?_
  refine ewp_seq (ewp_region (o_as rfl rfl (o_z ?_)))
  refine ewp_ret ?_
  obtain rfl := sm hm
  exact ret1v rfl (res_tmp rfl) ⟨hB.ext, vBool⟩
end
section
open Go Go.RowKit
class TMap (P : Program) (t : TypeId) (k e : outParam TypeId) : Prop where eq : P.underlying t = some (.map k e)
/-- Plain data as keys. -/
class MKey (K : Type) where
  dec : DecidableEq K
  enc : K → Value
  desc : TypeDesc
  key : ∀ a, MapKept.IsKey desc (enc a)
  inj : ∀ a b, enc a = enc b → a = b
class TKey (P : Program) (t : TypeId) (K : Type) [MKey K] : Prop where eq : P.underlying t = some (MKey.desc K)
instance : MKey Int where
  dec := inferInstance
  enc a := .int .i64 a
  desc := .int .i64
  key _ := rfl
  inj _ _ h := by injection h
section
variable {K V : Type} [MKey K]
instance keyDec : DecidableEq K := MKey.dec
def mhas : List (K × V) → K → Bool
  | [], _ => false
  | p :: r, k => if p.1 = k then true else mhas r k
def mget (z : V) : List (K × V) → K → V
  | [], _ => z
  | p :: r, k => if p.1 = k then p.2 else mget z r k
def mput : List (K × V) → K → V → List (K × V)
  | [], k, v => [(k, v)]
  | p :: r, k, v => if p.1 = k then (k, v) :: r else p :: mput r k v
def midx : List (K × V) → K → Option Nat
  | [], _ => none
  | p :: r, k => if p.1 = k then some 0 else (midx r k).map (· + 1)
theorem find_spec (a : K) : ∀ (es : List MapEntry) (x : List (K × V)) (i : Nat), es.map (·.key) = x.map (fun p => MKey.enc p.1) →
    (midx x a = none ∧ Instr.findNow (MKey.desc K) (MKey.enc a) es i = some none ∧ mhas x a = false ∧ (∀ z, mget z x a = z) ∧ ∀ v, mput x a v = x ++ [(a, v)]) ∨
    ∃ j e p, midx x a = some j ∧ es[j]? = some e ∧ x[j]? = some p ∧ Instr.findNow (MKey.desc K) (MKey.enc a) es i = some (some (i + j, e.val)) ∧ e.key = MKey.enc a ∧ mhas x a = true ∧ (∀ z, mget z x a = p.2) ∧ ∀ v, mput x a v = x.set j (a, v)
  | [], [], _, _ => .inl ⟨rfl, rfl, rfl, fun _ => rfl, fun _ => rfl⟩
  | [], _ :: _, _, h => by simp at h
  | _ :: _, [], _, h => by simp at h
  | e :: es, p :: x, i, h => by
    rw [List.map_cons, List.map_cons] at h
    injection h with h1 h2
    obtain ⟨r, hr, hiff⟩ := MapKept.sameNow_of_keys (MKey.key a) (MKey.key p.1)
    by_cases hp : p.1 = a
    · have : r = true := hiff.2 (by rw [hp])
      subst this
      refine .inr ⟨0, e, p, by simp [midx, hp], rfl, rfl, ?_, by rw [h1, hp], by simp [mhas, hp], fun z => by simp [mget, hp], fun v => by simp [mput, hp]⟩
      simp [Instr.findNow, h1, hr]
    · have : r = false := by
        cases r with
        | false => rfl
        | true => exact absurd (MKey.inj _ _ (hiff.1 rfl)).symm hp
      subst this
      rcases find_spec a es x (i + 1) h2 with ⟨g0, g1, g2, g3, g4⟩ | ⟨j, e', p', g0, g1, g2, g3, g4, g5, g6, g7⟩
      · exact .inl ⟨by simp [midx, hp, g0], by simp [Instr.findNow, h1, hr, g1], by simp [mhas, hp, g2], fun z => by simp [mget, hp, g3], fun v => by simp [mput, hp, g4]⟩
      · refine .inr ⟨j + 1, e', p', by simp [midx, hp, g0], by simpa using g1, by simpa using g2, ?_, g4, by simp [mhas, hp, g5], fun z => by simp [mget, hp, g6], fun v => by simp [mput, hp, g7]⟩
        simp [Instr.findNow, h1, hr, g3]; omega
end
/-- What a look-up yields. -/
def LkV (d : TypeDesc) (z : Value) (w : World) (r : Nat) (key v : Value) (b : Bool) : Prop := ∃ es ck a, w.heap[r]? = some (.map es ck) ∧ Instr.findNow d key es.toList 0 = some a ∧ v = (match a with | some p => p.2 | none => z) ∧ b = a.isSome
theorem LkV.keep {d : TypeDesc} {z : Value} {w w' : World} {r : Nat} {key v : Value} {b : Bool} (h : LkV d z w r key v b) (e : w'.heap[r]? = w.heap[r]?) : LkV d z w' r key v b := by
  obtain ⟨es, ck, a, h1, h2⟩ := h
  exact ⟨es, ck, a, e.trans h1, h2⟩
section
variable {P : Program} {l : Env} {w : World} {dst : Option Tmp} {ty : TypeId} {pos : String} {aft : Array Edge}
theorem ev_lk {K : Type} [MKey K] {t k e : TypeId} [ht : TMap P t k e] [hk : TKey P k K] {z : Value} {size bytes : Nat} [TInfo P e z size bytes] {x y : Operand} {r : Nat} {a : K} {v : Value} {b : Bool} (hx : opv l x = some (.map (some r))) (hy : opv l y = some (MKey.enc a)) (hv : LkV (MKey.desc K) z w r (MKey.enc a) v b) :
    Ev P ⟨dst, .lookup t x y false, ty, pos, aft, none⟩ l w v := fun _ _ d ha => by
  obtain ⟨es, ck, q, h1, h2, h3, h4⟩ := hv
  have hb : (dr w d).heap[r]? = some (.map es ck) := h1
  subst h3
  cases q with
  | none => simp [execOp, ha.eval hx, ha.eval hy, Instr.lookup, run_underlying ht.eq, MapKept.run_getObj_map hb, MapKept.run_checkKey hk.eq (MKey.key a), MapKept.run_findKey hk.eq h2, Result.andThen, run_zero (P := P) (t := e)]
  | some p => simp [execOp, ha.eval hx, ha.eval hy, Instr.lookup, run_underlying ht.eq, MapKept.run_getObj_map hb, MapKept.run_checkKey hk.eq (MKey.key a), MapKept.run_findKey hk.eq h2, Result.andThen]
end
/-- Entries behind an update. -/
def putEs (es : List MapEntry) (ck : Nat) (key v : Value) : Option Nat → List MapEntry
  | none => es ++ [{ key := key, val := v, born := ck }]
  | some j => es.modify j fun e => { e with key := key, val := v }
section
variable {P : Program} {n : Nat} {ops : Array Oper} {Q : Post} {rest : List Oper} {l : Env} {w : World} {d : Tmp} {ty : TypeId} {pos : String} {aft : Array Edge}
theorem owp_mput {K V : Type} [MKey K] {t k e : TypeId} [ht : TMap P t k e] [hk : TKey P k K] {x y u : Operand} {r ck : Nat} {a : K} {v : Value} {es : List MapEntry} {xs : List (K × V)} (hb : w.heap[r]? = some (.map es.toArray ck)) (hks : es.map (·.key) = xs.map (fun p => MKey.enc p.1)) (hx : opv l x = some (.map (some r))) (hy : opv l y = some (MKey.enc a)) (hu : opv l u = some v)
    (h : ∀ w' ck', w'.os = w.os → w'.tape = w.tape → w'.output = w.output → w'.heap.size = w.heap.size → w'.heap[r]? = some (.map (putEs es ck (MKey.enc a) v (midx xs a)).toArray ck') → (∀ q, q ≠ r → w'.heap[q]? = w.heap[q]?) → owp P n ops Q rest l w') : owp P n ops Q (⟨none, .mapUpdate t x y u, ty, pos, aft, none⟩ :: rest) l w := fun ac d ha => by
  refine wpList_plain rfl fun K' hK => ?_
  have hbd : (dr w d).heap[r]? = some (.map es.toArray ck) := hb
  unfold Oper.wp
  rcases find_spec a es xs 0 hks with ⟨g0, g1, _⟩ | ⟨j, e', p, g0, g1, g2, g3, g4, _⟩
  · have hr : (execOp ac.eval ⟨none, .mapUpdate t x y u, ty, pos, aft, none⟩).run P (dr w d) = .ok .skip { (dr w d) with heap := (dr w d).heap.setIfInBounds r (.map (es.toArray.push { key := MKey.enc a, val := v, born := ck }) (ck + 1)) } := by
      simp [execOp, ha.eval hx, ha.eval hy, ha.eval hu, Instr.mapUpdate, run_underlying ht.eq, MapKept.run_getObj_map hbd, MapKept.run_checkKey hk.eq (MKey.key a), MapKept.run_findKey hk.eq g1, MapKept.run_setObj_map _ hbd, Result.andThen]
    rw [hr]
    refine hK _ _ (h { w with heap := w.heap.setIfInBounds r (.map (es.toArray.push { key := MKey.enc a, val := v, born := ck }) (ck + 1)) } (ck + 1) rfl rfl rfl (by simp) ?_ (fun q hq => (MapKept.heap_set hb).2 q hq) _ d ha)
    rw [g0]
    simpa [putEs] using (MapKept.heap_set hb).1
  · have hj : es.toArray[j]? = some e' := by simpa using g1
    have hj' : es[j]? = some e' := g1
    rw [Nat.zero_add] at g3
    have hr : (execOp ac.eval ⟨none, .mapUpdate t x y u, ty, pos, aft, none⟩).run P (dr w d) = .ok .skip { (dr w d) with heap := (dr w d).heap.setIfInBounds r (.map (es.toArray.modify j fun e => { e with key := MKey.enc a, val := v }) ck) } := by
      simp [execOp, ha.eval hx, ha.eval hy, ha.eval hu, Instr.mapUpdate, run_underlying ht.eq, MapKept.run_getObj_map hbd, MapKept.run_checkKey hk.eq (MKey.key a), MapKept.run_findKey hk.eq g3, hj', g4, MapKept.run_keyThatStays (MKey.key a), MapKept.run_setObj_map _ hbd, Result.andThen]
    rw [hr]
    refine hK _ _ (h { w with heap := w.heap.setIfInBounds r (.map (es.toArray.modify j fun e => { e with key := MKey.enc a, val := v }) ck) } ck rfl rfl rfl (by simp) ?_ (fun q hq => (MapKept.heap_set hb).2 q hq) _ d ha)
    rw [g0]
    have := (MapKept.heap_set (o' := .map (es.toArray.modify j fun e => { e with key := MKey.enc a, val := v }) ck) hb).1
    simpa [putEs] using this
theorem owp_mkmap {t : TypeId} (hd : Nat.blt d n = true) (h : ∀ w', Ext w w' → w'.heap.size = w.heap.size + 1 → w'.heap[w.heap.size]? = some (.map #[] 0) → owp P n ops Q rest ((d, .map (some w.heap.size)) :: l) w') : owp P n ops Q (⟨some d, .makeMap t none, ty, pos, aft, none⟩ :: rest) l w :=
  owp_eff (w' := w.alloc (.map #[] 0)) (fun a e ha => .inl ⟨.map (some w.heap.size), e, by simp [execOp, Instr.makeMap]; exact ⟨rfl, rfl⟩, ha.put hd _⟩)
    (h _ ((Below.refl _ _).alloc (Nat.le_refl _) _) (by simp) (by show (w.heap.push _)[_]? = _; simp))
end
theorem putEs_keys {K V : Type} [MKey K] {es : List MapEntry} {xs : List (K × V)} (ck : Nat) (a : K) (v : Value) (y : V) (h : es.map (·.key) = xs.map (fun p => MKey.enc p.1)) : (putEs es ck (MKey.enc a) v (midx xs a)).map (·.key) = (mput xs a y).map (fun p => MKey.enc p.1) := by
  rcases find_spec a es xs 0 h with ⟨g0, _, _, _, g4⟩ | ⟨j, e', p, g0, g1, g2, g3, g4, _, _, g7⟩
  · rw [g0, g4]; simp [putEs, h]
  · rw [g0, g7]
    simp only [putEs, List.map_set, ← h]
    apply List.ext_getElem?
    intro q
    rw [List.getElem?_map, List.getElem?_modify, List.getElem?_set]
    by_cases hq : j = q
    · subst hq
      have hlt : j < es.length := lt_of_get g1
      simp [g1, hlt]
    · simp [hq]
class OwM (α : Type) [Ow α] : Prop where
  mptr : ∀ {w : World} {F M : Nat → Prop} {v : Value} {x : α}, Ow.R w F M v x → ∃ r, v = .map (some r)
theorem Ob.mptr {α : Type} [Ow α] [OwM α] {i : Nat} {w : World} {O : Lab} {v : Value} {x : α} (h : Ob i w O v x) : ∃ r, v = .map (some r) := OwM.mptr h.1
/-- Maps to rows that they own; e is the type of the rows' elements. -/
structure MapR (e : TypeId) (K V : Type) where
  l : List (K × List V)
def RA {K V : Type} [Rp V] (w : World) (F M : Nat → Prop) (L : Lab) (e : TypeId) (es : List MapEntry) (xs : List (K × List V)) (skip : Option Nat) : Prop := ∀ (j : Nat) (en : MapEntry) (p : K × List V), es[j]? = some en → xs[j]? = some p → skip ≠ some j → RwM w F (fun k => M k ∧ L k = j + 1) e en.val p.2
instance {e : TypeId} {K V : Type} [MKey K] [Rp V] : Ow (MapR e K V) where
  R w F M v x := ∃ (r : Nat) (L : Lab) (es : List MapEntry) (ck : Nat), v = .map (some r) ∧ w.heap[r]? = some (.map es.toArray ck) ∧ M r ∧ L r = 0 ∧ es.map (·.key) = x.l.map (fun p => MKey.enc p.1) ∧ RA w F M L e es x.l none
  agree := by rintro w w' F M v x ⟨r, L, es, ck, rfl, hb, hM, hL, hk, hv⟩ a1 a2; exact ⟨r, L, es, ck, rfl, (a2 r hM).trans hb, hM, hL, hk, fun j en p h1 h2 h3 => (hv j en p h1 h2 h3).agree a1 fun k hk => a2 k hk.1⟩
  mono := by rintro w F M F' M' v x ⟨r, L, es, ck, rfl, hb, hM, hL, hk, hv⟩ a1 a2 a3; exact ⟨r, L, es, ck, rfl, hb, a2 r hM, hL, hk, fun j en p h1 h2 h3 => (hv j en p h1 h2 h3).mono a1 (fun k hk => ⟨a2 k hk.1, hk.2⟩) fun k hf hm => a3 k hf hm.1⟩
instance {e : TypeId} {K V : Type} [MKey K] [Rp V] : OwM (MapR e K V) := ⟨by rintro w F M v x ⟨r, L, es, ck, rfl, _⟩; exact ⟨r, rfl⟩⟩
/-- A map of which one row is taken out. -/
def MapH {K V : Type} [MKey K] [Rp V] (i : Nat) (w : World) (O : Lab) (r : Nat) (e : TypeId) (x : MapR e K V) (a : K) : Prop :=
  (∃ (L : Lab) (es : List MapEntry) (ck : Nat), w.heap[r]? = some (.map es.toArray ck) ∧ Fr i w O r ∧ es.map (·.key) = x.l.map (fun p => MKey.enc p.1) ∧ RA w (Fr 0 w O) (Fr i w O) L e es x.l (midx x.l a)) ∧ i ≠ 0
section
variable {e : TypeId} {K V : Type} [MKey K] [Rp V] {i j : Nat} {T : Nat → Prop} {w w' : World} {O O' : Lab} {r : Nat} {x : MapR e K V} {a : K}
theorem MapH.st (h : MapH i w O r e x a) (hS : St T w O w' O') (h0 : ¬ T 0 := by decide) (hi : ¬ T i := by decide) : MapH i w' O' r e x a := by
  obtain ⟨⟨L, es, ck, hb, hM, hk, hr⟩, h1⟩ := h
  refine ⟨⟨L, es, ck, (hS.agree hi r hM).trans hb, hS.fr hi r hM, hk, fun q en p g1 g2 g3 => ?_⟩, h1⟩
  exact ((hr q en p g1 g2 g3).agree (hS.agree h0) fun k hk => hS.agree hi k hk.1).mono (hS.fr h0) (fun k hk => ⟨hS.fr hi k hk.1, hk.2⟩) fun k hf hm => frNe0 h1 k hf hm.1
theorem MapR.at (h : Ob i w O (.map (some r)) x) : Fr i w O r := by
  obtain ⟨⟨r', L, es, ck, hv, hb, hM, _⟩, _⟩ := h
  injection hv with hv
  injection hv with hv
  subst hv
  exact hM
theorem MapR.get (h : Ob i w O (.map (some r)) x) (a : K) : ∃ A c, LkV (MKey.desc K) (.slice none 0 0) w r (MKey.enc a) (.slice A (mget ([] : List V) x.l a).length c) (mhas x.l a) ∧ Vb w (FrS [i] w O) (.slice A (mget ([] : List V) x.l a).length c) (mget ([] : List V) x.l a) := by
  obtain ⟨⟨r', L, es, ck, hv, hb, hM, hL, hk, hra⟩, hi⟩ := h
  injection hv with hv
  injection hv with hv
  subst hv
  rcases find_spec a es x.l 0 hk with ⟨g0, g1, g2, g3, g4⟩ | ⟨q, e', p, g0, g1, g2, g3, g4, g5, g6, g7⟩
  · rw [g3, g2]
    exact ⟨none, 0, ⟨_, ck, none, hb, by simpa using g1, rfl, rfl⟩, Vb.nil _ _⟩
  · rw [g6, g5]
    have h1 := hra q e' p g1 g2 (by simp)
    have h2 : Rw i w O e e'.val p.2 := h1.rw (fun _ h => h) (fun _ h => h.1) hi
    obtain ⟨A, c, hA⟩ := h2.form
    refine ⟨A, c, ⟨_, ck, some (0 + q, e'.val), hb, by simpa using g3, hA.symm, rfl⟩, ?_⟩
    rw [← hA]
    exact h2.lend [i] (by simp)
theorem MapR.take (h : Ob i w O (.map (some r)) x) {v : Value} {b : Bool} (hl : LkV (MKey.desc K) (.slice none 0 0) w r (MKey.enc a) v b) (j : Nat) (hj : j ≠ 0) (hij : j ≠ i) : ∃ O', St (eT i) w O w O' ∧ MapH i w O' r e x a ∧ Rw j w O' e v (mget ([] : List V) x.l a) := by
  obtain ⟨⟨r', L, es, ck, hv, hb, hM, hL, hk, hra⟩, hi⟩ := h
  injection hv with hv
  injection hv with hv
  subst hv
  obtain ⟨es', ck', q, h1, h2, h3, h4⟩ := hl
  rw [hb] at h1
  injection h1 with h1
  injection h1 with h1 h1'
  subst h1
  rw [List.toList_toArray] at h2
  rcases find_spec a es x.l 0 hk with ⟨g0, g1, g2, g3, g4⟩ | ⟨n, e', p, g0, g1, g2, g3, g4, g5, g6, g7⟩
  · rw [g1] at h2
    have := sm h2
    subst this
    rw [g3, h3]
    exact ⟨O, St.refl _ _ _, ⟨⟨L, es, ck, hb, hM, hk, fun q en p a1 a2 _ => hra q en p a1 a2 (by simp)⟩, hi⟩, Rw.nil j hj⟩
  · rw [g3] at h2
    have := sm h2
    subst this
    rw [g6, h3]
    have hrow := hra n e' p g1 g2 (by simp)
    refine ⟨fun k => if O k = i ∧ L k = n + 1 then j else O k, ⟨rfl, rfl, rfl, Nat.le_refl _, fun k _ hk => ⟨rfl, if_neg fun h => hk h.1⟩⟩, ⟨⟨L, es, ck, hb, ⟨hM.1, ?_⟩, hk, fun q en p' a1 a2 a3 => ?_⟩, hi⟩, hrow.rw (fun k hk => ⟨hk.1, ?_⟩) (fun k hk => ⟨hk.1.1, if_pos ⟨hk.1.2, hk.2⟩⟩) hj⟩
    · show (if _ then _ else _) = _
      rw [if_neg (by rw [hL]; omega)]; exact hM.2
    · rw [g0] at a3
      have hne : n ≠ q := fun e => a3 (by rw [e])
      refine (hra q en p' a1 a2 (by simp)).mono (fun k hk => ⟨hk.1, ?_⟩) (fun k hk => ⟨⟨hk.1.1, ?_⟩, hk.2⟩) (fun k hf hm => frNe0 hi k hf hm.1)
      · show (if _ then _ else _) = _
        rw [if_neg (by rw [hk.2]; exact fun h => hi h.1.symm)]; exact hk.2
      · show (if _ then _ else _) = _
        rw [if_neg (by rw [hk.2]; omega)]; exact hk.1.2
    · show (if _ then _ else _) = _
      rw [if_neg (by rw [hk.2]; exact fun h => hi h.1.symm)]; exact hk.2
end
section
variable {P : Program} {n : Nat} {ops : Array Oper} {Q : Post} {rest : List Oper} {l : Env} {w : World} {d : Tmp} {ty : TypeId} {pos : String} {aft : Array Edge} {K V : Type} [MKey K] [Rp V] {i j : Nat} {O : Lab} {r : Nat}
theorem l_mputR {e' : TypeId} {x : MapR e' K V} {t k e : TypeId} [TMap P t k e] [TKey P k K] {m y u : Operand} {a : K} {v : Value} {ys : List V} (hM : MapH i w O r e' x a) (hv : Rw j w O e' v ys) (hij : j ≠ i) (hx : opv l m = some (.map (some r))) (hy : opv l y = some (MKey.enc a)) (hu : opv l u = some v)
    (h : ∀ w' O', St (fun q => q = i ∨ q = j) w O w' O' → Ob i w' O' (.map (some r)) (⟨mput x.l a ys⟩ : MapR e' K V) → owp P n ops Q rest l w') : owp P n ops Q (⟨none, .mapUpdate t m y u, ty, pos, aft, none⟩ :: rest) l w := by
  obtain ⟨⟨L, es, ck, hb, hM', hk, hra⟩, hi⟩ := hM
  refine owp_mput hb hk hx hy hu fun w' ck' e1 e2 e3 e4 e5 e6 => ?_
  have hlen : es.length = x.l.length := by have := congrArg List.length hk; simpa using this
  have hj0 : j ≠ 0 := hv.2.2
  have hrj : O r ≠ j := by rw [hM'.2]; exact Ne.symm hij
  let n0 : Nat := match midx x.l a with | some q => q | none => es.length
  have hS : St (fun q => q = i ∨ q = j) w O w' (fun k => if O k = j then i else O k) := ⟨e1, e2, e3, by omega, fun q hq hT => ⟨e6 q fun e => hT (by rw [e]; exact .inl hM'.2), if_neg fun e => hT (.inr e)⟩⟩
  have hF : ∀ k, Fr 0 w O k → Fr 0 w' (fun k => if O k = j then i else O k) k := fun k hk => ⟨by rw [e4]; exact hk.1, by show (if _ then _ else _) = _; rw [if_neg (by rw [hk.2]; exact Ne.symm hj0)]; exact hk.2⟩
  have hA0 : Agree (Fr 0 w O) w w' := fun k hk => e6 k fun e => by rw [e] at hk; exact hi (hM'.2.symm.trans hk.2)
  have hdis : ∀ m : Nat, ∀ k, Fr 0 w' (fun k => if O k = j then i else O k) k → ¬ (Fr i w' (fun k => if O k = j then i else O k) k ∧ (if O k = j then n0 + 1 else if k = r then 0 else L k) = m) := fun m k hf hm => frNe0 hi k hf hm.1
  have hnew : RwM w' (Fr 0 w' (fun k => if O k = j then i else O k)) (fun k => Fr i w' (fun k => if O k = j then i else O k) k ∧ (if O k = j then n0 + 1 else if k = r then 0 else L k) = n0 + 1) e' v ys := by
    have h1 : RwM w (Fr 0 w O) (Fr j w O) e' v ys := hv.m (fun _ h => h) (fun _ h => h) (frNe0 hj0)
    have h2 := h1.agree hA0 (fun k hk => e6 k fun e => by rw [e] at hk; exact hrj hk.2)
    exact h2.mono hF (fun k hk => ⟨⟨by rw [e4]; exact hk.1, if_pos hk.2⟩, if_pos hk.2⟩) (hdis _)
  have hkeep : ∀ q en (p : K × List V), es[q]? = some en → x.l[q]? = some p → midx x.l a ≠ some q → RwM w' (Fr 0 w' (fun k => if O k = j then i else O k)) (fun k => Fr i w' (fun k => if O k = j then i else O k) k ∧ (if O k = j then n0 + 1 else if k = r then 0 else L k) = q + 1) e' en.val p.2 := fun q en p g1 g2 g3 => by
    have h1 := hra q en p g1 g2 g3
    have hnr : ∀ g, en.val.ownBlock = some g → g ≠ r := fun g hg e => by
      subst e
      have h2 := h1.1
      obtain ⟨cells, o1, o2, o3⟩ := h2
      rcases o1.2 with ⟨hv0, _⟩ | ⟨g', cap, cur, hv0, _, hh, _⟩
      · rw [hv0] at hg; simp [Value.ownBlock] at hg
      · rw [hv0] at hg
        have : g' = g := by simpa [Value.ownBlock] using hg
        subst this
        rw [hb] at hh; cases hh
    have h2 : RwM w (Fr 0 w O) (fun k => (Fr i w O k ∧ L k = q + 1) ∧ k ≠ r) e' en.val p.2 := ⟨h1.1, fun g hg => ⟨h1.2 g hg, hnr g hg⟩⟩
    have h3 := h2.agree hA0 (fun k hk => e6 k hk.2)
    refine h3.mono hF (fun k hk => ?_) (hdis _)
    have hkj : O k ≠ j := by rw [hk.1.1.2]; exact Ne.symm hij
    exact ⟨⟨by rw [e4]; exact hk.1.1.1, by show (if _ then _ else _) = _; rw [if_neg hkj]; exact hk.1.1.2⟩, by rw [if_neg hkj, if_neg hk.2]; exact hk.1.2⟩
  refine h w' _ hS ⟨⟨r, fun k => if O k = j then n0 + 1 else if k = r then 0 else L k, _, ck', rfl, e5, ⟨by rw [e4]; exact hM'.1, by show (if _ then _ else _) = _; rw [if_neg hrj]; exact hM'.2⟩, by show (if _ then _ else _) = _; rw [if_neg hrj, if_pos rfl], putEs_keys ck a v ys hk, ?_⟩, hi⟩
  intro q en p h1 h2 _
  rcases find_spec a es x.l 0 hk with ⟨g0, _, _, _, g4⟩ | ⟨m, e'', p', g0, g1, g2, g3, g4, _, _, g7⟩
  · have hn0 : n0 = es.length := by show (match midx x.l a with | some q => q | none => es.length) = _; rw [g0]
    rw [g0] at h1
    rw [g4] at h2
    simp only [putEs] at h1
    by_cases hq : q < es.length
    · rw [List.getElem?_append_left hq] at h1
      rw [List.getElem?_append_left (by omega)] at h2
      exact hkeep q en p h1 h2 (by rw [g0]; simp)
    · rw [List.getElem?_append_right (by omega)] at h1
      rw [List.getElem?_append_right (by omega)] at h2
      cases hz : q - es.length with
      | zero =>
        rw [hz] at h1
        rw [show q - x.l.length = 0 from by omega] at h2
        simp at h1 h2
        subst h1; subst h2
        have hqe : q = n0 := by rw [hn0]; omega
        rw [hqe]
        exact hnew
      | succ m => rw [hz] at h1; simp at h1
  · have hn0 : n0 = m := by show (match midx x.l a with | some q => q | none => es.length) = _; rw [g0]
    rw [g0] at h1
    rw [g7] at h2
    simp only [putEs] at h1
    rw [List.getElem?_modify] at h1
    rw [List.getElem?_set] at h2
    by_cases hq : m = q
    · subst hq
      have hlt := lt_of_get g2
      rw [g1] at h1
      simp [hlt] at h1 h2
      subst h1; subst h2
      rw [← hn0]
      exact hnew
    · simp [hq] at h1 h2
      exact hkeep q en p h1 h2 (by rw [g0]; simpa using hq)
theorem l_mkmapR {t : TypeId} (e : TypeId) (i : Nat) (hi : i ≠ 0) (O : Lab) (hd : Nat.blt d n = true) (h : ∀ g w' O', St nT w O w' O' → Ob i w' O' (.map (some g)) (⟨[]⟩ : MapR e K V) → owp P n ops Q rest ((d, .map (some g)) :: l) w') : owp P n ops Q (⟨some d, .makeMap t none, ty, pos, aft, none⟩ :: rest) l w :=
  owp_mkmap hd fun w' hE hs hb => h _ w' _ (hE.st O fun _ => i) ⟨⟨w.heap.size, fun _ => 0, [], 0, rfl, hb, ⟨by omega, upO_new (Nat.le_refl _)⟩, rfl, rfl, fun j e p h1 _ => by simp at h1⟩, hi⟩
end
section
variable {P : Program} {n : Nat} {ops : Array Oper} {Q : Post} {rest : List Oper} {l : Env} {w : World} {d : Tmp} {ty : TypeId} {pos : String} {aft : Array Edge} {S : World → Prop} {rr : List (Nat × Bool)} {i' : Nat}
theorem o_lk {K : Type} [MKey K] {t k e : TypeId} [TMap P t k e] [TKey P k K] {z : Value} {size bytes : Nat} [TInfo P e z size bytes] {x y : Operand} {r : Nat} {v : Value} {b : Bool} (a : K) (hv : LkV (MKey.desc K) z w r (MKey.enc a) v b) (hx : opv l x = some (.map (some r))) (hy : opv l y = some (MKey.enc a)) (hd : Nat.blt d n = true) (h : owp P n ops Q rest ((d, v) :: l) w) : owp P n ops Q (⟨some d, .lookup t x y false, ty, pos, aft, none⟩ :: rest) l w := owp_ev (ev_lk hx hy hv) hd h
theorem h_lk {K : Type} [MKey K] {t k e : TypeId} [TMap P t k e] [TKey P k K] {z : Value} {size bytes : Nat} [TInfo P e z size bytes] {x y : Operand} {r : Nat} {v : Value} {b : Bool} (a : K) (hv : ∀ w', S w' → LkV (MKey.desc K) z w' r (MKey.enc a) v b) (hi : ops[i']? = some ⟨some d, .lookup t x y false, ty, pos, aft, none⟩) (hx : opv l x = some (.map (some r))) (hy : opv l y = some (MKey.enc a)) (hd : Nat.blt d n = true) (h : hwp P n ops Q S rr ((d, v) :: l) w) : hwp P n ops Q S ((i', true) :: rr) l w := hwp_o hi (hwq_ev (fun w' hS => ev_lk hx hy (hv w' hS)) hd h)
end
end
section
open Go Go.RowKit
attribute [local irreducible] ewp owp hwp hwq hws Ev Evg Fn retPost loud loudS Res1
attribute [local irreducible] hwx loudX
instance : TMap Try.prog 116 3 22 := ⟨Try.underlying116⟩
instance : TKey Try.prog 3 Int := ⟨Try.underlying3⟩
structure RLk where
  parent : Int
  op : Int
  cost : Int
structure REn where
  words : List U64
  link : RLk
instance : Rp REn where
  isAgg := true
  size := 4
  R w F cs x := ∃ v0, cs = [v0, .int .i64 x.link.parent, .int .i64 x.link.op, .int .i64 x.link.cost] ∧ Vb w F v0 x.words ∧ inI64 x.link.parent ∧ inI64 x.link.op ∧ inI64 x.link.cost
  len := by rintro w F cs x ⟨v0, rfl, h0, h1, h2, h3⟩; rfl
  one := by rintro w F cs x ⟨v0, rfl, h0, h1, h2, h3⟩ u hu; simp at hu; rcases hu with rfl | rfl | rfl | rfl <;> first | rfl | exact Vb.one rfl (by assumption)
  agree := by rintro w w' F cs x ⟨v0, rfl, h0, h1, h2, h3⟩ ha; exact ⟨v0, rfl, h0.agree ha, h1, h2, h3⟩
  mono := by rintro w F G cs x ⟨v0, rfl, h0, h1, h2, h3⟩ ha; exact ⟨v0, rfl, h0.mono ha, h1, h2, h3⟩
structure Reg where
  packer : Pkr
  entries : List REn
  table : MapR 3 Int Int
instance : Ow Reg where
  R w F M v x := ∃ (g : Nat) (L : Lab) (c0 c1 c2 : Value), v = .pointer (some ⟨g, 0, none⟩) ∧ Blk w g 118 [c0, c1, c2] ∧ M g ∧ L g = 0 ∧ Ow.R w F (fun k => M k ∧ L k = 1) c0 x.packer ∧ RwM w F (fun k => M k ∧ L k = 2) 125 c1 x.entries ∧ Ow.R w F (fun k => M k ∧ L k = 3) c2 x.table
  agree := by rintro w w' F M v x ⟨g, L, c0, c1, c2, rfl, hb, hM, hL, h0, h1, h2⟩ a1 a2; exact ⟨g, L, c0, c1, c2, rfl, hb.keep (a2 g hM), hM, hL, Ow.agree h0 a1 fun k hk => a2 k hk.1, h1.agree a1 fun k hk => a2 k hk.1, Ow.agree h2 a1 fun k hk => a2 k hk.1⟩
  mono := by rintro w F M F' M' v x ⟨g, L, c0, c1, c2, rfl, hb, hM, hL, h0, h1, h2⟩ a1 a2 a3; exact ⟨g, L, c0, c1, c2, rfl, hb, a2 g hM, hL, Ow.mono h0 a1 (fun k hk => ⟨a2 k hk.1, hk.2⟩) fun k hf hm => a3 k hf hm.1, h1.mono a1 (fun k hk => ⟨a2 k hk.1, hk.2⟩) fun k hf hm => a3 k hf hm.1, Ow.mono h2 a1 (fun k hk => ⟨a2 k hk.1, hk.2⟩) fun k hf hm => a3 k hf hm.1⟩
instance : OwP Reg := ⟨by rintro w F M v x ⟨g, L, c0, c1, c2, rfl, _⟩; exact ⟨g, rfl⟩⟩
theorem Reg.opn {i : Nat} {w : World} {O : Lab} {p : Nat} {x : Reg} (h : Ob i w O (.pointer (some ⟨p, 0, none⟩)) x) (l0 l1 l2 l3 : Nat) (hl : l0 ≠ 0 ∧ l1 ≠ 0 ∧ l2 ≠ 0 ∧ l3 ≠ 0) : ∃ (O' : Lab) (c0 c1 c2 : Value), St (eT i) w O w O' ∧ (∀ k, Fr i w O k → ∃ q, q ∈ [l0, l1, l2, l3] ∧ Fr q w O' k) ∧ Lc l0 w O' p 118 [c0, c1, c2] ∧ Ob l1 w O' c0 x.packer ∧ Rw l2 w O' 125 c1 x.entries ∧ Ob l3 w O' c2 x.table := by
  obtain ⟨⟨g, L, c0, c1, c2, hv, hb, hM, hL, h0, h1, h2⟩, hi⟩ := h
  obtain rfl : p = g := by injection hv with hv; injection hv with hv; injection hv
  exact ⟨part O i L [l0, l1, l2, l3], c0, c1, c2, part_st hi, part_all (by simp), ⟨hb, (part_fr (j := 0) rfl p ⟨hM, hL⟩).2⟩, ⟨Ow.mono h0 (part_fr0 hi) (part_fr (j := 1) rfl) (frNe0 hl.2.1), hl.2.1⟩, h1.rw (part_fr0 hi) (part_fr (j := 2) rfl) hl.2.2.1, ⟨Ow.mono h2 (part_fr0 hi) (part_fr (j := 3) rfl) (frNe0 hl.2.2.2), hl.2.2.2⟩⟩
theorem Reg.shut {w : World} {O : Lab} {p : Nat} {x : Reg} {l0 l1 l2 l3 : Nat} {c0 c1 c2 : Value} (hd : ¬ 0 ∈ [l0, l1, l2, l3] ∧ [l0, l1, l2, l3].idxOf l0 = 0 ∧ [l0, l1, l2, l3].idxOf l1 = 1 ∧ [l0, l1, l2, l3].idxOf l2 = 2 ∧ [l0, l1, l2, l3].idxOf l3 = 3) (hb : Lc l0 w O p 118 [c0, c1, c2]) (h0 : Ob l1 w O c0 x.packer) (h1 : Rw l2 w O 125 c1 x.entries) (h2 : Ob l3 w O c2 x.table) : ∃ O', St (· ∈ [l0, l1, l2, l3]) w O w O' ∧ (∀ k, Fr 0 w O k → Fr 0 w O' k) ∧ (∀ q, q ∈ [l0, l1, l2, l3] → ∀ k, Fr q w O k → Fr l0 w O' k) ∧ Ob l0 w O' (.pointer (some ⟨p, 0, none⟩)) x := by
  have hb1 : l0 ≠ 0 := fun e => hd.1 (by simp [e])
  have hg := whole_fr (i := l0) hd.2.1 (by simp) p ⟨hb.1.lt, hb.2⟩
  exact ⟨whole O l0 [l0, l1, l2, l3], whole_st, whole_fr0 hd.1, whole_all, ⟨p, fun k => [l0, l1, l2, l3].idxOf (O k), c0, c1, c2, rfl, hb.1, hg.1, hg.2, Ow.mono h0.1 (whole_fr0 hd.1) (whole_fr hd.2.2.1 (by simp)) (fun k a b => frNe0 hb1 k a b.1), h1.m (whole_fr0 hd.1) (whole_fr hd.2.2.2.1 (by simp)) (fun k a b => frNe0 hb1 k a b.1), Ow.mono h2.1 (whole_fr0 hd.1) (whole_fr hd.2.2.2.2 (by simp)) (fun k a b => frNe0 hb1 k a b.1)⟩, hb1⟩
noncomputable def m_registry_New (x0 : List Int) : Option ((Option Reg) × Err) :=
  bnd (m_pack_New x0) fun q4 => if q4.2.n ≠ 0 then (some (none, (⟨q4.2.n⟩ : Err))) else (bnd q4.1 fun o22 => some ((some (⟨o22, ([] : List REn), (⟨[]⟩ : MapR 3 Int Int)⟩ : Reg)), (⟨0⟩ : Err)))
theorem c_registry_New {w : World} {O : Lab} {vx0 : Value} {x0 : List Int} (hx0 : Vb w (Fr 0 w O) vx0 x0) (j0 : Nat) (hj0 : j0 ≠ 0) {r : (Option Reg) × Err} (hm : m_registry_New x0 = some r) :
    Fn Try.prog 60 [vx0] w fun v w' => ∃ O', St nT w O w' O' ∧ ∃ v0 v1 : Value, v = .tuple #[v0, v1] ∧ Obo j0 w' O' v0 r.1 ∧ Vb w' (Fr 0 w' O') v1 r.2 := by
 obtain ⟨O0, hE, hz0⟩ := ent0 (w := w) (O := O)
 have hB : Bm w O0 w O0 := Bm.refl
 replace hx0 := hx0.mono hz0
 obtain ⟨A2, c3, rfl⟩ := hx0.form
 refine fn_enter Try.func60 rfl Try.ntmps60 rfl ?_
 unfold m_registry_New at hm
 refine ewp_seq (ewp_region (o_as rfl rfl (o_as rfl rfl (o_z ?_))))
 refine ewp_seq (ewp_region (o_mv rfl rfl ?_))
 obtain ⟨q4, e5, hm⟩ := bs hm
 refine l_callM (O := O0) (c_pack_New hx0 2 (by decide) e5) rfl rfl fun v10 w6 O7 S8 h9 => ?_
 obtain ⟨v11, v12, rfl, h13, h14⟩ := h9
 obtain ⟨rfl, r15⟩ := h14.err
 refine o_mv rfl rfl (o_ex rfl rfl rfl (o_ex rfl rfl rfl (o_as rfl rfl (o_as rfl rfl (o_z ?_)))))
 refine ewp_seq (ewp_seq (ewp_region (o_mv rfl rfl (o_rnS rfl rfl (fun c16 => ?_) fun c16 => ?_))))
 ·
  replace hm := ip hm c16
  refine o_z ?_
  refine ewp_true rfl (ewp_seq (ewp_region (o_mv rfl rfl (o_as rfl rfl (o_as rfl rfl (o_z ?_))))))
  refine ewp_ret ?_
  obtain rfl := sm hm
  replace hB := hB.st S8
  obtain ⟨O', hS', hz, hl⟩ := hE.leave (fun _ => 0) rfl hB
  exact ret2 rfl (res_tmp rfl) (res_tmp rfl) ⟨O', hS', _, _, rfl, rfl, (vErr r15)⟩
 ·
  replace hm := im hm c16
  refine o_z ?_
  refine ewp_false rfl (ewp_skip (ewp_seq (ewp_region (o_mv rfl rfl (l_mkmapR (K := Int) (V := Int) 3 3 (by decide) O7 rfl fun p17 w18 O19 S20 h21 => ?_)))))
  obtain ⟨o22, e23, hm⟩ := bs hm
  replace h13 := h13.st S20
  rw [e23] at h13
  obtain ⟨p24, rfl⟩ := Ob.ptr h13
  refine o_bd rfl rfl rfl ?_
  refine l_box 4 O19 rfl rfl fun g25 w26 O27 S28 h29 => ?_
  replace h29 : Lc 4 w26 O27 g25 118 [(.pointer (some ⟨p24, 0, none⟩)), (.slice none 0 0), (.map (some p17))] := h29
  refine o_as rfl rfl (o_as rfl rfl (o_z ?_))
  refine ewp_ret ?_
  have h30 : Rw 5 w26 O27 125 (.slice none 0 0) ([] : List REn) := Rw.nil 5 (by decide)
  replace h13 := h13.st S28
  replace h21 := h21.st S28
  obtain ⟨O32, S33, hz35, ha36, h34⟩ := Reg.shut (x := (⟨o22, ([] : List REn), (⟨[]⟩ : MapR 3 Int Int)⟩ : Reg)) (l0 := 4) (l1 := 2) (l2 := 5) (l3 := 3) (by decide) h29 h13 h30 h21
  obtain rfl := sm hm
  replace hB := (((hB.st S8).st S20).st S28).st S33
  obtain ⟨O', hS', hz, hl⟩ := hE.leave (fun q => if q = 4 then j0 else 0) rfl hB
  exact ret2 rfl (res_tmp rfl) (res_tmp rfl) ⟨O', hS', _, _, rfl, (Ob.leave h34 hz (hl 4 (by decide) (by decide)) hj0), (vErr (show inI64 0 from by decide))⟩
noncomputable def m_registry_Registry_find (x0 : Reg) (x1 : List Int) : Option ((List U64) × Int × Int × Err) :=
  bnd (m_pack_Packer_Pack x0.packer x1) fun q20 => if q20.2.n ≠ 0 then (some (([] : List U64), 0, (-1), (⟨2⟩ : Err))) else (bnd (m_pack_Packer_Hash x0.packer q20.1) fun q41 => bnd (rng (ρ := (List U64) × Int × Int × Err) (fun (k66 : Nat) (a67 : Int) (s64 : Unit) => bnd (atI x0.entries a67) fun a100 => bnd (m_slices_Equal_Luint64_uint64 a100.words q20.1) fun q118 => if q118 = true then some (.ret (q20.1, q41, a67, (⟨0⟩ : Err))) else some (.next ())) (mget ([] : List Int) x0.table.l q41) 0 ()) fun res62 => fin res62 fun (s139 : Unit) => some (q20.1, q41, (-1), (⟨0⟩ : Err)))
theorem c_registry_Registry_find {w : World} {O : Lab} {p0 i0 : Nat} {x0 : Reg} (hx0 : Ob i0 w O (.pointer (some ⟨p0, 0, none⟩)) x0) {vx1 : Value} {x1 : List Int} (hx1 : Vb w (Fr 0 w O) vx1 x1) {r : (List U64) × Int × Int × Err} (hm : m_registry_Registry_find x0 x1 = some r) :
    Fn Try.prog 66 [(.pointer (some ⟨p0, 0, none⟩)), vx1] w fun v w' => ∃ O', St (eT i0) w O w' O' ∧ ∃ v0 v1 v2 v3 : Value, Ob i0 w' O' (.pointer (some ⟨p0, 0, none⟩)) x0 ∧ v = .tuple #[v0, v1, v2, v3] ∧ Vb w' (Fr 0 w' O') v0 r.1 ∧ Vb w' (Fr 0 w' O') v1 r.2.1 ∧ Vb w' (Fr 0 w' O') v2 r.2.2.1 ∧ Vb w' (Fr 0 w' O') v3 r.2.2.2 := by
 obtain ⟨O0, hE, hz0, hl2⟩ := ent1 (w := w) (O := O) hx0.2
 have hx0' := Ob.leave hx0 hz0 hl2 (j := 2) (by decide)
 have hB : Bm w O0 w O0 := Bm.refl
 replace hx1 := hx1.mono hz0
 obtain ⟨A3, c4, rfl⟩ := hx1.form
 refine fn_enter Try.func66 rfl Try.ntmps66 rfl ?_
 unfold m_registry_Registry_find at hm
 refine ewp_seq (ewp_region (o_as rfl rfl (o_as rfl rfl (o_as rfl rfl (o_as rfl rfl (o_z ?_))))))
 refine ewp_seq (ewp_region (o_mv rfl rfl (o_nc rfl rfl ?_)))
 obtain ⟨O5, v9, v12, v17, S6, ha8, h7, h10, h13, h18⟩ := Reg.opn hx0' 2 3 4 5 (by decide)
 obtain ⟨p11, rfl⟩ := h10.ptr
 obtain ⟨A14, c15, rfl⟩ := h13.form
 obtain ⟨p19, rfl⟩ := h18.mptr
 refine o_fa rfl rfl (o_ld (hc := Blk.cell (i := 0) (h7.1) rfl) rfl rfl ?_)
 refine o_mv rfl rfl ?_
 obtain ⟨q20, e21, hm⟩ := bs hm
 replace hx1 := hx1.st S6
 refine l_callM (O := O5) (c_pack_Packer_Pack h10 hx1 e21) rfl rfl fun v26 w22 O23 S24 h25 => ?_
 obtain ⟨v28, v29, h27, rfl, h30, h31⟩ := h25
 obtain ⟨A32, c33, rfl⟩ := h30.form
 obtain ⟨rfl, r34⟩ := h31.err
 refine o_mv rfl rfl (o_ex rfl rfl rfl (o_ex rfl rfl rfl (o_as rfl rfl (o_as rfl rfl (o_z ?_)))))
 refine ewp_seq (ewp_seq (ewp_region (o_mv rfl rfl (o_rnS rfl rfl (fun c35 => ?_) fun c35 => ?_))))
 ·
  replace hm := ip hm c35
  refine o_z ?_
  refine ewp_true rfl (ewp_seq (ewp_region (o_miE rfl rfl ?_)))
  refine o_as rfl rfl (o_as rfl rfl (o_as rfl rfl (o_as rfl rfl (o_z ?_))))
  refine ewp_ret ?_
  replace h7 := h7.st S24
  replace h13 := h13.st S24
  replace h18 := h18.st S24
  obtain ⟨O36, S37, hz39, ha40, h38⟩ := Reg.shut (x := x0) (l0 := 2) (l1 := 3) (l2 := 4) (l3 := 5) (by decide) h7 h27 h13 h18
  obtain rfl := sm hm
  replace hB := ((hB.st S6).st S24).st S37
  obtain ⟨O', hS', hz, hl⟩ := hE.leave (fun q => if q = 2 then i0 else 0) rfl hB
  exact ret4 rfl (res_tmp rfl) (res_tmp rfl) (res_tmp rfl) (res_tmp rfl) ⟨O', hS', _, _, _, _, (Ob.leave h38 hz (hl 2 (by decide) (by decide)) hx0.2), rfl, (Vb.mono (Vb.nil _ _) hz), (vInt (show inI64 (0) from by decide)), (vInt (show inI64 (-1) from by decide)), (vErr (by decide))⟩
 ·
  replace hm := im hm c35
  refine o_z ?_
  refine ewp_false rfl (ewp_skip (ewp_seq (ewp_region (o_mv rfl rfl (o_nc rfl rfl (o_fa rfl rfl ?_))))))
  replace h7 := h7.st S24
  refine o_ld (hc := Blk.cell (i := 0) (h7.1) rfl) rfl rfl ?_
  refine o_mv rfl rfl ?_
  obtain ⟨q41, e42, hm⟩ := bs hm
  refine l_callM (O := O23) (c_pack_Packer_Hash h27 h30 e42) rfl rfl fun v47 w43 O44 S45 h46 => ?_
  obtain ⟨h48, h49⟩ := h46
  obtain ⟨rfl, r50⟩ := h49.int
  refine o_as rfl rfl (o_z ?_)
  refine ewp_seq (ewp_seq (ewp_region (o_mv rfl rfl (o_nc rfl rfl (o_fa rfl rfl ?_)))))
  replace h7 := h7.st S45
  refine o_ld (hc := Blk.cell (i := 2) (h7.1) rfl) rfl rfl ?_
  refine o_mv rfl rfl ?_
  replace h18 := (h18.st S24).st S45
  obtain ⟨A53, c54, hl51, h52⟩ := MapR.get h18 q41
  refine o_lk q41 hl51 rfl rfl rfl ?_
  refine o_ln rfl rfl ?_
  have l56 : (mget ([] : List Int) x0.table.l q41).length ≤ 9223372036854775807 := Nat.le_trans h52.len.2.1 h52.len.2.2
  have r55 : inI64 ((mget ([] : List Int) x0.table.l q41).length : Int) := rngNat l56
  refine o_mv rfl rfl (o_z ?_)
  replace h13 := (h13.st S24).st S45
  obtain ⟨O57, S58, hz60, ha61, h59⟩ := Reg.shut (x := x0) (l0 := 2) (l1 := 3) (l2 := 4) (l3 := 5) (by decide) h7 h48 h13 h18
  replace h52 := h52.shutS S58 hz60 ha61 [2] (by decide)
  obtain ⟨res62, hL63, hm⟩ := bs hm
  refine ewp_join (aft res62 (fun (s64 : Unit) (x65 : Unit) => [(8, (.slice A32 q20.1.length c33)), (10, (.int .i64 q41))]) (fun s64 x65 w' => ∃ O' : Lab, Bm w O0 w' O' ∧ Vb w' (Fr 0 w' O') (.slice A32 q20.1.length c33) q20.1 ∧ Ob 2 w' O' (.pointer (some ⟨p0, 0, none⟩)) x0)) ?_ ?_
  ·
   refine ewp_block ?_
   replace hB := (((hB.st S6).st S24).st S45).st S58
   replace h30 := (h30.st S45).st S58
   refine ewp_rng (σ := Unit) (X := Unit) ((mget ([] : List Int) x0.table.l q41).length) hL63 rfl l56 (fun (s64 : Unit) (x65 : Unit) => [(0, (.pointer (some ⟨p0, 0, none⟩))), (8, (.slice A32 q20.1.length c33)), (10, (.int .i64 q41)), (36, (.slice A53 (mget ([] : List Int) x0.table.l q41).length c54))]) _ (fun s64 x65 w' => ∃ O' : Lab, Bm w O0 w' O' ∧ Ob 2 w' O' (.pointer (some ⟨p0, 0, none⟩)) x0 ∧ Vb w' (Fr 0 w' O') (.slice A32 q20.1.length c33) q20.1 ∧ Vb w' (FrS [2] w' O') (.slice A53 (mget ([] : List Int) x0.table.l q41).length c54) (mget ([] : List Int) x0.table.l q41)) _ () ⟨O57, hB, h59, h30, h52⟩ ⟨rfl, rfl, rfl, rfl, rfl, rfl, trivial⟩ (fun _ _ => ⟨rfl, rfl⟩) (fun _ _ => ⟨rfl, rfl, trivial⟩) (fun _ _ _ ⟨O', hB, h59, h30, h52⟩ => ⟨O', hB, h30, h59⟩) ⟨rfl, rfl, rfl⟩ ⟨rfl, rfl⟩ ?_
   rintro k66 a67 s64 x65 w68 cc70 hx71 ⟨O69, hB, h59, h30, h52⟩ hf72 hret73 hbrk74
   have rk66 : inI64 (k66 : Int) := rngK hx71 l56
   refine ewp_seq (ewp_region ?_)
   obtain ⟨b77, o78, ce79, hA80, hl81, hd82, rfl, r84⟩ := h52.elem' hx71
   refine o_iaE (hA := hA80) (hj := rfl) (hlt := hl81) rfl rfl rfl ?_
   refine o_ld (hc := cat0 hd82) rfl rfl ?_
   refine o_as rfl rfl (o_z ?_)
   refine ewp_seq (ewp_region (o_mv rfl rfl (o_nc rfl rfl ?_)))
   obtain ⟨O85, v89, v92, v97, S86, ha88, h87, h90, h93, h98⟩ := Reg.opn h59 2 3 4 5 (by decide)
   obtain ⟨p91, rfl⟩ := h90.ptr
   obtain ⟨A94, c95, rfl⟩ := h93.form
   obtain ⟨p99, rfl⟩ := h98.mptr
   replace h52 := h52.opnS S86 (by decide) ha88 [2, 3, 4, 5] (by decide)
   refine o_fa rfl rfl (o_ld (hc := Blk.cell (i := 1) (h87.1) rfl) rfl rfl ?_)
   refine o_mv rfl rfl ?_
   obtain ⟨a100, e101, hf72⟩ := bs hf72
   obtain ⟨p103, x102⟩ := atI_some' e101
   obtain ⟨b104, o105, ce106, hA107, hl108, hd109, v111, rfl, h112, r115, r116, r117⟩ := h93.elem x102
   obtain ⟨A113, c114, rfl⟩ := h112.form
   refine o_iaE (hA := hA107) (hj := (Int.toNat_of_nonneg p103).symm) (hlt := hl108) rfl rfl rfl ?_
   refine o_fa rfl rfl (o_ld (hc := cat0 hd109) rfl rfl ?_)
   refine o_mv rfl rfl ?_
   obtain ⟨q118, e119, hf72⟩ := bs hf72
   replace h30 := h30.st S86
   refine l_callA (O := O85) (A := All w68) (R := fun w' F v => Vb w' F v q118) (c_slices_Equal_Luint64_uint64 (fun _ h => h) (Vb.mono (F := Fr 0 w68 O85) h112 Fr.lt) (Vb.mono (F := Fr 0 w68 O85) h30 Fr.lt) e119) rfl rfl fun v124 w120 O121 S122 h123 => ?_
   obtain rfl := h123.bool
   replace h52 := h52.stS S122 id (fun _ _ => id)
   cases q118
   case false =>
    replace hf72 := iF hf72
    refine o_z ?_
    refine ewp_false rfl (ewp_skip ?_)
    replace h87 := h87.st S122
    replace h90 := h90.st S122
    replace h93 := h93.st S122
    replace h98 := h98.st S122
    obtain ⟨O125, S126, hz128, ha129, h127⟩ := Reg.shut (x := x0) (l0 := 2) (l1 := 3) (l2 := 4) (l3 := 5) (by decide) h87 h90 h93 h98
    replace h52 := h52.shutS S126 hz128 ha129 [2] (by decide)
    obtain rfl := sm hf72
    refine (?_ : Exists _)
    replace hB := ((hB.st S86).st S122).st S126
    replace h30 := (h30.st S122).st S126
    exact ⟨_, (), rfl, ⟨rfl, rfl, rfl, rfl, rfl, rfl, trivial⟩, _, hB, h127, h30, h52⟩
   replace hf72 := iT hf72
   refine o_z ?_
   refine ewp_true rfl (ewp_seq (ewp_region (o_mv rfl rfl (o_mv rfl rfl (o_mv rfl rfl (o_as rfl rfl (o_as rfl rfl (o_as rfl rfl (o_as rfl rfl (o_z ?_))))))))))
   refine ewp_ret ?_
   replace h87 := h87.st S122
   replace h90 := h90.st S122
   replace h93 := h93.st S122
   replace h98 := h98.st S122
   obtain ⟨O130, S131, hz133, ha134, h132⟩ := Reg.shut (x := x0) (l0 := 2) (l1 := 3) (l2 := 4) (l3 := 5) (by decide) h87 h90 h93 h98
   obtain rfl := sm hf72
   obtain rfl := hret73 _ rfl
   obtain rfl := sm (fin_ret hm)
   replace hB := ((hB.st S86).st S122).st S131
   obtain ⟨O', hS', hz, hl⟩ := hE.leave (fun q => if q = 2 then i0 else 0) rfl hB
   replace h30 := (h30.st S122).st S131
   exact ret4 rfl (res_tmp rfl) (res_tmp rfl) (res_tmp rfl) (res_tmp rfl) ⟨O', hS', _, _, _, _, (Ob.leave h132 hz (hl 2 (by decide) (by decide)) hx0.2), rfl, (Vb.mono h30 hz), (vInt r50), (vInt r84), (vErr (show inI64 0 from by decide))⟩
  replace hB := (((hB.st S6).st S24).st S45).st S58
  replace h30 := (h30.st S45).st S58
  rintro l135 w136 ⟨s139, x140, rfl, hs138, O137, hB, h30, h59⟩
  replace hm := fin_done hm
  refine ewp_sub _ hs138 ?_
  refine ewp_seq (ewp_region (o_mv rfl rfl (o_mv rfl rfl (o_as rfl rfl (o_as rfl rfl (o_as rfl rfl (o_as rfl rfl (o_z ?_))))))))
  refine ewp_ret ?_
  obtain rfl := sm hm
  obtain ⟨O', hS', hz, hl⟩ := hE.leave (fun q => if q = 2 then i0 else 0) rfl hB
  exact ret4 rfl (res_tmp rfl) (res_tmp rfl) (res_tmp rfl) (res_tmp rfl) ⟨O', hS', _, _, _, _, (Ob.leave h59 hz (hl 2 (by decide) (by decide)) hx0.2), rfl, (Vb.mono h30 hz), (vInt r50), (vInt (show inI64 (-1) from by decide)), (vErr (show inI64 0 from by decide))⟩
noncomputable def m_registry_Registry_Add (x0 : Reg) (x1 : List Int) : Option (Int × Bool × Err × Reg) :=
  bnd (m_registry_Registry_find x0 x1) fun q5 => if q5.2.2.2.n ≠ 0 then (some (0, false, (⟨q5.2.2.2.n⟩ : Err), x0)) else (if 0 ≤ q5.2.2.1 then (some (q5.2.2.1, false, (⟨0⟩ : Err), x0)) else (if 65536 ≤ (x0.entries.length : Int) then (some (0, false, (⟨10⟩ : Err), x0)) else (bnd (appI 48 x0.entries [(⟨q5.1, (⟨(-1), (-1), 0⟩ : RLk)⟩ : REn)]) fun u53 => bnd (appI 8 (mget ([] : List Int) x0.table.l q5.2.1) ([(x0.entries.length : Int)] : List Int)) fun u82 => some ((x0.entries.length : Int), true, (⟨0⟩ : Err), (⟨x0.packer, u53, (⟨mput x0.table.l q5.2.1 u82⟩ : MapR 3 Int Int)⟩ : Reg)))))
theorem c_registry_Registry_Add {w : World} {O : Lab} {p0 i0 : Nat} {x0 : Reg} (hx0 : Ob i0 w O (.pointer (some ⟨p0, 0, none⟩)) x0) {vx1 : Value} {x1 : List Int} (hx1 : Vb w (Fr 0 w O) vx1 x1) {r : Int × Bool × Err × Reg} (hm : m_registry_Registry_Add x0 x1 = some r) :
    Fn Try.prog 41 [(.pointer (some ⟨p0, 0, none⟩)), vx1] w fun v w' => ∃ O', St (eT i0) w O w' O' ∧ ∃ v0 v1 v2 : Value, Ob i0 w' O' (.pointer (some ⟨p0, 0, none⟩)) r.2.2.2 ∧ v = .tuple #[v0, v1, v2] ∧ Vb w' (Fr 0 w' O') v0 r.1 ∧ Vb w' (Fr 0 w' O') v1 r.2.1 ∧ Vb w' (Fr 0 w' O') v2 r.2.2.1 := by
 obtain ⟨O0, hE, hz0, hl2⟩ := ent1 (w := w) (O := O) hx0.2
 have hx0' := Ob.leave hx0 hz0 hl2 (j := 2) (by decide)
 have hB : Bm w O0 w O0 := Bm.refl
 replace hx1 := hx1.mono hz0
 obtain ⟨A3, c4, rfl⟩ := hx1.form
 refine fn_enter Try.func41 rfl Try.ntmps41 rfl ?_
 unfold m_registry_Registry_Add at hm
 refine ewp_seq (ewp_region (o_as rfl rfl (o_as rfl rfl (o_as rfl rfl (o_z ?_)))))
 refine ewp_seq (ewp_seq (ewp_region (o_mv rfl rfl (o_pn rfl rfl ?_))))
 refine o_z ?_
 refine ewp_false rfl (ewp_skip (ewp_seq (ewp_region (o_mv rfl rfl (o_mv rfl rfl ?_)))))
 obtain ⟨q5, e6, hm⟩ := bs hm
 refine l_callM (O := O0) (c_registry_Registry_find hx0' hx1 e6) rfl rfl fun v11 w7 O8 S9 h10 => ?_
 obtain ⟨v13, v14, v15, v16, h12, rfl, h17, h18, h19, h20⟩ := h10
 obtain ⟨A21, c22, rfl⟩ := h17.form
 obtain ⟨rfl, r23⟩ := h18.int
 obtain ⟨rfl, r24⟩ := h19.int
 obtain ⟨rfl, r25⟩ := h20.err
 refine o_mv rfl rfl (o_ex rfl rfl rfl (o_ex rfl rfl rfl (o_ex rfl rfl rfl (o_ex rfl rfl rfl (o_as rfl rfl (o_as rfl rfl (o_as rfl rfl (o_as rfl rfl (o_z ?_)))))))))
 refine ewp_seq (ewp_block (ewp_seq (ewp_region (o_mv rfl rfl (o_rnS rfl rfl (fun c26 => ?_) fun c26 => ?_)))))
 ·
  replace hm := ip hm c26
  refine o_as rfl rfl (o_z ?_)
  refine ewp_true rfl (ewp_seq (ewp_region (o_mv rfl rfl (o_as rfl rfl (o_as rfl rfl (o_as rfl rfl (o_z ?_)))))))
  refine ewp_ret ?_
  obtain rfl := sm hm
  replace hB := hB.st S9
  obtain ⟨O', hS', hz, hl⟩ := hE.leave (fun q => if q = 2 then i0 else 0) rfl hB
  exact ret3 rfl (res_tmp rfl) (res_tmp rfl) (res_tmp rfl) ⟨O', hS', _, _, _, (Ob.leave h12 hz (hl 2 (by decide) (by decide)) hx0.2), rfl, (vInt (show inI64 (0) from by decide)), vBool, (vErr r25)⟩
 ·
  replace hm := im hm c26
  refine o_as rfl rfl (o_z ?_)
  refine ewp_false rfl (ewp_seq (ewp_region (o_mv rfl rfl (o_geS rfl rfl rfl (fun c27 => ?_) fun c27 => ?_))))
  ·
   replace hm := ip hm c27
   refine o_as rfl rfl (o_z ?_)
   refine ewp_true rfl (ewp_seq (ewp_region (o_mv rfl rfl (o_as rfl rfl (o_as rfl rfl (o_as rfl rfl (o_z ?_)))))))
   refine ewp_ret ?_
   obtain rfl := sm hm
   replace hB := hB.st S9
   obtain ⟨O', hS', hz, hl⟩ := hE.leave (fun q => if q = 2 then i0 else 0) rfl hB
   exact ret3 rfl (res_tmp rfl) (res_tmp rfl) (res_tmp rfl) ⟨O', hS', _, _, _, (Ob.leave h12 hz (hl 2 (by decide) (by decide)) hx0.2), rfl, (vInt r24), vBool, (vErr (show inI64 0 from by decide))⟩
  ·
   replace hm := im hm c27
   refine o_as rfl rfl (o_z ?_)
   refine ewp_false rfl (ewp_seq (ewp_region (o_mv rfl rfl (o_nc rfl rfl ?_))))
   obtain ⟨O28, v32, v35, v40, S29, ha31, h30, h33, h36, h41⟩ := Reg.opn h12 2 3 4 5 (by decide)
   obtain ⟨p34, rfl⟩ := h33.ptr
   obtain ⟨A37, c38, rfl⟩ := h36.form
   obtain ⟨p42, rfl⟩ := h41.mptr
   refine o_fa rfl rfl (o_ld (hc := Blk.cell (i := 1) (h30.1) rfl) rfl rfl ?_)
   refine o_ln rfl rfl ?_
   have l44 : x0.entries.length ≤ 9223372036854775807 := Nat.le_trans h36.len.2.1 h36.len.2.2
   have r43 : inI64 (x0.entries.length : Int) := rngNat l44
   refine o_geS rfl rfl rfl (fun c45 => ?_) fun c45 => ?_
   ·
    replace hm := ip hm c45
    refine o_as rfl rfl (o_z ?_)
    refine ewp_true rfl (ewp_seq (ewp_region (o_miE rfl rfl ?_)))
    refine o_as rfl rfl (o_as rfl rfl (o_as rfl rfl (o_z ?_)))
    refine ewp_ret ?_
    obtain ⟨O46, S47, hz49, ha50, h48⟩ := Reg.shut (x := x0) (l0 := 2) (l1 := 3) (l2 := 4) (l3 := 5) (by decide) h30 h33 h36 h41
    obtain rfl := sm hm
    replace hB := ((hB.st S9).st S29).st S47
    obtain ⟨O', hS', hz, hl⟩ := hE.leave (fun q => if q = 2 then i0 else 0) rfl hB
    exact ret3 rfl (res_tmp rfl) (res_tmp rfl) (res_tmp rfl) ⟨O', hS', _, _, _, (Ob.leave h48 hz (hl 2 (by decide) (by decide)) hx0.2), rfl, (vInt (show inI64 (0) from by decide)), vBool, (vErr (by decide))⟩
   ·
    replace hm := im hm c45
    refine o_as rfl rfl (o_z ?_)
    refine ewp_false rfl (ewp_skip (ewp_seq (ewp_region (o_mv rfl rfl (o_nc rfl rfl (o_fa rfl rfl (o_ld (hc := Blk.cell (i := 1) (h30.1) rfl) rfl rfl ?_)))))))
    refine o_ln rfl rfl ?_
    have l52 : x0.entries.length ≤ 9223372036854775807 := Nat.le_trans h36.len.2.1 h36.len.2.2
    have r51 : inI64 (x0.entries.length : Int) := rngNat l52
    refine o_as rfl rfl (o_z ?_)
    refine ewp_seq (ewp_region (o_mv rfl rfl (o_mv rfl rfl (o_nc rfl rfl (o_fa rfl rfl (o_ld (hc := Blk.cell (i := 1) (h30.1) rfl) rfl rfl ?_))))))
    refine o_mv rfl rfl (o_bd rfl rfl rfl ?_)
    refine o_bd rfl rfl rfl ?_
    obtain ⟨u53, e54, hm⟩ := bs hm
    obtain ⟨e54, e55, e56⟩ := appI_some e54
    replace h17 := h17.st S29
    refine l_append1 rfl (a := (⟨q5.1, (⟨(-1), (-1), 0⟩ : RLk)⟩ : REn)) h36 (Vb.ofAgg (cs := [(.slice A21 q5.1.length c22), (.int .i64 (-1)), (.int .i64 (-1)), (.int .i64 0)]) (x := (⟨q5.1, (⟨(-1), (-1), 0⟩ : RLk)⟩ : REn)) rfl ⟨_, rfl, h17, (show inI64 (-1) from by decide), (show inI64 (-1) from by decide), (show inI64 (0) from by decide)⟩) (fun _ => rfl) rfl (by decide) (by decide) e55 e56 ⟨rfl, rfl⟩ fun g57 A58 c59 w60 O61 S62 h63 => ?_
    rw [← e54] at h63 ⊢
    refine o_nc rfl rfl (o_fa rfl rfl ?_)
    replace h30 := h30.st S62
    refine l_store h30 rfl rfl rfl (Nat.le_of_ble_eq_true rfl) (by first | exact allOne rfl | simp [Value.cells, Value.oneCell', errV_one]) fun w65 S66 h30 => ?_
    replace h30 : Lc 2 w65 O61 p0 118 [(.pointer (some ⟨p34, 0, none⟩)), (.slice A58 u53.length c59), (.map (some p42))] := h30
    refine o_z ?_
    refine ewp_seq (ewp_drawX [(12, []), (13, [5, 7])] O61 ?_)
    refine x_pre (fuel := 8) [] [(5, true), (6, true), (7, true), (8, true), (9, true), (10, true), (11, true)] (by kernel_rfl) rfl ?_
    refine h_mv rfl rfl rfl (h_nc rfl rfl rfl (h_fa rfl rfl rfl (h_ldC (hc := fun w' ⟨O', hq⟩ => Blk.cell (i := 2) ((h30.st hq (by decide)).1) rfl) rfl rfl rfl ?_)))
    refine h_mv rfl rfl rfl ?_
    replace h41 := (h41.st S62).st S66
    obtain ⟨A69, c70, hl67, h68⟩ := MapR.get h41 q5.2.1
    refine h_lk q5.2.1 (fun w' ⟨O', hq⟩ => hl67.keep (hq.agree (i := 5) (by decide) _ (MapR.at h41))) rfl rfl rfl rfl ?_
    refine h_mv rfl rfl rfl (hwp_nilT ?_)
    refine x_pre (fuel := 3) [5, 7] [(0, true), (1, true), (2, true), (3, true), (4, true)] (by kernel_rfl) rfl ?_
    refine h_mv rfl rfl rfl (h_nc rfl rfl rfl (h_fa rfl rfl rfl (h_ldC (hc := fun w' ⟨O', hq⟩ => Blk.cell (i := 2) ((h30.st hq (by decide)).1) rfl) rfl rfl rfl ?_)))
    refine h_mv rfl rfl rfl (hwp_nilT ?_)
    refine x_one (i := 12) (by kernel_rfl) rfl ?_
    refine l_bslice 6 (by decide) O61 (xs := (([(x0.entries.length : Int)] : List Int) : List Int)) rfl rfl rfl rfl ⟨(vInt r51), trivial⟩ (by decide) (by decide) rfl fun g71 w72 O73 S74 h75 => ?_
    have hZ := S74.lst [] (fun _ h => h.elim)
    replace hl67 := hl67.keep (S74.agree (i := 5) id _ (MapR.at h41))
    replace h68 := h68.stS S74 id (fun _ _ => id)
    refine x_go [(13, [5, 7])] hZ (by kernel_rfl) ?_
    refine x_one (i := 13) (by kernel_rfl) rfl ?_
    replace h41 := h41.st S74
    obtain ⟨O77, S78, h79, h80⟩ := MapR.take h41 hl67 7 (by decide) (by decide)
    have hZ := S78.lst [5] (fun _ h => by cases h; decide)
    obtain ⟨u82, e83, hm⟩ := bs hm
    obtain ⟨e83, e84, e85⟩ := appI_some e83
    replace h75 := h75.st S78
    refine l_append rfl h80 (h75.rd) rfl rfl (by decide) e84 e85 rfl fun A86 c87 w88 O89 S90 h91 => ?_
    rw [← e83] at h91 ⊢
    replace hZ := hZ.cmp S90 [5, 7] (fun _ h => by cases h; decide) rfl
    refine x_go [] hZ (by kernel_rfl) ?_
    refine x_one (i := 14) (by kernel_rfl) rfl ?_
    replace h79 := h79.st S90
    refine l_mputR h79 h91 (by decide) rfl rfl rfl fun w93 O94 S95 h96 => ?_
    refine x_end (by kernel_rfl) ?_
    refine x_nil (by kernel_rfl) ?_
    refine ewp_seq (ewp_region (o_mv rfl rfl (o_as rfl rfl (o_as rfl rfl (o_as rfl rfl (o_z ?_))))))
    refine ewp_ret ?_
    replace h30 := (((h30.st S74).st S78).st S90).st S95
    replace h33 := (((((h33.st S62).st S66).st S74).st S78).st S90).st S95
    replace h63 := ((((h63.st S66).st S74).st S78).st S90).st S95
    obtain ⟨O97, S98, hz100, ha101, h99⟩ := Reg.shut (x := (⟨x0.packer, u53, (⟨mput x0.table.l q5.2.1 u82⟩ : MapR 3 Int Int)⟩ : Reg)) (l0 := 2) (l1 := 3) (l2 := 4) (l3 := 5) (by decide) h30 h33 h63 h96
    obtain rfl := sm hm
    replace hB := ((((((((hB.st S9).st S29).st S62).st S66).st S74).st S78).st S90).st S95).st S98
    obtain ⟨O', hS', hz, hl⟩ := hE.leave (fun q => if q = 2 then i0 else 0) rfl hB
    exact ret3 rfl (res_tmp rfl) (res_tmp rfl) (res_tmp rfl) ⟨O', hS', _, _, _, (Ob.leave h99 hz (hl 2 (by decide) (by decide)) hx0.2), rfl, (vInt r51), vBool, (vErr (show inI64 0 from by decide))⟩
noncomputable def m_registry_Registry_Len (x0 : Reg) : Option Int :=
  some (x0.entries.length : Int)
theorem c_registry_Registry_Len {w : World} {O : Lab} {p0 i0 : Nat} {x0 : Reg} (hx0 : Ob i0 w O (.pointer (some ⟨p0, 0, none⟩)) x0) {r : Int} (hm : m_registry_Registry_Len x0 = some r) :
    Fn Try.prog 35 [(.pointer (some ⟨p0, 0, none⟩))] w fun v w' => ∃ O', St (eT i0) w O w' O' ∧ Ob i0 w' O' (.pointer (some ⟨p0, 0, none⟩)) x0 ∧ Vb w' (Fr 0 w' O') v r := by
 obtain ⟨O0, hE, hz0, hl2⟩ := ent1 (w := w) (O := O) hx0.2
 have hx0' := Ob.leave hx0 hz0 hl2 (j := 2) (by decide)
 have hB : Bm w O0 w O0 := Bm.refl
 refine fn_enter Try.func35 rfl Try.ntmps35 rfl ?_
 unfold m_registry_Registry_Len at hm
 refine ewp_seq (ewp_region (o_as rfl rfl (o_z ?_)))
 refine ewp_seq (ewp_seq (ewp_region (o_mv rfl rfl (o_pn rfl rfl ?_))))
 refine o_z ?_
 refine ewp_false rfl (ewp_skip (ewp_seq (ewp_region (o_mv rfl rfl (o_nc rfl rfl ?_)))))
 obtain ⟨O2, v6, v9, v14, S3, ha5, h4, h7, h10, h15⟩ := Reg.opn hx0' 2 3 4 5 (by decide)
 obtain ⟨p8, rfl⟩ := h7.ptr
 obtain ⟨A11, c12, rfl⟩ := h10.form
 obtain ⟨p16, rfl⟩ := h15.mptr
 refine o_fa rfl rfl (o_ld (hc := Blk.cell (i := 1) (h4.1) rfl) rfl rfl ?_)
 refine o_ln rfl rfl ?_
 have l18 : x0.entries.length ≤ 9223372036854775807 := Nat.le_trans h10.len.2.1 h10.len.2.2
 have r17 : inI64 (x0.entries.length : Int) := rngNat l18
 refine o_as rfl rfl (o_z ?_)
 refine ewp_ret ?_
 obtain ⟨O19, S20, hz22, ha23, h21⟩ := Reg.shut (x := x0) (l0 := 2) (l1 := 3) (l2 := 4) (l3 := 5) (by decide) h4 h7 h10 h15
 obtain rfl := sm hm
 replace hB := (hB.st S3).st S20
 obtain ⟨O', hS', hz, hl⟩ := hE.leave (fun q => if q = 2 then i0 else 0) rfl hB
 exact ret1v rfl (res_tmp rfl) ⟨O', hS', (Ob.leave h21 hz (hl 2 (by decide) (by decide)) hx0.2), (vInt r17)⟩
noncomputable def m_registry_Registry_has (x0 : Reg) (x1 : Int) : Option Bool :=
  bnd (if 0 ≤ x1 then (if x1 < (x0.entries.length : Int) then (some true) else (some false)) else (some false) : Option Bool) fun y3 => some y3
theorem c_registry_Registry_has {w : World} {O : Lab} {p0 i0 : Nat} {x0 : Reg} (hx0 : Ob i0 w O (.pointer (some ⟨p0, 0, none⟩)) x0) {x1 : Int} (rx1 : inI64 x1) {r : Bool} (hm : m_registry_Registry_has x0 x1 = some r) :
    Fn Try.prog 61 [(.pointer (some ⟨p0, 0, none⟩)), (.int .i64 x1)] w fun v w' => ∃ O', St (eT i0) w O w' O' ∧ Ob i0 w' O' (.pointer (some ⟨p0, 0, none⟩)) x0 ∧ Vb w' (Fr 0 w' O') v r := by
 obtain ⟨O0, hE, hz0, hl2⟩ := ent1 (w := w) (O := O) hx0.2
 have hx0' := Ob.leave hx0 hz0 hl2 (j := 2) (by decide)
 have hB : Bm w O0 w O0 := Bm.refl
 refine fn_enter Try.func61 rfl Try.ntmps61 rfl ?_
 unfold m_registry_Registry_has at hm
 refine ewp_seq (ewp_region (o_as rfl rfl (o_z ?_)))
 refine ewp_seq ?_
 obtain ⟨y3, hy4, hm⟩ := bs hm
 refine ewp_join (fun l' w' => ∃ (x6 : Unit) (O' : Lab), subs l' [(4, (.bool y3))] ∧ Bm w O0 w' O' ∧ Ob 2 w' O' (.pointer (some ⟨p0, 0, none⟩)) x0) ?_ ?_
 ·
  refine ewp_region (o_mv rfl rfl (o_geS rfl rfl rfl (fun c7 => ?_) fun c7 => ?_))
  ·
   replace hy4 := ip hy4 c7
   refine o_mv rfl rfl (owp_yes rfl rfl (o_mv rfl rfl (owp_yes rfl rfl (o_mv rfl rfl (owp_yes rfl rfl (o_nc rfl rfl (owp_yes rfl rfl ?_)))))))
   obtain ⟨O8, v12, v15, v20, S9, ha11, h10, h13, h16, h21⟩ := Reg.opn hx0' 2 3 4 5 (by decide)
   obtain ⟨p14, rfl⟩ := h13.ptr
   obtain ⟨A17, c18, rfl⟩ := h16.form
   obtain ⟨p22, rfl⟩ := h21.mptr
   refine o_fa rfl rfl (owp_yes rfl rfl (o_ld (hc := Blk.cell (i := 1) (h10.1) rfl) rfl rfl ?_))
   refine owp_yes rfl rfl (o_ln rfl rfl ?_)
   have l24 : x0.entries.length ≤ 9223372036854775807 := Nat.le_trans h16.len.2.1 h16.len.2.2
   have r23 : inI64 (x0.entries.length : Int) := rngNat l24
   refine owp_yes rfl rfl (o_ltS rfl rfl rfl (fun c25 => ?_) fun c25 => ?_)
   ·
    replace hy4 := ip hy4 c25
    refine o_pt rfl rfl rfl (o_as rfl rfl (o_z ?_))
    obtain ⟨O26, S27, hz29, ha30, h28⟩ := Reg.shut (x := x0) (l0 := 2) (l1 := 3) (l2 := 4) (l3 := 5) (by decide) h10 h13 h16 h21
    obtain rfl := sm hy4
    replace hB := (hB.st S9).st S27
    exact ⟨(), _, ⟨rfl, trivial⟩, hB, h28⟩
   ·
    replace hy4 := im hy4 c25
    refine o_pt rfl rfl rfl (o_as rfl rfl (o_z ?_))
    obtain ⟨O31, S32, hz34, ha35, h33⟩ := Reg.shut (x := x0) (l0 := 2) (l1 := 3) (l2 := 4) (l3 := 5) (by decide) h10 h13 h16 h21
    obtain rfl := sm hy4
    replace hB := (hB.st S9).st S32
    exact ⟨(), _, ⟨rfl, trivial⟩, hB, h33⟩
  ·
   replace hy4 := im hy4 c7
   refine o_mv rfl rfl (owp_no rfl rfl rfl rfl (owp_no rfl rfl rfl rfl (owp_no rfl rfl rfl rfl (owp_no rfl rfl rfl rfl (owp_no rfl rfl rfl rfl (owp_no rfl rfl rfl rfl (owp_no rfl rfl rfl rfl (o_pf rfl rfl rfl (o_as rfl rfl (o_z ?_))))))))))
   obtain rfl := sm hy4
   exact ⟨(), _, ⟨rfl, trivial⟩, hB, hx0'⟩
 rintro l36 w37 ⟨x6, O38, hs39, hB, h24⟩
 refine ewp_sub _ hs39 ?_
 refine ewp_ret ?_
 obtain rfl := sm hm
 obtain ⟨O', hS', hz, hl⟩ := hE.leave (fun q => if q = 2 then i0 else 0) rfl hB
 exact ret1v rfl (res_tmp rfl) ⟨O', hS', (Ob.leave h24 hz (hl 2 (by decide) (by decide)) hx0.2), vBool⟩
noncomputable def m_registry_Registry_State (x0 : Reg) (x1 : Int) : Option ((List Int) × Err) :=
  bnd (m_registry_Registry_has x0 x1) fun q3 => if q3 = true then bnd (atI x0.entries x1) fun a27 => bnd (m_pack_Packer_Unpack x0.packer a27.words) fun q45 => some (q45.1, (⟨q45.2.n⟩ : Err)) else some (([] : List Int), (⟨1⟩ : Err))
theorem c_registry_Registry_State {w : World} {O : Lab} {p0 i0 : Nat} {x0 : Reg} (hx0 : Ob i0 w O (.pointer (some ⟨p0, 0, none⟩)) x0) {x1 : Int} (rx1 : inI64 x1) {r : (List Int) × Err} (hm : m_registry_Registry_State x0 x1 = some r) :
    Fn Try.prog 36 [(.pointer (some ⟨p0, 0, none⟩)), (.int .i64 x1)] w fun v w' => ∃ O', St (eT i0) w O w' O' ∧ ∃ v0 v1 : Value, Ob i0 w' O' (.pointer (some ⟨p0, 0, none⟩)) x0 ∧ v = .tuple #[v0, v1] ∧ Vb w' (Fr 0 w' O') v0 r.1 ∧ Vb w' (Fr 0 w' O') v1 r.2 := by
 obtain ⟨O0, hE, hz0, hl2⟩ := ent1 (w := w) (O := O) hx0.2
 have hx0' := Ob.leave hx0 hz0 hl2 (j := 2) (by decide)
 have hB : Bm w O0 w O0 := Bm.refl
 refine fn_enter Try.func36 rfl Try.ntmps36 rfl ?_
 unfold m_registry_Registry_State at hm
 refine ewp_seq (ewp_region (o_as rfl rfl (o_as rfl rfl (o_z ?_))))
 refine ewp_seq (ewp_block (ewp_seq (ewp_region (o_mv rfl rfl (o_pn rfl rfl ?_)))))
 refine o_as rfl rfl (o_z ?_)
 refine ewp_false rfl (ewp_seq (ewp_region (o_mv rfl rfl (o_mv rfl rfl ?_))))
 obtain ⟨q3, e4, hm⟩ := bs hm
 refine l_callM (O := O0) (c_registry_Registry_has hx0' rx1 e4) rfl rfl fun v9 w5 O6 S7 h8 => ?_
 obtain ⟨h10, h11⟩ := h8
 obtain rfl := h11.bool
 cases q3
 case false =>
  replace hm := iF hm
  refine o_nf rfl rfl (o_as rfl rfl (o_z ?_))
  refine ewp_true rfl (ewp_seq (ewp_region (o_miE rfl rfl ?_)))
  refine o_as rfl rfl (o_as rfl rfl (o_z ?_))
  refine ewp_ret ?_
  obtain rfl := sm hm
  replace hB := hB.st S7
  obtain ⟨O', hS', hz, hl⟩ := hE.leave (fun q => if q = 2 then i0 else 0) rfl hB
  exact ret2 rfl (res_tmp rfl) (res_tmp rfl) ⟨O', hS', _, _, (Ob.leave h10 hz (hl 2 (by decide) (by decide)) hx0.2), rfl, (Vb.mono (Vb.nil _ _) hz), (vErr (by decide))⟩
 replace hm := iT hm
 refine o_nt rfl rfl (o_as rfl rfl (o_z ?_))
 refine ewp_false rfl (ewp_skip (ewp_seq ?_))
 obtain ⟨O12, v16, v19, v24, S13, ha15, h14, h17, h20, h25⟩ := Reg.opn h10 2 3 4 5 (by decide)
 obtain ⟨p18, rfl⟩ := h17.ptr
 obtain ⟨A21, c22, rfl⟩ := h20.form
 obtain ⟨p26, rfl⟩ := h25.mptr
 refine ewp_drawX [(12, [3])] O12 ?_
 refine x_pre (fuel := 5) [] [(0, true), (1, true), (2, true), (3, true), (4, true), (5, true), (6, true), (7, true), (8, true), (9, true), (10, true), (11, true)] (by kernel_rfl) rfl ?_
 refine h_mv rfl rfl rfl (h_nc rfl rfl rfl (h_fa rfl rfl rfl (h_ldC (hc := fun w' ⟨O', hq⟩ => Blk.cell (i := 0) ((h14.st hq (by decide)).1) rfl) rfl rfl rfl ?_)))
 refine h_mv rfl rfl rfl (h_nc rfl rfl rfl (h_fa rfl rfl rfl (h_ldC (hc := fun w' ⟨O', hq⟩ => Blk.cell (i := 1) ((h14.st hq (by decide)).1) rfl) rfl rfl rfl ?_)))
 refine h_mv rfl rfl rfl ?_
 obtain ⟨a27, e28, hm⟩ := bs hm
 obtain ⟨p30, x29⟩ := atI_some' e28
 obtain ⟨b31, o32, ce33, hA34, hF37, hl35, hd36, v38, rfl, h39, r42, r43, r44⟩ := h20.elemF x29
 obtain ⟨A40, c41, rfl⟩ := h39.form
 refine h_iaE (hA := hA34) (hj := (Int.toNat_of_nonneg p30).symm) (hlt := hl35) rfl rfl rfl rfl ?_
 refine h_fa rfl rfl rfl (h_ldC (hc := fun w' ⟨O', hq⟩ => cat0 (cellsAt_agree (hq.agree (i := 4) (by decide)) hF37 hd36)) rfl rfl rfl ?_)
 refine hwp_nilT ?_
 refine x_one (i := 12) (by kernel_rfl) rfl ?_
 obtain ⟨q45, e46, hm⟩ := bs hm
 refine l_callM (O := O12) (c_pack_Packer_Unpack h17 h39 e46) rfl rfl fun v51 w47 O48 S49 h50 => ?_
 obtain ⟨v53, v54, h52, rfl, h55, h56⟩ := h50
 obtain ⟨A57, c58, rfl⟩ := h55.form
 obtain ⟨rfl, r59⟩ := h56.err
 have hZ := S49.lst [3] (fun _ h => by cases h; decide)
 refine x_go [] hZ (by kernel_rfl) ?_
 refine x_pre (fuel := 0) [] [(13, true), (14, true), (15, true), (16, true)] (by kernel_rfl) rfl ?_
 refine h_ex rfl rfl rfl rfl (h_ex rfl rfl rfl rfl (h_as rfl rfl rfl (h_as rfl rfl rfl (hwp_nilT ?_))))
 refine x_nil (by kernel_rfl) ?_
 refine ewp_ret ?_
 replace h14 := h14.st S49
 replace h20 := h20.st S49
 replace h25 := h25.st S49
 obtain ⟨O60, S61, hz63, ha64, h62⟩ := Reg.shut (x := x0) (l0 := 2) (l1 := 3) (l2 := 4) (l3 := 5) (by decide) h14 h52 h20 h25
 obtain rfl := sm hm
 replace hB := (((hB.st S7).st S13).st S49).st S61
 obtain ⟨O', hS', hz, hl⟩ := hE.leave (fun q => if q = 2 then i0 else 0) rfl hB
 replace h55 := h55.st S61
 exact ret2 rfl (res_tmp rfl) (res_tmp rfl) ⟨O', hS', _, _, (Ob.leave h62 hz (hl 2 (by decide) (by decide)) hx0.2), rfl, (Vb.mono h55 hz), (vErr r59)⟩
noncomputable def m_registry_Registry_SetLink (x0 : Reg) (x1 : Int) (x2 : Int) (x3 : Int) (x4 : Int) : Option (Err × Reg) :=
  bnd (bnd (m_registry_Registry_has x0 x1) fun q10 => if q10 = true then if x2 ≠ (-1) then (bnd (m_registry_Registry_has x0 x2) fun q20 => if q20 = true then some false else some true) else (some false) else some true : Option Bool) fun y6 => if y6 = true then (some ((⟨1⟩ : Err), x0)) else (bnd (atI x0.entries x1) fun a49 => some ((⟨0⟩ : Err), (⟨x0.packer, (x0.entries.set (x1 : Int).toNat ({ a49 with link := (⟨x2, x3, x4⟩ : RLk) } : REn)), x0.table⟩ : Reg)))
theorem c_registry_Registry_SetLink {w : World} {O : Lab} {p0 i0 : Nat} {x0 : Reg} (hx0 : Ob i0 w O (.pointer (some ⟨p0, 0, none⟩)) x0) {x1 : Int} (rx1 : inI64 x1) {x2 : Int} (rx2 : inI64 x2) {x3 : Int} (rx3 : inI64 x3) {x4 : Int} (rx4 : inI64 x4) {r : Err × Reg} (hm : m_registry_Registry_SetLink x0 x1 x2 x3 x4 = some r) :
    Fn Try.prog 42 [(.pointer (some ⟨p0, 0, none⟩)), (.int .i64 x1), (.int .i64 x2), (.int .i64 x3), (.int .i64 x4)] w fun v w' => ∃ O', St (eT i0) w O w' O' ∧ Ob i0 w' O' (.pointer (some ⟨p0, 0, none⟩)) r.2 ∧ Vb w' (Fr 0 w' O') v r.1 := by
 obtain ⟨O0, hE, hz0, hl2⟩ := ent1 (w := w) (O := O) hx0.2
 have hx0' := Ob.leave hx0 hz0 hl2 (j := 2) (by decide)
 have hB : Bm w O0 w O0 := Bm.refl
 refine fn_enter Try.func42 rfl Try.ntmps42 rfl ?_
 unfold m_registry_Registry_SetLink at hm
 refine ewp_seq (ewp_region (o_as rfl rfl (o_z ?_)))
 refine ewp_seq (ewp_block (ewp_seq (ewp_region (o_mv rfl rfl (o_pn rfl rfl ?_)))))
 refine o_as rfl rfl (o_z ?_)
 refine ewp_false rfl (ewp_seq ?_)
 obtain ⟨y6, hy7, hm⟩ := bs hm
 refine ewp_join (fun l' w' => ∃ (x9 : Unit) (O' : Lab), subs l' [(0, (.pointer (some ⟨p0, 0, none⟩))), (1, (.int .i64 x1)), (2, (.int .i64 x2)), (3, (.int .i64 x3)), (4, (.int .i64 x4)), (15, (.bool y6))] ∧ Bm w O0 w' O' ∧ Ob 2 w' O' (.pointer (some ⟨p0, 0, none⟩)) x0) ?_ ?_
 ·
  refine ewp_region (o_mv rfl rfl (o_mv rfl rfl ?_))
  obtain ⟨q10, e11, hy7⟩ := bs hy7
  refine l_callM (O := O0) (c_registry_Registry_has hx0' rx1 e11) rfl rfl fun v16 w12 O13 S14 h15 => ?_
  obtain ⟨h17, h18⟩ := h15
  obtain rfl := h18.bool
  cases q10
  case false =>
   replace hy7 := iF hy7
   refine o_nf rfl rfl (o_mv rfl rfl (owp_no rfl rfl rfl rfl (owp_no rfl rfl rfl rfl (owp_no rfl rfl rfl rfl (owp_no rfl rfl rfl rfl (owp_no rfl rfl rfl rfl (owp_no rfl rfl rfl rfl (owp_no rfl rfl rfl rfl (owp_no rfl rfl rfl rfl (o_pt rfl rfl rfl (o_as rfl rfl (o_z ?_))))))))))))
   obtain rfl := sm hy7
   replace hB := hB.st S14
   exact ⟨(), _, ⟨rfl, rfl, rfl, rfl, rfl, rfl, trivial⟩, hB, h17⟩
  replace hy7 := iT hy7
  refine o_nt rfl rfl (o_mv rfl rfl (owp_yes rfl rfl (o_mv rfl rfl (owp_yes rfl rfl (o_neS rfl rfl rfl (fun c19 => ?_) fun c19 => ?_)))))
  ·
   replace hy7 := ip hy7 c19
   refine owp_yes rfl rfl (o_mv rfl rfl (owp_yes rfl rfl (o_mv rfl rfl (owp_yes rfl rfl (o_mv rfl rfl (owp_yes rfl rfl ?_))))))
   obtain ⟨q20, e21, hy7⟩ := bs hy7
   refine l_callM (O := O13) (c_registry_Registry_has h17 rx2 e21) rfl rfl fun v26 w22 O23 S24 h25 => ?_
   obtain ⟨h27, h28⟩ := h25
   obtain rfl := h28.bool
   cases q20
   case false =>
    replace hy7 := iF hy7
    refine owp_yes rfl rfl (o_nf rfl rfl (owp_yes rfl rfl (o_pt rfl rfl rfl (o_pf rfl rfl rfl (o_as rfl rfl (o_z ?_))))))
    obtain rfl := sm hy7
    replace hB := (hB.st S14).st S24
    exact ⟨(), _, ⟨rfl, rfl, rfl, rfl, rfl, rfl, trivial⟩, hB, h27⟩
   replace hy7 := iT hy7
   refine owp_yes rfl rfl (o_nt rfl rfl (owp_yes rfl rfl (o_pt rfl rfl rfl (o_pf rfl rfl rfl (o_as rfl rfl (o_z ?_))))))
   obtain rfl := sm hy7
   replace hB := (hB.st S14).st S24
   exact ⟨(), _, ⟨rfl, rfl, rfl, rfl, rfl, rfl, trivial⟩, hB, h27⟩
  ·
   replace hy7 := im hy7 c19
   refine owp_yes rfl rfl (o_mv rfl rfl (owp_no rfl rfl rfl rfl (owp_no rfl rfl rfl rfl (owp_no rfl rfl rfl rfl (owp_no rfl rfl rfl rfl (owp_yes rfl rfl (o_pf rfl rfl rfl (o_pf rfl rfl rfl (o_as rfl rfl (o_z ?_))))))))))
   obtain rfl := sm hy7
   replace hB := hB.st S14
   exact ⟨(), _, ⟨rfl, rfl, rfl, rfl, rfl, rfl, trivial⟩, hB, h17⟩
 rintro l29 w30 ⟨x9, O31, hs32, hB, h13⟩
 refine ewp_sub _ hs32 ?_
 refine ewp_cond rfl (fun c33 => ?_) (fun c33 => ?_)
 ·
  replace hm := ip hm c33
  refine ewp_seq (ewp_region (o_miE rfl rfl ?_))
  refine o_as rfl rfl (o_z ?_)
  refine ewp_ret ?_
  obtain rfl := sm hm
  obtain ⟨O', hS', hz, hl⟩ := hE.leave (fun q => if q = 2 then i0 else 0) rfl hB
  exact ret1v rfl (res_tmp rfl) ⟨O', hS', (Ob.leave h13 hz (hl 2 (by decide) (by decide)) hx0.2), (vErr (by decide))⟩
 ·
  replace hm := im' hm c33
  refine ewp_skip (ewp_seq (ewp_region (o_mv rfl rfl (o_nc rfl rfl ?_))))
  obtain ⟨O34, v38, v41, v46, S35, ha37, h36, h39, h42, h47⟩ := Reg.opn h13 2 3 4 5 (by decide)
  obtain ⟨p40, rfl⟩ := h39.ptr
  obtain ⟨A43, c44, rfl⟩ := h42.form
  obtain ⟨p48, rfl⟩ := h47.mptr
  refine o_fa rfl rfl (o_ld (hc := Blk.cell (i := 1) (h36.1) rfl) rfl rfl ?_)
  refine o_mv rfl rfl (o_mv rfl rfl (o_mv rfl rfl (o_mv rfl rfl (o_bd rfl rfl rfl ?_))))
  obtain ⟨a49, e50, hm⟩ := bs hm
  obtain ⟨p52, x51⟩ := atI_some' e50
  obtain ⟨b53, o54, ce55, hA56, hl57, hd58, v60, rfl, h61, r64, r65, r66⟩ := h42.elem x51
  obtain ⟨A62, c63, rfl⟩ := h61.form
  refine o_iaE (hA := hA56) (hj := (Int.toNat_of_nonneg p52).symm) (hlt := hl57) rfl rfl rfl ?_
  refine o_fa rfl rfl (l_setPart (a := a49) (a' := ({ a49 with link := (⟨x2, x3, x4⟩ : RLk) } : REn)) (off := 1) h42 hA56 x51 rfl rfl rfl (Nat.le_of_ble_eq_true rfl) (by first | exact allOne rfl | simp [Value.cells, Value.oneCell', errV_one]) (by rintro ce ⟨v69, rfl, h70, r73, r74, r75⟩; exact ⟨_, rfl, h70, rx2, rx3, rx4⟩) fun w67 S68 h42 => ?_)
  refine o_z ?_
  refine ewp_seq (ewp_region (o_as rfl rfl (o_z ?_)))
  refine ewp_ret ?_
  replace h36 := h36.st S68
  replace h39 := h39.st S68
  replace h47 := h47.st S68
  obtain ⟨O76, S77, hz79, ha80, h78⟩ := Reg.shut (x := (⟨x0.packer, (x0.entries.set (x1 : Int).toNat ({ a49 with link := (⟨x2, x3, x4⟩ : RLk) } : REn)), x0.table⟩ : Reg)) (l0 := 2) (l1 := 3) (l2 := 4) (l3 := 5) (by decide) (by have q := h36; rw [← ((by simp : (x0.entries.set (x1 : Int).toNat ({ a49 with link := (⟨x2, x3, x4⟩ : RLk) } : REn)).length = x0.entries.length).trans rfl)] at q; exact q) h39 h42.relen h47
  obtain rfl := sm hm
  replace hB := ((hB.st S35).st S68).st S77
  obtain ⟨O', hS', hz, hl⟩ := hE.leave (fun q => if q = 2 then i0 else 0) rfl hB
  exact ret1v rfl (res_tmp rfl) ⟨O', hS', (Ob.leave h78 hz (hl 2 (by decide) (by decide)) hx0.2), (vErr (show inI64 0 from by decide))⟩
noncomputable def m_slices_Reverse_Lint_int (x0 : List Int) : Option (List Int) :=
  bnd (chkI ((x0.length : Int) - 1)) fun n4 => bnd (lop (ρ := (List Int)) (fun (s9 : (List Int) × Int × Int) => if s9.2.1 < s9.2.2 then (bnd (atI s9.1 s9.2.2) fun a31 => bnd (atI s9.1 s9.2.1) fun a43 => bnd (atI s9.1 s9.2.1) fun a55 => bnd (atI (s9.1.set (s9.2.1 : Int).toNat a31) s9.2.2) fun a69 => bnd (chkI (s9.2.1 + 1)) fun n83 => bnd (chkI (s9.2.2 - 1)) fun n86 => some (.next (((s9.1.set (s9.2.1 : Int).toNat a31).set (s9.2.2 : Int).toNat a43), n83, n86))) else (some (.brk (s9.1, s9.2.1, s9.2.2)))) (x0, 0, n4)) fun res7 => fin res7 fun (s93 : (List Int) × Int × Int) => some s93.1
theorem c_slices_Reverse_Lint_int {w : World} {O : Lab} {A0 : Option Addr} {m0 c0 i0 : Nat} {x0 : List Int} (hx0 : Rw i0 w O 3 (.slice A0 m0 c0) x0) {r : (List Int)} (hm : m_slices_Reverse_Lint_int x0 = some r) :
    Fn Try.prog 78 [(.slice A0 m0 c0)] w fun v w' => ∃ O', St (eT i0) w O w' O' ∧ Rw i0 w' O' 3 (.slice A0 m0 c0) r := by
 obtain ⟨O0, hE, hz0, hl2⟩ := ent1 (w := w) (O := O) hx0.2.2
 obtain rfl : m0 = x0.length := hx0.len.1
 have hx0' := Rw.leave hx0 hz0 hl2 (j := 2) (by decide)
 have hB : Bm w O0 w O0 := Bm.refl
 refine fn_enter Try.func78 rfl Try.ntmps78 rfl ?_
 unfold m_slices_Reverse_Lint_int at hm
 refine ewp_seq (ewp_region (o_mv rfl rfl (o_ln rfl rfl ?_)))
 have l3 : x0.length ≤ 9223372036854775807 := Nat.le_trans hx0'.len.2.1 hx0'.len.2.2
 have r2 : inI64 (x0.length : Int) := rngNat l3
 obtain ⟨n4, e5, hm⟩ := bs hm
 have r6 := (chkI_rng e5)
 refine o_sbE (he := e5) rfl rfl rfl ?_
 refine o_as rfl rfl (o_as rfl rfl (o_z ?_))
 obtain ⟨res7, hL8, hm⟩ := bs hm
 refine ewp_join (aft res7 (fun (s9 : (List Int) × Int × Int) (x10 : Unit) => [(0, (.slice A0 x0.length c0))]) (fun s9 x10 w' => ∃ O' : Lab, Bm w O0 w' O' ∧ Rw 2 w' O' 3 (.slice A0 x0.length c0) s9.1 ∧ inI64 s9.2.1 ∧ inI64 s9.2.2)) ?_ ?_
 ·
  refine ewp_block (ewp_lop (σ := (List Int) × Int × Int) (X := Unit) hL8 (fun (s9 : (List Int) × Int × Int) (x10 : Unit) => [(0, (.slice A0 x0.length c0)), (2, (.int .i64 s9.2.1)), (3, (.int .i64 s9.2.2))]) _ (fun s9 x10 w' => ∃ O' : Lab, Bm w O0 w' O' ∧ Rw 2 w' O' 3 (.slice A0 x0.length c0) s9.1 ∧ inI64 s9.2.1 ∧ inI64 s9.2.2) _ () ⟨O0, hB, hx0', (show inI64 (0) from by decide), r6⟩ ⟨rfl, rfl, rfl, trivial⟩ ?_)
  rintro s9 x10 w13 cc15 ⟨O14, hB, h26, r28, r29⟩ hf17 hret18 hbrk19
  refine ewp_seq (ewp_seq (ewp_region (o_mv rfl rfl (o_mv rfl rfl (o_ltS rfl rfl rfl (fun c30 => ?_) fun c30 => ?_)))))
  ·
   replace hf17 := ip hf17 c30
   refine o_z ?_
   refine ewp_true rfl (ewp_skip (ewp_seq (ewp_block (ewp_drawX [(13, [2])] O14 ?_))))
   refine x_pre (fuel := 5) [] [(0, true), (1, true), (4, true), (5, true), (6, true), (7, true), (8, true), (9, true), (10, true), (11, true), (12, true)] (by kernel_rfl) rfl ?_
   refine h_mv rfl rfl rfl (h_mv rfl rfl rfl (h_mv rfl rfl rfl (h_mv rfl rfl rfl ?_)))
   obtain ⟨a31, e32, hf17⟩ := bs hf17
   obtain ⟨p34, x33⟩ := atI_some' e32
   obtain ⟨b35, o36, ce37, hA38, hF41, hl39, hd40, rfl, r42⟩ := h26.elemF x33
   refine h_iaE (hA := hA38) (hj := (Int.toNat_of_nonneg p34).symm) (hlt := hl39) rfl rfl rfl rfl ?_
   refine h_ldC (hc := fun w' ⟨O', hq⟩ => cat0 (cellsAt_agree (hq.agree (i := 2) (by decide)) hF41 hd40)) rfl rfl rfl ?_
   refine h_mv rfl rfl rfl (h_mv rfl rfl rfl ?_)
   obtain ⟨a43, e44, hf17⟩ := bs hf17
   obtain ⟨p46, x45⟩ := atI_some' e44
   obtain ⟨b47, o48, ce49, hA50, hF53, hl51, hd52, rfl, r54⟩ := h26.elemF x45
   refine h_iaE (hA := hA50) (hj := (Int.toNat_of_nonneg p46).symm) (hlt := hl51) rfl rfl rfl rfl ?_
   refine h_ldC (hc := fun w' ⟨O', hq⟩ => cat0 (cellsAt_agree (hq.agree (i := 2) (by decide)) hF53 hd52)) rfl rfl rfl ?_
   obtain ⟨a55, e56, hf17⟩ := bs hf17
   obtain ⟨p58, x57⟩ := atI_some' e56
   obtain ⟨b59, o60, ce61, hA62, hF65, hl63, hd64, rfl, r66⟩ := h26.elemF x57
   refine h_iaE (hA := hA62) (hj := (Int.toNat_of_nonneg p58).symm) (hlt := hl63) rfl rfl rfl rfl ?_
   refine hwp_nilT ?_
   refine x_pre (fuel := 3) [2] [(2, true), (3, true)] (by kernel_rfl) rfl ?_
   refine h_mv rfl rfl rfl (h_mv rfl rfl rfl (hwp_nilT ?_))
   refine x_one (i := 13) (by kernel_rfl) rfl ?_
   refine l_setE rfl h26 (a := a31) (vInt r42) hA62 rfl rfl (lt_of_get x57) fun w67 S68 h26 => ?_
   have hZ := S68.lst [2] (fun _ h => by cases h; decide)
   refine x_go [] hZ (by kernel_rfl) ?_
   refine x_pre (fuel := 1) [] [(14, true)] (by kernel_rfl) rfl ?_
   obtain ⟨a69, e70, hf17⟩ := bs hf17
   obtain ⟨p72, x71⟩ := atI_some' e70
   obtain ⟨b73, o74, ce75, hA76, hF79, hl77, hd78, rfl, r80⟩ := h26.elemF x71
   refine h_iaE (hA := hA76) (hj := (Int.toNat_of_nonneg p72).symm) (hlt := hl77) rfl rfl rfl rfl ?_
   refine hwp_nilT ?_
   refine x_one (i := 15) (by kernel_rfl) rfl ?_
   refine l_setE rfl h26 (a := a43) (vInt r54) hA76 rfl rfl (lt_of_get x71) fun w81 S82 h26 => ?_
   refine x_end (by kernel_rfl) ?_
   refine x_nil (by kernel_rfl) ?_
   refine ewp_region (o_mv rfl rfl ?_)
   obtain ⟨n83, e84, hf17⟩ := bs hf17
   have r85 := (chkI_rng e84)
   refine o_adE (he := e84) rfl rfl rfl ?_
   refine o_mv rfl rfl ?_
   obtain ⟨n86, e87, hf17⟩ := bs hf17
   have r88 := (chkI_rng e87)
   refine o_sbE (he := e87) rfl rfl rfl ?_
   refine o_as rfl rfl (o_as rfl rfl (o_z ?_))
   obtain rfl := sm hf17
   refine (?_ : Exists _)
   replace hB := (hB.st S68).st S82
   exact ⟨_, (), rfl, ⟨rfl, rfl, rfl, trivial⟩, _, hB, h26, r85, r88⟩
  ·
   replace hf17 := im hf17 c30
   refine o_z ?_
   refine ewp_false rfl (ewp_exit ?_)
   obtain rfl := sm hf17
   refine (?_ : Exists _)
   exact ⟨_, (), hbrk19 _ rfl, ⟨rfl, trivial⟩, _, hB, h26, r28, r29⟩
 rintro l89 w90 ⟨s93, x94, rfl, hs92, O91, hB, h26, r28, r29⟩
 replace hm := fin_done hm
 obtain rfl := sm hm
 obtain ⟨O', hS', hz, hl⟩ := hE.leave (fun q => if q = 2 then i0 else 0) rfl hB
 exact ret0n rfl  ⟨O', hS', (Rw.leave h26 hz (hl 2 (by decide) (by decide)) hx0.2.2)⟩
noncomputable def m_registry_Registry_Path (x0 : Reg) (x1 : Int) : Option ((List Int) × Err) :=
  bnd (m_registry_Registry_has x0 x1) fun q3 => if q3 = true then bnd (lop (ρ := (List Int) × Err) (fun (s14 : Int × (List Int)) => bnd (atI x0.entries s14.1) fun a48 => if a48.link.parent < 0 then (bnd (m_slices_Reverse_Lint_int s14.2) fun q74 => some (.ret (q74, (⟨0⟩ : Err)))) else (bnd (appI 8 s14.2 [a48.link.op]) fun u89 => if (x0.entries.length : Int) < (u89.length : Int) then (some (.ret (([] : List Int), (⟨21⟩ : Err)))) else (some (.next (a48.link.parent, u89))))) (x1, ([] : List Int))) fun res12 => fin res12 fun (_ : Int × (List Int)) => none else some (([] : List Int), (⟨1⟩ : Err))
theorem c_registry_Registry_Path {w : World} {O : Lab} {p0 i0 : Nat} {x0 : Reg} (hx0 : Ob i0 w O (.pointer (some ⟨p0, 0, none⟩)) x0) {x1 : Int} (rx1 : inI64 x1) {r : (List Int) × Err} (hm : m_registry_Registry_Path x0 x1 = some r) :
    Fn Try.prog 63 [(.pointer (some ⟨p0, 0, none⟩)), (.int .i64 x1)] w fun v w' => ∃ O', St (eT i0) w O w' O' ∧ ∃ v0 v1 : Value, Ob i0 w' O' (.pointer (some ⟨p0, 0, none⟩)) x0 ∧ v = .tuple #[v0, v1] ∧ Vb w' (Fr 0 w' O') v0 r.1 ∧ Vb w' (Fr 0 w' O') v1 r.2 := by
 obtain ⟨O0, hE, hz0, hl2⟩ := ent1 (w := w) (O := O) hx0.2
 have hx0' := Ob.leave hx0 hz0 hl2 (j := 2) (by decide)
 have hB : Bm w O0 w O0 := Bm.refl
 refine fn_enter Try.func63 rfl Try.ntmps63 rfl ?_
 unfold m_registry_Registry_Path at hm
 refine ewp_seq (ewp_region (o_as rfl rfl (o_as rfl rfl (o_z ?_))))
 refine ewp_seq (ewp_block (ewp_seq (ewp_region (o_mv rfl rfl (o_pn rfl rfl ?_)))))
 refine o_as rfl rfl (o_z ?_)
 refine ewp_false rfl (ewp_seq (ewp_region (o_mv rfl rfl (o_mv rfl rfl ?_))))
 obtain ⟨q3, e4, hm⟩ := bs hm
 refine l_callM (O := O0) (c_registry_Registry_has hx0' rx1 e4) rfl rfl fun v9 w5 O6 S7 h8 => ?_
 obtain ⟨h10, h11⟩ := h8
 obtain rfl := h11.bool
 cases q3
 case false =>
  replace hm := iF hm
  refine o_nf rfl rfl (o_as rfl rfl (o_z ?_))
  refine ewp_true rfl (ewp_seq (ewp_region (o_miE rfl rfl ?_)))
  refine o_as rfl rfl (o_as rfl rfl (o_z ?_))
  refine ewp_ret ?_
  obtain rfl := sm hm
  replace hB := hB.st S7
  obtain ⟨O', hS', hz, hl⟩ := hE.leave (fun q => if q = 2 then i0 else 0) rfl hB
  exact ret2 rfl (res_tmp rfl) (res_tmp rfl) ⟨O', hS', _, _, (Ob.leave h10 hz (hl 2 (by decide) (by decide)) hx0.2), rfl, (Vb.mono (Vb.nil _ _) hz), (vErr (by decide))⟩
 replace hm := iT hm
 refine o_nt rfl rfl (o_as rfl rfl (o_z ?_))
 refine ewp_false rfl (ewp_skip (ewp_seq (ewp_region (o_as rfl rfl (o_z ?_)))))
 obtain ⟨res12, hL13, hm⟩ := bs hm
 refine ewp_join (aft res12 (fun (s14 : Int × (List Int)) (x15 : (Option Addr × Nat)) => []) (fun s14 x15 w' => False)) ?_ ?_
 ·
  refine ewp_block ?_
  replace hB := hB.st S7
  refine ewp_lop (σ := Int × (List Int)) (X := (Option Addr × Nat)) hL13 (fun (s14 : Int × (List Int)) (x15 : (Option Addr × Nat)) => [(0, (.pointer (some ⟨p0, 0, none⟩))), (1, (.int .i64 s14.1)), (6, (.slice x15.1 s14.2.length x15.2))]) _ (fun s14 x15 w' => ∃ O' : Lab, Bm w O0 w' O' ∧ Ob 2 w' O' (.pointer (some ⟨p0, 0, none⟩)) x0 ∧ Rw 8 w' O' 3 (.slice x15.1 s14.2.length x15.2) s14.2 ∧ inI64 s14.1) _ (none, 0) ⟨O6, hB, h10, (Rw.nil 8 (by decide)), rx1⟩ ⟨rfl, rfl, rfl, trivial⟩ ?_
  rintro s14 x15 w18 cc20 ⟨O19, hB, h10, h31, r30⟩ hf22 hret23 hbrk24
  refine ewp_block (ewp_seq (ewp_region (o_mv rfl rfl (o_nc rfl rfl ?_))))
  obtain ⟨O33, v37, v40, v45, S34, ha36, h35, h38, h41, h46⟩ := Reg.opn h10 2 3 4 5 (by decide)
  obtain ⟨p39, rfl⟩ := h38.ptr
  obtain ⟨A42, c43, rfl⟩ := h41.form
  obtain ⟨p47, rfl⟩ := h46.mptr
  refine o_fa rfl rfl (o_ld (hc := Blk.cell (i := 1) (h35.1) rfl) rfl rfl ?_)
  refine o_mv rfl rfl ?_
  obtain ⟨a48, e49, hf22⟩ := bs hf22
  obtain ⟨p51, x50⟩ := atI_some' e49
  obtain ⟨b52, o53, ce54, hA55, hl56, hd57, v59, rfl, h60, r63, r64, r65⟩ := h41.elem x50
  obtain ⟨A61, c62, rfl⟩ := h60.form
  refine o_iaE (hA := hA55) (hj := (Int.toNat_of_nonneg p51).symm) (hlt := hl56) rfl rfl rfl ?_
  refine o_fa rfl rfl (o_la (hl := rfl) (hc := (cellsAt_part 1 3 hd57)) rfl rfl ?_)
  refine l_alloc 6 O33 rfl fun g66 w67 O68 S69 h70 => ?_
  refine l_store h70 rfl rfl rfl (Nat.le_of_ble_eq_true rfl) (by first | exact allOne rfl | simp [Value.cells, Value.oneCell', errV_one]) fun w71 S72 h70 => ?_
  replace h70 : Lc 6 w71 O68 g66 123 [(.int .i64 a48.link.parent), (.int .i64 a48.link.op), (.int .i64 a48.link.cost)] := h70
  refine o_z ?_
  refine ewp_seq (ewp_seq (ewp_region (o_fa rfl rfl (o_ld (hc := Blk.cell (i := 0) (h70.1) rfl) rfl rfl ?_))))
  refine o_ltS rfl rfl rfl (fun c73 => ?_) fun c73 => ?_
  ·
   replace hf22 := ip hf22 c73
   refine o_z ?_
   refine ewp_true rfl (ewp_seq (ewp_region (o_mv rfl rfl ?_)))
   obtain ⟨q74, e75, hf22⟩ := bs hf22
   replace h31 := ((h31.st S34).st S69).st S72
   refine l_callM (O := O68) (c_slices_Reverse_Lint_int h31 e75) rfl rfl fun v80 w76 O77 S78 h81 => ?_
   refine o_z ?_
   refine ewp_seq (ewp_region (o_mv rfl rfl (o_as rfl rfl (o_as rfl rfl (o_z ?_)))))
   refine ewp_ret ?_
   obtain ⟨O82, S83, h81⟩ := h81.freeze
   replace h35 := (((h35.st S69).st S72).st S78).st S83
   replace h38 := (((h38.st S69).st S72).st S78).st S83
   replace h41 := (((h41.st S69).st S72).st S78).st S83
   replace h46 := (((h46.st S69).st S72).st S78).st S83
   obtain ⟨O84, S85, hz87, ha88, h86⟩ := Reg.shut (x := x0) (l0 := 2) (l1 := 3) (l2 := 4) (l3 := 5) (by decide) h35 h38 h41 h46
   obtain rfl := sm hf22
   obtain rfl := hret23 _ rfl
   obtain rfl := sm (fin_ret hm)
   replace hB := (((((hB.st S34).st S69).st S72).st S78).st S83).st S85
   obtain ⟨O', hS', hz, hl⟩ := hE.leave (fun q => if q = 2 then i0 else 0) rfl hB
   replace h81 := h81.st S85
   exact ret2 rfl (res_tmp rfl) (res_tmp rfl) ⟨O', hS', _, _, (Ob.leave h86 hz (hl 2 (by decide) (by decide)) hx0.2), rfl, (Vb.mono h81 hz), (vErr (show inI64 0 from by decide))⟩
  ·
   replace hf22 := im hf22 c73
   refine o_z ?_
   refine ewp_false rfl (ewp_skip (ewp_seq (ewp_region (o_mv rfl rfl (o_fa rfl rfl (o_ld (hc := Blk.cell (i := 1) (h70.1) rfl) rfl rfl ?_))))))
   obtain ⟨u89, e90, hf22⟩ := bs hf22
   obtain ⟨e90, e91, e92⟩ := appI_some e90
   replace h31 := ((h31.st S34).st S69).st S72
   refine l_append1 rfl (a := a48.link.op) h31 (vInt r64) (fun _ => rfl) rfl (by decide) (by decide) e91 e92 ⟨rfl, rfl⟩ fun g93 A94 c95 w96 O97 S98 h99 => ?_
   rw [← e90] at h99 ⊢
   refine o_as rfl rfl (o_z ?_)
   refine ewp_seq (ewp_seq (ewp_region (o_mv rfl rfl (o_ln rfl rfl ?_))))
   have l102 : u89.length ≤ 9223372036854775807 := Nat.le_trans h99.len.2.1 h99.len.2.2
   have r101 : inI64 (u89.length : Int) := rngNat l102
   refine o_mv rfl rfl (o_nc rfl rfl (o_fa rfl rfl ?_))
   replace h35 := ((h35.st S69).st S72).st S98
   refine o_ld (hc := Blk.cell (i := 1) (h35.1) rfl) rfl rfl ?_
   refine o_ln rfl rfl ?_
   replace h41 := ((h41.st S69).st S72).st S98
   have l104 : x0.entries.length ≤ 9223372036854775807 := Nat.le_trans h41.len.2.1 h41.len.2.2
   have r103 : inI64 (x0.entries.length : Int) := rngNat l104
   refine o_gtS rfl rfl rfl (fun c105 => ?_) fun c105 => ?_
   ·
    replace hf22 := ip hf22 c105
    refine o_z ?_
    refine ewp_true rfl (ewp_seq (ewp_region (o_miE rfl rfl ?_)))
    refine o_as rfl rfl (o_as rfl rfl (o_z ?_))
    refine ewp_ret ?_
    replace h38 := ((h38.st S69).st S72).st S98
    replace h46 := ((h46.st S69).st S72).st S98
    obtain ⟨O106, S107, hz109, ha110, h108⟩ := Reg.shut (x := x0) (l0 := 2) (l1 := 3) (l2 := 4) (l3 := 5) (by decide) h35 h38 h41 h46
    obtain rfl := sm hf22
    obtain rfl := hret23 _ rfl
    obtain rfl := sm (fin_ret hm)
    replace hB := ((((hB.st S34).st S69).st S72).st S98).st S107
    obtain ⟨O', hS', hz, hl⟩ := hE.leave (fun q => if q = 2 then i0 else 0) rfl hB
    exact ret2 rfl (res_tmp rfl) (res_tmp rfl) ⟨O', hS', _, _, (Ob.leave h108 hz (hl 2 (by decide) (by decide)) hx0.2), rfl, (Vb.mono (Vb.nil _ _) hz), (vErr (by decide))⟩
   ·
    replace hf22 := im hf22 c105
    refine o_z ?_
    refine ewp_false rfl (ewp_skip (ewp_region (o_fa rfl rfl ?_)))
    replace h70 := h70.st S98
    refine o_ld (hc := Blk.cell (i := 0) (h70.1) rfl) rfl rfl ?_
    refine o_as rfl rfl (o_z ?_)
    replace h38 := ((h38.st S69).st S72).st S98
    replace h46 := ((h46.st S69).st S72).st S98
    obtain ⟨O111, S112, hz114, ha115, h113⟩ := Reg.shut (x := x0) (l0 := 2) (l1 := 3) (l2 := 4) (l3 := 5) (by decide) h35 h38 h41 h46
    obtain rfl := sm hf22
    refine (?_ : Exists _)
    replace hB := ((((hB.st S34).st S69).st S72).st S98).st S112
    replace h99 := h99.st S112
    exact ⟨_, (A94, c95), rfl, ⟨rfl, rfl, rfl, trivial⟩, _, hB, h113, h99, r63⟩
 rintro l116 w117 ⟨s120, x121, _, _, hE⟩
 exact hE.elim
end
end Go.Proofs.Ythomfnkaicjmbaa

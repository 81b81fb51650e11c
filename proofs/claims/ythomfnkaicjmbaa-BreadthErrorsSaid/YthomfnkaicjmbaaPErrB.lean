/- Own text: what the proof of breadthErrors_holds uses, part 2: rules, models and their proofs, plain laws. -/
import Derived.Test.YthomfnkaicjmbaaPErrA
namespace Go.Proofs.Ythomfnkaicjmbaa
open Go Go.RowKit
section
open Go Go.RowKit
/-- As wpAnyG, but what holds behind an operation depends on what has come up. -/
def wpAnyX (P : Program) (ops : Array Oper) (Q : Exit → Act → World → Prop) (S : Array Bool → World → Prop) : Nat → Array Bool → Act → World → Prop
  | 0, listed, a, w => Region.ready .any ops listed = [] ∧ Q .normal a w
  | fuel + 1, listed, a, w =>
    (Region.ready .any ops listed = [] → Q .normal a w) ∧
    ∀ i ∈ Region.ready .any ops listed, wpOp P ops Q i (fun a' w' => (isLast ops i = false → S (listed.setIfInBounds i true) w') ∧ wpAnyX P ops Q S fuel (listed.setIfInBounds i true) a' w') a w
theorem wpAny_of_X {P : Program} {ops : Array Oper} {Q : Exit → Act → World → Prop} {S : Array Bool → World → Prop} : ∀ (fuel : Nat) (listed : Array Bool) (a : Act) (w : World), wpAnyX P ops Q S fuel listed a w → wpAny P .any ops Q fuel listed a w
  | 0, _, _, _, h => h
  | fuel + 1, _, _, _, h => ⟨h.1, fun i hi => wpOp_mono (fun a' w' h' => wpAny_of_X fuel _ a' w' h'.2) (h.2 i hi)⟩
theorem wpAnyX_first {P : Program} {ops : Array Oper} {Q : Exit → Act → World → Prop} {S : Array Bool → World → Prop} {Si : World → Prop} {i : Nat} {oi : Oper} {v : Value} (hi : ops[i]? = some oi) (hsel : ∀ (j : Nat) (o : Oper) cs b, ops[j]? = some o → o.op ≠ .select cs b)
    (hQ : ∀ c a w, Q (.panic c) (a.put oi.dst v) w → Q (.panic c) a w) (hinv : ∀ listed w, S (listed.setIfInBounds i true) w → S listed w) (hinv' : ∀ listed w, S listed w → S (listed.setIfInBounds i true) w)
    (hSi : ∀ listed w, Closed ops listed → i ∈ Region.ready .any ops listed → S listed w → Si w) :
    ∀ (fuel : Nat) (listed : Array Bool) (a : Act) (w : World), Closed ops listed →
      (∀ j oj, ops[j]? = some oj → j ≠ i → listed.getD j true = false → (∀ e ∈ oj.after, Region.binds .any e = true → e.on ≠ i) → oi.apart ops oj = true) →
      i ∈ Region.ready .any ops listed → YieldsIf P ops Si oi v a → S listed w →
      wpAnyX P ops Q S fuel (listed.setIfInBounds i true) (a.put oi.dst v) w → wpAnyX P ops Q S (fuel + 1) listed a w := by
  intro fuel
  induction fuel with
  | zero =>
    intro listed a w hcl _ hr hy hS H
    refine ⟨fun h => (by rw [h] at hr; cases hr), fun j hj => ?_⟩
    by_cases hji : j = i
    · subst hji; exact hy.wpOp hi (hSi _ _ hcl hr hS) ⟨fun _ => hinv' _ _ hS, H⟩
    · have := ready_mono hj hji
      rw [H.1] at this
      cases this
  | succ fuel ih =>
    intro listed a w hcl hfree hr hy hS H
    refine ⟨fun h => (by rw [h] at hr; cases hr), fun j hj => ?_⟩
    by_cases hji : j = i
    · subst hji; exact hy.wpOp hi (hSi _ _ hcl hr hS) ⟨fun _ => hinv' _ _ hS, H⟩
    · have h1 := H.2 j (ready_mono hj hji)
      obtain ⟨hjun, oj, hoj, hall⟩ := mem_ready.1 hj
      have hnot : ∀ e ∈ oj.after, Region.binds .any e = true → e.on ≠ i := fun e he hb heq => by
        have h1 := hall e he hb
        have h0 := (mem_ready.1 hr).1
        rw [heq] at h1
        rcases Nat.lt_or_ge i listed.size with h' | h'
        · simp [h'] at h0 h1; rw [h0] at h1; cases h1
        · simp [Array.getElem?_eq_none h'] at h1
      have hap := hfree j oj hoj hji hjun hnot
      have hrj : i ∈ Region.ready .any ops (listed.setIfInBounds j true) := ready_mono hr (Ne.symm hji)
      have hil : i < ops.size := by
        rcases Nat.lt_or_ge i ops.size with h | h
        · exact h
        · rw [Array.getElem?_eq_none h] at hi; cases hi
      have hnl : isLast ops j = false := by
        cases hl : isLast ops j with
        | false => rfl
        | true =>
          exfalso
          have h4 := List.all_eq_true.1 hl i (List.mem_range.2 hil)
          rw [Bool.or_eq_true] at h4
          rcases h4 with h4 | h4
          · exact hji (by simpa using h4 : i = j).symm
          · have h5 := comesB_listed hcl ops.size j i oj hoj hall h4
            have h6 := (mem_ready.1 hr).1
            rcases Nat.lt_or_ge i listed.size with h' | h'
            · simp [h'] at h5 h6; rw [h6] at h5; cases h5
            · simp [Array.getElem?_eq_none h'] at h5
      have hfree' : ∀ k ok, ops[k]? = some ok → k ≠ i → (listed.setIfInBounds j true).getD k true = false →
          (∀ e ∈ ok.after, Region.binds .any e = true → e.on ≠ i) → oi.apart ops ok = true := fun k ok hk hki hun hno => by
        refine hfree k ok hk hki ?_ hno
        by_cases hjk : j = k
        · subst hjk; exact hjun
        · rw [getD_set_ne true hjk] at hun; exact hun
      have h2 := wpOp_putIf hoj hap (fun cs b => hsel i oi cs b hi) (fun cs b => hsel j oj cs b hoj) hQ hy h1
      refine wpOp_mono (fun a' w' h3 => ?_) h2
      have hS' : S (listed.setIfInBounds j true) w' := hinv _ _ (by
        have := h3.2.1 hnl
        rwa [Array.setIfInBounds_comm _ _ (Ne.symm hji)] at this)
      refine ⟨fun _ => hS', ih (listed.setIfInBounds j true) a' w' (hcl.set hj) hfree' hrj h3.1 hS' ?_⟩
      rw [Array.setIfInBounds_comm _ _ hji]
      exact h3.2.2
theorem wpAnyX_mono {P : Program} {ops : Array Oper} {Q : Exit → Act → World → Prop} {S S' : Array Bool → World → Prop} (P0 : Array Bool → Prop) (hP : ∀ listed i, P0 listed → P0 (listed.setIfInBounds i true)) (hS : ∀ listed w, P0 listed → S' listed w → S listed w) :
    ∀ (fuel : Nat) (listed : Array Bool) (a : Act) (w : World), P0 listed → wpAnyX P ops Q S' fuel listed a w → wpAnyX P ops Q S fuel listed a w
  | 0, _, _, _, _, h => h
  | fuel + 1, listed, _, _, hp, h => ⟨h.1, fun i hi => wpOp_mono (fun a' w' h' => ⟨fun hl => hS _ _ (hP _ i hp) (h'.1 hl), wpAnyX_mono P0 hP hS fuel _ a' w' (hP _ i hp) h'.2⟩) (h.2 i hi)⟩
/-- The labels that may have been touched, by what has come up. -/
def tcs (acts : List (Nat × List Nat)) (listed : Array Bool) : List Nat := (acts.filter fun p => listed.getD p.1 false).flatMap (·.2)
/-- The labels that may be touched before an operation. -/
def tci (ops : Array Oper) (acts : List (Nat × List Nat)) (i : Nat) : List Nat := (acts.filter fun p => !comesB ops ops.size p.1 i).flatMap (·.2)
def Sx (acts : List (Nat × List Nat)) (w0 : World) (O0 : Lab) (listed : Array Bool) (w : World) : Prop := ∃ d O', St (· ∈ tcs acts listed) w0 O0 (dr w d) O'
theorem St.mono {T T' : Nat → Prop} {w w' : World} {O O' : Lab} (h : St T w O w' O') (ht : ∀ i, T i → T' i) : St T' w O w' O' :=
  ⟨h.os, h.tape, h.output, h.size, fun k hk hn => h.same k hk fun e => hn (ht _ e)⟩
theorem St.lst {T : Nat → Prop} {w w' : World} {O O' : Lab} (h : St T w O w' O') (ls : List Nat) (ht : ∀ i, T i → i ∈ ls) : St (· ∈ ls) w O w' O' := h.mono ht
theorem St.cmp {T : Nat → Prop} {ls : List Nat} {w w' w'' : World} {O O' O'' : Lab} (h : St (· ∈ ls) w O w' O') (k : St T w' O' w'' O'') (ls' : List Nat) (ht : ∀ i, T i → i ∈ ls') (hl : (ls.all (ls'.contains ·)) = true) : St (· ∈ ls') w O w'' O'' :=
  St.comp (h.mono fun q hq => by simpa using List.all_eq_true.1 hl q hq) (k.mono ht) fun _ h => h
theorem tcs_inv {acts : List (Nat × List Nat)} {i : Nat} (hi : (acts.any (·.1 == i)) = false) (listed : Array Bool) : tcs acts (listed.setIfInBounds i true) = tcs acts listed := by
  unfold tcs
  congr 1
  apply List.filter_congr
  intro p hp
  have : p.1 ≠ i := fun e => by
    have h2 : (acts.any (·.1 == i)) = true := List.any_eq_true.2 ⟨p, hp, by simp [e]⟩
    rw [hi] at h2; cases h2
  exact getD_set_ne false (Ne.symm this)
theorem tcs_sub {ops : Array Oper} {acts : List (Nat × List Nat)} {i : Nat} {listed : Array Bool} (hb : (acts.all fun p => (ops[p.1]?).isSome) = true) (hcl : Closed ops listed) (hr : i ∈ Region.ready .any ops listed) : ∀ q, q ∈ tcs acts listed → q ∈ tci ops acts i := by
  intro q hq
  unfold tcs at hq
  unfold tci
  rw [List.mem_flatMap] at hq ⊢
  obtain ⟨p, hp, hq⟩ := hq
  rw [List.mem_filter] at hp
  refine ⟨p, List.mem_filter.2 ⟨hp.1, ?_⟩, hq⟩
  cases hc : comesB ops ops.size p.1 i with
  | false => rfl
  | true =>
    exfalso
    have hp2 := hp.2
    have hs := List.all_eq_true.1 hb p hp.1
    obtain ⟨o, ho⟩ := Option.isSome_iff_exists.1 hs
    have h5 := comesB_listed hcl ops.size p.1 i o ho (fun e he hbi => hcl p.1 o hp2 ho e he hbi) hc
    have h6 := (mem_ready.1 hr).1
    rcases Nat.lt_or_ge i listed.size with h' | h'
    · simp [h'] at h5 h6; rw [h6] at h5; cases h5
    · simp [Array.getElem?_eq_none h'] at h5
/-- The rest of a region, by what has come up so far. -/
def hwx (P : Program) (n : Nat) (ops : Array Oper) (Q : Post) (acts : List (Nat × List Nat)) (w0 : World) (O0 : Lab) (fuel : Nat) (listed : Array Bool) (l : Env) (w : World) : Prop :=
  Closed ops listed → ∀ a d, Ok n a l → wpAnyX P ops (lift n Q) (Sx acts w0 O0) fuel listed a (dr w d)
def loudX (P : Program) (n : Nat) (ops : Array Oper) (Q : Post) (acts : List (Nat × List Nat)) (w0 : World) (O0 : Lab) (i : Nat) (fuel : Nat) (listed : Array Bool) : Post
  | .normal, l, w => (isLast ops i = false → Sx acts w0 O0 (listed.setIfInBounds i true) w) ∧ hwx P n ops Q acts w0 O0 fuel (listed.setIfInBounds i true) l w
  | _, _, _ => False
abbrev SS (w0 : World) (O0 : Lab) (ls : List Nat) : World → Prop := fun w' => ∃ O', St (· ∈ ls) w0 O0 w' O'
theorem Sx.dr {acts : List (Nat × List Nat)} {w0 w : World} {O0 : Lab} {listed : Array Bool} (h : Sx acts w0 O0 listed w) (d : Nat) : Sx acts w0 O0 listed (dr w d) := by
  obtain ⟨e, O', h⟩ := h
  exact ⟨e, O', h⟩
theorem pre_soundX {P : Program} {ops : Array Oper} {Q Q' : Exit → Act → World → Prop} {acts : List (Nat × List Nat)} {w0 : World} {O0 : Lab} {fuel : Nat} (ls : List Nat) (hs : Region.noSelect ops = true) (hb : (acts.all fun p => (ops[p.1]?).isSome) = true) (hQ : ∀ c a w, ¬ Q (.panic c) a w) :
    ∀ (ord : List (Nat × Bool)) (listed : Array Bool) (a : Act) (w : World), Closed ops listed → ordPre ops listed ord = true → (ord.all fun p => (tci ops acts p.1).all (ls.contains ·) && !acts.any (·.1 == p.1)) = true → Sx acts w0 O0 listed w →
      (∀ a w, Closed ops (listAll listed ord) → Q' .normal a w → wpAnyX P ops Q (Sx acts w0 O0) fuel (listAll listed ord) a w) → wpOrd P ops Q' (fun w' => ∃ d', SS w0 O0 ls (dr w' d')) ord a w → wpAnyX P ops Q (Sx acts w0 O0) (ord.length + fuel) listed a w
  | [], listed, a, w, hcl, _, _, _, hk, h => by rw [List.length_nil, Nat.zero_add]; exact hk a w hcl h
  | (i, true) :: r, listed, a, w, hcl, hc, hl, hS, hk, h => by
    simp only [ordPre, Bool.and_eq_true] at hc
    rw [List.all_cons, Bool.and_eq_true, Bool.and_eq_true] at hl
    obtain ⟨o, v, ho, hy, hr⟩ := h
    have hi : i ∈ Region.ready .any ops listed := by simpa using hc.1
    have hna : (acts.any (·.1 == i)) = false := by simpa using hl.1.2
    have e1 : ∀ listed w, Sx acts w0 O0 (listed.setIfInBounds i true) w → Sx acts w0 O0 listed w := fun listed w h => by unfold Sx at *; rwa [tcs_inv hna] at h
    have e2 : ∀ listed w, Sx acts w0 O0 listed w → Sx acts w0 O0 (listed.setIfInBounds i true) w := fun listed w h => by unfold Sx at *; rwa [tcs_inv hna]
    have := wpAnyX_first ho (Region.noSelect_spec hs) (fun c a w hq => (hQ c _ _ hq).elim) e1 e2 (fun listed w hc hr ⟨d, O', hS⟩ => (⟨d, O', hS.mono fun q hq => by
        have := List.all_eq_true.1 hl.1.1 q (tcs_sub hb hc hr q hq)
        simpa using this⟩ : ∃ d', SS w0 O0 ls (Proofs.Ythomfnkaicjmbaa.dr w d'))) (r.length + fuel) listed a w hcl (Region.free_spec ho hc.2.1) hi hy hS (pre_soundX ls hs hb hQ r _ _ w (hcl.set hi) hc.2.2 hl.2 (e2 _ _ hS) hk hr)
    rwa [List.length_cons, show r.length + 1 + fuel = r.length + fuel + 1 from by omega]
  | (i, false) :: r, listed, a, w, hcl, hc, _, _, _, _ => by simp [ordPre] at hc
section
variable {P : Program} {n : Nat} {ops : Array Oper} {Q : Post} {acts : List (Nat × List Nat)} {w0 : World} {O0 : Lab} {l : Env} {w : World}
/-- Operations that only read come up: under what may be touched before them. -/
theorem x_pre0 {fuel tot : Nat} {listed : Array Bool} (ls : List Nat) (ord : List (Nat × Bool)) (hs : (Region.noSelect ops && (acts.all fun p => (ops[p.1]?).isSome) && ordPre ops listed ord && (ord.all fun p => (tci ops acts p.1).all (ls.contains ·) && !acts.any (·.1 == p.1))) = true) (hl : ord.length + fuel = tot)
    (h : hwp P n ops (thn (hwx P n ops Q acts w O0 fuel (listAll listed ord)) fun _ _ _ => False) (SS w O0 ls) ord l w) : hwx P n ops Q acts w O0 tot listed l w := fun hcl a e ha => by
  subst hl
  simp only [Bool.and_eq_true] at hs
  obtain ⟨⟨⟨h1, h2⟩, h3⟩, h4⟩ := hs
  refine pre_soundX (P := P) ls h1 h2 (Q := lift n Q) (fun c a w hq => hq.1) ord listed a (dr w e) hcl h3 (by simpa using h4) ⟨w.drawn, O0, St.refl _ _ _⟩ ?_ (h a e ha)
  rintro a' w' hcl' ⟨_, l', w₀, d', rfl, ho, hh⟩
  exact hh hcl' a' d' ho
theorem loudX_op {fuel i : Nat} {o : Oper} {listed : Array Bool} (hi : ops[i]? = some o) (hr : i ∈ Region.ready .any ops listed) (h : owp P n ops (loudX P n ops Q acts w0 O0 i fuel listed) [o] l w) (hcl : Closed ops listed) (a : Act) (e : Nat) (ha : Ok n a l) :
    wpOp P ops (lift n Q) i (fun a' w' => (isLast ops i = false → Sx acts w0 O0 (listed.setIfInBounds i true) w') ∧ wpAnyX P ops (lift n Q) (Sx acts w0 O0) fuel (listed.setIfInBounds i true) a' w') a (dr w e) := by
  have h1 := h a e ha
  unfold wpList at h1
  unfold wpOp
  simp only [hi]
  have conv : ∀ a' w', lift n (loudX P n ops Q acts w0 O0 i fuel listed) .normal a' w' → (isLast ops i = false → Sx acts w0 O0 (listed.setIfInBounds i true) w') ∧ wpAnyX P ops (lift n Q) (Sx acts w0 O0) fuel (listed.setIfInBounds i true) a' w' := by
    rintro a' w' ⟨_, l', w₀, d', rfl, ho, hS, hh⟩
    exact ⟨fun hl => (hS hl).dr d', hh (hcl.set hr) a' d' ho⟩
  have nope : ∀ e' a' w', lift n (loudX P n ops Q acts w0 O0 i fuel listed) e' a' w' → e' = .normal := by
    rintro e' a' w' ⟨hn, l', w₀, d', rfl, ho, hh⟩
    cases e' <;> first | rfl | exact hh.elim
  by_cases hw : Region.wanted o (yielded ops a.tmps) = true
  · rw [if_pos hw] at h1
    rw [if_pos hw]
    rcases h1 with h1 | ⟨h1, a0, w0, h2⟩
    · refine .inl ?_
      unfold Oper.wp at *
      generalize (execOp a.eval o).run P (dr w e) = res at *
      cases res with
      | ok nx w' =>
        cases nx <;> simp only [Oper.upon] at h1 ⊢ <;>
          first
            | exact conv _ _ h1
            | exact Calls.mono h1 (fun en w'' he => by
                cases en with
                | returned v => exact conv _ _ he
                | panicked c => exact absurd (nope _ _ _ he) (by simp)
                | outgrown => obtain ⟨a0, w0, hq⟩ := he; exact absurd (nope _ _ _ hq) (by simp))
            | exact Rows.mono h1 (fun _ _ he => conv _ _ he)
            | exact h1.elim
      | halt x w' => cases x <;> simp only [Oper.upon] at h1 ⊢ <;> first | exact h1.elim | exact absurd (nope _ _ _ h1) (by simp)
    · exact absurd (nope _ _ _ h2) (by simp)
  · rw [if_neg hw] at h1
    rw [if_neg hw]
    exact conv _ _ h1
theorem x_one {fuel i : Nat} {oi : Oper} {listed : Array Bool} (hr : Region.ready .any ops listed = [i]) (hi : ops[i]? = some oi) (h1 : owp P n ops (loudX P n ops Q acts w0 O0 i fuel listed) [oi] l w) : hwx P n ops Q acts w0 O0 (fuel + 1) listed l w := fun hcl a e ha => by
  refine ⟨fun h0 => by rw [hr] at h0; simp at h0, fun k hk => ?_⟩
  have hk' := hk
  rw [hr] at hk
  have : k = i := by simpa using hk
  subst this
  exact loudX_op hi hk' h1 hcl a e ha
theorem x_go {fuel i : Nat} {listed : Array Bool} {ls : List Nat} {O' : Lab} (acts' : List (Nat × List Nat)) (hZ : St (· ∈ ls) w0 O0 w O') (hs : (ls.all ((tcs acts (listed.setIfInBounds i true)).contains ·) && acts'.all (acts.contains ·)) = true) (h2 : hwx P n ops Q acts' w O' fuel (listed.setIfInBounds i true) l w) : owp P n ops (loudX P n ops Q acts w0 O0 i fuel listed) [] l w := by
  rw [Bool.and_eq_true] at hs
  have hls : ∀ q, q ∈ ls → q ∈ tcs acts (listed.setIfInBounds i true) := fun q hq => by simpa using List.all_eq_true.1 hs.1 q hq
  have hac : ∀ p, p ∈ acts' → p ∈ acts := fun q hq => by simpa using List.all_eq_true.1 hs.2 q hq
  refine owp_nil ⟨fun _ => ⟨w.drawn, O', hZ.mono hls⟩, fun hcl a d ha => ?_⟩
  refine wpAnyX_mono (fun listed' => ∀ j, (listed.setIfInBounds i true).getD j false = true → listed'.getD j false = true) (fun listed' k h j hj => getD_set_true (h j hj)) ?_ _ _ _ _ (fun j hj => hj) (h2 hcl a d ha)
  rintro listed' v hp ⟨e, O'', hS⟩
  refine ⟨e, O'', ((hZ.mono fun q hq => ?_).comp (hS.mono fun q hq => ?_) fun _ h => h : St (· ∈ tcs acts listed') w0 O0 _ O'')⟩
  · have := hls q hq
    unfold tcs at this ⊢
    rw [List.mem_flatMap] at this ⊢
    obtain ⟨p, h1, h3⟩ := this
    rw [List.mem_filter] at h1
    exact ⟨p, List.mem_filter.2 ⟨h1.1, hp _ h1.2⟩, h3⟩
  · unfold tcs at hq ⊢
    rw [List.mem_flatMap] at hq ⊢
    obtain ⟨p, h1, h3⟩ := hq
    rw [List.mem_filter] at h1
    exact ⟨p, List.mem_filter.2 ⟨hac _ h1.1, h1.2⟩, h3⟩
theorem x_end0 {fuel i : Nat} {listed : Array Bool} (hl : isLast ops i = true) (h2 : hwx P n ops Q acts w0 O0 fuel (listed.setIfInBounds i true) l w) : owp P n ops (loudX P n ops Q acts w0 O0 i fuel listed) [] l w := owp_nil ⟨(fun h => by rw [hl] at h; exact Bool.noConfusion h), h2⟩
theorem x_nil {listed : Array Bool} (hr : Region.ready .any ops listed = []) (h : Q .normal l w) : hwx P n ops Q acts w0 O0 0 listed l w := fun _ _ _ ha => ⟨hr, lift_mk trivial ha h⟩
/-- What comes before an operation in every order, as the bits of a number; each operation once. -/
def maskOf (ms : List Nat) (o : Oper) : Nat := o.after.toList.foldl (fun m e => if Region.binds .any e = true then m ||| (2 ^ e.on ||| ms.getD e.on 0) else m) 0
def masksFrom : List Oper → List Nat → List Nat
  | [], ms => ms
  | o :: r, ms => masksFrom r (ms ++ [maskOf ms o])
def bef (ops : Array Oper) (j k : Nat) : Bool := ((masksFrom ops.toList []).getD j 0).testBit k
theorem comesB_succ {ops : Array Oper} : ∀ (f j k : Nat), comesB ops f j k = true → comesB ops (f + 1) j k = true
  | 0, j, k, h => by simp [comesB] at h
  | f + 1, j, k, h => by
    rw [comesB] at h ⊢
    cases hj : ops[j]? with
    | none => rw [hj] at h; simp at h
    | some o =>
      rw [hj] at h
      simp only [Option.any_some, Array.any_eq_true'] at h ⊢
      obtain ⟨e, he, h⟩ := h
      refine ⟨e, he, ?_⟩
      simp only [Bool.and_eq_true, Bool.or_eq_true] at h ⊢
      refine ⟨h.1, h.2.imp id fun h => comesB_succ f e.on k h⟩
theorem comesB_le {ops : Array Oper} {f g j k : Nat} (h : comesB ops f j k = true) (hl : f ≤ g) : comesB ops g j k = true := by
  induction hl with
  | refl => exact h
  | step _ ih => exact comesB_succ _ _ _ ih
theorem mask_fold {ms : List Nat} {k : Nat} : ∀ (l : List Edge) (m : Nat), (l.foldl (fun m e => if Region.binds .any e = true then m ||| (2 ^ e.on ||| ms.getD e.on 0) else m) m).testBit k = true → m.testBit k = true ∨ ∃ e ∈ l, Region.binds .any e = true ∧ (e.on = k ∨ (ms.getD e.on 0).testBit k = true)
  | [], m, h => .inl h
  | e :: l, m, h => by
    rw [List.foldl_cons] at h
    rcases mask_fold l _ h with h | ⟨e', h1, h2⟩
    · by_cases hb : Region.binds .any e = true
      · rw [if_pos hb, Nat.testBit_or, Nat.testBit_or, Nat.testBit_two_pow, Bool.or_eq_true, Bool.or_eq_true] at h
        rcases h with h | h | h
        · exact .inl h
        · exact .inr ⟨e, List.mem_cons_self, hb, .inl (by simpa using h)⟩
        · exact .inr ⟨e, List.mem_cons_self, hb, .inr h⟩
      · rw [if_neg hb] at h; exact .inl h
    · exact .inr ⟨e', List.mem_cons_of_mem _ h1, h2⟩
theorem masks_ok {ops : Array Oper} : ∀ (rest pre : List Oper) (ms : List Nat), ops.toList = pre ++ rest → ms.length = pre.length → (∀ a k, (ms.getD a 0).testBit k = true → comesB ops (a + 1) a k = true) → (masksFrom rest ms).length = ops.size ∧ ∀ a k, ((masksFrom rest ms).getD a 0).testBit k = true → comesB ops (a + 1) a k = true
  | [], pre, ms, h1, h2, h3 => ⟨by rw [masksFrom, h2, ← Array.length_toList, h1, List.append_nil], h3⟩
  | o :: rest, pre, ms, h1, h2, h3 => by
    refine masks_ok rest (pre ++ [o]) (ms ++ [maskOf ms o]) (by rw [h1, List.append_assoc]; rfl) (by simp [h2]) fun a k hk => ?_
    by_cases ha : a < ms.length
    · rw [List.getD_eq_getElem?_getD, List.getElem?_append_left ha, ← List.getD_eq_getElem?_getD] at hk; exact h3 a k hk
    · by_cases ha2 : a = ms.length
      · subst ha2
        have : (ms ++ [maskOf ms o]).getD ms.length 0 = maskOf ms o := by simp
        rw [this] at hk
        rcases mask_fold _ _ hk with h | ⟨e, he, hb, h⟩
        · simp at h
        · have ho : ops[ms.length]? = some o := by rw [← Array.getElem?_toList, h1, h2]; simp
          rw [comesB, ho]
          simp only [Option.any_some, Array.any_eq_true', Bool.and_eq_true, Bool.or_eq_true]
          refine ⟨e, by simpa using he, hb, ?_⟩
          rcases h with h | h
          · exact .inl (by simpa using h)
          · have hlt : e.on < ms.length := by
              rcases Nat.lt_or_ge e.on ms.length with h' | h'
              · exact h'
              · rw [List.getD_eq_getElem?_getD, List.getElem?_eq_none h'] at h; simp at h
            exact .inr (comesB_le (h3 _ _ h) hlt)
      · rw [List.getD_eq_getElem?_getD, List.getElem?_eq_none (by simp; omega)] at hk; simp at hk
theorem bef_comes {ops : Array Oper} {j k : Nat} (h : bef ops j k = true) : comesB ops ops.size j k = true := by
  obtain ⟨h1, h2⟩ := masks_ok (ops := ops) ops.toList [] [] (by simp) rfl (fun a k h => by simp at h)
  refine comesB_le (h2 j k h) ?_
  rcases Nat.lt_or_ge j ops.size with h' | h'
  · exact h'
  · unfold bef at h
    rw [List.getD_eq_getElem?_getD, List.getElem?_eq_none (by omega)] at h; simp at h
theorem x_pre {fuel tot : Nat} {listed : Array Bool} (ls : List Nat) (ord : List (Nat × Bool)) (hs : (Region.noSelect ops && (acts.all fun p => (ops[p.1]?).isSome) && ordPre ops listed ord && (ord.all fun p => (acts.all fun q => q.2.all (ls.contains ·) || bef ops q.1 p.1) && !acts.any (·.1 == p.1))) = true) (hl : ord.length + fuel = tot)
    (h : hwp P n ops (thn (hwx P n ops Q acts w O0 fuel (listAll listed ord)) fun _ _ _ => False) (SS w O0 ls) ord l w) : hwx P n ops Q acts w O0 tot listed l w := by
  refine x_pre0 ls ord ?_ hl h
  simp only [Bool.and_eq_true] at hs ⊢
  refine ⟨hs.1, List.all_eq_true.2 fun p hp => ?_⟩
  have h1 := List.all_eq_true.1 hs.2 p hp
  rw [Bool.and_eq_true] at h1 ⊢
  refine ⟨List.all_eq_true.2 fun q hq => ?_, h1.2⟩
  unfold tci at hq
  rw [List.mem_flatMap] at hq
  obtain ⟨a, ha, hqa⟩ := hq
  rw [List.mem_filter] at ha
  have h2 := List.all_eq_true.1 h1.1 a ha.1
  rw [Bool.or_eq_true] at h2
  rcases h2 with h2 | h2
  · exact List.all_eq_true.1 h2 q hqa
  · have := ha.2; rw [bef_comes h2] at this; simp at this
theorem x_end {fuel i : Nat} {listed : Array Bool} (hl : ((List.range ops.size).all fun k => k == i || bef ops i k) = true) (h2 : hwx P n ops Q acts w0 O0 fuel (listed.setIfInBounds i true) l w) : owp P n ops (loudX P n ops Q acts w0 O0 i fuel listed) [] l w := by
  refine x_end0 ?_ h2
  refine List.all_eq_true.2 fun k hk => ?_
  have := List.all_eq_true.1 hl k hk
  rw [Bool.or_eq_true] at this ⊢
  exact this.imp id bef_comes
theorem ewp_drawX [hm : Mixed P] {id : Nat} {L : List Oper} (acts : List (Nat × List Nat)) (O : Lab) (h : hwx P n L.toArray Q acts w O L.toArray.size (Array.replicate L.toArray.size false) l w) : ewp P n (.region id L.toArray true) Q l w := fun a d ha =>
  wp_region_any hm.eq (wpAny_of_X _ _ _ _ (h (fun m om hm => by
      simp only [Array.getD_eq_getD_getElem?, Array.getElem?_replicate] at hm
      split at hm <;> simp at hm) a (d + 1) ha))
end
end
section
open Go Go.RowKit
/-- An error by its number; 0 is nil. -/
def errV (n : Int) : Value := if n = 0 then .nilIface else .iface 52 (.int .i64 n)
theorem errV_zero : errV 0 = .nilIface := by unfold errV; rfl
theorem errV_pos {n : Int} (h : n ≠ 0) : errV n = .iface 52 (.int .i64 n) := by unfold errV; rw [if_neg h]
theorem errV_one (n : Int) : (errV n).oneCell' = true := by unfold errV; split <;> rfl
structure Err where
  n : Int
instance : Rp Err where
  isAgg := false
  size := 1
  R _ _ cs x := cs = [errV x.n] ∧ inI64 x.n
  len := by rintro w F cs x ⟨rfl, _⟩; rfl
  one := by
    rintro w F cs x ⟨rfl, _⟩ u hu
    have : u = errV x.n := by simpa using hu
    subst this; exact errV_one _
  agree := fun h _ => h
  mono := fun h _ => h
theorem Vb.err {w : World} {F : Nat → Prop} {v : Value} {x : Err} (h : Vb w F v x) : v = errV x.n ∧ inI64 x.n := by
  obtain ⟨h1, h2⟩ := h
  exact ⟨by simpa using h1, h2⟩
theorem vErr {w : World} {F : Nat → Prop} {n : Int} (h : inI64 n) : Vb w F (errV n) (⟨n⟩ : Err) := ⟨rfl, h⟩
theorem vErr0 {w : World} {F : Nat → Prop} : Vb w F .nilIface (⟨0⟩ : Err) := ⟨by rw [errV_zero], by decide⟩
end
section
open Go Go.RowKit
section
variable {P : Program} {l : Env} {w : World} {dst : Option Tmp} {ty : TypeId} {pos : String} {aft : Array Edge}
theorem ev_chk_add {t u : TypeId} {x y : Operand} {a b c : Int} (hx : opv l x = some (.int .i64 a)) (hy : opv l y = some (.int .i64 b)) (he : chkI (a + b) = some c) : Ev P ⟨dst, .binOp .add t x y u, ty, pos, aft, none⟩ l w (.int .i64 c) := by
  obtain ⟨rfl, h⟩ := chkI_some he
  exact ev_add hx hy h
theorem ev_chk_sub {t u : TypeId} {x y : Operand} {a b c : Int} (hx : opv l x = some (.int .i64 a)) (hy : opv l y = some (.int .i64 b)) (he : chkI (a - b) = some c) : Ev P ⟨dst, .binOp .sub t x y u, ty, pos, aft, none⟩ l w (.int .i64 c) := by
  obtain ⟨rfl, h⟩ := chkI_some he
  exact ev_sub hx hy h
theorem ev_chk_mul {t u : TypeId} {x y : Operand} {a b c : Int} (hx : opv l x = some (.int .i64 a)) (hy : opv l y = some (.int .i64 b)) (he : chkI (a * b) = some c) : Ev P ⟨dst, .binOp .mul t x y u, ty, pos, aft, none⟩ l w (.int .i64 c) := by
  obtain ⟨rfl, h⟩ := chkI_some he
  exact ev_mul hx hy h
theorem ev_iaE {t e : TypeId} [TSlice P t e] {z : Value} {size bytes : Nat} [TInfo P e z size bytes] {x i : Operand} {k : IntKind} {A : Option Addr} {b o m c j : Nat} {q : Int} (hx : opv l x = some (.slice A m c)) (hq : opv l i = some (.int k q)) (hA : A = some ⟨b, o, none⟩) (hj : q = (j : Int)) (hlt : j < m) :
    Ev P ⟨dst, .indexAddr t x i, ty, pos, aft, none⟩ l w (.pointer (some ⟨b, o + j * size, none⟩)) := by
  subst hA
  exact ev_indexAddr hx hq hj hlt
theorem ev_faE {t : TypeId} {f off : Nat} [TField P t f off] {x : Operand} {p : Option Addr} {b o : Nat} (hx : opv l x = some (.pointer p)) (hA : p = some ⟨b, o, none⟩) : Ev P ⟨dst, .fieldAddr t x f, ty, pos, aft, none⟩ l w (.pointer (some ⟨b, o + off, none⟩)) := by
  subst hA
  exact ev_fieldAddr hx
theorem ev_ncE {x : Operand} {p : Option Addr} {ad : Addr} (hx : opv l x = some (.pointer p)) (hA : p = some ad) : Ev P ⟨dst, .nilCheck x, ty, pos, aft, none⟩ l w (.pointer p) := by
  subst hA
  exact ev_nilck hx
theorem ev_miE {x : Operand} {n : Int} [TInt P 52 .i64] (hx : opv l x = some (.int .i64 n)) (hn : n ≠ 0) : Ev P ⟨dst, .makeInterface 52 x, ty, pos, aft, none⟩ l w (errV n) := by
  rw [errV_pos hn]
  exact ev_mkiface hx
theorem ev_errE {t u : TypeId} [TIface P t] {x : Operand} {n : Int} (hx : opv l x = some (errV n)) : Ev P ⟨dst, .binOp .eql t x (.const .nilIface) u, ty, pos, aft, none⟩ l w (.bool (decide (n = 0))) := by
  by_cases h : n = 0
  · subst h
    rw [errV_zero] at hx
    exact ev_errnil hx
  · rw [errV_pos h] at hx
    simpa [h] using ev_errnil' (P := P) (w := w) (dst := dst) (ty := ty) (pos := pos) (aft := aft) (t := t) (u := u) hx
theorem ev_errN {t u : TypeId} [TIface P t] {x : Operand} {n : Int} (hx : opv l x = some (errV n)) : Ev P ⟨dst, .binOp .neq t x (.const .nilIface) u, ty, pos, aft, none⟩ l w (.bool (decide (n ≠ 0))) := by
  by_cases h : n = 0
  · subst h
    rw [errV_zero] at hx
    exact ev_errnnil hx
  · rw [errV_pos h] at hx
    simpa [h] using ev_errnnil' (P := P) (w := w) (dst := dst) (ty := ty) (pos := pos) (aft := aft) (t := t) (u := u) hx
end
section
variable {P : Program} {n : Nat} {ops : Array Oper} {Q : Post} {rest : List Oper} {l : Env} {w : World} {d : Tmp} {ty : TypeId} {pos : String} {aft : Array Edge}
theorem o_adE {t u : TypeId} {x y : Operand} {a b c : Int} (hx : opv l x = some (.int .i64 a)) (hy : opv l y = some (.int .i64 b)) (hd : Nat.blt d n = true) (h : owp P n ops Q rest ((d, .int .i64 c) :: l) w) (he : chkI (a + b) = some c := by assumption) : owp P n ops Q (⟨some d, .binOp .add t x y u, ty, pos, aft, none⟩ :: rest) l w := owp_ev (ev_chk_add hx hy he) hd h
theorem o_sbE {t u : TypeId} {x y : Operand} {a b c : Int} (hx : opv l x = some (.int .i64 a)) (hy : opv l y = some (.int .i64 b)) (hd : Nat.blt d n = true) (h : owp P n ops Q rest ((d, .int .i64 c) :: l) w) (he : chkI (a - b) = some c := by assumption) : owp P n ops Q (⟨some d, .binOp .sub t x y u, ty, pos, aft, none⟩ :: rest) l w := owp_ev (ev_chk_sub hx hy he) hd h
theorem o_mlE {t u : TypeId} {x y : Operand} {a b c : Int} (hx : opv l x = some (.int .i64 a)) (hy : opv l y = some (.int .i64 b)) (hd : Nat.blt d n = true) (h : owp P n ops Q rest ((d, .int .i64 c) :: l) w) (he : chkI (a * b) = some c := by assumption) : owp P n ops Q (⟨some d, .binOp .mul t x y u, ty, pos, aft, none⟩ :: rest) l w := owp_ev (ev_chk_mul hx hy he) hd h
theorem o_iaE {t e : TypeId} [TSlice P t e] {z : Value} {size bytes : Nat} [TInfo P e z size bytes] {x i : Operand} {k : IntKind} {A : Option Addr} {b o m c j : Nat} {q : Int} (hx : opv l x = some (.slice A m c)) (hq : opv l i = some (.int k q)) (hd : Nat.blt d n = true) (h : owp P n ops Q rest ((d, .pointer (some ⟨b, o + j * size, none⟩)) :: l) w) (hA : A = some ⟨b, o, none⟩ := by assumption) (hj : q = (j : Int) := by rfl) (hlt : j < m := by assumption) : owp P n ops Q (⟨some d, .indexAddr t x i, ty, pos, aft, none⟩ :: rest) l w := owp_ev (ev_iaE hx hq hA hj hlt) hd h
theorem o_faE {t : TypeId} {f off : Nat} [TField P t f off] {x : Operand} {p : Option Addr} {b o : Nat} (hx : opv l x = some (.pointer p)) (hd : Nat.blt d n = true) (h : owp P n ops Q rest ((d, .pointer (some ⟨b, o + off, none⟩)) :: l) w) (hA : p = some ⟨b, o, none⟩ := by assumption) : owp P n ops Q (⟨some d, .fieldAddr t x f, ty, pos, aft, none⟩ :: rest) l w := owp_ev (ev_faE hx hA) hd h
theorem o_ncE {x : Operand} {p : Option Addr} {ad : Addr} (hx : opv l x = some (.pointer p)) (hd : Nat.blt d n = true) (h : owp P n ops Q rest ((d, .pointer p) :: l) w) (hA : p = some ad := by assumption) : owp P n ops Q (⟨some d, .nilCheck x, ty, pos, aft, none⟩ :: rest) l w := owp_ev (ev_ncE hx hA) hd h
theorem o_cutH {t e : TypeId} [TSlice P t e] {z : Value} {size bytes : Nat} [TInfo P e z size bytes] {A A' : Option Addr} {m c m' c' : Nat} {q : Int} {k : IntKind} {x y : Operand} (hx : opv l x = some (.slice A m c)) (hy : opv l y = some (.int k q)) (hd : Nat.blt d n = true) (h : owp P n ops Q rest ((d, .slice A' m' c') :: l) w) (hc : CutB size A m c 0 q A' m' c' := by assumption) : owp P n ops Q (⟨some d, .slice t x none (some y) none, ty, pos, aft, none⟩ :: rest) l w := owp_ev (ev_cutH hx hy hc) hd h
theorem o_miE [TInt P 52 .i64] {x : Operand} {q : Int} (hx : opv l x = some (.int .i64 q)) (hd : Nat.blt d n = true) (h : owp P n ops Q rest ((d, errV q) :: l) w) (hn : q ≠ 0 := by decide) : owp P n ops Q (⟨some d, .makeInterface 52 x, ty, pos, aft, none⟩ :: rest) l w := owp_ev (ev_miE hx hn) hd h
theorem o_erS {t u : TypeId} [TIface P t] {x : Operand} {k : Int} (hx : opv l x = some (errV k)) (hd : Nat.blt d n = true) (ht : k = 0 → owp P n ops Q rest ((d, .bool true) :: l) w) (hf : ¬ (k = 0) → owp P n ops Q rest ((d, .bool false) :: l) w) : owp P n ops Q (⟨some d, .binOp .eql t x (.const .nilIface) u, ty, pos, aft, none⟩ :: rest) l w := owp_split (ev_errE hx) hd ht hf
theorem o_rnS {t u : TypeId} [TIface P t] {x : Operand} {k : Int} (hx : opv l x = some (errV k)) (hd : Nat.blt d n = true) (ht : k ≠ 0 → owp P n ops Q rest ((d, .bool true) :: l) w) (hf : ¬ (k ≠ 0) → owp P n ops Q rest ((d, .bool false) :: l) w) : owp P n ops Q (⟨some d, .binOp .neq t x (.const .nilIface) u, ty, pos, aft, none⟩ :: rest) l w := owp_split (ev_errN hx) hd ht hf
variable {S : World → Prop} {r : List (Nat × Bool)} {i : Nat}
theorem h_adE {t u : TypeId} {x y : Operand} {a b c : Int} (hi : ops[i]? = some ⟨some d, .binOp .add t x y u, ty, pos, aft, none⟩) (hx : opv l x = some (.int .i64 a)) (hy : opv l y = some (.int .i64 b)) (hd : Nat.blt d n = true) (h : hwp P n ops Q S r ((d, .int .i64 c) :: l) w) (he : chkI (a + b) = some c := by assumption) : hwp P n ops Q S ((i, true) :: r) l w := hwp_o hi (hwq_ev (fun _ _ => ev_chk_add hx hy he) hd h)
theorem h_sbE {t u : TypeId} {x y : Operand} {a b c : Int} (hi : ops[i]? = some ⟨some d, .binOp .sub t x y u, ty, pos, aft, none⟩) (hx : opv l x = some (.int .i64 a)) (hy : opv l y = some (.int .i64 b)) (hd : Nat.blt d n = true) (h : hwp P n ops Q S r ((d, .int .i64 c) :: l) w) (he : chkI (a - b) = some c := by assumption) : hwp P n ops Q S ((i, true) :: r) l w := hwp_o hi (hwq_ev (fun _ _ => ev_chk_sub hx hy he) hd h)
theorem h_iaE {t e : TypeId} [TSlice P t e] {z : Value} {size bytes : Nat} [TInfo P e z size bytes] {x i' : Operand} {k : IntKind} {A : Option Addr} {b o m c j : Nat} {q : Int} (hi : ops[i]? = some ⟨some d, .indexAddr t x i', ty, pos, aft, none⟩) (hx : opv l x = some (.slice A m c)) (hq : opv l i' = some (.int k q)) (hd : Nat.blt d n = true) (h : hwp P n ops Q S r ((d, .pointer (some ⟨b, o + j * size, none⟩)) :: l) w) (hA : A = some ⟨b, o, none⟩ := by assumption) (hj : q = (j : Int) := by rfl) (hlt : j < m := by assumption) : hwp P n ops Q S ((i, true) :: r) l w := hwp_o hi (hwq_ev (fun _ _ => ev_iaE hx hq hA hj hlt) hd h)
theorem g_iaE {t e : TypeId} [TSlice P t e] {z : Value} {size bytes : Nat} [TInfo P e z size bytes] {x i' : Operand} {k : IntKind} {A : Option Addr} {b o m c j : Nat} {q : Int} (hx : opv l x = some (.slice A m c)) (hq : opv l i' = some (.int k q)) (hd : Nat.blt d n = true) (h : hwp P n ops Q S r ((d, .pointer (some ⟨b, o + j * size, none⟩)) :: l) w) (hA : A = some ⟨b, o, none⟩ := by assumption) (hj : q = (j : Int) := by rfl) (hlt : j < m := by assumption) : hwq P n ops Q S ⟨some d, .indexAddr t x i', ty, pos, aft, none⟩ r l w := hwq_ev (fun _ _ => ev_iaE hx hq hA hj hlt) hd h
end
end
section
open Go Go.RowKit
abbrev U64 := BitVec 64
instance : Rp U64 where
  isAgg := false
  size := 1
  R _ _ cs x := cs = [.int .u64 (x.toNat : Int)]
  len := by rintro w F cs x rfl; rfl
  one := by
    rintro w F cs x rfl u hu
    have : u = .int .u64 (x.toNat : Int) := by simpa using hu
    subst this; rfl
  agree := fun h _ => h
  mono := fun h _ => h
theorem Vb.u64 {w : World} {F : Nat → Prop} {v : Value} {x : U64} (h : Vb w F v x) : v = .int .u64 (x.toNat : Int) := by
  have : [v] = [.int .u64 (x.toNat : Int)] := h
  simpa using this
theorem vU64 {w : World} {F : Nat → Prop} {x : U64} : Vb w F (.int .u64 (x.toNat : Int)) x := rfl
theorem wrapU (a : Int) : IntKind.u64.wrap a = a % 18446744073709551616 := by simp [IntKind.wrap, IntKind.bits, IntKind.signed]
theorem wrapN (x : BitVec 64) : IntKind.u64.wrap (x.toNat : Int) = (x.toNat : Int) := by
  rw [wrapU]
  have := x.isLt
  omega
theorem ofIntU (x : U64) : BitVec.ofInt 64 (x.toNat : Int) = x := by simp
def shlU (a : U64) (q : Int) : Option U64 := if 0 ≤ q then some (a <<< q.toNat) else none
def shrU (a : U64) (q : Int) : Option U64 := if 0 ≤ q then some (a >>> q.toNat) else none
def shlI (a q : Int) : Option Int := if 0 ≤ q then some (wr (a * 2 ^ (min q.toNat 64))) else none
theorem shlI_rng {a q c : Int} (h : shlI a q = some c) : inI64 c := by
  unfold shlI at h
  split at h
  · rw [← sm h]; exact wr_rng _
  · cases h
theorem toIntR (a : U64) : inI64 a.toInt := by
  have h1 := BitVec.toInt_lt (x := a)
  have h2 := BitVec.le_toInt (x := a)
  simp at h1 h2
  exact ⟨by omega, by omega⟩
section
variable {P : Program} {l : Env} {w : World} {dst : Option Tmp} {ty : TypeId} {pos : String} {aft : Array Edge}
theorem ev_uan {t u : TypeId} {x y : Operand} {a b : U64} (hx : opv l x = some (.int .u64 (a.toNat : Int))) (hy : opv l y = some (.int .u64 (b.toNat : Int))) : Ev P ⟨dst, .binOp .and t x y u, ty, pos, aft, none⟩ l w (.int .u64 ((a &&& b).toNat : Int)) := fun _ _ d ha => by
  have h := wrapN (a &&& b)
  have h1 : (BitVec.ofInt IntKind.u64.bits (a.toNat : Int)) = a := ofIntU a
  have h2 : (BitVec.ofInt IntKind.u64.bits (b.toNat : Int)) = b := ofIntU b
  simp only [execOp, ha.eval hx, ha.eval hy, eqGuard, binOp, Op.intBits, h1, h2]
  simp
  exact h.trans (by simp)
theorem ev_uor {t u : TypeId} {x y : Operand} {a b : U64} (hx : opv l x = some (.int .u64 (a.toNat : Int))) (hy : opv l y = some (.int .u64 (b.toNat : Int))) : Ev P ⟨dst, .binOp .or t x y u, ty, pos, aft, none⟩ l w (.int .u64 ((a ||| b).toNat : Int)) := fun _ _ d ha => by
  have h := wrapN (a ||| b)
  have h1 : (BitVec.ofInt IntKind.u64.bits (a.toNat : Int)) = a := ofIntU a
  have h2 : (BitVec.ofInt IntKind.u64.bits (b.toNat : Int)) = b := ofIntU b
  simp only [execOp, ha.eval hx, ha.eval hy, eqGuard, binOp, Op.intBits, h1, h2]
  simp
  exact h.trans (by simp)
theorem ev_uxo {t u : TypeId} {x y : Operand} {a b : U64} (hx : opv l x = some (.int .u64 (a.toNat : Int))) (hy : opv l y = some (.int .u64 (b.toNat : Int))) : Ev P ⟨dst, .binOp .xor t x y u, ty, pos, aft, none⟩ l w (.int .u64 ((a ^^^ b).toNat : Int)) := fun _ _ d ha => by
  have h := wrapN (a ^^^ b)
  have h1 : (BitVec.ofInt IntKind.u64.bits (a.toNat : Int)) = a := ofIntU a
  have h2 : (BitVec.ofInt IntKind.u64.bits (b.toNat : Int)) = b := ofIntU b
  simp only [execOp, ha.eval hx, ha.eval hy, eqGuard, binOp, Op.intBits, h1, h2]
  simp
  exact h.trans (by simp)
theorem ev_uns {t u : TypeId} {x y : Operand} {a b : U64} (hx : opv l x = some (.int .u64 (a.toNat : Int))) (hy : opv l y = some (.int .u64 (b.toNat : Int))) : Ev P ⟨dst, .binOp .andNot t x y u, ty, pos, aft, none⟩ l w (.int .u64 ((a &&& ~~~b).toNat : Int)) := fun _ _ d ha => by
  have h := wrapN (a &&& ~~~b)
  have h1 : (BitVec.ofInt IntKind.u64.bits (a.toNat : Int)) = a := ofIntU a
  have h2 : (BitVec.ofInt IntKind.u64.bits (b.toNat : Int)) = b := ofIntU b
  simp only [execOp, ha.eval hx, ha.eval hy, eqGuard, binOp, Op.intBits, h1, h2]
  simp
  exact h.trans (by simp)
theorem ev_uad {t u : TypeId} {x y : Operand} {a b : U64} (hx : opv l x = some (.int .u64 (a.toNat : Int))) (hy : opv l y = some (.int .u64 (b.toNat : Int))) : Ev P ⟨dst, .binOp .add t x y u, ty, pos, aft, none⟩ l w (.int .u64 ((a + b).toNat : Int)) := fun _ _ d ha => by
  have h : IntKind.u64.wrap ((a.toNat : Int) + (b.toNat : Int)) = ((a + b).toNat : Int) := by
    rw [wrapU]
    have h1 := a.isLt
    have h2 := b.isLt
    rw [BitVec.toNat_add]; omega
  simp [execOp, ha.eval hx, ha.eval hy, eqGuard, binOp, Op.intArith, h]
theorem ev_usb {t u : TypeId} {x y : Operand} {a b : U64} (hx : opv l x = some (.int .u64 (a.toNat : Int))) (hy : opv l y = some (.int .u64 (b.toNat : Int))) : Ev P ⟨dst, .binOp .sub t x y u, ty, pos, aft, none⟩ l w (.int .u64 ((a - b).toNat : Int)) := fun _ _ d ha => by
  have h : IntKind.u64.wrap ((a.toNat : Int) - (b.toNat : Int)) = ((a - b).toNat : Int) := by
    rw [wrapU]
    have h1 := a.isLt
    have h2 := b.isLt
    rw [BitVec.toNat_sub]; omega
  simp [execOp, ha.eval hx, ha.eval hy, eqGuard, binOp, Op.intArith, h]
theorem ev_uml {t u : TypeId} {x y : Operand} {a b : U64} (hx : opv l x = some (.int .u64 (a.toNat : Int))) (hy : opv l y = some (.int .u64 (b.toNat : Int))) : Ev P ⟨dst, .binOp .mul t x y u, ty, pos, aft, none⟩ l w (.int .u64 ((a * b).toNat : Int)) := fun _ _ d ha => by
  have h : IntKind.u64.wrap ((a.toNat : Int) * (b.toNat : Int)) = ((a * b).toNat : Int) := by
    rw [wrapU]
    have h1 := a.isLt
    have h2 := b.isLt
    rw [BitVec.toNat_mul, Int.natCast_emod, Int.natCast_mul]; rfl
  simp [execOp, ha.eval hx, ha.eval hy, eqGuard, binOp, Op.intArith, h]
theorem ev_ush {t u : TypeId} {x y : Operand} {a c : U64} {q : Int} {k : IntKind} (hx : opv l x = some (.int .u64 (a.toNat : Int))) (hy : opv l y = some (.int k q)) (he : shlU a q = some c) : Ev P ⟨dst, .binOp .shl t x y u, ty, pos, aft, none⟩ l w (.int .u64 (c.toNat : Int)) := fun _ _ d ha => by
  unfold shlU at he
  split at he
  · rename_i hq
    have hc := sm he
    subst hc
    have h : IntKind.u64.wrap ((a.toNat : Int) * 2 ^ (min q.toNat IntKind.u64.bits)) = ((a <<< q.toNat).toNat : Int) := by
      rw [wrapU, BitVec.toNat_shiftLeft, Nat.shiftLeft_eq]
      show (a.toNat : Int) * 2 ^ (min q.toNat 64) % 18446744073709551616 = ((a.toNat * 2 ^ q.toNat % 18446744073709551616 : Nat) : Int)
      by_cases hk : q.toNat ≤ 64
      · rw [Nat.min_eq_left hk, Int.natCast_emod, Int.natCast_mul, Int.natCast_pow]; rfl
      · have hb : q.toNat = 64 + (q.toNat - 64) := by omega
        rw [Nat.min_eq_right (by omega), hb, Nat.pow_add]
        have e1 : a.toNat * (2 ^ 64 * 2 ^ (q.toNat - 64)) % 18446744073709551616 = 0 := by
          rw [← Nat.mul_assoc, Nat.mul_right_comm]
          exact Nat.mul_mod_left _ _
        have e2 : (a.toNat : Int) * 2 ^ 64 % 18446744073709551616 = 0 := Int.mul_emod_left _ _
        rw [e1, e2]; rfl
    have hn : ¬ q < 0 := by omega
    simp [execOp, ha.eval hx, ha.eval hy, eqGuard, binOp, Op.shift, hn, h]
  · cases he
theorem ev_usr {t u : TypeId} {x y : Operand} {a c : U64} {q : Int} {k : IntKind} (hx : opv l x = some (.int .u64 (a.toNat : Int))) (hy : opv l y = some (.int k q)) (he : shrU a q = some c) : Ev P ⟨dst, .binOp .shr t x y u, ty, pos, aft, none⟩ l w (.int .u64 (c.toNat : Int)) := fun _ _ d ha => by
  unfold shrU at he
  split at he
  · rename_i hq
    have hc := sm he
    subst hc
    have h : (a.toNat : Int).fdiv (2 ^ (min q.toNat IntKind.u64.bits)) = ((a >>> q.toNat).toNat : Int) := by
      rw [BitVec.toNat_ushiftRight, Nat.shiftRight_eq_div_pow]
      show (a.toNat : Int).fdiv (2 ^ (min q.toNat 64)) = _
      have hl := a.isLt
      rw [Int.fdiv_eq_ediv_of_nonneg _ (by exact_mod_cast Nat.zero_le (2 ^ (min q.toNat 64)))]
      by_cases hk : q.toNat ≤ 64
      · rw [Nat.min_eq_left hk, Int.natCast_ediv, Int.natCast_pow]; rfl
      · rw [Nat.min_eq_right (by omega)]
        have e1 : a.toNat / 2 ^ q.toNat = 0 := Nat.div_eq_of_lt (Nat.lt_of_lt_of_le hl (Nat.pow_le_pow_right (by decide) (by omega)))
        rw [e1]
        omega
    have hn : ¬ q < 0 := by omega
    simp [execOp, ha.eval hx, ha.eval hy, eqGuard, binOp, Op.shift, hn, h]
  · cases he
theorem ev_ish {t u : TypeId} {x y : Operand} {a c q : Int} (hx : opv l x = some (.int .i64 a)) (hy : opv l y = some (.int .i64 q)) (he : shlI a q = some c) : Ev P ⟨dst, .binOp .shl t x y u, ty, pos, aft, none⟩ l w (.int .i64 c) := fun _ _ d ha => by
  unfold shlI at he
  split at he
  · rename_i hq
    have hc := sm he
    subst hc
    have hn : ¬ q < 0 := by omega
    simp [execOp, ha.eval hx, ha.eval hy, eqGuard, binOp, Op.shift, hn, wr, IntKind.bits]
  · cases he
theorem ev_cvU {s t : TypeId} {k : IntKind} [hs : TInt P s k] [ht : TInt P t .u64] {x : Operand} {a : Int} (hx : opv l x = some (.int k a)) : Ev P ⟨dst, .convert s t x, ty, pos, aft, none⟩ l w (.int .u64 ((BitVec.ofInt 64 a).toNat : Int)) := fun _ _ d ha => by
  have h : IntKind.u64.wrap a = ((BitVec.ofInt 64 a).toNat : Int) := by
    rw [wrapU, BitVec.toNat_ofInt]
    have : (0 : Int) ≤ a % 18446744073709551616 := by omega
    simp
    omega
  simp [execOp, ha.eval hx, convert, run_underlying hs.eq, run_underlying ht.eq, Conv.intToInt, h]
theorem ev_cvI {s t : TypeId} [hs : TInt P s .u64] [ht : TInt P t .i64] {x : Operand} {a : U64} (hx : opv l x = some (.int .u64 (a.toNat : Int))) : Ev P ⟨dst, .convert s t x, ty, pos, aft, none⟩ l w (.int .i64 a.toInt) := fun _ _ d ha => by
  have h : IntKind.i64.wrap (a.toNat : Int) = a.toInt := by
    rw [IntKind.wrap_i64, BitVec.toInt_eq_toNat_cond]
    have := a.isLt
    split <;> omega
  simp [execOp, ha.eval hx, convert, run_underlying hs.eq, run_underlying ht.eq, Conv.intToInt, h]
end
section
variable {P : Program} {n : Nat} {ops : Array Oper} {Q : Post} {rest : List Oper} {l : Env} {w : World} {d : Tmp} {ty : TypeId} {pos : String} {aft : Array Edge}
theorem o_uxo {t u : TypeId} {x y : Operand} {a b : U64} (hx : opv l x = some (.int .u64 (a.toNat : Int))) (hy : opv l y = some (.int .u64 (b.toNat : Int))) (hd : Nat.blt d n = true) (h : owp P n ops Q rest ((d, .int .u64 ((a ^^^ b).toNat : Int)) :: l) w)  : owp P n ops Q (⟨some d, .binOp .xor t x y u, ty, pos, aft, none⟩ :: rest) l w := owp_ev (ev_uxo hx hy) hd h
theorem o_uad {t u : TypeId} {x y : Operand} {a b : U64} (hx : opv l x = some (.int .u64 (a.toNat : Int))) (hy : opv l y = some (.int .u64 (b.toNat : Int))) (hd : Nat.blt d n = true) (h : owp P n ops Q rest ((d, .int .u64 ((a + b).toNat : Int)) :: l) w)  : owp P n ops Q (⟨some d, .binOp .add t x y u, ty, pos, aft, none⟩ :: rest) l w := owp_ev (ev_uad hx hy) hd h
theorem o_uml {t u : TypeId} {x y : Operand} {a b : U64} (hx : opv l x = some (.int .u64 (a.toNat : Int))) (hy : opv l y = some (.int .u64 (b.toNat : Int))) (hd : Nat.blt d n = true) (h : owp P n ops Q rest ((d, .int .u64 ((a * b).toNat : Int)) :: l) w)  : owp P n ops Q (⟨some d, .binOp .mul t x y u, ty, pos, aft, none⟩ :: rest) l w := owp_ev (ev_uml hx hy) hd h
theorem o_usr {t u : TypeId} {x y : Operand} {a c : U64} {q : Int} {k : IntKind} (hx : opv l x = some (.int .u64 (a.toNat : Int))) (hy : opv l y = some (.int k q)) (hd : Nat.blt d n = true) (h : owp P n ops Q rest ((d, .int .u64 (c.toNat : Int)) :: l) w) (he : shrU a q = some c := by assumption) : owp P n ops Q (⟨some d, .binOp .shr t x y u, ty, pos, aft, none⟩ :: rest) l w := owp_ev (ev_usr hx hy he) hd h
theorem o_ish {t u : TypeId} {x y : Operand} {a c q : Int} (hx : opv l x = some (.int .i64 a)) (hy : opv l y = some (.int .i64 q)) (hd : Nat.blt d n = true) (h : owp P n ops Q rest ((d, .int .i64 c) :: l) w) (he : shlI a q = some c := by assumption) : owp P n ops Q (⟨some d, .binOp .shl t x y u, ty, pos, aft, none⟩ :: rest) l w := owp_ev (ev_ish hx hy he) hd h
theorem o_cvU {s t : TypeId} {k : IntKind} [TInt P s k] [TInt P t .u64] {x : Operand} {a : Int} (hx : opv l x = some (.int k a)) (hd : Nat.blt d n = true) (h : owp P n ops Q rest ((d, .int .u64 ((BitVec.ofInt 64 a).toNat : Int)) :: l) w)  : owp P n ops Q (⟨some d, .convert s t x, ty, pos, aft, none⟩ :: rest) l w := owp_ev (ev_cvU hx) hd h
theorem o_cvI {s t : TypeId} [TInt P s .u64] [TInt P t .i64] {x : Operand} {a : U64} (hx : opv l x = some (.int .u64 (a.toNat : Int))) (hd : Nat.blt d n = true) (h : owp P n ops Q rest ((d, .int .i64 a.toInt) :: l) w)  : owp P n ops Q (⟨some d, .convert s t x, ty, pos, aft, none⟩ :: rest) l w := owp_ev (ev_cvI hx) hd h
variable {S : World → Prop} {r : List (Nat × Bool)} {i : Nat}
theorem h_uan {t u : TypeId} {x y : Operand} {a b : U64} (hi : ops[i]? = some ⟨some d, .binOp .and t x y u, ty, pos, aft, none⟩) (hx : opv l x = some (.int .u64 (a.toNat : Int))) (hy : opv l y = some (.int .u64 (b.toNat : Int))) (hd : Nat.blt d n = true) (h : hwp P n ops Q S r ((d, .int .u64 ((a &&& b).toNat : Int)) :: l) w)  : hwp P n ops Q S ((i, true) :: r) l w := hwp_o hi (hwq_ev (fun _ _ => ev_uan hx hy) hd h)
theorem h_uor {t u : TypeId} {x y : Operand} {a b : U64} (hi : ops[i]? = some ⟨some d, .binOp .or t x y u, ty, pos, aft, none⟩) (hx : opv l x = some (.int .u64 (a.toNat : Int))) (hy : opv l y = some (.int .u64 (b.toNat : Int))) (hd : Nat.blt d n = true) (h : hwp P n ops Q S r ((d, .int .u64 ((a ||| b).toNat : Int)) :: l) w)  : hwp P n ops Q S ((i, true) :: r) l w := hwp_o hi (hwq_ev (fun _ _ => ev_uor hx hy) hd h)
theorem h_uns {t u : TypeId} {x y : Operand} {a b : U64} (hi : ops[i]? = some ⟨some d, .binOp .andNot t x y u, ty, pos, aft, none⟩) (hx : opv l x = some (.int .u64 (a.toNat : Int))) (hy : opv l y = some (.int .u64 (b.toNat : Int))) (hd : Nat.blt d n = true) (h : hwp P n ops Q S r ((d, .int .u64 ((a &&& ~~~b).toNat : Int)) :: l) w)  : hwp P n ops Q S ((i, true) :: r) l w := hwp_o hi (hwq_ev (fun _ _ => ev_uns hx hy) hd h)
theorem h_usb {t u : TypeId} {x y : Operand} {a b : U64} (hi : ops[i]? = some ⟨some d, .binOp .sub t x y u, ty, pos, aft, none⟩) (hx : opv l x = some (.int .u64 (a.toNat : Int))) (hy : opv l y = some (.int .u64 (b.toNat : Int))) (hd : Nat.blt d n = true) (h : hwp P n ops Q S r ((d, .int .u64 ((a - b).toNat : Int)) :: l) w)  : hwp P n ops Q S ((i, true) :: r) l w := hwp_o hi (hwq_ev (fun _ _ => ev_usb hx hy) hd h)
theorem h_ush {t u : TypeId} {x y : Operand} {a c : U64} {q : Int} {k : IntKind} (hi : ops[i]? = some ⟨some d, .binOp .shl t x y u, ty, pos, aft, none⟩) (hx : opv l x = some (.int .u64 (a.toNat : Int))) (hy : opv l y = some (.int k q)) (hd : Nat.blt d n = true) (h : hwp P n ops Q S r ((d, .int .u64 (c.toNat : Int)) :: l) w) (he : shlU a q = some c := by assumption) : hwp P n ops Q S ((i, true) :: r) l w := hwp_o hi (hwq_ev (fun _ _ => ev_ush hx hy he) hd h)
theorem h_usr {t u : TypeId} {x y : Operand} {a c : U64} {q : Int} {k : IntKind} (hi : ops[i]? = some ⟨some d, .binOp .shr t x y u, ty, pos, aft, none⟩) (hx : opv l x = some (.int .u64 (a.toNat : Int))) (hy : opv l y = some (.int k q)) (hd : Nat.blt d n = true) (h : hwp P n ops Q S r ((d, .int .u64 (c.toNat : Int)) :: l) w) (he : shrU a q = some c := by assumption) : hwp P n ops Q S ((i, true) :: r) l w := hwp_o hi (hwq_ev (fun _ _ => ev_usr hx hy he) hd h)
theorem h_cvU {s t : TypeId} {k : IntKind} [TInt P s k] [TInt P t .u64] {x : Operand} {a : Int} (hi : ops[i]? = some ⟨some d, .convert s t x, ty, pos, aft, none⟩) (hx : opv l x = some (.int k a)) (hd : Nat.blt d n = true) (h : hwp P n ops Q S r ((d, .int .u64 ((BitVec.ofInt 64 a).toNat : Int)) :: l) w)  : hwp P n ops Q S ((i, true) :: r) l w := hwp_o hi (hwq_ev (fun _ _ => ev_cvU hx) hd h)
theorem h_cvI {s t : TypeId} [TInt P s .u64] [TInt P t .i64] {x : Operand} {a : U64} (hi : ops[i]? = some ⟨some d, .convert s t x, ty, pos, aft, none⟩) (hx : opv l x = some (.int .u64 (a.toNat : Int))) (hd : Nat.blt d n = true) (h : hwp P n ops Q S r ((d, .int .i64 a.toInt) :: l) w)  : hwp P n ops Q S ((i, true) :: r) l w := hwp_o hi (hwq_ev (fun _ _ => ev_cvI hx) hd h)
end
end
section
open Go Go.RowKit
/-- A type that is no interface. -/
class TCon (P : Program) (t : TypeId) : Prop where eq : ∃ d, P.underlying t = some d ∧ (match d with | .interface _ => false | _ => true) = true
instance {P : Program} {t e : TypeId} [h : TPtr P t e] : TCon P t := ⟨⟨_, h.eq, rfl⟩⟩
instance {P : Program} {t : TypeId} [h : TAgg P t] : TCon P t := ⟨by obtain ⟨d, h1, h2⟩ := h.eq; exact ⟨d, h1, by cases d <;> first | rfl | cases h2⟩⟩
/-- A method of a type: its function, and whether it asks for the pointer. -/
class TMth (P : Program) (t : TypeId) (name : String) (f : outParam FuncId) (b : outParam Bool) : Prop where
  eq : ((P.info? t).bind fun i => i.methods.find? (·.name == name)).map (fun m => (m.path.toList, m.func)) = some ([], some (f, b))
def Mth (P : Program) (t : TypeId) (v : Value) (name : String) (w : World) (f : FuncId) (r : Value) : Prop := ∀ d, (method (P.types.size + Made.depth) t v name).run P (dr w d) = .ok (f, r) (dr w d)
section
variable {P : Program} {t e : TypeId} {name : String} {f : FuncId} {w : World}
theorem TMth.row {b : Bool} (h : TMth P t name f b) : ∃ i m, P.info? t = some i ∧ i.methods.find? (·.name == name) = some m ∧ m.path.toList = [] ∧ m.func = some (f, b) := by
  obtain ⟨m, h1, h2⟩ := Option.map_eq_some_iff.1 h.eq
  obtain ⟨i, h3, h4⟩ := Option.bind_eq_some_iff.1 h1
  injection h2 with h5 h6
  exact ⟨i, m, h3, h4, h5, h6⟩
theorem mth_ptr {v : Value} [hm : TMth P t name f true] [hp : TPtr P t e] : Mth P t v name w f v := fun d => by
  obtain ⟨i, m, h1, h2, h3, h4⟩ := hm.row
  show (method ((P.types.size + 99) + 1) t v name).run P (dr w d) = _
  rw [method]
  simp [typeInfo, h1, h2, h3, h4, follow, receiverAt, run_underlying hp.eq, Place.get]
theorem run_wrapNil (ts : Array TypeId) (a : Addr) (x y : String) : (Builtin.ssaWrapNilChk_ ts t #[.pointer (some a), strVal x, strVal y]).run P w = .ok (.pointer (some a)) w := rfl
theorem mth_val {ad : Addr} {u : Value} [hm : TMth P t name f false] [hp : TPtr P t e] [TOne P e] (hc : w.cell? ad = some u) : Mth P t (.pointer (some ad)) name w f u := fun d => by
  obtain ⟨i, m, h1, h2, h3, h4⟩ := hm.row
  have h5 : m.path = #[] := by cases hm' : m.path; rw [hm'] at h3; simp at h3; rw [h3]
  have hl : (load ad).run P (dr w d) = .ok u (dr w d) := by simp [load, Sem.run, dr_cell, hc]
  show (method ((P.types.size + 99) + 1) t _ name).run P (dr w d) = _
  rw [method]
  simp [typeInfo, h1, h2, h4, h5, follow, receiverAt, run_underlying hp.eq, Place.get, run_wrapNil, asAddr, loadVar, run_isAgg_no, dr_cell, hc]
end
section
variable {P : Program} {n : Nat} {ops : Array Oper} {Q : Post} {rest : List Oper} {l : Env} {w : World} {d : Tmp} {ty : TypeId} {pos : String} {aft : Array Edge}
theorem owp_inv {f : FuncId} [hf : Callable P f] {y : Operand} {name : String} {t : TypeId} {v r : Value} {xs : List Operand} {vs : List Value} {ts : Array TypeId} {R : Value → World → Prop} (hm : Mth P t v name w f r) (hy : opv l y = some (.iface t v)) (hx : opvs l xs = some vs) (hd : Nat.blt d n = true) (hc : Fn P f (r :: vs) w R)
    (h : ∀ v w', R v w' → owp P n ops Q rest ((d, v) :: l) w') : owp P n ops Q (⟨some d, .call { callee := .invoke y name, args := xs.toArray, argTypes := ts }, ty, pos, aft, none⟩ :: rest) l w :=
  owp_run fun a e ha K hK => by
    obtain ⟨fn, h1, h2, h3⟩ := hf.eq
    have h2' : ¬ fn.body = none := fun e => by rw [e] at h2; simp at h2
    have h3' : ¬ fn.name = "runtime.NumGoroutine" := fun e => by rw [e] at h3; simp at h3
    unfold Oper.wp
    have : (execOp a.eval ⟨some d, .call { callee := .invoke y name, args := xs.toArray, argTypes := ts }, ty, pos, aft, none⟩).run P (dr w e) = .ok (.enter f (r :: vs).toArray) (dr w e) := by
      simp [execOp, resolve, ha.eval hy, invoke, callMethod, hm e, callFunc, h1, h2', h3', ha.evals hx]
    rw [this]
    exact (hc e).mono fun _ _ ⟨v, w₀, d', he, hw, hR⟩ => by subst he; subst hw; exact hK _ _ (h v w₀ hR _ _ (ha.put hd v))
theorem l_invM {T : Nat → Prop} {f : FuncId} [Callable P f] {y : Operand} {name : String} {t : TypeId} {v r : Value} {xs : List Operand} {vs : List Value} {ts : Array TypeId} {O : Lab} {R : Value → World → Lab → Prop}
    (hc : Fn P f (r :: vs) w fun v w' => ∃ O', St T w O w' O' ∧ R v w' O') (hm : Mth P t v name w f r) (hy : opv l y = some (.iface t v)) (hx : opvs l xs = some vs) (hd : Nat.blt d n = true)
    (h : ∀ v w' O', St T w O w' O' → R v w' O' → owp P n ops Q rest ((d, v) :: l) w') : owp P n ops Q (⟨some d, .call { callee := .invoke y name, args := xs.toArray, argTypes := ts }, ty, pos, aft, none⟩ :: rest) l w :=
  owp_inv hm hy hx hd hc fun v w' ⟨O', hS, hR⟩ => h v w' O' hS hR
theorem l_invA {f : FuncId} [Callable P f] {y : Operand} {name : String} {t : TypeId} {v r : Value} {xs : List Operand} {vs : List Value} {ts : Array TypeId} {O : Lab} {A : Nat → Prop} {R : World → (Nat → Prop) → Value → Prop} (hc : Fn P f (r :: vs) w fun v w' => Ext w w' ∧ R w' (upA A w w') v) (hm : Mth P t v name w f r) (hy : opv l y = some (.iface t v)) (hx : opvs l xs = some vs) (hd : Nat.blt d n = true)
    (h : ∀ v w' O', St nT w O w' O' → R w' (upA A w w') v → owp P n ops Q rest ((d, v) :: l) w') : owp P n ops Q (⟨some d, .call { callee := .invoke y name, args := xs.toArray, argTypes := ts }, ty, pos, aft, none⟩ :: rest) l w :=
  owp_inv hm hy hx hd hc fun v w' ⟨hE, hR⟩ => h v w' (upO O w.heap.size fun _ => 0) (hE.st O _) hR
end
/-- Division towards zero. -/
def quoT (a b : Int) : Option Int := if 0 < b then some (if 0 ≤ a then a / b else -((-a) / b)) else none
theorem quoT_in {a b r : Int} (h : quoT a b = some r) (ha : inI64 a) : inI64 r := by
  unfold quoT at h
  split at h
  · rename_i hb
    rw [← sm h]
    unfold inI64 at *
    split
    · rename_i h0
      have := Int.ediv_le_self b h0
      have := Int.ediv_nonneg h0 (show 0 ≤ b by omega)
      omega
    · have h0 : 0 ≤ -a := by omega
      have := Int.ediv_le_self b h0
      have := Int.ediv_nonneg h0 (show 0 ≤ b by omega)
      omega
  · cases h
theorem ev_qtE {P : Program} {l : Env} {w : World} {dst : Option Tmp} {ty : TypeId} {pos : String} {aft : Array Edge} {t u : TypeId} {x y : Operand} {a b c : Int} (hx : opv l x = some (.int .i64 a)) (hy : opv l y = some (.int .i64 b)) (he : quoT a b = some c) (hr : inI64 a) : Ev P ⟨dst, .binOp .quo t x y u, ty, pos, aft, none⟩ l w (.int .i64 c) := fun _ _ d ha => by
  have hc := quoT_in he hr
  unfold quoT at he
  split at he
  · rename_i hb
    have hn : b ≠ 0 := by omega
    have h1 : a.tdiv b = c := by
      rw [← sm he]
      split
      · rename_i h0; exact Int.tdiv_eq_ediv_of_nonneg h0
      · rw [← Int.tdiv_eq_ediv_of_nonneg (show 0 ≤ -a by omega), Int.neg_tdiv, Int.neg_neg]
    simp [execOp, ha.eval hx, ha.eval hy, eqGuard, binOp, Op.intDiv, hn, h1, wrap_i64 hc.1 hc.2]
  · cases he
/-- A value of type any that holds a datum of a known type. -/
structure An (t : TypeId) (α : Type) where
  x : α
instance {t : TypeId} {α : Type} [Rp α] : Rp (An t α) where
  isAgg := false
  size := 1
  R w F cs a := ∃ v, cs = [.iface t v] ∧ Vb w F v a.x
  len := by rintro w F cs x ⟨v, rfl, _⟩; rfl
  one := by
    rintro w F cs x ⟨v, rfl, _⟩ u hu
    have : u = .iface t v := by simpa using hu
    subst this; rfl
  agree := by rintro w w' F cs x ⟨v, rfl, h⟩ ha; exact ⟨v, rfl, h.agree ha⟩
  mono := by rintro w F G cs x ⟨v, rfl, h⟩ ha; exact ⟨v, rfl, h.mono ha⟩
theorem Vb.any {w : World} {F : Nat → Prop} {v : Value} {t : TypeId} {α : Type} [Rp α] {x : An t α} (h : Vb w F v x) : ∃ u, v = .iface t u ∧ Vb w F u x.x := by
  obtain ⟨u, hu, h'⟩ := h
  exact ⟨u, by simpa using hu, h'⟩
theorem vAny {w : World} {F : Nat → Prop} {v : Value} {t : TypeId} {α : Type} [Rp α] {x : α} (h : Vb w F v x) : Vb w F (.iface t v) (⟨x⟩ : An t α) := ⟨v, rfl, h⟩
section
variable {P : Program} {l : Env} {w : World} {dst : Option Tmp} {ty : TypeId} {pos : String} {aft : Array Edge}
theorem ev_miA {t : TypeId} [hk : TCon P t] {x : Operand} {v : Value} (hx : opv l x = some v) : Ev P ⟨dst, .makeInterface t x, ty, pos, aft, none⟩ l w (.iface t v) := fun _ a d ha => by
  obtain ⟨q, h1, h2⟩ := hk.eq
  cases q <;> first | (cases h2; done) | simp [execOp, ha.eval hx, Instr.makeInterface, run_underlying h1]
theorem ev_taA {s t : TypeId} [hk : TCon P t] {x : Operand} {v : Value} (hx : opv l x = some (.iface t v)) : Ev P ⟨dst, .typeAssert x s t true, ty, pos, aft, none⟩ l w (.tuple #[v, .bool true]) := fun _ a d ha => by
  obtain ⟨q, h1, h2⟩ := hk.eq
  cases q <;> first | (cases h2; done) | simp [execOp, ha.eval hx, Instr.typeAssert, run_underlying h1]
end
section
variable {P : Program} {n : Nat} {ops : Array Oper} {Q : Post} {S : World → Prop} {rest : List Oper} {r : List (Nat × Bool)} {l : Env} {w : World} {d i : Nat} {ty : TypeId} {pos : String} {aft : Array Edge}
theorem o_qtE {t u : TypeId} {x y : Operand} {a b c : Int} (hx : opv l x = some (.int .i64 a)) (hy : opv l y = some (.int .i64 b)) (hd : Nat.blt d n = true) (h : owp P n ops Q rest ((d, .int .i64 c) :: l) w) (he : quoT a b = some c := by assumption) (hr : inI64 a := by assumption) : owp P n ops Q (⟨some d, .binOp .quo t x y u, ty, pos, aft, none⟩ :: rest) l w := owp_ev (ev_qtE hx hy he hr) hd h
theorem o_miA {t : TypeId} [TCon P t] {x : Operand} {v : Value} (hx : opv l x = some v) (hd : Nat.blt d n = true) (h : owp P n ops Q rest ((d, .iface t v) :: l) w) : owp P n ops Q (⟨some d, .makeInterface t x, ty, pos, aft, none⟩ :: rest) l w := owp_ev (ev_miA hx) hd h
theorem o_taA {s t : TypeId} [TCon P t] {x : Operand} {v : Value} (hx : opv l x = some (.iface t v)) (hd : Nat.blt d n = true) (h : owp P n ops Q rest ((d, .tuple #[v, .bool true]) :: l) w) : owp P n ops Q (⟨some d, .typeAssert x s t true, ty, pos, aft, none⟩ :: rest) l w := owp_ev (ev_taA hx) hd h
end
end
section
open Go Go.RowKit
attribute [local irreducible] ewp owp hwp hwq hws Ev Evg Fn retPost loud loudS Res1
def hasB (s : List Int) (x : Fct) : Bool := decide (0 ≤ x.var) && decide (s[x.var.toNat]? = some x.val)
def holdsB (f : List Fct) (s : List Int) : Bool := f.all (hasB s)
theorem holdsB_no {f : List Fct} {s : List Int} {k : Nat} {x : Fct} (hx : f[k]? = some x) (h : hasB s x = false) : holdsB f s = false := by
  unfold holdsB
  rw [List.all_eq_false]
  exact ⟨x, List.mem_of_getElem? hx, by simp [h]⟩
theorem holdsB_step {f : List Fct} {s : List Int} {k : Nat} {x : Fct} (hx : f[k]? = some x) (h : hasB s x = true) (hh : holdsB (f.take k) s = true) : holdsB (f.take (k + 1)) s = true := by
  unfold holdsB at *
  rw [List.take_add_one, hx, List.all_append, hh]
  simp [h]
theorem hasB_eq {s : List Int} {x : Fct} {j : Nat} {y : Int} (hj : x.var = (j : Int)) (hy : s[j]? = some y) : hasB s x = decide (y = x.val) := by
  unfold hasB
  rw [hj]; simp [hy]
theorem some_of_lt {α : Type} {l : List α} {k : Nat} (h : k < l.length) : ∃ x, l[k]? = some x := ⟨l[k], List.getElem?_eq_getElem h⟩
theorem lt_of_some {α : Type} {l : List α} {k : Nat} {x : α} (h : l[k]? = some x) : k < l.length := (List.getElem?_eq_some_iff.1 h).1
theorem baseHolds {w : World} {fv sv : Value} {f : List Fct} {s : List Int} (hf : V w fv f) (hs : V w sv s) :
    Fn Try.prog 43 [fv, sv] w fun v w' => v = .bool (bof (holdsB f s = true)) ∧ Ext w w' := by
  obtain ⟨Af, cf, rfl⟩ := hf.form
  obtain ⟨As, cs, rfl⟩ := hs.form
  have hfl := hf.len
  refine fn_enter Try.func43 rfl Try.ntmps43 rfl ?_
  ((repeat (first | refine ewp_seq ?_ | refine ewp_block ?_ | refine ewp_region ?_ | refine ewp_skip ?_ | refine ewp_exit ?_ | refine ewp_ret ?_ | refine ewp_true rfl ?_ | refine ewp_false rfl ?_)) <;> (refine o_as rfl rfl ?_ <;> (first | refine owp_nilT ?_ | refine owp_nilB ?_ | refine owp_nilBB ?_ | refine owp_nil ?_)) <;> (repeat (first | refine ewp_seq ?_ | refine ewp_block ?_ | refine ewp_region ?_ | refine ewp_skip ?_ | refine ewp_exit ?_ | refine ewp_ret ?_ | refine ewp_true rfl ?_ | refine ewp_false rfl ?_)) <;> (refine o_mv rfl rfl ?_ <;> refine o_ln rfl rfl ?_ <;> refine o_mv rfl rfl ?_ <;> (first | refine owp_nilT ?_ | refine owp_nilB ?_ | refine owp_nilBB ?_ | refine owp_nil ?_)) <;> (repeat (first | refine ewp_seq ?_ | refine ewp_block ?_ | refine ewp_region ?_ | refine ewp_skip ?_ | refine ewp_exit ?_ | refine ewp_ret ?_ | refine ewp_true rfl ?_ | refine ewp_false rfl ?_)))
  refine ewp_for (fun k : Nat => [(1, .slice As s.length cs), (7, .slice Af f.length cf), (8, .int .i64 (f.length : Int)), (9, .int .i64 (k : Int))])
    (fun k w' => Ext w w' ∧ k ≤ f.length ∧ holdsB (f.take k) s = true) (fun k => f.length - k) 0 ⟨Below.refl _ _, Nat.zero_le _, rfl⟩ ⟨rfl, rfl, rfl, rfl, trivial⟩ ?_
  rintro k w1 ⟨hE, hk, hh⟩
  by_cases hlt : k < f.length
  · obtain ⟨x, hx⟩ := some_of_lt hlt
    obtain ⟨b, o, ce, rfl, hb, _, hd1, rfl, hr1, hr2⟩ := (hf.ext hE).elem hx
    ((repeat (first | refine ewp_seq ?_ | refine ewp_block ?_ | refine ewp_region ?_ | refine ewp_skip ?_ | refine ewp_exit ?_ | refine ewp_ret ?_ | refine ewp_true rfl ?_ | refine ewp_false rfl ?_)) <;> ((first | refine o_ltT rfl rfl rfl ?_ | refine o_ltF rfl rfl rfl ?_) <;> (first | refine owp_nilT ?_ | refine owp_nilB ?_ | refine owp_nilBB ?_ | refine owp_nil ?_)) <;> (repeat (first | refine ewp_seq ?_ | refine ewp_block ?_ | refine ewp_region ?_ | refine ewp_skip ?_ | refine ewp_exit ?_ | refine ewp_ret ?_ | refine ewp_true rfl ?_ | refine ewp_false rfl ?_)) <;> (refine o_ia rfl rfl rfl ?_ <;> refine o_la rfl rfl ?_) <;> (repeat (first | refine ewp_seq ?_ | refine ewp_block ?_ | refine ewp_region ?_ | refine ewp_skip ?_ | refine ewp_exit ?_ | refine ewp_ret ?_ | refine ewp_true rfl ?_ | refine ewp_false rfl ?_)))
    refine owp_local rfl rfl rfl (by simp [Value.cells, Value.oneCell']) fun w3 hN => ?_
    have hb1 := hN.blk
    have hE3 : Ext w w3 := hE.trans' hN.ext
    ((first | refine owp_nilT ?_ | refine owp_nilB ?_ | refine owp_nilBB ?_ | refine owp_nil ?_))
    repeat (first | refine ewp_seq ?_ | refine ewp_block ?_ | refine ewp_region ?_ | refine ewp_skip ?_ | refine ewp_exit ?_ | refine ewp_ret ?_ | refine ewp_true rfl ?_ | refine ewp_false rfl ?_)
    refine ewp_draw (· = w3) [(0, true), (1, true), (2, true), (3, true), (4, true), (5, true), (6, true), (7, true), (8, true), (9, true), (10, true), (11, true), (12, true), (13, true), (14, true), (15, true), (16, true), (17, true), (18, true), (19, true)] (by kernel_rfl) rfl (by kernel_rfl) rfl ?_
    by_cases hv : 0 ≤ x.var ∧ x.var < s.length
    · obtain ⟨j, hj1⟩ := Int.eq_ofNat_of_zero_le hv.1
      obtain ⟨y, hy⟩ := some_of_lt (l := s) (k := j) (by omega)
      obtain ⟨b2, o2, ce2, rfl, _, _, hd2, rfl, _⟩ := (hs.ext hE3).elem hy
      have hq := hasB_eq (s := s) hj1 hy
      (refine h_fa rfl rfl rfl ?_ <;> refine h_ldA rfl rfl rfl ?_ <;> (first | refine h_ltT rfl rfl rfl rfl ?_ | refine h_ltF rfl rfl rfl rfl ?_ | refine h_ltS rfl rfl rfl rfl (fun _ => ?_) fun _ => ?_) <;> refine h_mv rfl rfl rfl ?_ <;> (refine hwp_o rfl ?_; (first | (refine hwq_yes rfl rfl ?_; refine g_fa rfl rfl ?_) | refine hwq_no rfl rfl rfl rfl ?_)) <;> (refine hwp_o rfl ?_; (first | (refine hwq_yes rfl rfl ?_; refine g_ldA rfl rfl ?_) | refine hwq_no rfl rfl rfl rfl ?_)) <;> (refine hwp_o rfl ?_; (first | (refine hwq_yes rfl rfl ?_; refine g_mv rfl rfl ?_) | refine hwq_no rfl rfl rfl rfl ?_)) <;> (refine hwp_o rfl ?_; (first | (refine hwq_yes rfl rfl ?_; refine g_ln rfl rfl ?_) | refine hwq_no rfl rfl rfl rfl ?_)) <;> (refine hwp_o rfl ?_; (first | (refine hwq_yes rfl rfl ?_; (first | refine hwq_dT (fun _ _ => ev_geq rfl rfl) rfl (by omega) ?_ | refine hwq_dF (fun _ _ => ev_geq rfl rfl) rfl (by omega) ?_ | refine hwq_split (fun _ _ => ev_geq rfl rfl) rfl (fun _ => ?_) (fun _ => ?_))) | refine hwq_no rfl rfl rfl rfl ?_)) <;> (first | refine h_pt rfl rfl rfl rfl ?_ | refine h_pf rfl rfl rfl rfl ?_) <;> refine h_mv rfl rfl rfl ?_ <;> (refine hwp_o rfl ?_; (first | (refine hwq_yes rfl rfl ?_; refine g_mv rfl rfl ?_) | refine hwq_no rfl rfl rfl rfl ?_)) <;> (refine hwp_o rfl ?_; (first | (refine hwq_yes rfl rfl ?_; refine g_fa rfl rfl ?_) | refine hwq_no rfl rfl rfl rfl ?_)) <;> (refine hwp_o rfl ?_; (first | (refine hwq_yes rfl rfl ?_; refine g_ldA rfl rfl ?_) | refine hwq_no rfl rfl rfl rfl ?_)) <;> (refine hwp_o rfl ?_; (first | (refine hwq_yes rfl rfl ?_; refine g_ia rfl rfl rfl ?_) | refine hwq_no rfl rfl rfl rfl ?_)) <;> (refine hwp_o rfl ?_; (first | (refine hwq_yes rfl rfl ?_; refine g_ldA rfl rfl ?_) | refine hwq_no rfl rfl rfl rfl ?_)) <;> (refine hwp_o rfl ?_; (first | (refine hwq_yes rfl rfl ?_; refine g_fa rfl rfl ?_) | refine hwq_no rfl rfl rfl rfl ?_)) <;> (refine hwp_o rfl ?_; (first | (refine hwq_yes rfl rfl ?_; refine g_ldA rfl rfl ?_) | refine hwq_no rfl rfl rfl rfl ?_)) <;> (refine hwp_o rfl ?_; (first | (refine hwq_yes rfl rfl ?_; (first | refine hwq_dT (fun _ _ => ev_ne rfl rfl) rfl (by omega) ?_ | refine hwq_dF (fun _ _ => ev_ne rfl rfl) rfl (by omega) ?_ | refine hwq_split (fun _ _ => ev_ne rfl rfl) rfl (fun _ => ?_) (fun _ => ?_))) | refine hwq_no rfl rfl rfl rfl ?_)) <;> (first | refine h_pt rfl rfl rfl rfl ?_ | refine h_pf rfl rfl rfl rfl ?_) <;> (first | refine hwp_nilT ?_ | refine hwp_nilB ?_ | refine hwp_nil ?_)) <;> (repeat (first | refine ewp_seq ?_ | refine ewp_block ?_ | refine ewp_region ?_ | refine ewp_skip ?_ | refine ewp_exit ?_ | refine ewp_ret ?_ | refine ewp_true rfl ?_ | refine ewp_false rfl ?_))
      · ((repeat (first | refine ewp_seq ?_ | refine ewp_block ?_ | refine ewp_region ?_ | refine ewp_skip ?_ | refine ewp_exit ?_ | refine ewp_ret ?_ | refine ewp_true rfl ?_ | refine ewp_false rfl ?_)) <;> (refine o_as rfl rfl ?_ <;> (first | refine owp_nilT ?_ | refine owp_nilB ?_ | refine owp_nilBB ?_ | refine owp_nil ?_)) <;> (repeat (first | refine ewp_seq ?_ | refine ewp_block ?_ | refine ewp_region ?_ | refine ewp_skip ?_ | refine ewp_exit ?_ | refine ewp_ret ?_ | refine ewp_true rfl ?_ | refine ewp_false rfl ?_)))
        refine ret1 rfl rfl ⟨?_, hE3⟩
        rw [holdsB_no hx (by rw [hq]; simpa using ‹_›), bof_b]
      · ((first | refine o_ic rfl rfl ?_ | refine o_ad rfl rfl rfl ?_) <;> refine o_mv rfl rfl ?_ <;> (first | refine owp_nilT ?_ | refine owp_nilB ?_ | refine owp_nilBB ?_ | refine owp_nil ?_))
        exact ⟨k + 1, ⟨rfl, rfl, rfl, rfl, trivial⟩, ⟨hE3, by omega, holdsB_step hx (by rw [hq]; simp; omega) hh⟩, by omega⟩
    · have hq : hasB s x = false := by
        unfold hasB
        by_cases h0 : 0 ≤ x.var
        · have : s.length ≤ x.var.toNat := by omega
          simp [List.getElem?_eq_none this]
        · simp [h0]
      (refine h_fa rfl rfl rfl ?_ <;> refine h_ldA rfl rfl rfl ?_ <;> (first | refine h_ltT rfl rfl rfl rfl ?_ | refine h_ltF rfl rfl rfl rfl ?_ | refine h_ltS rfl rfl rfl rfl (fun _ => ?_) fun _ => ?_) <;> refine h_mv rfl rfl rfl ?_ <;> (refine hwp_o rfl ?_; (first | (refine hwq_yes rfl rfl ?_; refine g_fa rfl rfl ?_) | refine hwq_no rfl rfl rfl rfl ?_)) <;> (refine hwp_o rfl ?_; (first | (refine hwq_yes rfl rfl ?_; refine g_ldA rfl rfl ?_) | refine hwq_no rfl rfl rfl rfl ?_)) <;> (refine hwp_o rfl ?_; (first | (refine hwq_yes rfl rfl ?_; refine g_mv rfl rfl ?_) | refine hwq_no rfl rfl rfl rfl ?_)) <;> (refine hwp_o rfl ?_; (first | (refine hwq_yes rfl rfl ?_; refine g_ln rfl rfl ?_) | refine hwq_no rfl rfl rfl rfl ?_)) <;> (refine hwp_o rfl ?_; (first | (refine hwq_yes rfl rfl ?_; (first | refine hwq_dT (fun _ _ => ev_geq rfl rfl) rfl (by omega) ?_ | refine hwq_dF (fun _ _ => ev_geq rfl rfl) rfl (by omega) ?_ | refine hwq_split (fun _ _ => ev_geq rfl rfl) rfl (fun _ => ?_) (fun _ => ?_))) | refine hwq_no rfl rfl rfl rfl ?_)) <;> (first | refine h_pt rfl rfl rfl rfl ?_ | refine h_pf rfl rfl rfl rfl ?_) <;> refine h_mv rfl rfl rfl ?_ <;> (refine hwp_o rfl ?_; (first | (refine hwq_yes rfl rfl ?_; refine g_mv rfl rfl ?_) | refine hwq_no rfl rfl rfl rfl ?_)) <;> (refine hwp_o rfl ?_; (first | (refine hwq_yes rfl rfl ?_; refine g_fa rfl rfl ?_) | refine hwq_no rfl rfl rfl rfl ?_)) <;> (refine hwp_o rfl ?_; (first | (refine hwq_yes rfl rfl ?_; refine g_ldA rfl rfl ?_) | refine hwq_no rfl rfl rfl rfl ?_)) <;> (refine hwp_o rfl ?_; (first | (refine hwq_yes rfl rfl ?_; refine g_ia rfl rfl rfl ?_) | refine hwq_no rfl rfl rfl rfl ?_)) <;> (refine hwp_o rfl ?_; (first | (refine hwq_yes rfl rfl ?_; refine g_ldA rfl rfl ?_) | refine hwq_no rfl rfl rfl rfl ?_)) <;> (refine hwp_o rfl ?_; (first | (refine hwq_yes rfl rfl ?_; refine g_fa rfl rfl ?_) | refine hwq_no rfl rfl rfl rfl ?_)) <;> (refine hwp_o rfl ?_; (first | (refine hwq_yes rfl rfl ?_; refine g_ldA rfl rfl ?_) | refine hwq_no rfl rfl rfl rfl ?_)) <;> (refine hwp_o rfl ?_; (first | (refine hwq_yes rfl rfl ?_; (first | refine hwq_dT (fun _ _ => ev_ne rfl rfl) rfl (by omega) ?_ | refine hwq_dF (fun _ _ => ev_ne rfl rfl) rfl (by omega) ?_ | refine hwq_split (fun _ _ => ev_ne rfl rfl) rfl (fun _ => ?_) (fun _ => ?_))) | refine hwq_no rfl rfl rfl rfl ?_)) <;> (first | refine h_pt rfl rfl rfl rfl ?_ | refine h_pf rfl rfl rfl rfl ?_) <;> (first | refine hwp_nilT ?_ | refine hwp_nilB ?_ | refine hwp_nil ?_)) <;> (repeat (first | refine ewp_seq ?_ | refine ewp_block ?_ | refine ewp_region ?_ | refine ewp_skip ?_ | refine ewp_exit ?_ | refine ewp_ret ?_ | refine ewp_true rfl ?_ | refine ewp_false rfl ?_))
      all_goals
        ((repeat (first | refine ewp_seq ?_ | refine ewp_block ?_ | refine ewp_region ?_ | refine ewp_skip ?_ | refine ewp_exit ?_ | refine ewp_ret ?_ | refine ewp_true rfl ?_ | refine ewp_false rfl ?_)) <;> (refine o_as rfl rfl ?_ <;> (first | refine owp_nilT ?_ | refine owp_nilB ?_ | refine owp_nilBB ?_ | refine owp_nil ?_)) <;> (repeat (first | refine ewp_seq ?_ | refine ewp_block ?_ | refine ewp_region ?_ | refine ewp_skip ?_ | refine ewp_exit ?_ | refine ewp_ret ?_ | refine ewp_true rfl ?_ | refine ewp_false rfl ?_)))
        refine ret1 rfl rfl ⟨?_, hE3⟩
        rw [holdsB_no hx hq, bof_b]
  · ((repeat (first | refine ewp_seq ?_ | refine ewp_block ?_ | refine ewp_region ?_ | refine ewp_skip ?_ | refine ewp_exit ?_ | refine ewp_ret ?_ | refine ewp_true rfl ?_ | refine ewp_false rfl ?_)) <;> ((first | refine o_ltT rfl rfl rfl ?_ | refine o_ltF rfl rfl rfl ?_) <;> (first | refine owp_nilT ?_ | refine owp_nilB ?_ | refine owp_nilBB ?_ | refine owp_nil ?_)) <;> (repeat (first | refine ewp_seq ?_ | refine ewp_block ?_ | refine ewp_region ?_ | refine ewp_skip ?_ | refine ewp_exit ?_ | refine ewp_ret ?_ | refine ewp_true rfl ?_ | refine ewp_false rfl ?_)) <;> (refine o_as rfl rfl ?_ <;> (first | refine owp_nilT ?_ | refine owp_nilB ?_ | refine owp_nilBB ?_ | refine owp_nil ?_)) <;> (repeat (first | refine ewp_seq ?_ | refine ewp_block ?_ | refine ewp_region ?_ | refine ewp_skip ?_ | refine ewp_exit ?_ | refine ewp_ret ?_ | refine ewp_true rfl ?_ | refine ewp_false rfl ?_)))
    refine ret1 rfl rfl ⟨?_, hE⟩
    rw [List.take_of_length_le (by omega)] at hh
    rw [hh, bof_b]
theorem taskHolds {w : World} {fv sv : Value} {f : List Fct} {s : List Int} (hf : V w fv f) (hs : V w sv s) :
    Fn Try.prog 37 [fv, sv] w fun v w' => v = .bool (bof (holdsB f s = true)) ∧ Ext w w' := by
  obtain ⟨Af, cf, rfl⟩ := hf.form
  obtain ⟨As, cs, rfl⟩ := hs.form
  have hfl := hf.len
  refine fn_enter Try.func37 rfl Try.ntmps37 rfl ?_
  ((repeat (first | refine ewp_seq ?_ | refine ewp_block ?_ | refine ewp_region ?_ | refine ewp_skip ?_ | refine ewp_exit ?_ | refine ewp_ret ?_ | refine ewp_true rfl ?_ | refine ewp_false rfl ?_)) <;> (refine o_as rfl rfl ?_ <;> (first | refine owp_nilT ?_ | refine owp_nilB ?_ | refine owp_nilBB ?_ | refine owp_nil ?_)) <;> (repeat (first | refine ewp_seq ?_ | refine ewp_block ?_ | refine ewp_region ?_ | refine ewp_skip ?_ | refine ewp_exit ?_ | refine ewp_ret ?_ | refine ewp_true rfl ?_ | refine ewp_false rfl ?_)) <;> (refine o_mv rfl rfl ?_ <;> refine o_ln rfl rfl ?_ <;> refine o_mv rfl rfl ?_ <;> (first | refine owp_nilT ?_ | refine owp_nilB ?_ | refine owp_nilBB ?_ | refine owp_nil ?_)) <;> (repeat (first | refine ewp_seq ?_ | refine ewp_block ?_ | refine ewp_region ?_ | refine ewp_skip ?_ | refine ewp_exit ?_ | refine ewp_ret ?_ | refine ewp_true rfl ?_ | refine ewp_false rfl ?_)))
  refine ewp_for (fun k : Nat => [(1, .slice As s.length cs), (7, .slice Af f.length cf), (8, .int .i64 (f.length : Int)), (9, .int .i64 (k : Int))])
    (fun k w' => Ext w w' ∧ k ≤ f.length ∧ holdsB (f.take k) s = true) (fun k => f.length - k) 0 ⟨Below.refl _ _, Nat.zero_le _, rfl⟩ ⟨rfl, rfl, rfl, rfl, trivial⟩ ?_
  rintro k w1 ⟨hE, hk, hh⟩
  by_cases hlt : k < f.length
  · obtain ⟨x, hx⟩ := some_of_lt hlt
    obtain ⟨b, o, ce, rfl, hb, _, hd1, rfl, hr1, hr2⟩ := (hf.ext hE).elem hx
    ((repeat (first | refine ewp_seq ?_ | refine ewp_block ?_ | refine ewp_region ?_ | refine ewp_skip ?_ | refine ewp_exit ?_ | refine ewp_ret ?_ | refine ewp_true rfl ?_ | refine ewp_false rfl ?_)) <;> ((first | refine o_ltT rfl rfl rfl ?_ | refine o_ltF rfl rfl rfl ?_) <;> (first | refine owp_nilT ?_ | refine owp_nilB ?_ | refine owp_nilBB ?_ | refine owp_nil ?_)) <;> (repeat (first | refine ewp_seq ?_ | refine ewp_block ?_ | refine ewp_region ?_ | refine ewp_skip ?_ | refine ewp_exit ?_ | refine ewp_ret ?_ | refine ewp_true rfl ?_ | refine ewp_false rfl ?_)) <;> (refine o_ia rfl rfl rfl ?_ <;> refine o_la rfl rfl ?_) <;> (repeat (first | refine ewp_seq ?_ | refine ewp_block ?_ | refine ewp_region ?_ | refine ewp_skip ?_ | refine ewp_exit ?_ | refine ewp_ret ?_ | refine ewp_true rfl ?_ | refine ewp_false rfl ?_)))
    refine owp_local rfl rfl rfl (by simp [Value.cells, Value.oneCell']) fun w3 hN => ?_
    have hb1 := hN.blk
    have hE3 : Ext w w3 := hE.trans' hN.ext
    ((first | refine owp_nilT ?_ | refine owp_nilB ?_ | refine owp_nilBB ?_ | refine owp_nil ?_))
    repeat (first | refine ewp_seq ?_ | refine ewp_block ?_ | refine ewp_region ?_ | refine ewp_skip ?_ | refine ewp_exit ?_ | refine ewp_ret ?_ | refine ewp_true rfl ?_ | refine ewp_false rfl ?_)
    refine ewp_draw (· = w3) [(0, true), (1, true), (2, true), (3, true), (4, true), (5, true), (6, true), (7, true), (8, true), (9, true), (10, true), (11, true), (12, true), (13, true), (14, true), (15, true), (16, true), (17, true), (18, true), (19, true)] (by kernel_rfl) rfl (by kernel_rfl) rfl ?_
    by_cases hv : 0 ≤ x.var ∧ x.var < s.length
    · obtain ⟨j, hj1⟩ := Int.eq_ofNat_of_zero_le hv.1
      obtain ⟨y, hy⟩ := some_of_lt (l := s) (k := j) (by omega)
      obtain ⟨b2, o2, ce2, rfl, _, _, hd2, rfl, _⟩ := (hs.ext hE3).elem hy
      have hq := hasB_eq (s := s) hj1 hy
      (refine h_fa rfl rfl rfl ?_ <;> refine h_ldA rfl rfl rfl ?_ <;> (first | refine h_ltT rfl rfl rfl rfl ?_ | refine h_ltF rfl rfl rfl rfl ?_ | refine h_ltS rfl rfl rfl rfl (fun _ => ?_) fun _ => ?_) <;> refine h_mv rfl rfl rfl ?_ <;> (refine hwp_o rfl ?_; (first | (refine hwq_yes rfl rfl ?_; refine g_fa rfl rfl ?_) | refine hwq_no rfl rfl rfl rfl ?_)) <;> (refine hwp_o rfl ?_; (first | (refine hwq_yes rfl rfl ?_; refine g_ldA rfl rfl ?_) | refine hwq_no rfl rfl rfl rfl ?_)) <;> (refine hwp_o rfl ?_; (first | (refine hwq_yes rfl rfl ?_; refine g_mv rfl rfl ?_) | refine hwq_no rfl rfl rfl rfl ?_)) <;> (refine hwp_o rfl ?_; (first | (refine hwq_yes rfl rfl ?_; refine g_ln rfl rfl ?_) | refine hwq_no rfl rfl rfl rfl ?_)) <;> (refine hwp_o rfl ?_; (first | (refine hwq_yes rfl rfl ?_; (first | refine hwq_dT (fun _ _ => ev_geq rfl rfl) rfl (by omega) ?_ | refine hwq_dF (fun _ _ => ev_geq rfl rfl) rfl (by omega) ?_ | refine hwq_split (fun _ _ => ev_geq rfl rfl) rfl (fun _ => ?_) (fun _ => ?_))) | refine hwq_no rfl rfl rfl rfl ?_)) <;> (first | refine h_pt rfl rfl rfl rfl ?_ | refine h_pf rfl rfl rfl rfl ?_) <;> refine h_mv rfl rfl rfl ?_ <;> (refine hwp_o rfl ?_; (first | (refine hwq_yes rfl rfl ?_; refine g_mv rfl rfl ?_) | refine hwq_no rfl rfl rfl rfl ?_)) <;> (refine hwp_o rfl ?_; (first | (refine hwq_yes rfl rfl ?_; refine g_fa rfl rfl ?_) | refine hwq_no rfl rfl rfl rfl ?_)) <;> (refine hwp_o rfl ?_; (first | (refine hwq_yes rfl rfl ?_; refine g_ldA rfl rfl ?_) | refine hwq_no rfl rfl rfl rfl ?_)) <;> (refine hwp_o rfl ?_; (first | (refine hwq_yes rfl rfl ?_; refine g_ia rfl rfl rfl ?_) | refine hwq_no rfl rfl rfl rfl ?_)) <;> (refine hwp_o rfl ?_; (first | (refine hwq_yes rfl rfl ?_; refine g_ldA rfl rfl ?_) | refine hwq_no rfl rfl rfl rfl ?_)) <;> (refine hwp_o rfl ?_; (first | (refine hwq_yes rfl rfl ?_; refine g_fa rfl rfl ?_) | refine hwq_no rfl rfl rfl rfl ?_)) <;> (refine hwp_o rfl ?_; (first | (refine hwq_yes rfl rfl ?_; refine g_ldA rfl rfl ?_) | refine hwq_no rfl rfl rfl rfl ?_)) <;> (refine hwp_o rfl ?_; (first | (refine hwq_yes rfl rfl ?_; (first | refine hwq_dT (fun _ _ => ev_ne rfl rfl) rfl (by omega) ?_ | refine hwq_dF (fun _ _ => ev_ne rfl rfl) rfl (by omega) ?_ | refine hwq_split (fun _ _ => ev_ne rfl rfl) rfl (fun _ => ?_) (fun _ => ?_))) | refine hwq_no rfl rfl rfl rfl ?_)) <;> (first | refine h_pt rfl rfl rfl rfl ?_ | refine h_pf rfl rfl rfl rfl ?_) <;> (first | refine hwp_nilT ?_ | refine hwp_nilB ?_ | refine hwp_nil ?_)) <;> (repeat (first | refine ewp_seq ?_ | refine ewp_block ?_ | refine ewp_region ?_ | refine ewp_skip ?_ | refine ewp_exit ?_ | refine ewp_ret ?_ | refine ewp_true rfl ?_ | refine ewp_false rfl ?_))
      · ((repeat (first | refine ewp_seq ?_ | refine ewp_block ?_ | refine ewp_region ?_ | refine ewp_skip ?_ | refine ewp_exit ?_ | refine ewp_ret ?_ | refine ewp_true rfl ?_ | refine ewp_false rfl ?_)) <;> (refine o_as rfl rfl ?_ <;> (first | refine owp_nilT ?_ | refine owp_nilB ?_ | refine owp_nilBB ?_ | refine owp_nil ?_)) <;> (repeat (first | refine ewp_seq ?_ | refine ewp_block ?_ | refine ewp_region ?_ | refine ewp_skip ?_ | refine ewp_exit ?_ | refine ewp_ret ?_ | refine ewp_true rfl ?_ | refine ewp_false rfl ?_)))
        refine ret1 rfl rfl ⟨?_, hE3⟩
        rw [holdsB_no hx (by rw [hq]; simpa using ‹_›), bof_b]
      · ((first | refine o_ic rfl rfl ?_ | refine o_ad rfl rfl rfl ?_) <;> refine o_mv rfl rfl ?_ <;> (first | refine owp_nilT ?_ | refine owp_nilB ?_ | refine owp_nilBB ?_ | refine owp_nil ?_))
        exact ⟨k + 1, ⟨rfl, rfl, rfl, rfl, trivial⟩, ⟨hE3, by omega, holdsB_step hx (by rw [hq]; simp; omega) hh⟩, by omega⟩
    · have hq : hasB s x = false := by
        unfold hasB
        by_cases h0 : 0 ≤ x.var
        · have : s.length ≤ x.var.toNat := by omega
          simp [List.getElem?_eq_none this]
        · simp [h0]
      (refine h_fa rfl rfl rfl ?_ <;> refine h_ldA rfl rfl rfl ?_ <;> (first | refine h_ltT rfl rfl rfl rfl ?_ | refine h_ltF rfl rfl rfl rfl ?_ | refine h_ltS rfl rfl rfl rfl (fun _ => ?_) fun _ => ?_) <;> refine h_mv rfl rfl rfl ?_ <;> (refine hwp_o rfl ?_; (first | (refine hwq_yes rfl rfl ?_; refine g_fa rfl rfl ?_) | refine hwq_no rfl rfl rfl rfl ?_)) <;> (refine hwp_o rfl ?_; (first | (refine hwq_yes rfl rfl ?_; refine g_ldA rfl rfl ?_) | refine hwq_no rfl rfl rfl rfl ?_)) <;> (refine hwp_o rfl ?_; (first | (refine hwq_yes rfl rfl ?_; refine g_mv rfl rfl ?_) | refine hwq_no rfl rfl rfl rfl ?_)) <;> (refine hwp_o rfl ?_; (first | (refine hwq_yes rfl rfl ?_; refine g_ln rfl rfl ?_) | refine hwq_no rfl rfl rfl rfl ?_)) <;> (refine hwp_o rfl ?_; (first | (refine hwq_yes rfl rfl ?_; (first | refine hwq_dT (fun _ _ => ev_geq rfl rfl) rfl (by omega) ?_ | refine hwq_dF (fun _ _ => ev_geq rfl rfl) rfl (by omega) ?_ | refine hwq_split (fun _ _ => ev_geq rfl rfl) rfl (fun _ => ?_) (fun _ => ?_))) | refine hwq_no rfl rfl rfl rfl ?_)) <;> (first | refine h_pt rfl rfl rfl rfl ?_ | refine h_pf rfl rfl rfl rfl ?_) <;> refine h_mv rfl rfl rfl ?_ <;> (refine hwp_o rfl ?_; (first | (refine hwq_yes rfl rfl ?_; refine g_mv rfl rfl ?_) | refine hwq_no rfl rfl rfl rfl ?_)) <;> (refine hwp_o rfl ?_; (first | (refine hwq_yes rfl rfl ?_; refine g_fa rfl rfl ?_) | refine hwq_no rfl rfl rfl rfl ?_)) <;> (refine hwp_o rfl ?_; (first | (refine hwq_yes rfl rfl ?_; refine g_ldA rfl rfl ?_) | refine hwq_no rfl rfl rfl rfl ?_)) <;> (refine hwp_o rfl ?_; (first | (refine hwq_yes rfl rfl ?_; refine g_ia rfl rfl rfl ?_) | refine hwq_no rfl rfl rfl rfl ?_)) <;> (refine hwp_o rfl ?_; (first | (refine hwq_yes rfl rfl ?_; refine g_ldA rfl rfl ?_) | refine hwq_no rfl rfl rfl rfl ?_)) <;> (refine hwp_o rfl ?_; (first | (refine hwq_yes rfl rfl ?_; refine g_fa rfl rfl ?_) | refine hwq_no rfl rfl rfl rfl ?_)) <;> (refine hwp_o rfl ?_; (first | (refine hwq_yes rfl rfl ?_; refine g_ldA rfl rfl ?_) | refine hwq_no rfl rfl rfl rfl ?_)) <;> (refine hwp_o rfl ?_; (first | (refine hwq_yes rfl rfl ?_; (first | refine hwq_dT (fun _ _ => ev_ne rfl rfl) rfl (by omega) ?_ | refine hwq_dF (fun _ _ => ev_ne rfl rfl) rfl (by omega) ?_ | refine hwq_split (fun _ _ => ev_ne rfl rfl) rfl (fun _ => ?_) (fun _ => ?_))) | refine hwq_no rfl rfl rfl rfl ?_)) <;> (first | refine h_pt rfl rfl rfl rfl ?_ | refine h_pf rfl rfl rfl rfl ?_) <;> (first | refine hwp_nilT ?_ | refine hwp_nilB ?_ | refine hwp_nil ?_)) <;> (repeat (first | refine ewp_seq ?_ | refine ewp_block ?_ | refine ewp_region ?_ | refine ewp_skip ?_ | refine ewp_exit ?_ | refine ewp_ret ?_ | refine ewp_true rfl ?_ | refine ewp_false rfl ?_))
      all_goals
        ((repeat (first | refine ewp_seq ?_ | refine ewp_block ?_ | refine ewp_region ?_ | refine ewp_skip ?_ | refine ewp_exit ?_ | refine ewp_ret ?_ | refine ewp_true rfl ?_ | refine ewp_false rfl ?_)) <;> (refine o_as rfl rfl ?_ <;> (first | refine owp_nilT ?_ | refine owp_nilB ?_ | refine owp_nilBB ?_ | refine owp_nil ?_)) <;> (repeat (first | refine ewp_seq ?_ | refine ewp_block ?_ | refine ewp_region ?_ | refine ewp_skip ?_ | refine ewp_exit ?_ | refine ewp_ret ?_ | refine ewp_true rfl ?_ | refine ewp_false rfl ?_)))
        refine ret1 rfl rfl ⟨?_, hE3⟩
        rw [holdsB_no hx hq, bof_b]
  · ((repeat (first | refine ewp_seq ?_ | refine ewp_block ?_ | refine ewp_region ?_ | refine ewp_skip ?_ | refine ewp_exit ?_ | refine ewp_ret ?_ | refine ewp_true rfl ?_ | refine ewp_false rfl ?_)) <;> ((first | refine o_ltT rfl rfl rfl ?_ | refine o_ltF rfl rfl rfl ?_) <;> (first | refine owp_nilT ?_ | refine owp_nilB ?_ | refine owp_nilBB ?_ | refine owp_nil ?_)) <;> (repeat (first | refine ewp_seq ?_ | refine ewp_block ?_ | refine ewp_region ?_ | refine ewp_skip ?_ | refine ewp_exit ?_ | refine ewp_ret ?_ | refine ewp_true rfl ?_ | refine ewp_false rfl ?_)) <;> (refine o_as rfl rfl ?_ <;> (first | refine owp_nilT ?_ | refine owp_nilB ?_ | refine owp_nilBB ?_ | refine owp_nil ?_)) <;> (repeat (first | refine ewp_seq ?_ | refine ewp_block ?_ | refine ewp_region ?_ | refine ewp_skip ?_ | refine ewp_exit ?_ | refine ewp_ret ?_ | refine ewp_true rfl ?_ | refine ewp_false rfl ?_)))
    refine ret1 rfl rfl ⟨?_, hE⟩
    rw [List.take_of_length_le (by omega)] at hh
    rw [hh, bof_b]
theorem baseInts {w : World} {av bv : Value} {a b : List Int} (ha : V w av a) (hb : V w bv b) :
    Fn Try.prog 33 [av, bv] w fun v w' => v = .bool (bof (a = b)) ∧ Ext w w' := by
  obtain ⟨A, ca, rfl⟩ := ha.form
  obtain ⟨B, cb, rfl⟩ := hb.form
  have hal := ha.len
  refine fn_enter Try.func33 rfl Try.ntmps33 rfl ?_
  by_cases hl : a.length = b.length
  · ((repeat (first | refine ewp_seq ?_ | refine ewp_block ?_ | refine ewp_region ?_ | refine ewp_skip ?_ | refine ewp_exit ?_ | refine ewp_ret ?_ | refine ewp_true rfl ?_ | refine ewp_false rfl ?_)) <;> (refine o_as rfl rfl ?_ <;> (first | refine owp_nilT ?_ | refine owp_nilB ?_ | refine owp_nilBB ?_ | refine owp_nil ?_)) <;> (repeat (first | refine ewp_seq ?_ | refine ewp_block ?_ | refine ewp_region ?_ | refine ewp_skip ?_ | refine ewp_exit ?_ | refine ewp_ret ?_ | refine ewp_true rfl ?_ | refine ewp_false rfl ?_)) <;> (refine o_mv rfl rfl ?_ <;> refine o_ln rfl rfl ?_ <;> refine o_mv rfl rfl ?_ <;> refine o_ln rfl rfl ?_ <;> (first | refine o_neT rfl rfl rfl ?_ | refine o_neF rfl rfl rfl ?_) <;> (first | refine owp_nilT ?_ | refine owp_nilB ?_ | refine owp_nilBB ?_ | refine owp_nil ?_)) <;> (repeat (first | refine ewp_seq ?_ | refine ewp_block ?_ | refine ewp_region ?_ | refine ewp_skip ?_ | refine ewp_exit ?_ | refine ewp_ret ?_ | refine ewp_true rfl ?_ | refine ewp_false rfl ?_)) <;> (refine o_mv rfl rfl ?_ <;> refine o_ln rfl rfl ?_ <;> refine o_mv rfl rfl ?_ <;> (first | refine owp_nilT ?_ | refine owp_nilB ?_ | refine owp_nilBB ?_ | refine owp_nil ?_)) <;> (repeat (first | refine ewp_seq ?_ | refine ewp_block ?_ | refine ewp_region ?_ | refine ewp_skip ?_ | refine ewp_exit ?_ | refine ewp_ret ?_ | refine ewp_true rfl ?_ | refine ewp_false rfl ?_)))
    refine ewp_for (fun k : Nat => [(0, .slice A a.length ca), (1, .slice B b.length cb), (12, .int .i64 (a.length : Int)), (13, .int .i64 (k : Int))])
      (fun k w' => w' = w ∧ k ≤ a.length ∧ a.take k = b.take k) (fun k => a.length - k) 0 ⟨rfl, Nat.zero_le _, rfl⟩ ⟨rfl, rfl, rfl, rfl, trivial⟩ ?_
    rintro k _ ⟨rfl, hk, hh⟩
    by_cases hlt : k < a.length
    · obtain ⟨x, hx⟩ := some_of_lt hlt
      obtain ⟨y, hy⟩ := some_of_lt (l := b) (k := k) (by omega)
      obtain ⟨b1, o1, ce, rfl, _, _, hd1, rfl, _⟩ := ha.elem hx
      obtain ⟨b2, o2, ce, rfl, _, _, hd2, rfl, _⟩ := hb.elem hy
      ((repeat (first | refine ewp_seq ?_ | refine ewp_block ?_ | refine ewp_region ?_ | refine ewp_skip ?_ | refine ewp_exit ?_ | refine ewp_ret ?_ | refine ewp_true rfl ?_ | refine ewp_false rfl ?_)) <;> ((first | refine o_ltT rfl rfl rfl ?_ | refine o_ltF rfl rfl rfl ?_) <;> (first | refine owp_nilT ?_ | refine owp_nilB ?_ | refine owp_nilBB ?_ | refine owp_nil ?_)) <;> (repeat (first | refine ewp_seq ?_ | refine ewp_block ?_ | refine ewp_region ?_ | refine ewp_skip ?_ | refine ewp_exit ?_ | refine ewp_ret ?_ | refine ewp_true rfl ?_ | refine ewp_false rfl ?_)) <;> (refine o_mv rfl rfl ?_ <;> refine o_as rfl rfl ?_ <;> (first | refine owp_nilT ?_ | refine owp_nilB ?_ | refine owp_nilBB ?_ | refine owp_nil ?_)) <;> (repeat (first | refine ewp_seq ?_ | refine ewp_block ?_ | refine ewp_region ?_ | refine ewp_skip ?_ | refine ewp_exit ?_ | refine ewp_ret ?_ | refine ewp_true rfl ?_ | refine ewp_false rfl ?_)))
      refine ewp_draw (· = _) [(0, true), (1, true), (2, true), (3, true), (4, true), (5, true), (6, true), (7, true), (8, true)] (by kernel_rfl) rfl (by kernel_rfl) rfl ?_
      (refine h_mv rfl rfl rfl ?_ <;> refine h_mv rfl rfl rfl ?_ <;> refine h_ia rfl rfl rfl rfl ?_ <;> refine h_ldA rfl rfl rfl ?_ <;> refine h_mv rfl rfl rfl ?_ <;> refine h_mv rfl rfl rfl ?_ <;> refine h_ia rfl rfl rfl rfl ?_ <;> refine h_ldA rfl rfl rfl ?_ <;> (first | refine h_neT rfl rfl rfl rfl ?_ | refine h_neF rfl rfl rfl rfl ?_ | refine h_neS rfl rfl rfl rfl (fun _ => ?_) fun _ => ?_) <;> (first | refine hwp_nilT ?_ | refine hwp_nilB ?_ | refine hwp_nil ?_)) <;> (repeat (first | refine ewp_seq ?_ | refine ewp_block ?_ | refine ewp_region ?_ | refine ewp_skip ?_ | refine ewp_exit ?_ | refine ewp_ret ?_ | refine ewp_true rfl ?_ | refine ewp_false rfl ?_))
      · ((repeat (first | refine ewp_seq ?_ | refine ewp_block ?_ | refine ewp_region ?_ | refine ewp_skip ?_ | refine ewp_exit ?_ | refine ewp_ret ?_ | refine ewp_true rfl ?_ | refine ewp_false rfl ?_)) <;> (refine o_as rfl rfl ?_ <;> (first | refine owp_nilT ?_ | refine owp_nilB ?_ | refine owp_nilBB ?_ | refine owp_nil ?_)) <;> (repeat (first | refine ewp_seq ?_ | refine ewp_block ?_ | refine ewp_region ?_ | refine ewp_skip ?_ | refine ewp_exit ?_ | refine ewp_ret ?_ | refine ewp_true rfl ?_ | refine ewp_false rfl ?_)))
        refine ret1 rfl rfl ⟨?_, Below.refl _ _⟩
        rw [bof_f]
        rintro rfl
        exact absurd (Option.some.inj (hx.symm.trans hy)) (by assumption)
      · ((first | refine o_ic rfl rfl ?_ | refine o_ad rfl rfl rfl ?_) <;> refine o_mv rfl rfl ?_ <;> (first | refine owp_nilT ?_ | refine owp_nilB ?_ | refine owp_nilBB ?_ | refine owp_nil ?_))
        exact ⟨k + 1, ⟨rfl, rfl, rfl, rfl, trivial⟩, ⟨rfl, by omega, by rw [List.take_add_one, List.take_add_one, hx, hy, hh, show x = y from by omega]⟩, by omega⟩
    · ((repeat (first | refine ewp_seq ?_ | refine ewp_block ?_ | refine ewp_region ?_ | refine ewp_skip ?_ | refine ewp_exit ?_ | refine ewp_ret ?_ | refine ewp_true rfl ?_ | refine ewp_false rfl ?_)) <;> ((first | refine o_ltT rfl rfl rfl ?_ | refine o_ltF rfl rfl rfl ?_) <;> (first | refine owp_nilT ?_ | refine owp_nilB ?_ | refine owp_nilBB ?_ | refine owp_nil ?_)) <;> (repeat (first | refine ewp_seq ?_ | refine ewp_block ?_ | refine ewp_region ?_ | refine ewp_skip ?_ | refine ewp_exit ?_ | refine ewp_ret ?_ | refine ewp_true rfl ?_ | refine ewp_false rfl ?_)) <;> (refine o_as rfl rfl ?_ <;> (first | refine owp_nilT ?_ | refine owp_nilB ?_ | refine owp_nilBB ?_ | refine owp_nil ?_)) <;> (repeat (first | refine ewp_seq ?_ | refine ewp_block ?_ | refine ewp_region ?_ | refine ewp_skip ?_ | refine ewp_exit ?_ | refine ewp_ret ?_ | refine ewp_true rfl ?_ | refine ewp_false rfl ?_)))
      refine ret1 rfl rfl ⟨?_, Below.refl _ _⟩
      rw [List.take_of_length_le (by omega), List.take_of_length_le (by omega)] at hh
      rw [bof_t hh]
  · ((repeat (first | refine ewp_seq ?_ | refine ewp_block ?_ | refine ewp_region ?_ | refine ewp_skip ?_ | refine ewp_exit ?_ | refine ewp_ret ?_ | refine ewp_true rfl ?_ | refine ewp_false rfl ?_)) <;> (refine o_as rfl rfl ?_ <;> (first | refine owp_nilT ?_ | refine owp_nilB ?_ | refine owp_nilBB ?_ | refine owp_nil ?_)) <;> (repeat (first | refine ewp_seq ?_ | refine ewp_block ?_ | refine ewp_region ?_ | refine ewp_skip ?_ | refine ewp_exit ?_ | refine ewp_ret ?_ | refine ewp_true rfl ?_ | refine ewp_false rfl ?_)) <;> (refine o_mv rfl rfl ?_ <;> refine o_ln rfl rfl ?_ <;> refine o_mv rfl rfl ?_ <;> refine o_ln rfl rfl ?_ <;> (first | refine o_neT rfl rfl rfl ?_ | refine o_neF rfl rfl rfl ?_) <;> (first | refine owp_nilT ?_ | refine owp_nilB ?_ | refine owp_nilBB ?_ | refine owp_nil ?_)) <;> (repeat (first | refine ewp_seq ?_ | refine ewp_block ?_ | refine ewp_region ?_ | refine ewp_skip ?_ | refine ewp_exit ?_ | refine ewp_ret ?_ | refine ewp_true rfl ?_ | refine ewp_false rfl ?_)) <;> (refine o_as rfl rfl ?_ <;> (first | refine owp_nilT ?_ | refine owp_nilB ?_ | refine owp_nilBB ?_ | refine owp_nil ?_)) <;> (repeat (first | refine ewp_seq ?_ | refine ewp_block ?_ | refine ewp_region ?_ | refine ewp_skip ?_ | refine ewp_exit ?_ | refine ewp_ret ?_ | refine ewp_true rfl ?_ | refine ewp_false rfl ?_)))
    refine ret1 rfl rfl ⟨?_, Below.refl _ _⟩
    rw [bof_f (fun h => hl (by rw [h]))]
/-- A state is proper. -/
def StateOk (vars s : List Int) : Prop := s.length = vars.length ∧ ∀ (i : Nat) x y, s[i]? = some x → vars[i]? = some y → 0 ≤ x ∧ x < y
theorem baseState {w : World} {vv sv : Value} {vars s : List Int} (ha : V w vv vars) (hb : V w sv s) :
    Fn Try.prog 50 [vv, sv] w fun v w' => v = .bool (bof (StateOk vars s)) ∧ Ext w w' := by
  obtain ⟨A, ca, rfl⟩ := ha.form
  obtain ⟨B, cb, rfl⟩ := hb.form
  have hal := hb.len
  refine fn_enter Try.func50 rfl Try.ntmps50 rfl ?_
  by_cases hl : s.length = vars.length
  · ((repeat (first | refine ewp_seq ?_ | refine ewp_block ?_ | refine ewp_region ?_ | refine ewp_skip ?_ | refine ewp_exit ?_ | refine ewp_ret ?_ | refine ewp_true rfl ?_ | refine ewp_false rfl ?_)) <;> (refine o_as rfl rfl ?_ <;> (first | refine owp_nilT ?_ | refine owp_nilB ?_ | refine owp_nilBB ?_ | refine owp_nil ?_)) <;> (repeat (first | refine ewp_seq ?_ | refine ewp_block ?_ | refine ewp_region ?_ | refine ewp_skip ?_ | refine ewp_exit ?_ | refine ewp_ret ?_ | refine ewp_true rfl ?_ | refine ewp_false rfl ?_)) <;> (refine o_mv rfl rfl ?_ <;> refine o_ln rfl rfl ?_ <;> refine o_mv rfl rfl ?_ <;> refine o_ln rfl rfl ?_ <;> (first | refine o_neT rfl rfl rfl ?_ | refine o_neF rfl rfl rfl ?_) <;> (first | refine owp_nilT ?_ | refine owp_nilB ?_ | refine owp_nilBB ?_ | refine owp_nil ?_)) <;> (repeat (first | refine ewp_seq ?_ | refine ewp_block ?_ | refine ewp_region ?_ | refine ewp_skip ?_ | refine ewp_exit ?_ | refine ewp_ret ?_ | refine ewp_true rfl ?_ | refine ewp_false rfl ?_)) <;> (refine o_mv rfl rfl ?_ <;> refine o_ln rfl rfl ?_ <;> refine o_mv rfl rfl ?_ <;> (first | refine owp_nilT ?_ | refine owp_nilB ?_ | refine owp_nilBB ?_ | refine owp_nil ?_)) <;> (repeat (first | refine ewp_seq ?_ | refine ewp_block ?_ | refine ewp_region ?_ | refine ewp_skip ?_ | refine ewp_exit ?_ | refine ewp_ret ?_ | refine ewp_true rfl ?_ | refine ewp_false rfl ?_)))
    refine ewp_for (fun k : Nat => [(0, .slice A vars.length ca), (1, .slice B s.length cb), (12, .int .i64 (s.length : Int)), (13, .int .i64 (k : Int))])
      (fun k w' => w' = w ∧ k ≤ s.length ∧ ∀ (i : Nat) x y, i < k → s[i]? = some x → vars[i]? = some y → 0 ≤ x ∧ x < y) (fun k => s.length - k) 0 ⟨rfl, Nat.zero_le _, fun i _ _ h => by omega⟩ ⟨rfl, rfl, rfl, rfl, trivial⟩ ?_
    rintro k _ ⟨rfl, hk, hh⟩
    by_cases hlt : k < s.length
    · obtain ⟨x, hx⟩ := some_of_lt hlt
      obtain ⟨y, hy⟩ := some_of_lt (l := vars) (k := k) (by omega)
      obtain ⟨b1, o1, ce, rfl, _, _, hd1, rfl, _⟩ := ha.elem hy
      obtain ⟨b2, o2, ce, rfl, _, _, hd2, rfl, _⟩ := hb.elem hx
      ((repeat (first | refine ewp_seq ?_ | refine ewp_block ?_ | refine ewp_region ?_ | refine ewp_skip ?_ | refine ewp_exit ?_ | refine ewp_ret ?_ | refine ewp_true rfl ?_ | refine ewp_false rfl ?_)) <;> ((first | refine o_ltT rfl rfl rfl ?_ | refine o_ltF rfl rfl rfl ?_) <;> (first | refine owp_nilT ?_ | refine owp_nilB ?_ | refine owp_nilBB ?_ | refine owp_nil ?_)) <;> (repeat (first | refine ewp_seq ?_ | refine ewp_block ?_ | refine ewp_region ?_ | refine ewp_skip ?_ | refine ewp_exit ?_ | refine ewp_ret ?_ | refine ewp_true rfl ?_ | refine ewp_false rfl ?_)) <;> (refine o_mv rfl rfl ?_ <;> refine o_as rfl rfl ?_ <;> (first | refine owp_nilT ?_ | refine owp_nilB ?_ | refine owp_nilBB ?_ | refine owp_nil ?_)) <;> (repeat (first | refine ewp_seq ?_ | refine ewp_block ?_ | refine ewp_region ?_ | refine ewp_skip ?_ | refine ewp_exit ?_ | refine ewp_ret ?_ | refine ewp_true rfl ?_ | refine ewp_false rfl ?_)))
      refine ewp_draw (· = _) [(0, true), (1, true), (2, true), (3, true), (4, true), (5, true), (6, true), (7, true), (8, true), (9, true), (10, true), (11, true), (12, true), (13, true), (14, true), (15, true)] (by kernel_rfl) rfl (by kernel_rfl) rfl ?_
      (refine h_mv rfl rfl rfl ?_ <;> refine h_mv rfl rfl rfl ?_ <;> refine h_ia rfl rfl rfl rfl ?_ <;> refine h_ldA rfl rfl rfl ?_ <;> (first | refine h_ltT rfl rfl rfl rfl ?_ | refine h_ltF rfl rfl rfl rfl ?_ | refine h_ltS rfl rfl rfl rfl (fun _ => ?_) fun _ => ?_) <;> refine h_mv rfl rfl rfl ?_ <;> (refine hwp_o rfl ?_; (first | (refine hwq_yes rfl rfl ?_; refine g_mv rfl rfl ?_) | refine hwq_no rfl rfl rfl rfl ?_)) <;> (refine hwp_o rfl ?_; (first | (refine hwq_yes rfl rfl ?_; refine g_mv rfl rfl ?_) | refine hwq_no rfl rfl rfl rfl ?_)) <;> (refine hwp_o rfl ?_; (first | (refine hwq_yes rfl rfl ?_; refine g_ia rfl rfl rfl ?_) | refine hwq_no rfl rfl rfl rfl ?_)) <;> (refine hwp_o rfl ?_; (first | (refine hwq_yes rfl rfl ?_; refine g_ldA rfl rfl ?_) | refine hwq_no rfl rfl rfl rfl ?_)) <;> (refine hwp_o rfl ?_; (first | (refine hwq_yes rfl rfl ?_; refine g_mv rfl rfl ?_) | refine hwq_no rfl rfl rfl rfl ?_)) <;> (refine hwp_o rfl ?_; (first | (refine hwq_yes rfl rfl ?_; refine g_mv rfl rfl ?_) | refine hwq_no rfl rfl rfl rfl ?_)) <;> (refine hwp_o rfl ?_; (first | (refine hwq_yes rfl rfl ?_; refine g_ia rfl rfl rfl ?_) | refine hwq_no rfl rfl rfl rfl ?_)) <;> (refine hwp_o rfl ?_; (first | (refine hwq_yes rfl rfl ?_; refine g_ldA rfl rfl ?_) | refine hwq_no rfl rfl rfl rfl ?_)) <;> (refine hwp_o rfl ?_; (first | (refine hwq_yes rfl rfl ?_; (first | refine hwq_dT (fun _ _ => ev_geq rfl rfl) rfl (by omega) ?_ | refine hwq_dF (fun _ _ => ev_geq rfl rfl) rfl (by omega) ?_ | refine hwq_split (fun _ _ => ev_geq rfl rfl) rfl (fun _ => ?_) (fun _ => ?_))) | refine hwq_no rfl rfl rfl rfl ?_)) <;> (first | refine h_pt rfl rfl rfl rfl ?_ | refine h_pf rfl rfl rfl rfl ?_) <;> (first | refine hwp_nilT ?_ | refine hwp_nilB ?_ | refine hwp_nil ?_)) <;> (repeat (first | refine ewp_seq ?_ | refine ewp_block ?_ | refine ewp_region ?_ | refine ewp_skip ?_ | refine ewp_exit ?_ | refine ewp_ret ?_ | refine ewp_true rfl ?_ | refine ewp_false rfl ?_))
      case refine_2.refine_2 =>
        ((first | refine o_ic rfl rfl ?_ | refine o_ad rfl rfl rfl ?_) <;> refine o_mv rfl rfl ?_ <;> (first | refine owp_nilT ?_ | refine owp_nilB ?_ | refine owp_nilBB ?_ | refine owp_nil ?_))
        refine ⟨k + 1, ⟨rfl, rfl, rfl, rfl, trivial⟩, ⟨rfl, by omega, fun i x' y' hi h1 h2 => ?_⟩, by omega⟩
        by_cases he : i = k
        · subst he
          rw [hx] at h1; rw [hy] at h2
          injection h1 with h1; injection h2 with h2
          omega
        · exact hh i x' y' (by omega) h1 h2
      all_goals
        ((repeat (first | refine ewp_seq ?_ | refine ewp_block ?_ | refine ewp_region ?_ | refine ewp_skip ?_ | refine ewp_exit ?_ | refine ewp_ret ?_ | refine ewp_true rfl ?_ | refine ewp_false rfl ?_)) <;> (refine o_as rfl rfl ?_ <;> (first | refine owp_nilT ?_ | refine owp_nilB ?_ | refine owp_nilBB ?_ | refine owp_nil ?_)) <;> (repeat (first | refine ewp_seq ?_ | refine ewp_block ?_ | refine ewp_region ?_ | refine ewp_skip ?_ | refine ewp_exit ?_ | refine ewp_ret ?_ | refine ewp_true rfl ?_ | refine ewp_false rfl ?_)))
        refine ret1 rfl rfl ⟨?_, Below.refl _ _⟩
        rw [bof_f (fun h => by have := h.2 k x y hx hy; omega)]
    · ((repeat (first | refine ewp_seq ?_ | refine ewp_block ?_ | refine ewp_region ?_ | refine ewp_skip ?_ | refine ewp_exit ?_ | refine ewp_ret ?_ | refine ewp_true rfl ?_ | refine ewp_false rfl ?_)) <;> ((first | refine o_ltT rfl rfl rfl ?_ | refine o_ltF rfl rfl rfl ?_) <;> (first | refine owp_nilT ?_ | refine owp_nilB ?_ | refine owp_nilBB ?_ | refine owp_nil ?_)) <;> (repeat (first | refine ewp_seq ?_ | refine ewp_block ?_ | refine ewp_region ?_ | refine ewp_skip ?_ | refine ewp_exit ?_ | refine ewp_ret ?_ | refine ewp_true rfl ?_ | refine ewp_false rfl ?_)) <;> (refine o_as rfl rfl ?_ <;> (first | refine owp_nilT ?_ | refine owp_nilB ?_ | refine owp_nilBB ?_ | refine owp_nil ?_)) <;> (repeat (first | refine ewp_seq ?_ | refine ewp_block ?_ | refine ewp_region ?_ | refine ewp_skip ?_ | refine ewp_exit ?_ | refine ewp_ret ?_ | refine ewp_true rfl ?_ | refine ewp_false rfl ?_)))
      refine ret1 rfl rfl ⟨?_, Below.refl _ _⟩
      rw [bof_t ⟨hl, fun i x y h1 h2 => hh i x y (by have := lt_of_some h1; omega) h1 h2⟩]
  · ((repeat (first | refine ewp_seq ?_ | refine ewp_block ?_ | refine ewp_region ?_ | refine ewp_skip ?_ | refine ewp_exit ?_ | refine ewp_ret ?_ | refine ewp_true rfl ?_ | refine ewp_false rfl ?_)) <;> (refine o_as rfl rfl ?_ <;> (first | refine owp_nilT ?_ | refine owp_nilB ?_ | refine owp_nilBB ?_ | refine owp_nil ?_)) <;> (repeat (first | refine ewp_seq ?_ | refine ewp_block ?_ | refine ewp_region ?_ | refine ewp_skip ?_ | refine ewp_exit ?_ | refine ewp_ret ?_ | refine ewp_true rfl ?_ | refine ewp_false rfl ?_)) <;> (refine o_mv rfl rfl ?_ <;> refine o_ln rfl rfl ?_ <;> refine o_mv rfl rfl ?_ <;> refine o_ln rfl rfl ?_ <;> (first | refine o_neT rfl rfl rfl ?_ | refine o_neF rfl rfl rfl ?_) <;> (first | refine owp_nilT ?_ | refine owp_nilB ?_ | refine owp_nilBB ?_ | refine owp_nil ?_)) <;> (repeat (first | refine ewp_seq ?_ | refine ewp_block ?_ | refine ewp_region ?_ | refine ewp_skip ?_ | refine ewp_exit ?_ | refine ewp_ret ?_ | refine ewp_true rfl ?_ | refine ewp_false rfl ?_)) <;> (refine o_as rfl rfl ?_ <;> (first | refine owp_nilT ?_ | refine owp_nilB ?_ | refine owp_nilBB ?_ | refine owp_nil ?_)) <;> (repeat (first | refine ewp_seq ?_ | refine ewp_block ?_ | refine ewp_region ?_ | refine ewp_skip ?_ | refine ewp_exit ?_ | refine ewp_ret ?_ | refine ewp_true rfl ?_ | refine ewp_false rfl ?_)))
    refine ret1 rfl rfl ⟨?_, Below.refl _ _⟩
    rw [bof_f (fun h => hl h.1)]
end
section
open Go Go.RowKit
attribute [local irreducible] ewp owp hwp hwq hws Ev Evg Fn retPost loud loudS Res1
theorem taskProper {w : World} {vv sv : Value} {vars s : List Int} (ha : V w vv vars) (hb : V w sv s) :
    Fn Try.prog 54 [vv, sv] w fun v w' => v = .bool (bof (StateOk vars s)) ∧ Ext w w' := by
  obtain ⟨A, ca, rfl⟩ := ha.form
  obtain ⟨B, cb, rfl⟩ := hb.form
  have hal := hb.len
  refine fn_enter Try.func54 rfl Try.ntmps54 rfl ?_
  by_cases hl : s.length = vars.length
  · ((repeat (first | refine ewp_seq ?_ | refine ewp_block ?_ | refine ewp_region ?_ | refine ewp_skip ?_ | refine ewp_exit ?_ | refine ewp_ret ?_ | refine ewp_true rfl ?_ | refine ewp_false rfl ?_)) <;> (refine o_as rfl rfl ?_ <;> (first | refine owp_nilT ?_ | refine owp_nilB ?_ | refine owp_nilBB ?_ | refine owp_nil ?_)) <;> (repeat (first | refine ewp_seq ?_ | refine ewp_block ?_ | refine ewp_region ?_ | refine ewp_skip ?_ | refine ewp_exit ?_ | refine ewp_ret ?_ | refine ewp_true rfl ?_ | refine ewp_false rfl ?_)) <;> (refine o_mv rfl rfl ?_ <;> refine o_ln rfl rfl ?_ <;> refine o_mv rfl rfl ?_ <;> refine o_ln rfl rfl ?_ <;> (first | refine o_neT rfl rfl rfl ?_ | refine o_neF rfl rfl rfl ?_) <;> (first | refine owp_nilT ?_ | refine owp_nilB ?_ | refine owp_nilBB ?_ | refine owp_nil ?_)) <;> (repeat (first | refine ewp_seq ?_ | refine ewp_block ?_ | refine ewp_region ?_ | refine ewp_skip ?_ | refine ewp_exit ?_ | refine ewp_ret ?_ | refine ewp_true rfl ?_ | refine ewp_false rfl ?_)) <;> (refine o_mv rfl rfl ?_ <;> refine o_ln rfl rfl ?_ <;> refine o_mv rfl rfl ?_ <;> (first | refine owp_nilT ?_ | refine owp_nilB ?_ | refine owp_nilBB ?_ | refine owp_nil ?_)) <;> (repeat (first | refine ewp_seq ?_ | refine ewp_block ?_ | refine ewp_region ?_ | refine ewp_skip ?_ | refine ewp_exit ?_ | refine ewp_ret ?_ | refine ewp_true rfl ?_ | refine ewp_false rfl ?_)))
    refine ewp_for (fun k : Nat => [(0, .slice A vars.length ca), (12, .slice B s.length cb), (13, .int .i64 (s.length : Int)), (14, .int .i64 (k : Int))])
      (fun k w' => w' = w ∧ k ≤ s.length ∧ ∀ (i : Nat) x y, i < k → s[i]? = some x → vars[i]? = some y → 0 ≤ x ∧ x < y) (fun k => s.length - k) 0 ⟨rfl, Nat.zero_le _, fun i _ _ h => by omega⟩ ⟨rfl, rfl, rfl, rfl, trivial⟩ ?_
    rintro k _ ⟨rfl, hk, hh⟩
    by_cases hlt : k < s.length
    · obtain ⟨x, hx⟩ := some_of_lt hlt
      obtain ⟨y, hy⟩ := some_of_lt (l := vars) (k := k) (by omega)
      obtain ⟨b1, o1, ce, rfl, _, _, hd1, rfl, _⟩ := ha.elem hy
      obtain ⟨b2, o2, ce, rfl, _, _, hd2, rfl, _⟩ := hb.elem hx
      ((repeat (first | refine ewp_seq ?_ | refine ewp_block ?_ | refine ewp_region ?_ | refine ewp_skip ?_ | refine ewp_exit ?_ | refine ewp_ret ?_ | refine ewp_true rfl ?_ | refine ewp_false rfl ?_)) <;> ((first | refine o_ltT rfl rfl rfl ?_ | refine o_ltF rfl rfl rfl ?_) <;> (first | refine owp_nilT ?_ | refine owp_nilB ?_ | refine owp_nilBB ?_ | refine owp_nil ?_)) <;> (repeat (first | refine ewp_seq ?_ | refine ewp_block ?_ | refine ewp_region ?_ | refine ewp_skip ?_ | refine ewp_exit ?_ | refine ewp_ret ?_ | refine ewp_true rfl ?_ | refine ewp_false rfl ?_)) <;> (refine o_mv rfl rfl ?_ <;> refine o_ia rfl rfl rfl ?_ <;> refine o_ld rfl rfl ?_ <;> refine o_as rfl rfl ?_ <;> refine o_as rfl rfl ?_ <;> (first | refine owp_nilT ?_ | refine owp_nilB ?_ | refine owp_nilBB ?_ | refine owp_nil ?_)) <;> (repeat (first | refine ewp_seq ?_ | refine ewp_block ?_ | refine ewp_region ?_ | refine ewp_skip ?_ | refine ewp_exit ?_ | refine ewp_ret ?_ | refine ewp_true rfl ?_ | refine ewp_false rfl ?_)) <;> (refine o_mv rfl rfl ?_ <;> (first | refine o_ltT rfl rfl rfl ?_ | refine o_ltF rfl rfl rfl ?_ | refine o_ltS rfl rfl rfl (fun _ => ?_) fun _ => ?_) <;> refine o_mv rfl rfl ?_ <;> (first | (refine owp_yes rfl rfl ?_; refine o_mv rfl rfl ?_) | refine owp_no rfl rfl rfl rfl ?_) <;> (first | (refine owp_yes rfl rfl ?_; refine o_mv rfl rfl ?_) | refine owp_no rfl rfl rfl rfl ?_) <;> (first | (refine owp_yes rfl rfl ?_; refine o_mv rfl rfl ?_) | refine owp_no rfl rfl rfl rfl ?_) <;> (first | (refine owp_yes rfl rfl ?_; refine o_ia rfl rfl rfl ?_) | refine owp_no rfl rfl rfl rfl ?_) <;> (first | (refine owp_yes rfl rfl ?_; refine o_ld rfl rfl ?_) | refine owp_no rfl rfl rfl rfl ?_) <;> (first | (refine owp_yes rfl rfl ?_; (first | refine o_geT rfl rfl rfl ?_ | refine o_geF rfl rfl rfl ?_ | refine o_geS rfl rfl rfl (fun _ => ?_) fun _ => ?_)) | refine owp_no rfl rfl rfl rfl ?_) <;> (first | refine o_pt rfl rfl rfl ?_ | refine o_pf rfl rfl rfl ?_) <;> (first | refine owp_nilT ?_ | refine owp_nilB ?_ | refine owp_nilBB ?_ | refine owp_nil ?_)) <;> (repeat (first | refine ewp_seq ?_ | refine ewp_block ?_ | refine ewp_region ?_ | refine ewp_skip ?_ | refine ewp_exit ?_ | refine ewp_ret ?_ | refine ewp_true rfl ?_ | refine ewp_false rfl ?_)))
      case refine_2.refine_2 =>
        ((first | refine o_ic rfl rfl ?_ | refine o_ad rfl rfl rfl ?_) <;> refine o_mv rfl rfl ?_ <;> (first | refine owp_nilT ?_ | refine owp_nilB ?_ | refine owp_nilBB ?_ | refine owp_nil ?_))
        refine ⟨k + 1, ⟨rfl, rfl, rfl, rfl, trivial⟩, ⟨rfl, by omega, fun i x' y' hi h1 h2 => ?_⟩, by omega⟩
        by_cases he : i = k
        · subst he
          rw [hx] at h1; rw [hy] at h2
          injection h1 with h1; injection h2 with h2
          omega
        · exact hh i x' y' (by omega) h1 h2
      all_goals
        ((repeat (first | refine ewp_seq ?_ | refine ewp_block ?_ | refine ewp_region ?_ | refine ewp_skip ?_ | refine ewp_exit ?_ | refine ewp_ret ?_ | refine ewp_true rfl ?_ | refine ewp_false rfl ?_)) <;> (refine o_as rfl rfl ?_ <;> (first | refine owp_nilT ?_ | refine owp_nilB ?_ | refine owp_nilBB ?_ | refine owp_nil ?_)) <;> (repeat (first | refine ewp_seq ?_ | refine ewp_block ?_ | refine ewp_region ?_ | refine ewp_skip ?_ | refine ewp_exit ?_ | refine ewp_ret ?_ | refine ewp_true rfl ?_ | refine ewp_false rfl ?_)))
        refine ret1 rfl rfl ⟨?_, Below.refl _ _⟩
        rw [bof_f (fun h => by have := h.2 k x y hx hy; omega)]
    · ((repeat (first | refine ewp_seq ?_ | refine ewp_block ?_ | refine ewp_region ?_ | refine ewp_skip ?_ | refine ewp_exit ?_ | refine ewp_ret ?_ | refine ewp_true rfl ?_ | refine ewp_false rfl ?_)) <;> ((first | refine o_ltT rfl rfl rfl ?_ | refine o_ltF rfl rfl rfl ?_) <;> (first | refine owp_nilT ?_ | refine owp_nilB ?_ | refine owp_nilBB ?_ | refine owp_nil ?_)) <;> (repeat (first | refine ewp_seq ?_ | refine ewp_block ?_ | refine ewp_region ?_ | refine ewp_skip ?_ | refine ewp_exit ?_ | refine ewp_ret ?_ | refine ewp_true rfl ?_ | refine ewp_false rfl ?_)) <;> (refine o_as rfl rfl ?_ <;> (first | refine owp_nilT ?_ | refine owp_nilB ?_ | refine owp_nilBB ?_ | refine owp_nil ?_)) <;> (repeat (first | refine ewp_seq ?_ | refine ewp_block ?_ | refine ewp_region ?_ | refine ewp_skip ?_ | refine ewp_exit ?_ | refine ewp_ret ?_ | refine ewp_true rfl ?_ | refine ewp_false rfl ?_)))
      refine ret1 rfl rfl ⟨?_, Below.refl _ _⟩
      rw [bof_t ⟨hl, fun i x y h1 h2 => hh i x y (by have := lt_of_some h1; omega) h1 h2⟩]
  · ((repeat (first | refine ewp_seq ?_ | refine ewp_block ?_ | refine ewp_region ?_ | refine ewp_skip ?_ | refine ewp_exit ?_ | refine ewp_ret ?_ | refine ewp_true rfl ?_ | refine ewp_false rfl ?_)) <;> (refine o_as rfl rfl ?_ <;> (first | refine owp_nilT ?_ | refine owp_nilB ?_ | refine owp_nilBB ?_ | refine owp_nil ?_)) <;> (repeat (first | refine ewp_seq ?_ | refine ewp_block ?_ | refine ewp_region ?_ | refine ewp_skip ?_ | refine ewp_exit ?_ | refine ewp_ret ?_ | refine ewp_true rfl ?_ | refine ewp_false rfl ?_)) <;> (refine o_mv rfl rfl ?_ <;> refine o_ln rfl rfl ?_ <;> refine o_mv rfl rfl ?_ <;> refine o_ln rfl rfl ?_ <;> (first | refine o_neT rfl rfl rfl ?_ | refine o_neF rfl rfl rfl ?_) <;> (first | refine owp_nilT ?_ | refine owp_nilB ?_ | refine owp_nilBB ?_ | refine owp_nil ?_)) <;> (repeat (first | refine ewp_seq ?_ | refine ewp_block ?_ | refine ewp_region ?_ | refine ewp_skip ?_ | refine ewp_exit ?_ | refine ewp_ret ?_ | refine ewp_true rfl ?_ | refine ewp_false rfl ?_)) <;> (refine o_as rfl rfl ?_ <;> (first | refine owp_nilT ?_ | refine owp_nilB ?_ | refine owp_nilBB ?_ | refine owp_nil ?_)) <;> (repeat (first | refine ewp_seq ?_ | refine ewp_block ?_ | refine ewp_region ?_ | refine ewp_skip ?_ | refine ewp_exit ?_ | refine ewp_ret ?_ | refine ewp_true rfl ?_ | refine ewp_false rfl ?_)))
    refine ret1 rfl rfl ⟨?_, Below.refl _ _⟩
    rw [bof_f (fun h => hl h.1)]
/-- A fact is in range. -/
def FactOk (vars : List Int) (x : Fct) : Prop := 0 ≤ x.var ∧ 0 ≤ x.val ∧ ∃ y, vars[x.var.toNat]? = some y ∧ x.val < y
/-- A list of facts is proper: in range, and strictly ascending by variable. -/
def FactsOk (vars : List Int) (f : List Fct) : Prop := (∀ (i : Nat) x, f[i]? = some x → FactOk vars x) ∧ ∀ (i : Nat) x y, f[i]? = some x → f[i + 1]? = some y → x.var < y.var
def FactsTo (vars : List Int) (f : List Fct) (k : Nat) : Prop := (∀ (i : Nat) x, i < k → f[i]? = some x → FactOk vars x) ∧ ∀ (i : Nat) x y, i + 1 < k → f[i]? = some x → f[i + 1]? = some y → x.var < y.var
theorem FactsTo.step {vars : List Int} {f : List Fct} {k : Nat} {x : Fct} (h : FactsTo vars f k) (hx : f[k]? = some x) (ho : FactOk vars x) (hp : ∀ y, 0 < k → f[k - 1]? = some y → y.var < x.var) : FactsTo vars f (k + 1) := by
  refine ⟨fun i y hi hy => ?_, fun i y z hi hy hz => ?_⟩
  · by_cases he : i = k
    · subst he; rw [hx] at hy; injection hy with hy; exact hy ▸ ho
    · exact h.1 i y (by omega) hy
  · by_cases he : i + 1 = k
    · rw [he, hx] at hz; injection hz with hz; subst hz
      exact hp y (by omega) (by rw [show k - 1 = i from by omega]; exact hy)
    · exact h.2 i y z (by omega) hy hz
theorem FactsTo.done {vars : List Int} {f : List Fct} {k : Nat} (h : FactsTo vars f k) (hk : f.length ≤ k) : FactsOk vars f :=
  ⟨fun i x hx => h.1 i x (by have := lt_of_some hx; omega) hx, fun i x y hx hy => h.2 i x y (by have := lt_of_some hy; omega) hx hy⟩
theorem baseProper {w : World} {vv fv : Value} {vars : List Int} {f : List Fct} (hv : V w vv vars) (hf : V w fv f) :
    Fn Try.prog 51 [vv, fv] w fun v w' => v = .bool (bof (FactsOk vars f)) ∧ Ext w w' := by
  obtain ⟨A, ca, rfl⟩ := hv.form
  obtain ⟨B, cb, rfl⟩ := hf.form
  have hfl := hf.len
  refine fn_enter Try.func51 rfl Try.ntmps51 rfl ?_
  ((repeat (first | refine ewp_seq ?_ | refine ewp_block ?_ | refine ewp_region ?_ | refine ewp_skip ?_ | refine ewp_exit ?_ | refine ewp_ret ?_ | refine ewp_true rfl ?_ | refine ewp_false rfl ?_)) <;> (refine o_as rfl rfl ?_ <;> (first | refine owp_nilT ?_ | refine owp_nilB ?_ | refine owp_nilBB ?_ | refine owp_nil ?_)) <;> (repeat (first | refine ewp_seq ?_ | refine ewp_block ?_ | refine ewp_region ?_ | refine ewp_skip ?_ | refine ewp_exit ?_ | refine ewp_ret ?_ | refine ewp_true rfl ?_ | refine ewp_false rfl ?_)) <;> (refine o_mv rfl rfl ?_ <;> refine o_ln rfl rfl ?_ <;> refine o_mv rfl rfl ?_ <;> (first | refine owp_nilT ?_ | refine owp_nilB ?_ | refine owp_nilBB ?_ | refine owp_nil ?_)) <;> (repeat (first | refine ewp_seq ?_ | refine ewp_block ?_ | refine ewp_region ?_ | refine ewp_skip ?_ | refine ewp_exit ?_ | refine ewp_ret ?_ | refine ewp_true rfl ?_ | refine ewp_false rfl ?_)))
  refine ewp_for (fun k : Nat => [(0, .slice A vars.length ca), (1, .slice B f.length cb), (7, .slice B f.length cb), (8, .int .i64 (f.length : Int)), (9, .int .i64 (k : Int))])
    (fun k w' => Ext w w' ∧ k ≤ f.length ∧ FactsTo vars f k) (fun k => f.length - k) 0 ⟨Below.refl _ _, Nat.zero_le _, ⟨fun i _ h => by omega, fun i _ _ h => by omega⟩⟩ ⟨rfl, rfl, rfl, rfl, rfl, trivial⟩ ?_
  rintro k w1 ⟨hE, hk, hh⟩
  by_cases hlt : k < f.length
  · obtain ⟨x, hx⟩ := some_of_lt hlt
    obtain ⟨b, o, ce, rfl, hb, _, hd1, rfl, hr1, hr2⟩ := (hf.ext hE).elem hx
    ((repeat (first | refine ewp_seq ?_ | refine ewp_block ?_ | refine ewp_region ?_ | refine ewp_skip ?_ | refine ewp_exit ?_ | refine ewp_ret ?_ | refine ewp_true rfl ?_ | refine ewp_false rfl ?_)) <;> ((first | refine o_ltT rfl rfl rfl ?_ | refine o_ltF rfl rfl rfl ?_) <;> (first | refine owp_nilT ?_ | refine owp_nilB ?_ | refine owp_nilBB ?_ | refine owp_nil ?_)) <;> (repeat (first | refine ewp_seq ?_ | refine ewp_block ?_ | refine ewp_region ?_ | refine ewp_skip ?_ | refine ewp_exit ?_ | refine ewp_ret ?_ | refine ewp_true rfl ?_ | refine ewp_false rfl ?_)) <;> (refine o_mv rfl rfl ?_ <;> refine o_ia rfl rfl rfl ?_ <;> refine o_la rfl rfl ?_) <;> (repeat (first | refine ewp_seq ?_ | refine ewp_block ?_ | refine ewp_region ?_ | refine ewp_skip ?_ | refine ewp_exit ?_ | refine ewp_ret ?_ | refine ewp_true rfl ?_ | refine ewp_false rfl ?_)))
    refine owp_alloc rfl fun w2 hN => ?_
    (refine o_as rfl rfl ?_)
    refine owp_store rfl rfl hN.blk rfl (Nat.le_refl _) (by simp [Value.cells, Value.oneCell']) fun w3 hU => ?_
    replace hN := hN.upd hU
    have hb1 := hN.blk
    have hE3 : Ext w w3 := hE.trans' hN.ext
    ((first | refine owp_nilT ?_ | refine owp_nilB ?_ | refine owp_nilBB ?_ | refine owp_nil ?_))
    repeat (first | refine ewp_seq ?_ | refine ewp_block ?_ | refine ewp_region ?_ | refine ewp_skip ?_ | refine ewp_exit ?_ | refine ewp_ret ?_ | refine ewp_true rfl ?_ | refine ewp_false rfl ?_)
    refine ewp_draw (· = w3) [(0, true), (1, true), (2, true), (3, true), (4, true), (5, true), (6, true), (7, true), (8, true), (9, true), (10, true), (11, true), (12, true), (13, true), (14, true), (15, true), (16, true), (17, true), (18, true), (19, true), (20, true), (21, true), (22, true), (23, true), (24, true), (25, true), (26, true), (27, true), (28, true), (29, true), (30, true), (31, true), (32, true), (33, true), (34, true), (35, true), (36, true), (37, true), (38, true), (39, true)] (by kernel_rfl) rfl (by kernel_rfl) rfl ?_
    by_cases hvr : 0 ≤ x.var ∧ x.var < vars.length
    · obtain ⟨j, hj1⟩ := Int.eq_ofNat_of_zero_le hvr.1
      obtain ⟨y, hy⟩ := some_of_lt (l := vars) (k := j) (by omega)
      obtain ⟨b2, o2, ce2, rfl, _, _, hd2, rfl, _⟩ := (hv.ext hE3).elem hy
      have hjy : vars[x.var.toNat]? = some y := by rw [hj1]; simpa using hy
      have hok : 0 ≤ x.val → x.val < y → FactOk vars x := fun h1 h2 => ⟨hvr.1, h1, y, hjy, h2⟩
      have hno : ¬ (0 ≤ x.val ∧ x.val < y) → ¬ FactsOk vars f := fun h1 h2 => h1 (by
        obtain ⟨_, h3, y', h4, h5⟩ := h2.1 k x hx
        rw [hjy] at h4; injection h4 with h4; subst h4; exact ⟨h3, h5⟩)
      by_cases h0 : 0 < k
      · obtain ⟨z, hz⟩ := some_of_lt (l := f) (k := k - 1) (by omega)
        obtain ⟨b3, o3, ce3, he3, _, _, hd3, rfl, _⟩ := (hf.ext hE3).elem hz
        injection he3 with he3
        injection he3 with he3 he4
        subst he3; subst he4
        have hj2 : (k : Int) - 1 = ((k - 1 : Nat) : Int) := by omega
        have hno2 : ¬ z.var < x.var → ¬ FactsOk vars f := fun h1 h2 => h1 (h2.2 (k - 1) z x hz (by rw [show k - 1 + 1 = k from by omega]; exact hx))
        (refine h_fa rfl rfl rfl ?_ <;> refine h_ldA rfl rfl rfl ?_ <;> (first | refine h_ltT rfl rfl rfl rfl ?_ | refine h_ltF rfl rfl rfl rfl ?_ | refine h_ltS rfl rfl rfl rfl (fun _ => ?_) fun _ => ?_) <;> refine h_mv rfl rfl rfl ?_ <;> (refine hwp_o rfl ?_; (first | (refine hwq_yes rfl rfl ?_; refine g_fa rfl rfl ?_) | refine hwq_no rfl rfl rfl rfl ?_)) <;> (refine hwp_o rfl ?_; (first | (refine hwq_yes rfl rfl ?_; refine g_ldA rfl rfl ?_) | refine hwq_no rfl rfl rfl rfl ?_)) <;> (refine hwp_o rfl ?_; (first | (refine hwq_yes rfl rfl ?_; refine g_mv rfl rfl ?_) | refine hwq_no rfl rfl rfl rfl ?_)) <;> (refine hwp_o rfl ?_; (first | (refine hwq_yes rfl rfl ?_; refine g_ln rfl rfl ?_) | refine hwq_no rfl rfl rfl rfl ?_)) <;> (refine hwp_o rfl ?_; (first | (refine hwq_yes rfl rfl ?_; (first | refine hwq_dT (fun _ _ => ev_geq rfl rfl) rfl (by omega) ?_ | refine hwq_dF (fun _ _ => ev_geq rfl rfl) rfl (by omega) ?_ | refine hwq_split (fun _ _ => ev_geq rfl rfl) rfl (fun _ => ?_) (fun _ => ?_))) | refine hwq_no rfl rfl rfl rfl ?_)) <;> (first | refine h_pt rfl rfl rfl rfl ?_ | refine h_pf rfl rfl rfl rfl ?_) <;> refine h_mv rfl rfl rfl ?_ <;> (refine hwp_o rfl ?_; (first | (refine hwq_yes rfl rfl ?_; refine g_fa rfl rfl ?_) | refine hwq_no rfl rfl rfl rfl ?_)) <;> (refine hwp_o rfl ?_; (first | (refine hwq_yes rfl rfl ?_; refine g_ldA rfl rfl ?_) | refine hwq_no rfl rfl rfl rfl ?_)) <;> (refine hwp_o rfl ?_; (first | (refine hwq_yes rfl rfl ?_; (first | refine hwq_dT (fun _ _ => ev_lss rfl rfl) rfl (by omega) ?_ | refine hwq_dF (fun _ _ => ev_lss rfl rfl) rfl (by omega) ?_ | refine hwq_split (fun _ _ => ev_lss rfl rfl) rfl (fun _ => ?_) (fun _ => ?_))) | refine hwq_no rfl rfl rfl rfl ?_)) <;> (first | refine h_pt rfl rfl rfl rfl ?_ | refine h_pf rfl rfl rfl rfl ?_) <;> refine h_mv rfl rfl rfl ?_ <;> (refine hwp_o rfl ?_; (first | (refine hwq_yes rfl rfl ?_; refine g_fa rfl rfl ?_) | refine hwq_no rfl rfl rfl rfl ?_)) <;> (refine hwp_o rfl ?_; (first | (refine hwq_yes rfl rfl ?_; refine g_ldA rfl rfl ?_) | refine hwq_no rfl rfl rfl rfl ?_)) <;> (refine hwp_o rfl ?_; (first | (refine hwq_yes rfl rfl ?_; refine g_mv rfl rfl ?_) | refine hwq_no rfl rfl rfl rfl ?_)) <;> (refine hwp_o rfl ?_; (first | (refine hwq_yes rfl rfl ?_; refine g_fa rfl rfl ?_) | refine hwq_no rfl rfl rfl rfl ?_)) <;> (refine hwp_o rfl ?_; (first | (refine hwq_yes rfl rfl ?_; refine g_ldA rfl rfl ?_) | refine hwq_no rfl rfl rfl rfl ?_)) <;> (refine hwp_o rfl ?_; (first | (refine hwq_yes rfl rfl ?_; refine g_ia rfl rfl rfl ?_) | refine hwq_no rfl rfl rfl rfl ?_)) <;> (refine hwp_o rfl ?_; (first | (refine hwq_yes rfl rfl ?_; refine g_ldA rfl rfl ?_) | refine hwq_no rfl rfl rfl rfl ?_)) <;> (refine hwp_o rfl ?_; (first | (refine hwq_yes rfl rfl ?_; (first | refine hwq_dT (fun _ _ => ev_geq rfl rfl) rfl (by omega) ?_ | refine hwq_dF (fun _ _ => ev_geq rfl rfl) rfl (by omega) ?_ | refine hwq_split (fun _ _ => ev_geq rfl rfl) rfl (fun _ => ?_) (fun _ => ?_))) | refine hwq_no rfl rfl rfl rfl ?_)) <;> (first | refine h_pt rfl rfl rfl rfl ?_ | refine h_pf rfl rfl rfl rfl ?_) <;> refine h_mv rfl rfl rfl ?_ <;> (refine hwp_o rfl ?_; (first | (refine hwq_yes rfl rfl ?_; refine g_mv rfl rfl ?_) | refine hwq_no rfl rfl rfl rfl ?_)) <;> (refine hwp_o rfl ?_; (first | (refine hwq_yes rfl rfl ?_; (first | refine hwq_dT (fun _ _ => ev_gtr rfl rfl) rfl (by omega) ?_ | refine hwq_dF (fun _ _ => ev_gtr rfl rfl) rfl (by omega) ?_ | refine hwq_split (fun _ _ => ev_gtr rfl rfl) rfl (fun _ => ?_) (fun _ => ?_))) | refine hwq_no rfl rfl rfl rfl ?_)) <;> (refine hwp_o rfl ?_; (first | (refine hwq_yes rfl rfl ?_; refine g_mv rfl rfl ?_) | refine hwq_no rfl rfl rfl rfl ?_)) <;> (refine hwp_o rfl ?_; (first | (refine hwq_yes rfl rfl ?_; refine g_mv rfl rfl ?_) | refine hwq_no rfl rfl rfl rfl ?_)) <;> (refine hwp_o rfl ?_; (first | (refine hwq_yes rfl rfl ?_; refine g_mv rfl rfl ?_) | refine hwq_no rfl rfl rfl rfl ?_)) <;> (refine hwp_o rfl ?_; (first | (refine hwq_yes rfl rfl ?_; refine g_sb rfl rfl rfl ?_) | refine hwq_no rfl rfl rfl rfl ?_)) <;> (refine hwp_o rfl ?_; (first | (refine hwq_yes rfl rfl ?_; refine g_ia rfl rfl rfl ?_) | refine hwq_no rfl rfl rfl rfl ?_)) <;> (refine hwp_o rfl ?_; (first | (refine hwq_yes rfl rfl ?_; refine g_fa rfl rfl ?_) | refine hwq_no rfl rfl rfl rfl ?_)) <;> (refine hwp_o rfl ?_; (first | (refine hwq_yes rfl rfl ?_; refine g_ldA rfl rfl ?_) | refine hwq_no rfl rfl rfl rfl ?_)) <;> (refine hwp_o rfl ?_; (first | (refine hwq_yes rfl rfl ?_; refine g_fa rfl rfl ?_) | refine hwq_no rfl rfl rfl rfl ?_)) <;> (refine hwp_o rfl ?_; (first | (refine hwq_yes rfl rfl ?_; refine g_ldA rfl rfl ?_) | refine hwq_no rfl rfl rfl rfl ?_)) <;> (refine hwp_o rfl ?_; (first | (refine hwq_yes rfl rfl ?_; (first | refine hwq_dT (fun _ _ => ev_geq rfl rfl) rfl (by omega) ?_ | refine hwq_dF (fun _ _ => ev_geq rfl rfl) rfl (by omega) ?_ | refine hwq_split (fun _ _ => ev_geq rfl rfl) rfl (fun _ => ?_) (fun _ => ?_))) | refine hwq_no rfl rfl rfl rfl ?_)) <;> (refine hwp_o rfl ?_; (first | (refine hwq_yes rfl rfl ?_; (first | refine g_pt rfl rfl rfl ?_ | refine g_pf rfl rfl rfl ?_)) | refine hwq_no rfl rfl rfl rfl ?_)) <;> (first | refine h_pt rfl rfl rfl rfl ?_ | refine h_pf rfl rfl rfl rfl ?_) <;> (first | refine hwp_nilT ?_ | refine hwp_nilB ?_ | refine hwp_nil ?_)) <;> (repeat (first | refine ewp_seq ?_ | refine ewp_block ?_ | refine ewp_region ?_ | refine ewp_skip ?_ | refine ewp_exit ?_ | refine ewp_ret ?_ | refine ewp_true rfl ?_ | refine ewp_false rfl ?_))
        all_goals first
          | (((first | refine o_ic rfl rfl ?_ | refine o_ad rfl rfl rfl ?_) <;> refine o_mv rfl rfl ?_ <;> (first | refine owp_nilT ?_ | refine owp_nilB ?_ | refine owp_nilBB ?_ | refine owp_nil ?_))
             exact ⟨k + 1, ⟨rfl, rfl, rfl, rfl, rfl, trivial⟩, ⟨hE3, by omega, hh.step hx (hok (by omega) (by omega)) (fun y' _ hy' => by rw [hz] at hy'; injection hy' with hy'; subst hy'; omega)⟩, by omega⟩)
          | (((repeat (first | refine ewp_seq ?_ | refine ewp_block ?_ | refine ewp_region ?_ | refine ewp_skip ?_ | refine ewp_exit ?_ | refine ewp_ret ?_ | refine ewp_true rfl ?_ | refine ewp_false rfl ?_)) <;> (refine o_as rfl rfl ?_ <;> (first | refine owp_nilT ?_ | refine owp_nilB ?_ | refine owp_nilBB ?_ | refine owp_nil ?_)) <;> (repeat (first | refine ewp_seq ?_ | refine ewp_block ?_ | refine ewp_region ?_ | refine ewp_skip ?_ | refine ewp_exit ?_ | refine ewp_ret ?_ | refine ewp_true rfl ?_ | refine ewp_false rfl ?_)))
             refine ret1 rfl rfl ⟨?_, hE3⟩
             first | rw [bof_f (hno (by omega))] | rw [bof_f (hno2 (by omega))])
      · (refine h_fa rfl rfl rfl ?_ <;> refine h_ldA rfl rfl rfl ?_ <;> (first | refine h_ltT rfl rfl rfl rfl ?_ | refine h_ltF rfl rfl rfl rfl ?_ | refine h_ltS rfl rfl rfl rfl (fun _ => ?_) fun _ => ?_) <;> refine h_mv rfl rfl rfl ?_ <;> (refine hwp_o rfl ?_; (first | (refine hwq_yes rfl rfl ?_; refine g_fa rfl rfl ?_) | refine hwq_no rfl rfl rfl rfl ?_)) <;> (refine hwp_o rfl ?_; (first | (refine hwq_yes rfl rfl ?_; refine g_ldA rfl rfl ?_) | refine hwq_no rfl rfl rfl rfl ?_)) <;> (refine hwp_o rfl ?_; (first | (refine hwq_yes rfl rfl ?_; refine g_mv rfl rfl ?_) | refine hwq_no rfl rfl rfl rfl ?_)) <;> (refine hwp_o rfl ?_; (first | (refine hwq_yes rfl rfl ?_; refine g_ln rfl rfl ?_) | refine hwq_no rfl rfl rfl rfl ?_)) <;> (refine hwp_o rfl ?_; (first | (refine hwq_yes rfl rfl ?_; (first | refine hwq_dT (fun _ _ => ev_geq rfl rfl) rfl (by omega) ?_ | refine hwq_dF (fun _ _ => ev_geq rfl rfl) rfl (by omega) ?_ | refine hwq_split (fun _ _ => ev_geq rfl rfl) rfl (fun _ => ?_) (fun _ => ?_))) | refine hwq_no rfl rfl rfl rfl ?_)) <;> (first | refine h_pt rfl rfl rfl rfl ?_ | refine h_pf rfl rfl rfl rfl ?_) <;> refine h_mv rfl rfl rfl ?_ <;> (refine hwp_o rfl ?_; (first | (refine hwq_yes rfl rfl ?_; refine g_fa rfl rfl ?_) | refine hwq_no rfl rfl rfl rfl ?_)) <;> (refine hwp_o rfl ?_; (first | (refine hwq_yes rfl rfl ?_; refine g_ldA rfl rfl ?_) | refine hwq_no rfl rfl rfl rfl ?_)) <;> (refine hwp_o rfl ?_; (first | (refine hwq_yes rfl rfl ?_; (first | refine hwq_dT (fun _ _ => ev_lss rfl rfl) rfl (by omega) ?_ | refine hwq_dF (fun _ _ => ev_lss rfl rfl) rfl (by omega) ?_ | refine hwq_split (fun _ _ => ev_lss rfl rfl) rfl (fun _ => ?_) (fun _ => ?_))) | refine hwq_no rfl rfl rfl rfl ?_)) <;> (first | refine h_pt rfl rfl rfl rfl ?_ | refine h_pf rfl rfl rfl rfl ?_) <;> refine h_mv rfl rfl rfl ?_ <;> (refine hwp_o rfl ?_; (first | (refine hwq_yes rfl rfl ?_; refine g_fa rfl rfl ?_) | refine hwq_no rfl rfl rfl rfl ?_)) <;> (refine hwp_o rfl ?_; (first | (refine hwq_yes rfl rfl ?_; refine g_ldA rfl rfl ?_) | refine hwq_no rfl rfl rfl rfl ?_)) <;> (refine hwp_o rfl ?_; (first | (refine hwq_yes rfl rfl ?_; refine g_mv rfl rfl ?_) | refine hwq_no rfl rfl rfl rfl ?_)) <;> (refine hwp_o rfl ?_; (first | (refine hwq_yes rfl rfl ?_; refine g_fa rfl rfl ?_) | refine hwq_no rfl rfl rfl rfl ?_)) <;> (refine hwp_o rfl ?_; (first | (refine hwq_yes rfl rfl ?_; refine g_ldA rfl rfl ?_) | refine hwq_no rfl rfl rfl rfl ?_)) <;> (refine hwp_o rfl ?_; (first | (refine hwq_yes rfl rfl ?_; refine g_ia rfl rfl rfl ?_) | refine hwq_no rfl rfl rfl rfl ?_)) <;> (refine hwp_o rfl ?_; (first | (refine hwq_yes rfl rfl ?_; refine g_ldA rfl rfl ?_) | refine hwq_no rfl rfl rfl rfl ?_)) <;> (refine hwp_o rfl ?_; (first | (refine hwq_yes rfl rfl ?_; (first | refine hwq_dT (fun _ _ => ev_geq rfl rfl) rfl (by omega) ?_ | refine hwq_dF (fun _ _ => ev_geq rfl rfl) rfl (by omega) ?_ | refine hwq_split (fun _ _ => ev_geq rfl rfl) rfl (fun _ => ?_) (fun _ => ?_))) | refine hwq_no rfl rfl rfl rfl ?_)) <;> (first | refine h_pt rfl rfl rfl rfl ?_ | refine h_pf rfl rfl rfl rfl ?_) <;> refine h_mv rfl rfl rfl ?_ <;> (refine hwp_o rfl ?_; (first | (refine hwq_yes rfl rfl ?_; refine g_mv rfl rfl ?_) | refine hwq_no rfl rfl rfl rfl ?_)) <;> (refine hwp_o rfl ?_; (first | (refine hwq_yes rfl rfl ?_; (first | refine hwq_dT (fun _ _ => ev_gtr rfl rfl) rfl (by omega) ?_ | refine hwq_dF (fun _ _ => ev_gtr rfl rfl) rfl (by omega) ?_ | refine hwq_split (fun _ _ => ev_gtr rfl rfl) rfl (fun _ => ?_) (fun _ => ?_))) | refine hwq_no rfl rfl rfl rfl ?_)) <;> (refine hwp_o rfl ?_; (first | (refine hwq_yes rfl rfl ?_; refine g_mv rfl rfl ?_) | refine hwq_no rfl rfl rfl rfl ?_)) <;> (refine hwp_o rfl ?_; (first | (refine hwq_yes rfl rfl ?_; refine g_mv rfl rfl ?_) | refine hwq_no rfl rfl rfl rfl ?_)) <;> (refine hwp_o rfl ?_; (first | (refine hwq_yes rfl rfl ?_; refine g_mv rfl rfl ?_) | refine hwq_no rfl rfl rfl rfl ?_)) <;> (refine hwp_o rfl ?_; (first | (refine hwq_yes rfl rfl ?_; refine g_sb rfl rfl rfl ?_) | refine hwq_no rfl rfl rfl rfl ?_)) <;> (refine hwp_o rfl ?_; (first | (refine hwq_yes rfl rfl ?_; refine g_ia rfl rfl rfl ?_) | refine hwq_no rfl rfl rfl rfl ?_)) <;> (refine hwp_o rfl ?_; (first | (refine hwq_yes rfl rfl ?_; refine g_fa rfl rfl ?_) | refine hwq_no rfl rfl rfl rfl ?_)) <;> (refine hwp_o rfl ?_; (first | (refine hwq_yes rfl rfl ?_; refine g_ldA rfl rfl ?_) | refine hwq_no rfl rfl rfl rfl ?_)) <;> (refine hwp_o rfl ?_; (first | (refine hwq_yes rfl rfl ?_; refine g_fa rfl rfl ?_) | refine hwq_no rfl rfl rfl rfl ?_)) <;> (refine hwp_o rfl ?_; (first | (refine hwq_yes rfl rfl ?_; refine g_ldA rfl rfl ?_) | refine hwq_no rfl rfl rfl rfl ?_)) <;> (refine hwp_o rfl ?_; (first | (refine hwq_yes rfl rfl ?_; (first | refine hwq_dT (fun _ _ => ev_geq rfl rfl) rfl (by omega) ?_ | refine hwq_dF (fun _ _ => ev_geq rfl rfl) rfl (by omega) ?_ | refine hwq_split (fun _ _ => ev_geq rfl rfl) rfl (fun _ => ?_) (fun _ => ?_))) | refine hwq_no rfl rfl rfl rfl ?_)) <;> (refine hwp_o rfl ?_; (first | (refine hwq_yes rfl rfl ?_; (first | refine g_pt rfl rfl rfl ?_ | refine g_pf rfl rfl rfl ?_)) | refine hwq_no rfl rfl rfl rfl ?_)) <;> (first | refine h_pt rfl rfl rfl rfl ?_ | refine h_pf rfl rfl rfl rfl ?_) <;> (first | refine hwp_nilT ?_ | refine hwp_nilB ?_ | refine hwp_nil ?_)) <;> (repeat (first | refine ewp_seq ?_ | refine ewp_block ?_ | refine ewp_region ?_ | refine ewp_skip ?_ | refine ewp_exit ?_ | refine ewp_ret ?_ | refine ewp_true rfl ?_ | refine ewp_false rfl ?_))
        all_goals first
          | (((first | refine o_ic rfl rfl ?_ | refine o_ad rfl rfl rfl ?_) <;> refine o_mv rfl rfl ?_ <;> (first | refine owp_nilT ?_ | refine owp_nilB ?_ | refine owp_nilBB ?_ | refine owp_nil ?_))
             exact ⟨k + 1, ⟨rfl, rfl, rfl, rfl, rfl, trivial⟩, ⟨hE3, by omega, hh.step hx (hok (by omega) (by omega)) (fun y' _ hy' => by omega)⟩, by omega⟩)
          | (((repeat (first | refine ewp_seq ?_ | refine ewp_block ?_ | refine ewp_region ?_ | refine ewp_skip ?_ | refine ewp_exit ?_ | refine ewp_ret ?_ | refine ewp_true rfl ?_ | refine ewp_false rfl ?_)) <;> (refine o_as rfl rfl ?_ <;> (first | refine owp_nilT ?_ | refine owp_nilB ?_ | refine owp_nilBB ?_ | refine owp_nil ?_)) <;> (repeat (first | refine ewp_seq ?_ | refine ewp_block ?_ | refine ewp_region ?_ | refine ewp_skip ?_ | refine ewp_exit ?_ | refine ewp_ret ?_ | refine ewp_true rfl ?_ | refine ewp_false rfl ?_)))
             refine ret1 rfl rfl ⟨?_, hE3⟩
             rw [bof_f (hno (by omega))])
    · have hno : ¬ FactsOk vars f := fun h => by
        obtain ⟨h1, h2, y, h3, _⟩ := h.1 k x hx
        have := lt_of_some h3
        omega
      (refine h_fa rfl rfl rfl ?_ <;> refine h_ldA rfl rfl rfl ?_ <;> (first | refine h_ltT rfl rfl rfl rfl ?_ | refine h_ltF rfl rfl rfl rfl ?_ | refine h_ltS rfl rfl rfl rfl (fun _ => ?_) fun _ => ?_) <;> refine h_mv rfl rfl rfl ?_ <;> (refine hwp_o rfl ?_; (first | (refine hwq_yes rfl rfl ?_; refine g_fa rfl rfl ?_) | refine hwq_no rfl rfl rfl rfl ?_)) <;> (refine hwp_o rfl ?_; (first | (refine hwq_yes rfl rfl ?_; refine g_ldA rfl rfl ?_) | refine hwq_no rfl rfl rfl rfl ?_)) <;> (refine hwp_o rfl ?_; (first | (refine hwq_yes rfl rfl ?_; refine g_mv rfl rfl ?_) | refine hwq_no rfl rfl rfl rfl ?_)) <;> (refine hwp_o rfl ?_; (first | (refine hwq_yes rfl rfl ?_; refine g_ln rfl rfl ?_) | refine hwq_no rfl rfl rfl rfl ?_)) <;> (refine hwp_o rfl ?_; (first | (refine hwq_yes rfl rfl ?_; (first | refine hwq_dT (fun _ _ => ev_geq rfl rfl) rfl (by omega) ?_ | refine hwq_dF (fun _ _ => ev_geq rfl rfl) rfl (by omega) ?_ | refine hwq_split (fun _ _ => ev_geq rfl rfl) rfl (fun _ => ?_) (fun _ => ?_))) | refine hwq_no rfl rfl rfl rfl ?_)) <;> (first | refine h_pt rfl rfl rfl rfl ?_ | refine h_pf rfl rfl rfl rfl ?_) <;> refine h_mv rfl rfl rfl ?_ <;> (refine hwp_o rfl ?_; (first | (refine hwq_yes rfl rfl ?_; refine g_fa rfl rfl ?_) | refine hwq_no rfl rfl rfl rfl ?_)) <;> (refine hwp_o rfl ?_; (first | (refine hwq_yes rfl rfl ?_; refine g_ldA rfl rfl ?_) | refine hwq_no rfl rfl rfl rfl ?_)) <;> (refine hwp_o rfl ?_; (first | (refine hwq_yes rfl rfl ?_; (first | refine hwq_dT (fun _ _ => ev_lss rfl rfl) rfl (by omega) ?_ | refine hwq_dF (fun _ _ => ev_lss rfl rfl) rfl (by omega) ?_ | refine hwq_split (fun _ _ => ev_lss rfl rfl) rfl (fun _ => ?_) (fun _ => ?_))) | refine hwq_no rfl rfl rfl rfl ?_)) <;> (first | refine h_pt rfl rfl rfl rfl ?_ | refine h_pf rfl rfl rfl rfl ?_) <;> refine h_mv rfl rfl rfl ?_ <;> (refine hwp_o rfl ?_; (first | (refine hwq_yes rfl rfl ?_; refine g_fa rfl rfl ?_) | refine hwq_no rfl rfl rfl rfl ?_)) <;> (refine hwp_o rfl ?_; (first | (refine hwq_yes rfl rfl ?_; refine g_ldA rfl rfl ?_) | refine hwq_no rfl rfl rfl rfl ?_)) <;> (refine hwp_o rfl ?_; (first | (refine hwq_yes rfl rfl ?_; refine g_mv rfl rfl ?_) | refine hwq_no rfl rfl rfl rfl ?_)) <;> (refine hwp_o rfl ?_; (first | (refine hwq_yes rfl rfl ?_; refine g_fa rfl rfl ?_) | refine hwq_no rfl rfl rfl rfl ?_)) <;> (refine hwp_o rfl ?_; (first | (refine hwq_yes rfl rfl ?_; refine g_ldA rfl rfl ?_) | refine hwq_no rfl rfl rfl rfl ?_)) <;> (refine hwp_o rfl ?_; (first | (refine hwq_yes rfl rfl ?_; refine g_ia rfl rfl rfl ?_) | refine hwq_no rfl rfl rfl rfl ?_)) <;> (refine hwp_o rfl ?_; (first | (refine hwq_yes rfl rfl ?_; refine g_ldA rfl rfl ?_) | refine hwq_no rfl rfl rfl rfl ?_)) <;> (refine hwp_o rfl ?_; (first | (refine hwq_yes rfl rfl ?_; (first | refine hwq_dT (fun _ _ => ev_geq rfl rfl) rfl (by omega) ?_ | refine hwq_dF (fun _ _ => ev_geq rfl rfl) rfl (by omega) ?_ | refine hwq_split (fun _ _ => ev_geq rfl rfl) rfl (fun _ => ?_) (fun _ => ?_))) | refine hwq_no rfl rfl rfl rfl ?_)) <;> (first | refine h_pt rfl rfl rfl rfl ?_ | refine h_pf rfl rfl rfl rfl ?_) <;> refine h_mv rfl rfl rfl ?_ <;> (refine hwp_o rfl ?_; (first | (refine hwq_yes rfl rfl ?_; refine g_mv rfl rfl ?_) | refine hwq_no rfl rfl rfl rfl ?_)) <;> (refine hwp_o rfl ?_; (first | (refine hwq_yes rfl rfl ?_; (first | refine hwq_dT (fun _ _ => ev_gtr rfl rfl) rfl (by omega) ?_ | refine hwq_dF (fun _ _ => ev_gtr rfl rfl) rfl (by omega) ?_ | refine hwq_split (fun _ _ => ev_gtr rfl rfl) rfl (fun _ => ?_) (fun _ => ?_))) | refine hwq_no rfl rfl rfl rfl ?_)) <;> (refine hwp_o rfl ?_; (first | (refine hwq_yes rfl rfl ?_; refine g_mv rfl rfl ?_) | refine hwq_no rfl rfl rfl rfl ?_)) <;> (refine hwp_o rfl ?_; (first | (refine hwq_yes rfl rfl ?_; refine g_mv rfl rfl ?_) | refine hwq_no rfl rfl rfl rfl ?_)) <;> (refine hwp_o rfl ?_; (first | (refine hwq_yes rfl rfl ?_; refine g_mv rfl rfl ?_) | refine hwq_no rfl rfl rfl rfl ?_)) <;> (refine hwp_o rfl ?_; (first | (refine hwq_yes rfl rfl ?_; refine g_sb rfl rfl rfl ?_) | refine hwq_no rfl rfl rfl rfl ?_)) <;> (refine hwp_o rfl ?_; (first | (refine hwq_yes rfl rfl ?_; refine g_ia rfl rfl rfl ?_) | refine hwq_no rfl rfl rfl rfl ?_)) <;> (refine hwp_o rfl ?_; (first | (refine hwq_yes rfl rfl ?_; refine g_fa rfl rfl ?_) | refine hwq_no rfl rfl rfl rfl ?_)) <;> (refine hwp_o rfl ?_; (first | (refine hwq_yes rfl rfl ?_; refine g_ldA rfl rfl ?_) | refine hwq_no rfl rfl rfl rfl ?_)) <;> (refine hwp_o rfl ?_; (first | (refine hwq_yes rfl rfl ?_; refine g_fa rfl rfl ?_) | refine hwq_no rfl rfl rfl rfl ?_)) <;> (refine hwp_o rfl ?_; (first | (refine hwq_yes rfl rfl ?_; refine g_ldA rfl rfl ?_) | refine hwq_no rfl rfl rfl rfl ?_)) <;> (refine hwp_o rfl ?_; (first | (refine hwq_yes rfl rfl ?_; (first | refine hwq_dT (fun _ _ => ev_geq rfl rfl) rfl (by omega) ?_ | refine hwq_dF (fun _ _ => ev_geq rfl rfl) rfl (by omega) ?_ | refine hwq_split (fun _ _ => ev_geq rfl rfl) rfl (fun _ => ?_) (fun _ => ?_))) | refine hwq_no rfl rfl rfl rfl ?_)) <;> (refine hwp_o rfl ?_; (first | (refine hwq_yes rfl rfl ?_; (first | refine g_pt rfl rfl rfl ?_ | refine g_pf rfl rfl rfl ?_)) | refine hwq_no rfl rfl rfl rfl ?_)) <;> (first | refine h_pt rfl rfl rfl rfl ?_ | refine h_pf rfl rfl rfl rfl ?_) <;> (first | refine hwp_nilT ?_ | refine hwp_nilB ?_ | refine hwp_nil ?_)) <;> (repeat (first | refine ewp_seq ?_ | refine ewp_block ?_ | refine ewp_region ?_ | refine ewp_skip ?_ | refine ewp_exit ?_ | refine ewp_ret ?_ | refine ewp_true rfl ?_ | refine ewp_false rfl ?_))
      all_goals
        ((repeat (first | refine ewp_seq ?_ | refine ewp_block ?_ | refine ewp_region ?_ | refine ewp_skip ?_ | refine ewp_exit ?_ | refine ewp_ret ?_ | refine ewp_true rfl ?_ | refine ewp_false rfl ?_)) <;> (refine o_as rfl rfl ?_ <;> (first | refine owp_nilT ?_ | refine owp_nilB ?_ | refine owp_nilBB ?_ | refine owp_nil ?_)) <;> (repeat (first | refine ewp_seq ?_ | refine ewp_block ?_ | refine ewp_region ?_ | refine ewp_skip ?_ | refine ewp_exit ?_ | refine ewp_ret ?_ | refine ewp_true rfl ?_ | refine ewp_false rfl ?_)))
        refine ret1 rfl rfl ⟨?_, hE3⟩
        rw [bof_f hno]
  · ((repeat (first | refine ewp_seq ?_ | refine ewp_block ?_ | refine ewp_region ?_ | refine ewp_skip ?_ | refine ewp_exit ?_ | refine ewp_ret ?_ | refine ewp_true rfl ?_ | refine ewp_false rfl ?_)) <;> ((first | refine o_ltT rfl rfl rfl ?_ | refine o_ltF rfl rfl rfl ?_) <;> (first | refine owp_nilT ?_ | refine owp_nilB ?_ | refine owp_nilBB ?_ | refine owp_nil ?_)) <;> (repeat (first | refine ewp_seq ?_ | refine ewp_block ?_ | refine ewp_region ?_ | refine ewp_skip ?_ | refine ewp_exit ?_ | refine ewp_ret ?_ | refine ewp_true rfl ?_ | refine ewp_false rfl ?_)) <;> (refine o_as rfl rfl ?_ <;> (first | refine owp_nilT ?_ | refine owp_nilB ?_ | refine owp_nilBB ?_ | refine owp_nil ?_)) <;> (repeat (first | refine ewp_seq ?_ | refine ewp_block ?_ | refine ewp_region ?_ | refine ewp_skip ?_ | refine ewp_exit ?_ | refine ewp_ret ?_ | refine ewp_true rfl ?_ | refine ewp_false rfl ?_)))
    refine ret1 rfl rfl ⟨?_, hE⟩
    rw [bof_t (hh.done (by omega))]
theorem taskFacts {w : World} {vv fv : Value} {vars : List Int} {f : List Fct} (hv : V w vv vars) (hf : V w fv f) :
    Fn Try.prog 56 [vv, fv] w fun v w' => v = .bool (bof (FactsOk vars f)) ∧ Ext w w' := by
  obtain ⟨A, ca, rfl⟩ := hv.form
  obtain ⟨B, cb, rfl⟩ := hf.form
  have hfl := hf.len
  refine fn_enter Try.func56 rfl Try.ntmps56 rfl ?_
  ((repeat (first | refine ewp_seq ?_ | refine ewp_block ?_ | refine ewp_region ?_ | refine ewp_skip ?_ | refine ewp_exit ?_ | refine ewp_ret ?_ | refine ewp_true rfl ?_ | refine ewp_false rfl ?_)) <;> (refine o_as rfl rfl ?_ <;> (first | refine owp_nilT ?_ | refine owp_nilB ?_ | refine owp_nilBB ?_ | refine owp_nil ?_)) <;> (repeat (first | refine ewp_seq ?_ | refine ewp_block ?_ | refine ewp_region ?_ | refine ewp_skip ?_ | refine ewp_exit ?_ | refine ewp_ret ?_ | refine ewp_true rfl ?_ | refine ewp_false rfl ?_)) <;> (refine o_as rfl rfl ?_ <;> (first | refine owp_nilT ?_ | refine owp_nilB ?_ | refine owp_nilBB ?_ | refine owp_nil ?_)) <;> (repeat (first | refine ewp_seq ?_ | refine ewp_block ?_ | refine ewp_region ?_ | refine ewp_skip ?_ | refine ewp_exit ?_ | refine ewp_ret ?_ | refine ewp_true rfl ?_ | refine ewp_false rfl ?_)) <;> (refine o_mv rfl rfl ?_ <;> refine o_ln rfl rfl ?_ <;> refine o_mv rfl rfl ?_ <;> (first | refine owp_nilT ?_ | refine owp_nilB ?_ | refine owp_nilBB ?_ | refine owp_nil ?_)) <;> (repeat (first | refine ewp_seq ?_ | refine ewp_block ?_ | refine ewp_region ?_ | refine ewp_skip ?_ | refine ewp_exit ?_ | refine ewp_ret ?_ | refine ewp_true rfl ?_ | refine ewp_false rfl ?_)))
  refine ewp_for (X := Nat × Int) (fun k => [(0, .slice A vars.length ca), (5, .int .i64 k.2), (8, .slice B f.length cb), (9, .int .i64 (f.length : Int)), (10, .int .i64 (k.1 : Int))])
    (fun k w' => Ext w w' ∧ k.1 ≤ f.length ∧ FactsTo vars f k.1 ∧ (k.1 = 0 → k.2 = -1) ∧ ∀ y, 0 < k.1 → f[k.1 - 1]? = some y → y.var = k.2) (fun k => f.length - k.1) (0, -1) ⟨Below.refl _ _, Nat.zero_le _, ⟨fun i _ h => by simp at h, fun i _ _ h => by simp at h⟩, fun _ => rfl, fun y h => by simp at h⟩ ⟨rfl, rfl, rfl, rfl, rfl, trivial⟩ ?_
  rintro ⟨k, m⟩ w1 ⟨hE, hk, hh, hm0, hm⟩
  dsimp only at hk hh hm0 hm ⊢
  by_cases hlt : k < f.length
  · obtain ⟨x, hx⟩ := some_of_lt hlt
    obtain ⟨b, o, ce, rfl, hb, _, hd1, rfl, hr1, hr2⟩ := (hf.ext hE).elem hx
    ((repeat (first | refine ewp_seq ?_ | refine ewp_block ?_ | refine ewp_region ?_ | refine ewp_skip ?_ | refine ewp_exit ?_ | refine ewp_ret ?_ | refine ewp_true rfl ?_ | refine ewp_false rfl ?_)) <;> ((first | refine o_ltT rfl rfl rfl ?_ | refine o_ltF rfl rfl rfl ?_) <;> (first | refine owp_nilT ?_ | refine owp_nilB ?_ | refine owp_nilBB ?_ | refine owp_nil ?_)) <;> (repeat (first | refine ewp_seq ?_ | refine ewp_block ?_ | refine ewp_region ?_ | refine ewp_skip ?_ | refine ewp_exit ?_ | refine ewp_ret ?_ | refine ewp_true rfl ?_ | refine ewp_false rfl ?_)) <;> (refine o_ia rfl rfl rfl ?_ <;> refine o_la rfl rfl ?_) <;> (repeat (first | refine ewp_seq ?_ | refine ewp_block ?_ | refine ewp_region ?_ | refine ewp_skip ?_ | refine ewp_exit ?_ | refine ewp_ret ?_ | refine ewp_true rfl ?_ | refine ewp_false rfl ?_)))
    refine owp_local rfl rfl rfl (by simp [Value.cells, Value.oneCell']) fun w3 hN => ?_
    have hb1 := hN.blk
    have hE3 : Ext w w3 := hE.trans' hN.ext
    ((first | refine owp_nilT ?_ | refine owp_nilB ?_ | refine owp_nilBB ?_ | refine owp_nil ?_))
    repeat (first | refine ewp_seq ?_ | refine ewp_block ?_ | refine ewp_region ?_ | refine ewp_skip ?_ | refine ewp_exit ?_ | refine ewp_ret ?_ | refine ewp_true rfl ?_ | refine ewp_false rfl ?_)
    refine ewp_draw (· = w3) [(0, true), (1, true), (2, true), (3, true), (4, true), (5, true), (6, true), (7, true), (8, true), (9, true), (10, true), (11, true), (12, true), (13, true), (14, true), (15, true), (16, true), (17, true), (18, true), (19, true), (20, true), (21, true), (22, true), (23, true), (24, true), (25, true)] (by kernel_rfl) rfl (by kernel_rfl) rfl ?_
    have hm1 : 0 < k → ∃ z, f[k - 1]? = some z ∧ z.var = m := fun h0 => by
      obtain ⟨z, hz⟩ := some_of_lt (l := f) (k := k - 1) (by omega)
      exact ⟨z, hz, hm z h0 hz⟩
    have hge : 0 < k → 0 ≤ m := fun h0 => by
      obtain ⟨z, hz, he⟩ := hm1 h0
      have := (hh.1 (k - 1) z (by omega) hz).1
      omega
    have hge' : -1 ≤ m := by
      by_cases h0 : 0 < k
      · have := hge h0; omega
      · have := hm0 (by omega); omega
    have hno0 : ¬ m < x.var → ¬ FactsOk vars f := fun h1 h2 => by
      by_cases h0 : 0 < k
      · obtain ⟨z, hz, he⟩ := hm1 h0
        have := h2.2 (k - 1) z x hz (by rw [show k - 1 + 1 = k from by omega]; exact hx)
        omega
      · have := hm0 (by omega)
        have := (h2.1 k x hx).1
        omega
    by_cases hvr : 0 ≤ x.var ∧ x.var < vars.length
    · obtain ⟨j, hj1⟩ := Int.eq_ofNat_of_zero_le hvr.1
      obtain ⟨y, hy⟩ := some_of_lt (l := vars) (k := j) (by omega)
      obtain ⟨b2, o2, ce2, rfl, _, _, hd2, rfl, _⟩ := (hv.ext hE3).elem hy
      have hjy : vars[x.var.toNat]? = some y := by rw [hj1]; simpa using hy
      have hok : 0 ≤ x.val → x.val < y → FactOk vars x := fun h1 h2 => ⟨hvr.1, h1, y, hjy, h2⟩
      have hno : ¬ (0 ≤ x.val ∧ x.val < y) → ¬ FactsOk vars f := fun h1 h2 => h1 (by
        obtain ⟨_, h3, y', h4, h5⟩ := h2.1 k x hx
        rw [hjy] at h4; injection h4 with h4; subst h4; exact ⟨h3, h5⟩)
      (refine h_fa rfl rfl rfl ?_ <;> refine h_ldA rfl rfl rfl ?_ <;> refine h_mv rfl rfl rfl ?_ <;> (first | refine h_leT rfl rfl rfl rfl ?_ | refine h_leF rfl rfl rfl rfl ?_ | refine h_leS rfl rfl rfl rfl (fun _ => ?_) fun _ => ?_) <;> refine h_mv rfl rfl rfl ?_ <;> (refine hwp_o rfl ?_; (first | (refine hwq_yes rfl rfl ?_; refine g_fa rfl rfl ?_) | refine hwq_no rfl rfl rfl rfl ?_)) <;> (refine hwp_o rfl ?_; (first | (refine hwq_yes rfl rfl ?_; refine g_ldA rfl rfl ?_) | refine hwq_no rfl rfl rfl rfl ?_)) <;> (refine hwp_o rfl ?_; (first | (refine hwq_yes rfl rfl ?_; refine g_mv rfl rfl ?_) | refine hwq_no rfl rfl rfl rfl ?_)) <;> (refine hwp_o rfl ?_; (first | (refine hwq_yes rfl rfl ?_; refine g_ln rfl rfl ?_) | refine hwq_no rfl rfl rfl rfl ?_)) <;> (refine hwp_o rfl ?_; (first | (refine hwq_yes rfl rfl ?_; (first | refine hwq_dT (fun _ _ => ev_geq rfl rfl) rfl (by omega) ?_ | refine hwq_dF (fun _ _ => ev_geq rfl rfl) rfl (by omega) ?_ | refine hwq_split (fun _ _ => ev_geq rfl rfl) rfl (fun _ => ?_) (fun _ => ?_))) | refine hwq_no rfl rfl rfl rfl ?_)) <;> (first | refine h_pt rfl rfl rfl rfl ?_ | refine h_pf rfl rfl rfl rfl ?_) <;> refine h_mv rfl rfl rfl ?_ <;> (refine hwp_o rfl ?_; (first | (refine hwq_yes rfl rfl ?_; refine g_fa rfl rfl ?_) | refine hwq_no rfl rfl rfl rfl ?_)) <;> (refine hwp_o rfl ?_; (first | (refine hwq_yes rfl rfl ?_; refine g_ldA rfl rfl ?_) | refine hwq_no rfl rfl rfl rfl ?_)) <;> (refine hwp_o rfl ?_; (first | (refine hwq_yes rfl rfl ?_; (first | refine hwq_dT (fun _ _ => ev_lss rfl rfl) rfl (by omega) ?_ | refine hwq_dF (fun _ _ => ev_lss rfl rfl) rfl (by omega) ?_ | refine hwq_split (fun _ _ => ev_lss rfl rfl) rfl (fun _ => ?_) (fun _ => ?_))) | refine hwq_no rfl rfl rfl rfl ?_)) <;> (first | refine h_pt rfl rfl rfl rfl ?_ | refine h_pf rfl rfl rfl rfl ?_) <;> refine h_mv rfl rfl rfl ?_ <;> (refine hwp_o rfl ?_; (first | (refine hwq_yes rfl rfl ?_; refine g_fa rfl rfl ?_) | refine hwq_no rfl rfl rfl rfl ?_)) <;> (refine hwp_o rfl ?_; (first | (refine hwq_yes rfl rfl ?_; refine g_ldA rfl rfl ?_) | refine hwq_no rfl rfl rfl rfl ?_)) <;> (refine hwp_o rfl ?_; (first | (refine hwq_yes rfl rfl ?_; refine g_mv rfl rfl ?_) | refine hwq_no rfl rfl rfl rfl ?_)) <;> (refine hwp_o rfl ?_; (first | (refine hwq_yes rfl rfl ?_; refine g_fa rfl rfl ?_) | refine hwq_no rfl rfl rfl rfl ?_)) <;> (refine hwp_o rfl ?_; (first | (refine hwq_yes rfl rfl ?_; refine g_ldA rfl rfl ?_) | refine hwq_no rfl rfl rfl rfl ?_)) <;> (refine hwp_o rfl ?_; (first | (refine hwq_yes rfl rfl ?_; refine g_ia rfl rfl rfl ?_) | refine hwq_no rfl rfl rfl rfl ?_)) <;> (refine hwp_o rfl ?_; (first | (refine hwq_yes rfl rfl ?_; refine g_ldA rfl rfl ?_) | refine hwq_no rfl rfl rfl rfl ?_)) <;> (refine hwp_o rfl ?_; (first | (refine hwq_yes rfl rfl ?_; (first | refine hwq_dT (fun _ _ => ev_geq rfl rfl) rfl (by omega) ?_ | refine hwq_dF (fun _ _ => ev_geq rfl rfl) rfl (by omega) ?_ | refine hwq_split (fun _ _ => ev_geq rfl rfl) rfl (fun _ => ?_) (fun _ => ?_))) | refine hwq_no rfl rfl rfl rfl ?_)) <;> (first | refine h_pt rfl rfl rfl rfl ?_ | refine h_pf rfl rfl rfl rfl ?_) <;> (first | refine hwp_nilT ?_ | refine hwp_nilB ?_ | refine hwp_nil ?_)) <;> (repeat (first | refine ewp_seq ?_ | refine ewp_block ?_ | refine ewp_region ?_ | refine ewp_skip ?_ | refine ewp_exit ?_ | refine ewp_ret ?_ | refine ewp_true rfl ?_ | refine ewp_false rfl ?_))
      all_goals try (
        ((repeat (first | refine ewp_seq ?_ | refine ewp_block ?_ | refine ewp_region ?_ | refine ewp_skip ?_ | refine ewp_exit ?_ | refine ewp_ret ?_ | refine ewp_true rfl ?_ | refine ewp_false rfl ?_)) <;> (refine o_as rfl rfl ?_ <;> (first | refine owp_nilT ?_ | refine owp_nilB ?_ | refine owp_nilBB ?_ | refine owp_nil ?_)) <;> (repeat (first | refine ewp_seq ?_ | refine ewp_block ?_ | refine ewp_region ?_ | refine ewp_skip ?_ | refine ewp_exit ?_ | refine ewp_ret ?_ | refine ewp_true rfl ?_ | refine ewp_false rfl ?_)))
        refine ret1 rfl rfl ⟨?_, hE3⟩
        first | rw [bof_f (hno (by omega))] | rw [bof_f (hno0 (by omega))])
      ((repeat (first | refine ewp_seq ?_ | refine ewp_block ?_ | refine ewp_region ?_ | refine ewp_skip ?_ | refine ewp_exit ?_ | refine ewp_ret ?_ | refine ewp_true rfl ?_ | refine ewp_false rfl ?_)) <;> (refine o_fa rfl rfl ?_ <;> refine o_ld rfl rfl ?_ <;> refine o_as rfl rfl ?_ <;> (first | refine owp_nilT ?_ | refine owp_nilB ?_ | refine owp_nilBB ?_ | refine owp_nil ?_)) <;> (repeat (first | refine ewp_seq ?_ | refine ewp_block ?_ | refine ewp_region ?_ | refine ewp_skip ?_ | refine ewp_exit ?_ | refine ewp_ret ?_ | refine ewp_true rfl ?_ | refine ewp_false rfl ?_)))
      ((first | refine o_ic rfl rfl ?_ | refine o_ad rfl rfl rfl ?_) <;> refine o_mv rfl rfl ?_ <;> (first | refine owp_nilT ?_ | refine owp_nilB ?_ | refine owp_nilBB ?_ | refine owp_nil ?_))
      refine ⟨(k + 1, x.var), ⟨rfl, rfl, rfl, rfl, rfl, trivial⟩, ⟨hE3, hlt, hh.step hx (hok (by omega) (by omega)) (fun y' h0 hy' => by have := hm y' h0 hy'; omega), fun h => absurd h (Nat.succ_ne_zero k), fun y' _ hy' => ?_⟩, Nat.sub_lt_sub_left hlt (Nat.lt_succ_self k)⟩
      rw [show k + 1 - 1 = k from rfl, hx] at hy'
      exact congrArg Fct.var (Option.some.inj hy').symm
    · have hno : ¬ FactsOk vars f := fun h => by
        obtain ⟨h1, h2, y, h3, _⟩ := h.1 k x hx
        have := lt_of_some h3
        omega
      (refine h_fa rfl rfl rfl ?_ <;> refine h_ldA rfl rfl rfl ?_ <;> refine h_mv rfl rfl rfl ?_ <;> (first | refine h_leT rfl rfl rfl rfl ?_ | refine h_leF rfl rfl rfl rfl ?_ | refine h_leS rfl rfl rfl rfl (fun _ => ?_) fun _ => ?_) <;> refine h_mv rfl rfl rfl ?_ <;> (refine hwp_o rfl ?_; (first | (refine hwq_yes rfl rfl ?_; refine g_fa rfl rfl ?_) | refine hwq_no rfl rfl rfl rfl ?_)) <;> (refine hwp_o rfl ?_; (first | (refine hwq_yes rfl rfl ?_; refine g_ldA rfl rfl ?_) | refine hwq_no rfl rfl rfl rfl ?_)) <;> (refine hwp_o rfl ?_; (first | (refine hwq_yes rfl rfl ?_; refine g_mv rfl rfl ?_) | refine hwq_no rfl rfl rfl rfl ?_)) <;> (refine hwp_o rfl ?_; (first | (refine hwq_yes rfl rfl ?_; refine g_ln rfl rfl ?_) | refine hwq_no rfl rfl rfl rfl ?_)) <;> (refine hwp_o rfl ?_; (first | (refine hwq_yes rfl rfl ?_; (first | refine hwq_dT (fun _ _ => ev_geq rfl rfl) rfl (by omega) ?_ | refine hwq_dF (fun _ _ => ev_geq rfl rfl) rfl (by omega) ?_ | refine hwq_split (fun _ _ => ev_geq rfl rfl) rfl (fun _ => ?_) (fun _ => ?_))) | refine hwq_no rfl rfl rfl rfl ?_)) <;> (first | refine h_pt rfl rfl rfl rfl ?_ | refine h_pf rfl rfl rfl rfl ?_) <;> refine h_mv rfl rfl rfl ?_ <;> (refine hwp_o rfl ?_; (first | (refine hwq_yes rfl rfl ?_; refine g_fa rfl rfl ?_) | refine hwq_no rfl rfl rfl rfl ?_)) <;> (refine hwp_o rfl ?_; (first | (refine hwq_yes rfl rfl ?_; refine g_ldA rfl rfl ?_) | refine hwq_no rfl rfl rfl rfl ?_)) <;> (refine hwp_o rfl ?_; (first | (refine hwq_yes rfl rfl ?_; (first | refine hwq_dT (fun _ _ => ev_lss rfl rfl) rfl (by omega) ?_ | refine hwq_dF (fun _ _ => ev_lss rfl rfl) rfl (by omega) ?_ | refine hwq_split (fun _ _ => ev_lss rfl rfl) rfl (fun _ => ?_) (fun _ => ?_))) | refine hwq_no rfl rfl rfl rfl ?_)) <;> (first | refine h_pt rfl rfl rfl rfl ?_ | refine h_pf rfl rfl rfl rfl ?_) <;> refine h_mv rfl rfl rfl ?_ <;> (refine hwp_o rfl ?_; (first | (refine hwq_yes rfl rfl ?_; refine g_fa rfl rfl ?_) | refine hwq_no rfl rfl rfl rfl ?_)) <;> (refine hwp_o rfl ?_; (first | (refine hwq_yes rfl rfl ?_; refine g_ldA rfl rfl ?_) | refine hwq_no rfl rfl rfl rfl ?_)) <;> (refine hwp_o rfl ?_; (first | (refine hwq_yes rfl rfl ?_; refine g_mv rfl rfl ?_) | refine hwq_no rfl rfl rfl rfl ?_)) <;> (refine hwp_o rfl ?_; (first | (refine hwq_yes rfl rfl ?_; refine g_fa rfl rfl ?_) | refine hwq_no rfl rfl rfl rfl ?_)) <;> (refine hwp_o rfl ?_; (first | (refine hwq_yes rfl rfl ?_; refine g_ldA rfl rfl ?_) | refine hwq_no rfl rfl rfl rfl ?_)) <;> (refine hwp_o rfl ?_; (first | (refine hwq_yes rfl rfl ?_; refine g_ia rfl rfl rfl ?_) | refine hwq_no rfl rfl rfl rfl ?_)) <;> (refine hwp_o rfl ?_; (first | (refine hwq_yes rfl rfl ?_; refine g_ldA rfl rfl ?_) | refine hwq_no rfl rfl rfl rfl ?_)) <;> (refine hwp_o rfl ?_; (first | (refine hwq_yes rfl rfl ?_; (first | refine hwq_dT (fun _ _ => ev_geq rfl rfl) rfl (by omega) ?_ | refine hwq_dF (fun _ _ => ev_geq rfl rfl) rfl (by omega) ?_ | refine hwq_split (fun _ _ => ev_geq rfl rfl) rfl (fun _ => ?_) (fun _ => ?_))) | refine hwq_no rfl rfl rfl rfl ?_)) <;> (first | refine h_pt rfl rfl rfl rfl ?_ | refine h_pf rfl rfl rfl rfl ?_) <;> (first | refine hwp_nilT ?_ | refine hwp_nilB ?_ | refine hwp_nil ?_)) <;> (repeat (first | refine ewp_seq ?_ | refine ewp_block ?_ | refine ewp_region ?_ | refine ewp_skip ?_ | refine ewp_exit ?_ | refine ewp_ret ?_ | refine ewp_true rfl ?_ | refine ewp_false rfl ?_))
      all_goals
        ((repeat (first | refine ewp_seq ?_ | refine ewp_block ?_ | refine ewp_region ?_ | refine ewp_skip ?_ | refine ewp_exit ?_ | refine ewp_ret ?_ | refine ewp_true rfl ?_ | refine ewp_false rfl ?_)) <;> (refine o_as rfl rfl ?_ <;> (first | refine owp_nilT ?_ | refine owp_nilB ?_ | refine owp_nilBB ?_ | refine owp_nil ?_)) <;> (repeat (first | refine ewp_seq ?_ | refine ewp_block ?_ | refine ewp_region ?_ | refine ewp_skip ?_ | refine ewp_exit ?_ | refine ewp_ret ?_ | refine ewp_true rfl ?_ | refine ewp_false rfl ?_)))
        refine ret1 rfl rfl ⟨?_, hE3⟩
        rw [bof_f hno]
  · ((repeat (first | refine ewp_seq ?_ | refine ewp_block ?_ | refine ewp_region ?_ | refine ewp_skip ?_ | refine ewp_exit ?_ | refine ewp_ret ?_ | refine ewp_true rfl ?_ | refine ewp_false rfl ?_)) <;> ((first | refine o_ltT rfl rfl rfl ?_ | refine o_ltF rfl rfl rfl ?_) <;> (first | refine owp_nilT ?_ | refine owp_nilB ?_ | refine owp_nilBB ?_ | refine owp_nil ?_)) <;> (repeat (first | refine ewp_seq ?_ | refine ewp_block ?_ | refine ewp_region ?_ | refine ewp_skip ?_ | refine ewp_exit ?_ | refine ewp_ret ?_ | refine ewp_true rfl ?_ | refine ewp_false rfl ?_)) <;> (refine o_as rfl rfl ?_ <;> (first | refine owp_nilT ?_ | refine owp_nilB ?_ | refine owp_nilBB ?_ | refine owp_nil ?_)) <;> (repeat (first | refine ewp_seq ?_ | refine ewp_block ?_ | refine ewp_region ?_ | refine ewp_skip ?_ | refine ewp_exit ?_ | refine ewp_ret ?_ | refine ewp_true rfl ?_ | refine ewp_false rfl ?_)))
    refine ret1 rfl rfl ⟨?_, hE⟩
    rw [bof_t (hh.done (by omega))]
/-- A name is permitted. -/
def NameOk (s : ByteArray) : Prop := s.size ≤ 256 ∧ ∀ (i : Nat) (h : i < s.size), 32 ≤ (s[i]'h).toNat ∧ (s[i]'h).toNat ≤ 126
theorem taskNamed {w : World} {s : ByteArray} (hs : s.size ≤ 9223372036854775807) :
    Fn Try.prog 57 [.string s] w fun v w' => v = .bool (bof (NameOk s)) ∧ Ext w w' := by
  refine fn_enter Try.func57 rfl Try.ntmps57 rfl ?_
  ((repeat (first | refine ewp_seq ?_ | refine ewp_block ?_ | refine ewp_region ?_ | refine ewp_skip ?_ | refine ewp_exit ?_ | refine ewp_ret ?_ | refine ewp_true rfl ?_ | refine ewp_false rfl ?_)) <;> (refine o_as rfl rfl ?_ <;> (first | refine owp_nilT ?_ | refine owp_nilB ?_ | refine owp_nilBB ?_ | refine owp_nil ?_)) <;> (repeat (first | refine ewp_seq ?_ | refine ewp_block ?_ | refine ewp_region ?_ | refine ewp_skip ?_ | refine ewp_exit ?_ | refine ewp_ret ?_ | refine ewp_true rfl ?_ | refine ewp_false rfl ?_)) <;> (refine o_mv rfl rfl ?_ <;> refine o_ls rfl rfl ?_ <;> refine o_mv rfl rfl ?_ <;> (first | refine owp_nilT ?_ | refine owp_nilB ?_ | refine owp_nilBB ?_ | refine owp_nil ?_)) <;> (repeat (first | refine ewp_seq ?_ | refine ewp_block ?_ | refine ewp_region ?_ | refine ewp_skip ?_ | refine ewp_exit ?_ | refine ewp_ret ?_ | refine ewp_true rfl ?_ | refine ewp_false rfl ?_)))
  refine ewp_for (fun k : Nat => [(0, .string s), (5, .int .i64 (s.size : Int)), (6, .int .i64 (k : Int))])
    (fun k w' => w' = w ∧ k ≤ s.size ∧ ∀ (i : Nat) (h : i < s.size), i < k → 32 ≤ (s[i]'h).toNat ∧ (s[i]'h).toNat ≤ 126) (fun k => s.size - k) 0 ⟨rfl, Nat.zero_le _, fun i _ h => by omega⟩ ⟨rfl, rfl, rfl, trivial⟩ ?_
  rintro k _ ⟨rfl, hk, hh⟩
  by_cases hlt : k < s.size
  · ((repeat (first | refine ewp_seq ?_ | refine ewp_block ?_ | refine ewp_region ?_ | refine ewp_skip ?_ | refine ewp_exit ?_ | refine ewp_ret ?_ | refine ewp_true rfl ?_ | refine ewp_false rfl ?_)) <;> ((first | refine o_ltT rfl rfl rfl ?_ | refine o_ltF rfl rfl rfl ?_) <;> (first | refine owp_nilT ?_ | refine owp_nilB ?_ | refine owp_nilBB ?_ | refine owp_nil ?_)) <;> (repeat (first | refine ewp_seq ?_ | refine ewp_block ?_ | refine ewp_region ?_ | refine ewp_skip ?_ | refine ewp_exit ?_ | refine ewp_ret ?_ | refine ewp_true rfl ?_ | refine ewp_false rfl ?_)) <;> (refine o_mv rfl rfl ?_ <;> refine o_as rfl rfl ?_ <;> (first | refine owp_nilT ?_ | refine owp_nilB ?_ | refine owp_nilBB ?_ | refine owp_nil ?_)) <;> (repeat (first | refine ewp_seq ?_ | refine ewp_block ?_ | refine ewp_region ?_ | refine ewp_skip ?_ | refine ewp_exit ?_ | refine ewp_ret ?_ | refine ewp_true rfl ?_ | refine ewp_false rfl ?_)) <;> (refine o_mv rfl rfl ?_ <;> refine o_mv rfl rfl ?_ <;> refine o_ix rfl rfl rfl (by omega) ?_ <;> (first | refine o_ltT rfl rfl rfl ?_ | refine o_ltF rfl rfl rfl ?_ | refine o_ltS rfl rfl rfl (fun _ => ?_) fun _ => ?_) <;> refine o_mv rfl rfl ?_ <;> (first | (refine owp_yes rfl rfl ?_; refine o_mv rfl rfl ?_) | refine owp_no rfl rfl rfl rfl ?_) <;> (first | (refine owp_yes rfl rfl ?_; refine o_mv rfl rfl ?_) | refine owp_no rfl rfl rfl rfl ?_) <;> (first | (refine owp_yes rfl rfl ?_; refine o_ix rfl rfl rfl (by omega) ?_) | refine owp_no rfl rfl rfl rfl ?_) <;> (first | (refine owp_yes rfl rfl ?_; (first | refine o_gtT rfl rfl rfl ?_ | refine o_gtF rfl rfl rfl ?_ | refine o_gtS rfl rfl rfl (fun _ => ?_) fun _ => ?_)) | refine owp_no rfl rfl rfl rfl ?_) <;> (first | refine o_pt rfl rfl rfl ?_ | refine o_pf rfl rfl rfl ?_) <;> (first | refine owp_nilT ?_ | refine owp_nilB ?_ | refine owp_nilBB ?_ | refine owp_nil ?_)) <;> (repeat (first | refine ewp_seq ?_ | refine ewp_block ?_ | refine ewp_region ?_ | refine ewp_skip ?_ | refine ewp_exit ?_ | refine ewp_ret ?_ | refine ewp_true rfl ?_ | refine ewp_false rfl ?_)))
    all_goals first
      | (((first | refine o_ic rfl rfl ?_ | refine o_ad rfl rfl rfl ?_) <;> refine o_mv rfl rfl ?_ <;> (first | refine owp_nilT ?_ | refine owp_nilB ?_ | refine owp_nilBB ?_ | refine owp_nil ?_))
         refine ⟨k + 1, ⟨rfl, rfl, rfl, trivial⟩, ⟨rfl, by omega, fun i h hi => ?_⟩, by omega⟩
         by_cases he : i = k
         · subst he; omega
         · exact hh i h (by omega))
      | (((repeat (first | refine ewp_seq ?_ | refine ewp_block ?_ | refine ewp_region ?_ | refine ewp_skip ?_ | refine ewp_exit ?_ | refine ewp_ret ?_ | refine ewp_true rfl ?_ | refine ewp_false rfl ?_)) <;> (refine o_as rfl rfl ?_ <;> (first | refine owp_nilT ?_ | refine owp_nilB ?_ | refine owp_nilBB ?_ | refine owp_nil ?_)) <;> (repeat (first | refine ewp_seq ?_ | refine ewp_block ?_ | refine ewp_region ?_ | refine ewp_skip ?_ | refine ewp_exit ?_ | refine ewp_ret ?_ | refine ewp_true rfl ?_ | refine ewp_false rfl ?_)))
         refine ret1 rfl rfl ⟨?_, Below.refl _ _⟩
         rw [bof_f (fun h => by have := h.2 k hlt; omega)])
  · by_cases h256 : s.size ≤ 256
    · ((repeat (first | refine ewp_seq ?_ | refine ewp_block ?_ | refine ewp_region ?_ | refine ewp_skip ?_ | refine ewp_exit ?_ | refine ewp_ret ?_ | refine ewp_true rfl ?_ | refine ewp_false rfl ?_)) <;> ((first | refine o_ltT rfl rfl rfl ?_ | refine o_ltF rfl rfl rfl ?_) <;> (first | refine owp_nilT ?_ | refine owp_nilB ?_ | refine owp_nilBB ?_ | refine owp_nil ?_)) <;> (repeat (first | refine ewp_seq ?_ | refine ewp_block ?_ | refine ewp_region ?_ | refine ewp_skip ?_ | refine ewp_exit ?_ | refine ewp_ret ?_ | refine ewp_true rfl ?_ | refine ewp_false rfl ?_)) <;> (refine o_mv rfl rfl ?_ <;> refine o_ls rfl rfl ?_ <;> (first | refine o_leT rfl rfl rfl ?_ | refine o_leF rfl rfl rfl ?_) <;> refine o_as rfl rfl ?_ <;> (first | refine owp_nilT ?_ | refine owp_nilB ?_ | refine owp_nilBB ?_ | refine owp_nil ?_)) <;> (repeat (first | refine ewp_seq ?_ | refine ewp_block ?_ | refine ewp_region ?_ | refine ewp_skip ?_ | refine ewp_exit ?_ | refine ewp_ret ?_ | refine ewp_true rfl ?_ | refine ewp_false rfl ?_)))
      refine ret1 rfl rfl ⟨?_, Below.refl _ _⟩
      rw [bof_t ⟨h256, fun i h => hh i h (by omega)⟩]
    · ((repeat (first | refine ewp_seq ?_ | refine ewp_block ?_ | refine ewp_region ?_ | refine ewp_skip ?_ | refine ewp_exit ?_ | refine ewp_ret ?_ | refine ewp_true rfl ?_ | refine ewp_false rfl ?_)) <;> ((first | refine o_ltT rfl rfl rfl ?_ | refine o_ltF rfl rfl rfl ?_) <;> (first | refine owp_nilT ?_ | refine owp_nilB ?_ | refine owp_nilBB ?_ | refine owp_nil ?_)) <;> (repeat (first | refine ewp_seq ?_ | refine ewp_block ?_ | refine ewp_region ?_ | refine ewp_skip ?_ | refine ewp_exit ?_ | refine ewp_ret ?_ | refine ewp_true rfl ?_ | refine ewp_false rfl ?_)) <;> (refine o_mv rfl rfl ?_ <;> refine o_ls rfl rfl ?_ <;> (first | refine o_leT rfl rfl rfl ?_ | refine o_leF rfl rfl rfl ?_) <;> refine o_as rfl rfl ?_ <;> (first | refine owp_nilT ?_ | refine owp_nilB ?_ | refine owp_nilBB ?_ | refine owp_nil ?_)) <;> (repeat (first | refine ewp_seq ?_ | refine ewp_block ?_ | refine ewp_region ?_ | refine ewp_skip ?_ | refine ewp_exit ?_ | refine ewp_ret ?_ | refine ewp_true rfl ?_ | refine ewp_false rfl ?_)))
      refine ret1 rfl rfl ⟨?_, Below.refl _ _⟩
      rw [bof_f (fun h => h256 h.1)]
end
section
open Go Go.RowKit
attribute [local irreducible] ewp owp hwp hwq hws Ev Evg Fn retPost loud loudS Res1
theorem factsOk_one {vars : List Int} {x : Fct} : FactsOk vars [x] ↔ FactOk vars x := by
  constructor
  · intro h; exact h.1 0 x rfl
  · intro h
    refine ⟨fun i y hy => ?_, fun i y z _ hz => by simp at hz⟩
    cases i with
    | zero => simp at hy; exact hy ▸ h
    | succ i => simp at hy
/-- An effect is right. -/
def EffOk (vars : List Int) (e : Eff) : Prop := FactsOk vars e.cond ∧ FactOk vars ⟨e.var, e.val⟩
/-- An operator is right. -/
def OpOk (vars : List Int) (o : Opr) : Prop := 0 ≤ o.cost ∧ o.cost ≤ 1048576 ∧ o.effs.length ≤ 64 ∧ NameOk o.name ∧ FactsOk vars o.pre ∧ ∀ (i : Nat) e, o.effs[i]? = some e → EffOk vars e
/-- A task is right. -/
def TaskOk (t : Tsk) : Prop := t.vars.length ≤ 64 ∧ t.ops.length ≤ 4096 ∧ (∀ (i : Nat) n, t.vars[i]? = some n → 1 ≤ n ∧ n ≤ 64) ∧ StateOk t.vars t.init ∧ FactsOk t.vars t.goal ∧ ∀ (i : Nat) o, t.ops[i]? = some o → OpOk t.vars o
theorem upto_step {p : Nat → Prop} {k : Nat} (h : ∀ i, i < k → p i) (hk : p k) : ∀ i, i < k + 1 → p i := fun i hi => by
  by_cases he : i = k
  · subst he; exact hk
  · exact h i (by omega)
theorem baseOperator {w : World} {vv ov : Value} {vars : List Int} {o : Opr} (hv : V w vv vars) (ho : V w ov o) :
    Fn Try.prog 52 [vv, ov] w fun v w' => v = .bool (bof (OpOk vars o)) ∧ Ext w w' := by
  obtain ⟨Av, cv, rfl⟩ := hv.form
  obtain ⟨cs, rfl, p, q, rfl, hp, hq, hc, hn⟩ := ho
  obtain ⟨Ap, cp, rfl⟩ := hp.form
  obtain ⟨Aq, cq, rfl⟩ := hq.form
  have hql := hq.len
  refine fn_enter Try.func52 rfl Try.ntmps52 rfl ?_
  repeat (first | refine ewp_seq ?_ | refine ewp_block ?_ | refine ewp_region ?_ | refine ewp_skip ?_ | refine ewp_exit ?_ | refine ewp_ret ?_ | refine ewp_true rfl ?_ | refine ewp_false rfl ?_)
  refine owp_box rfl rfl fun w1 hN => ?_
  have hb1 := hN.blk
  have hE1 : Ext w w1 := hN.ext
  (refine o_as rfl rfl ?_ <;> (first | refine owp_nilT ?_ | refine owp_nilB ?_ | refine owp_nilBB ?_ | refine owp_nil ?_))
  repeat (first | refine ewp_seq ?_ | refine ewp_block ?_ | refine ewp_region ?_ | refine ewp_skip ?_ | refine ewp_exit ?_ | refine ewp_ret ?_ | refine ewp_true rfl ?_ | refine ewp_false rfl ?_)
  (refine o_fa rfl rfl ?_ <;> refine o_ld rfl rfl ?_ <;> (first | refine o_ltT rfl rfl rfl ?_ | refine o_ltF rfl rfl rfl ?_ | refine o_ltS rfl rfl rfl (fun _ => ?_) fun _ => ?_) <;> refine o_mv rfl rfl ?_ <;> (first | (refine owp_yes rfl rfl ?_; refine o_fa rfl rfl ?_) | refine owp_no rfl rfl rfl rfl ?_) <;> (first | (refine owp_yes rfl rfl ?_; refine o_ld rfl rfl ?_) | refine owp_no rfl rfl rfl rfl ?_) <;> (first | (refine owp_yes rfl rfl ?_; (first | refine o_gtT rfl rfl rfl ?_ | refine o_gtF rfl rfl rfl ?_ | refine o_gtS rfl rfl rfl (fun _ => ?_) fun _ => ?_)) | refine owp_no rfl rfl rfl rfl ?_) <;> (first | refine o_pt rfl rfl rfl ?_ | refine o_pf rfl rfl rfl ?_) <;> refine o_mv rfl rfl ?_ <;> (first | (refine owp_yes rfl rfl ?_; refine o_fa rfl rfl ?_) | refine owp_no rfl rfl rfl rfl ?_) <;> (first | (refine owp_yes rfl rfl ?_; refine o_ld rfl rfl ?_) | refine owp_no rfl rfl rfl rfl ?_) <;> (first | (refine owp_yes rfl rfl ?_; refine o_ln rfl rfl ?_) | refine owp_no rfl rfl rfl rfl ?_) <;> (first | (refine owp_yes rfl rfl ?_; (first | refine o_gtT rfl rfl rfl ?_ | refine o_gtF rfl rfl rfl ?_ | refine o_gtS rfl rfl rfl (fun _ => ?_) fun _ => ?_)) | refine owp_no rfl rfl rfl rfl ?_) <;> (first | refine o_pt rfl rfl rfl ?_ | refine o_pf rfl rfl rfl ?_) <;> refine o_mv rfl rfl ?_ <;> (first | (refine owp_yes rfl rfl ?_; refine o_fa rfl rfl ?_) | refine owp_no rfl rfl rfl rfl ?_) <;> (first | (refine owp_yes rfl rfl ?_; refine o_ld rfl rfl ?_) | refine owp_no rfl rfl rfl rfl ?_) <;> (first | (refine owp_yes rfl rfl ?_; refine o_ls rfl rfl ?_) | refine owp_no rfl rfl rfl rfl ?_) <;> (first | (refine owp_yes rfl rfl ?_; (first | refine o_gtT rfl rfl rfl ?_ | refine o_gtF rfl rfl rfl ?_ | refine o_gtS rfl rfl rfl (fun _ => ?_) fun _ => ?_)) | refine owp_no rfl rfl rfl rfl ?_) <;> (first | refine o_pt rfl rfl rfl ?_ | refine o_pf rfl rfl rfl ?_) <;> refine o_mv rfl rfl ?_ <;> (first | (refine owp_yes rfl rfl ?_; refine o_mv rfl rfl ?_) | refine owp_no rfl rfl rfl rfl ?_) <;> (first | (refine owp_yes rfl rfl ?_; refine o_fa rfl rfl ?_) | refine owp_no rfl rfl rfl rfl ?_) <;> (first | (refine owp_yes rfl rfl ?_; refine o_ld rfl rfl ?_) | refine owp_no rfl rfl rfl rfl ?_))
  all_goals try (
    refine owp_no rfl rfl rfl rfl ?_
    ((first | (refine owp_yes rfl rfl ?_; (first | refine o_nt rfl rfl ?_ | refine o_nf rfl rfl ?_ | refine o_nn rfl rfl ?_)) | refine owp_no rfl rfl rfl rfl ?_) <;> (first | refine o_pt rfl rfl rfl ?_ | refine o_pf rfl rfl rfl ?_) <;> (first | refine owp_nilT ?_ | refine owp_nilB ?_ | refine owp_nilBB ?_ | refine owp_nil ?_))
    repeat (first | refine ewp_seq ?_ | refine ewp_block ?_ | refine ewp_region ?_ | refine ewp_skip ?_ | refine ewp_exit ?_ | refine ewp_ret ?_ | refine ewp_true rfl ?_ | refine ewp_false rfl ?_)
    ((repeat (first | refine ewp_seq ?_ | refine ewp_block ?_ | refine ewp_region ?_ | refine ewp_skip ?_ | refine ewp_exit ?_ | refine ewp_ret ?_ | refine ewp_true rfl ?_ | refine ewp_false rfl ?_)) <;> (refine o_as rfl rfl ?_ <;> (first | refine owp_nilT ?_ | refine owp_nilB ?_ | refine owp_nilBB ?_ | refine owp_nil ?_)) <;> (repeat (first | refine ewp_seq ?_ | refine ewp_block ?_ | refine ewp_region ?_ | refine ewp_skip ?_ | refine ewp_exit ?_ | refine ewp_ret ?_ | refine ewp_true rfl ?_ | refine ewp_false rfl ?_)))
    refine ret1 rfl rfl ⟨?_, hE1⟩
    rw [bof_f (fun h => by obtain ⟨h1, h2, h3, ⟨h4, _⟩, _⟩ := h; omega)])
  refine owp_yes rfl rfl ?_
  refine owp_callB rfl rfl (baseProper (hv.ext hE1) (hp.ext hE1)) ?_ ?_
  case refine_2 =>
    intro w2 hP hE2
    ((first | (refine owp_yes rfl rfl ?_; (first | refine o_nt rfl rfl ?_ | refine o_nf rfl rfl ?_ | refine o_nn rfl rfl ?_)) | refine owp_no rfl rfl rfl rfl ?_) <;> (first | refine o_pt rfl rfl rfl ?_ | refine o_pf rfl rfl rfl ?_) <;> (first | refine owp_nilT ?_ | refine owp_nilB ?_ | refine owp_nilBB ?_ | refine owp_nil ?_))
    repeat (first | refine ewp_seq ?_ | refine ewp_block ?_ | refine ewp_region ?_ | refine ewp_skip ?_ | refine ewp_exit ?_ | refine ewp_ret ?_ | refine ewp_true rfl ?_ | refine ewp_false rfl ?_)
    ((repeat (first | refine ewp_seq ?_ | refine ewp_block ?_ | refine ewp_region ?_ | refine ewp_skip ?_ | refine ewp_exit ?_ | refine ewp_ret ?_ | refine ewp_true rfl ?_ | refine ewp_false rfl ?_)) <;> (refine o_as rfl rfl ?_ <;> (first | refine owp_nilT ?_ | refine owp_nilB ?_ | refine owp_nilBB ?_ | refine owp_nil ?_)) <;> (repeat (first | refine ewp_seq ?_ | refine ewp_block ?_ | refine ewp_region ?_ | refine ewp_skip ?_ | refine ewp_exit ?_ | refine ewp_ret ?_ | refine ewp_true rfl ?_ | refine ewp_false rfl ?_)))
    refine ret1 rfl rfl ⟨?_, hE1.trans' hE2⟩
    rw [bof_f (fun h => hP h.2.2.2.2.1)]
  intro w2 hpre hE2
  replace hb1 := hb1.ext hE2
  have hE2 : Ext w w2 := hE1.trans' hE2
  ((first | (refine owp_yes rfl rfl ?_; (first | refine o_nt rfl rfl ?_ | refine o_nf rfl rfl ?_ | refine o_nn rfl rfl ?_)) | refine owp_no rfl rfl rfl rfl ?_) <;> (first | refine o_pt rfl rfl rfl ?_ | refine o_pf rfl rfl rfl ?_) <;> (first | refine owp_nilT ?_ | refine owp_nilB ?_ | refine owp_nilBB ?_ | refine owp_nil ?_))
  repeat (first | refine ewp_seq ?_ | refine ewp_block ?_ | refine ewp_region ?_ | refine ewp_skip ?_ | refine ewp_exit ?_ | refine ewp_ret ?_ | refine ewp_true rfl ?_ | refine ewp_false rfl ?_)
  (refine o_fa rfl rfl ?_ <;> refine o_ld rfl rfl ?_ <;> refine o_ls rfl rfl ?_ <;> refine o_mv rfl rfl ?_ <;> (first | refine owp_nilT ?_ | refine owp_nilB ?_ | refine owp_nilBB ?_ | refine owp_nil ?_))
  repeat (first | refine ewp_seq ?_ | refine ewp_block ?_ | refine ewp_region ?_ | refine ewp_skip ?_ | refine ewp_exit ?_ | refine ewp_ret ?_ | refine ewp_true rfl ?_ | refine ewp_false rfl ?_)
  refine ewp_range o.name.size hn (fun _ : Unit => [(0, .slice Av vars.length cv), (3, .pointer (some ⟨w.heap.size, 0, none⟩))]) (fun k _ w' => w' = w2 ∧ ∀ i, i < k → ∀ h : i < o.name.size, 32 ≤ (o.name[i]'h).toNat ∧ (o.name[i]'h).toNat ≤ 126) ()
    ⟨rfl, fun i hi => by omega⟩ ⟨rfl, rfl, rfl, rfl, trivial⟩ (fun _ => ⟨rfl, rfl⟩) ⟨rfl, rfl, rfl⟩ ⟨rfl, rfl⟩ ?_ ?_
  · rintro k _ _ hk ⟨rfl, hh⟩
    ((repeat (first | refine ewp_seq ?_ | refine ewp_block ?_ | refine ewp_region ?_ | refine ewp_skip ?_ | refine ewp_exit ?_ | refine ewp_ret ?_ | refine ewp_true rfl ?_ | refine ewp_false rfl ?_)) <;> (refine o_mv rfl rfl ?_ <;> refine o_as rfl rfl ?_ <;> (first | refine owp_nilT ?_ | refine owp_nilB ?_ | refine owp_nilBB ?_ | refine owp_nil ?_)) <;> (repeat (first | refine ewp_seq ?_ | refine ewp_block ?_ | refine ewp_region ?_ | refine ewp_skip ?_ | refine ewp_exit ?_ | refine ewp_ret ?_ | refine ewp_true rfl ?_ | refine ewp_false rfl ?_)) <;> (refine o_fa rfl rfl ?_ <;> refine o_ld rfl rfl ?_ <;> refine o_mv rfl rfl ?_ <;> refine o_ix rfl rfl rfl (by omega) ?_ <;> (first | refine o_ltT rfl rfl rfl ?_ | refine o_ltF rfl rfl rfl ?_ | refine o_ltS rfl rfl rfl (fun _ => ?_) fun _ => ?_) <;> refine o_mv rfl rfl ?_ <;> (first | (refine owp_yes rfl rfl ?_; refine o_fa rfl rfl ?_) | refine owp_no rfl rfl rfl rfl ?_) <;> (first | (refine owp_yes rfl rfl ?_; refine o_ld rfl rfl ?_) | refine owp_no rfl rfl rfl rfl ?_) <;> (first | (refine owp_yes rfl rfl ?_; refine o_mv rfl rfl ?_) | refine owp_no rfl rfl rfl rfl ?_) <;> (first | (refine owp_yes rfl rfl ?_; refine o_ix rfl rfl rfl (by omega) ?_) | refine owp_no rfl rfl rfl rfl ?_) <;> (first | (refine owp_yes rfl rfl ?_; (first | refine o_gtT rfl rfl rfl ?_ | refine o_gtF rfl rfl rfl ?_ | refine o_gtS rfl rfl rfl (fun _ => ?_) fun _ => ?_)) | refine owp_no rfl rfl rfl rfl ?_) <;> (first | refine o_pt rfl rfl rfl ?_ | refine o_pf rfl rfl rfl ?_) <;> (first | refine owp_nilT ?_ | refine owp_nilB ?_ | refine owp_nilBB ?_ | refine owp_nil ?_)) <;> (repeat (first | refine ewp_seq ?_ | refine ewp_block ?_ | refine ewp_region ?_ | refine ewp_skip ?_ | refine ewp_exit ?_ | refine ewp_ret ?_ | refine ewp_true rfl ?_ | refine ewp_false rfl ?_)))
    all_goals try (
      ((repeat (first | refine ewp_seq ?_ | refine ewp_block ?_ | refine ewp_region ?_ | refine ewp_skip ?_ | refine ewp_exit ?_ | refine ewp_ret ?_ | refine ewp_true rfl ?_ | refine ewp_false rfl ?_)) <;> (refine o_as rfl rfl ?_ <;> (first | refine owp_nilT ?_ | refine owp_nilB ?_ | refine owp_nilBB ?_ | refine owp_nil ?_)) <;> (repeat (first | refine ewp_seq ?_ | refine ewp_block ?_ | refine ewp_region ?_ | refine ewp_skip ?_ | refine ewp_exit ?_ | refine ewp_ret ?_ | refine ewp_true rfl ?_ | refine ewp_false rfl ?_)))
      refine ret1 rfl rfl ⟨?_, hE2⟩
      rw [bof_f (fun h => by have := h.2.2.2.1.2 k hk; omega)])
    exact ⟨(), ⟨rfl, rfl, rfl, rfl, trivial⟩, rfl, upto_step hh fun _ => by omega⟩
  rintro _ _ ⟨rfl, hname⟩
  have hnok : NameOk o.name := ⟨by omega, fun i h => hname i h h⟩
  repeat (first | refine ewp_seq ?_ | refine ewp_block ?_ | refine ewp_region ?_ | refine ewp_skip ?_ | refine ewp_exit ?_ | refine ewp_ret ?_ | refine ewp_true rfl ?_ | refine ewp_false rfl ?_)
  ((repeat (first | refine ewp_seq ?_ | refine ewp_block ?_ | refine ewp_region ?_ | refine ewp_skip ?_ | refine ewp_exit ?_ | refine ewp_ret ?_ | refine ewp_true rfl ?_ | refine ewp_false rfl ?_)) <;> (refine o_fa rfl rfl ?_ <;> refine o_ld rfl rfl ?_ <;> refine o_ln rfl rfl ?_ <;> refine o_mv rfl rfl ?_ <;> (first | refine owp_nilT ?_ | refine owp_nilB ?_ | refine owp_nilBB ?_ | refine owp_nil ?_)) <;> (repeat (first | refine ewp_seq ?_ | refine ewp_block ?_ | refine ewp_region ?_ | refine ewp_skip ?_ | refine ewp_exit ?_ | refine ewp_ret ?_ | refine ewp_true rfl ?_ | refine ewp_false rfl ?_)))
  refine ewp_range o.effs.length (by omega) (fun _ : Unit => [(0, .slice Av vars.length cv), (3, .pointer (some ⟨w.heap.size, 0, none⟩)), (55, .slice Aq o.effs.length cq)]) (fun k _ w' => Ext w w' ∧ ∀ i, i < k → ∀ e, o.effs[i]? = some e → EffOk vars e) ()
    ⟨hE2, fun i hi => by omega⟩ ⟨rfl, rfl, rfl, rfl, rfl, trivial⟩ (fun _ => ⟨rfl, rfl⟩) ⟨rfl, rfl, rfl⟩ ⟨rfl, rfl⟩ ?_ ?_
  · rintro k _ w3 hk ⟨hE3, hh⟩
    obtain ⟨e, he⟩ := some_of_lt hk
    obtain ⟨b2, o2, ce, rfl, _, _, hd1, cv', rfl, hcond, hr1, hr2⟩ := (hq.ext hE3).elem he
    obtain ⟨Ac, cc, rfl⟩ := hcond.form
    ((repeat (first | refine ewp_seq ?_ | refine ewp_block ?_ | refine ewp_region ?_ | refine ewp_skip ?_ | refine ewp_exit ?_ | refine ewp_ret ?_ | refine ewp_true rfl ?_ | refine ewp_false rfl ?_)) <;> (refine o_ia rfl rfl rfl ?_ <;> refine o_la rfl rfl ?_) <;> (repeat (first | refine ewp_seq ?_ | refine ewp_block ?_ | refine ewp_region ?_ | refine ewp_skip ?_ | refine ewp_exit ?_ | refine ewp_ret ?_ | refine ewp_true rfl ?_ | refine ewp_false rfl ?_)))
    refine owp_local rfl rfl rfl (by simp [Value.cells, Value.oneCell']) fun w4 hN4 => ?_
    have hb2 := hN4.blk
    have hE4 : Ext w w4 := hE3.trans' hN4.ext
    ((first | refine owp_nilT ?_ | refine owp_nilB ?_ | refine owp_nilBB ?_ | refine owp_nil ?_))
    repeat (first | refine ewp_seq ?_ | refine ewp_block ?_ | refine ewp_region ?_ | refine ewp_skip ?_ | refine ewp_exit ?_ | refine ewp_ret ?_ | refine ewp_true rfl ?_ | refine ewp_false rfl ?_)
    (refine o_mv rfl rfl ?_ <;> refine o_fa rfl rfl ?_ <;> refine o_ld rfl rfl ?_)
    refine owp_callB rfl rfl (baseProper (hv.ext hE4) (hcond.ext hN4.ext)) ?_ ?_
    case refine_2 =>
      intro w5 hP hE5
      ((first | refine o_nt rfl rfl ?_ | refine o_nf rfl rfl ?_ | refine o_nn rfl rfl ?_) <;> refine o_mv rfl rfl ?_ <;> (first | (refine owp_yes rfl rfl ?_; refine o_mv rfl rfl ?_) | refine owp_no rfl rfl rfl rfl ?_) <;> (first | (refine owp_yes rfl rfl ?_; refine o_fa rfl rfl ?_) | refine owp_no rfl rfl rfl rfl ?_) <;> (first | (refine owp_yes rfl rfl ?_; refine o_ld rfl rfl ?_) | refine owp_no rfl rfl rfl rfl ?_) <;> (first | (refine owp_yes rfl rfl ?_; refine o_fa rfl rfl ?_) | refine owp_no rfl rfl rfl rfl ?_) <;> (first | (refine owp_yes rfl rfl ?_; refine o_ld rfl rfl ?_) | refine owp_no rfl rfl rfl rfl ?_) <;> (first | (refine owp_yes rfl rfl ?_; refine o_bd rfl rfl rfl ?_) | refine owp_no rfl rfl rfl rfl ?_))
      refine owp_no rfl rfl rfl rfl ?_
      refine owp_no rfl rfl rfl rfl ?_
      ((first | (refine owp_yes rfl rfl ?_; (first | refine o_nt rfl rfl ?_ | refine o_nf rfl rfl ?_ | refine o_nn rfl rfl ?_)) | refine owp_no rfl rfl rfl rfl ?_) <;> (first | refine o_pt rfl rfl rfl ?_ | refine o_pf rfl rfl rfl ?_) <;> (first | refine owp_nilT ?_ | refine owp_nilB ?_ | refine owp_nilBB ?_ | refine owp_nil ?_))
      repeat (first | refine ewp_seq ?_ | refine ewp_block ?_ | refine ewp_region ?_ | refine ewp_skip ?_ | refine ewp_exit ?_ | refine ewp_ret ?_ | refine ewp_true rfl ?_ | refine ewp_false rfl ?_)
      ((repeat (first | refine ewp_seq ?_ | refine ewp_block ?_ | refine ewp_region ?_ | refine ewp_skip ?_ | refine ewp_exit ?_ | refine ewp_ret ?_ | refine ewp_true rfl ?_ | refine ewp_false rfl ?_)) <;> (refine o_as rfl rfl ?_ <;> (first | refine owp_nilT ?_ | refine owp_nilB ?_ | refine owp_nilBB ?_ | refine owp_nil ?_)) <;> (repeat (first | refine ewp_seq ?_ | refine ewp_block ?_ | refine ewp_region ?_ | refine ewp_skip ?_ | refine ewp_exit ?_ | refine ewp_ret ?_ | refine ewp_true rfl ?_ | refine ewp_false rfl ?_)))
      refine ret1 rfl rfl ⟨?_, hE4.trans' hE5⟩
      rw [bof_f (fun h => hP (h.2.2.2.2.2 k e he).1)]
    intro w5 hcok hE5
    replace hb2 := hb2.ext hE5
    ((first | refine o_nt rfl rfl ?_ | refine o_nf rfl rfl ?_ | refine o_nn rfl rfl ?_) <;> refine o_mv rfl rfl ?_ <;> (first | (refine owp_yes rfl rfl ?_; refine o_mv rfl rfl ?_) | refine owp_no rfl rfl rfl rfl ?_) <;> (first | (refine owp_yes rfl rfl ?_; refine o_fa rfl rfl ?_) | refine owp_no rfl rfl rfl rfl ?_) <;> (first | (refine owp_yes rfl rfl ?_; refine o_ld rfl rfl ?_) | refine owp_no rfl rfl rfl rfl ?_) <;> (first | (refine owp_yes rfl rfl ?_; refine o_fa rfl rfl ?_) | refine owp_no rfl rfl rfl rfl ?_) <;> (first | (refine owp_yes rfl rfl ?_; refine o_ld rfl rfl ?_) | refine owp_no rfl rfl rfl rfl ?_) <;> (first | (refine owp_yes rfl rfl ?_; refine o_bd rfl rfl rfl ?_) | refine owp_no rfl rfl rfl rfl ?_))
    refine owp_yes rfl rfl ?_
    refine owp_slice rfl rfl rfl (by simp [Value.cells]; rfl) (by decide) rfl fun w6 hN6 => ?_
    have hE6 : Ext w w6 := hE4.trans' (hE5.trans' hN6.ext)
    refine owp_yes rfl rfl ?_
    have hone : V w6 (.slice (some ⟨w5.heap.size, 0, none⟩) 1 1) [(⟨e.var, e.val⟩ : Fct)] :=
      .of_slice ⟨_, 1, [.int .i64 e.var, .int .i64 e.val], rfl, Nat.le_refl _, by omega, .single ⟨rfl, hr1, hr2⟩, fun _ => ⟨_, _, rfl, hN6.blk.lt, hN6.blk.cellsAt⟩⟩
    refine owp_callB rfl rfl (baseProper (hv.ext hE6) hone) ?_ ?_
    case refine_2 =>
      intro w7 hP hE7
      ((first | (refine owp_yes rfl rfl ?_; (first | refine o_nt rfl rfl ?_ | refine o_nf rfl rfl ?_ | refine o_nn rfl rfl ?_)) | refine owp_no rfl rfl rfl rfl ?_) <;> (first | refine o_pt rfl rfl rfl ?_ | refine o_pf rfl rfl rfl ?_) <;> (first | refine owp_nilT ?_ | refine owp_nilB ?_ | refine owp_nilBB ?_ | refine owp_nil ?_))
      repeat (first | refine ewp_seq ?_ | refine ewp_block ?_ | refine ewp_region ?_ | refine ewp_skip ?_ | refine ewp_exit ?_ | refine ewp_ret ?_ | refine ewp_true rfl ?_ | refine ewp_false rfl ?_)
      ((repeat (first | refine ewp_seq ?_ | refine ewp_block ?_ | refine ewp_region ?_ | refine ewp_skip ?_ | refine ewp_exit ?_ | refine ewp_ret ?_ | refine ewp_true rfl ?_ | refine ewp_false rfl ?_)) <;> (refine o_as rfl rfl ?_ <;> (first | refine owp_nilT ?_ | refine owp_nilB ?_ | refine owp_nilBB ?_ | refine owp_nil ?_)) <;> (repeat (first | refine ewp_seq ?_ | refine ewp_block ?_ | refine ewp_region ?_ | refine ewp_skip ?_ | refine ewp_exit ?_ | refine ewp_ret ?_ | refine ewp_true rfl ?_ | refine ewp_false rfl ?_)))
      refine ret1 rfl rfl ⟨?_, hE6.trans' hE7⟩
      rw [bof_f (fun h => hP (factsOk_one.2 (h.2.2.2.2.2 k e he).2))]
    intro w7 hfok hE7
    ((first | (refine owp_yes rfl rfl ?_; (first | refine o_nt rfl rfl ?_ | refine o_nf rfl rfl ?_ | refine o_nn rfl rfl ?_)) | refine owp_no rfl rfl rfl rfl ?_) <;> (first | refine o_pt rfl rfl rfl ?_ | refine o_pf rfl rfl rfl ?_) <;> (first | refine owp_nilT ?_ | refine owp_nilB ?_ | refine owp_nilBB ?_ | refine owp_nil ?_))
    repeat (first | refine ewp_seq ?_ | refine ewp_block ?_ | refine ewp_region ?_ | refine ewp_skip ?_ | refine ewp_exit ?_ | refine ewp_ret ?_ | refine ewp_true rfl ?_ | refine ewp_false rfl ?_)
    exact ⟨(), ⟨rfl, rfl, rfl, rfl, rfl, trivial⟩, hE6.trans' hE7, upto_step hh fun e' he' => by
      rw [he] at he'; injection he' with he'; subst he'; exact ⟨hcok, factsOk_one.1 hfok⟩⟩
  rintro _ w3 ⟨hE3, hh⟩
  repeat (first | refine ewp_seq ?_ | refine ewp_block ?_ | refine ewp_region ?_ | refine ewp_skip ?_ | refine ewp_exit ?_ | refine ewp_ret ?_ | refine ewp_true rfl ?_ | refine ewp_false rfl ?_)
  ((repeat (first | refine ewp_seq ?_ | refine ewp_block ?_ | refine ewp_region ?_ | refine ewp_skip ?_ | refine ewp_exit ?_ | refine ewp_ret ?_ | refine ewp_true rfl ?_ | refine ewp_false rfl ?_)) <;> (refine o_as rfl rfl ?_ <;> (first | refine owp_nilT ?_ | refine owp_nilB ?_ | refine owp_nilBB ?_ | refine owp_nil ?_)) <;> (repeat (first | refine ewp_seq ?_ | refine ewp_block ?_ | refine ewp_region ?_ | refine ewp_skip ?_ | refine ewp_exit ?_ | refine ewp_ret ?_ | refine ewp_true rfl ?_ | refine ewp_false rfl ?_)))
  refine ret1 rfl rfl ⟨?_, hE3⟩
  rw [bof_t ⟨by omega, by omega, by omega, hnok, hpre, fun i e he => hh i (lt_of_some he) e he⟩]
theorem baseGood {w : World} {tv : Value} {t : Tsk} (ht : V w tv t) :
    Fn Try.prog 27 [tv] w fun v w' => v = .bool (bof (TaskOk t)) ∧ Ext w w' := by
  obtain ⟨cs, rfl, a, b, c, d, rfl, hvars, hinit, hgoal, hops⟩ := ht
  obtain ⟨Av, cv, rfl⟩ := hvars.form
  obtain ⟨Ai, ci, rfl⟩ := hinit.form
  obtain ⟨Ag, cg, rfl⟩ := hgoal.form
  obtain ⟨Ao, co, rfl⟩ := hops.form
  have hvl := hvars.len
  have hol := hops.len
  refine fn_enter Try.func27 rfl Try.ntmps27 rfl ?_
  repeat (first | refine ewp_seq ?_ | refine ewp_block ?_ | refine ewp_region ?_ | refine ewp_skip ?_ | refine ewp_exit ?_ | refine ewp_ret ?_ | refine ewp_true rfl ?_ | refine ewp_false rfl ?_)
  refine owp_box rfl rfl fun w1 hN => ?_
  have hb1 := hN.blk
  have hE1 : Ext w w1 := hN.ext
  (refine o_as rfl rfl ?_ <;> (first | refine owp_nilT ?_ | refine owp_nilB ?_ | refine owp_nilBB ?_ | refine owp_nil ?_))
  repeat (first | refine ewp_seq ?_ | refine ewp_block ?_ | refine ewp_region ?_ | refine ewp_skip ?_ | refine ewp_exit ?_ | refine ewp_ret ?_ | refine ewp_true rfl ?_ | refine ewp_false rfl ?_)
  ((repeat (first | refine ewp_seq ?_ | refine ewp_block ?_ | refine ewp_region ?_ | refine ewp_skip ?_ | refine ewp_exit ?_ | refine ewp_ret ?_ | refine ewp_true rfl ?_ | refine ewp_false rfl ?_)) <;> (refine o_fa rfl rfl ?_ <;> refine o_ld rfl rfl ?_ <;> refine o_ln rfl rfl ?_ <;> (first | refine o_gtT rfl rfl rfl ?_ | refine o_gtF rfl rfl rfl ?_ | refine o_gtS rfl rfl rfl (fun _ => ?_) fun _ => ?_) <;> refine o_mv rfl rfl ?_ <;> (first | (refine owp_yes rfl rfl ?_; refine o_fa rfl rfl ?_) | refine owp_no rfl rfl rfl rfl ?_) <;> (first | (refine owp_yes rfl rfl ?_; refine o_ld rfl rfl ?_) | refine owp_no rfl rfl rfl rfl ?_) <;> (first | (refine owp_yes rfl rfl ?_; refine o_ln rfl rfl ?_) | refine owp_no rfl rfl rfl rfl ?_) <;> (first | (refine owp_yes rfl rfl ?_; (first | refine o_gtT rfl rfl rfl ?_ | refine o_gtF rfl rfl rfl ?_ | refine o_gtS rfl rfl rfl (fun _ => ?_) fun _ => ?_)) | refine owp_no rfl rfl rfl rfl ?_) <;> (first | refine o_pt rfl rfl rfl ?_ | refine o_pf rfl rfl rfl ?_) <;> (first | refine owp_nilT ?_ | refine owp_nilB ?_ | refine owp_nilBB ?_ | refine owp_nil ?_)) <;> (repeat (first | refine ewp_seq ?_ | refine ewp_block ?_ | refine ewp_region ?_ | refine ewp_skip ?_ | refine ewp_exit ?_ | refine ewp_ret ?_ | refine ewp_true rfl ?_ | refine ewp_false rfl ?_)))
  all_goals try (
    ((repeat (first | refine ewp_seq ?_ | refine ewp_block ?_ | refine ewp_region ?_ | refine ewp_skip ?_ | refine ewp_exit ?_ | refine ewp_ret ?_ | refine ewp_true rfl ?_ | refine ewp_false rfl ?_)) <;> (refine o_as rfl rfl ?_ <;> (first | refine owp_nilT ?_ | refine owp_nilB ?_ | refine owp_nilBB ?_ | refine owp_nil ?_)) <;> (repeat (first | refine ewp_seq ?_ | refine ewp_block ?_ | refine ewp_region ?_ | refine ewp_skip ?_ | refine ewp_exit ?_ | refine ewp_ret ?_ | refine ewp_true rfl ?_ | refine ewp_false rfl ?_)))
    refine ret1 rfl rfl ⟨?_, hE1⟩
    rw [bof_f (fun h => by obtain ⟨h1, h2, _⟩ := h; omega)])
  (refine o_fa rfl rfl ?_ <;> refine o_ld rfl rfl ?_ <;> refine o_ln rfl rfl ?_ <;> refine o_mv rfl rfl ?_ <;> (first | refine owp_nilT ?_ | refine owp_nilB ?_ | refine owp_nilBB ?_ | refine owp_nil ?_))
  repeat (first | refine ewp_seq ?_ | refine ewp_block ?_ | refine ewp_region ?_ | refine ewp_skip ?_ | refine ewp_exit ?_ | refine ewp_ret ?_ | refine ewp_true rfl ?_ | refine ewp_false rfl ?_)
  refine ewp_range t.vars.length (by omega) (fun _ : Unit => [(1, .pointer (some ⟨w.heap.size, 0, none⟩)), (18, .slice Av t.vars.length cv)]) (fun k _ w' => w' = w1 ∧ ∀ i, i < k → ∀ n, t.vars[i]? = some n → 1 ≤ n ∧ n ≤ 64) ()
    ⟨rfl, fun i hi => by omega⟩ ⟨rfl, rfl, rfl, rfl, trivial⟩ (fun _ => ⟨rfl, rfl⟩) ⟨rfl, rfl, rfl⟩ ⟨rfl, rfl⟩ ?_ ?_
  · rintro k _ _ hk ⟨rfl, hh⟩
    obtain ⟨n, hn⟩ := some_of_lt hk
    obtain ⟨b2, o2, ce, rfl, _, _, hd1, rfl, _⟩ := (hvars.ext hE1).elem hn
    ((repeat (first | refine ewp_seq ?_ | refine ewp_block ?_ | refine ewp_region ?_ | refine ewp_skip ?_ | refine ewp_exit ?_ | refine ewp_ret ?_ | refine ewp_true rfl ?_ | refine ewp_false rfl ?_)) <;> (refine o_ia rfl rfl rfl ?_ <;> refine o_ld rfl rfl ?_ <;> refine o_as rfl rfl ?_ <;> (first | refine owp_nilT ?_ | refine owp_nilB ?_ | refine owp_nilBB ?_ | refine owp_nil ?_)) <;> (repeat (first | refine ewp_seq ?_ | refine ewp_block ?_ | refine ewp_region ?_ | refine ewp_skip ?_ | refine ewp_exit ?_ | refine ewp_ret ?_ | refine ewp_true rfl ?_ | refine ewp_false rfl ?_)) <;> (refine o_mv rfl rfl ?_ <;> (first | refine o_ltT rfl rfl rfl ?_ | refine o_ltF rfl rfl rfl ?_ | refine o_ltS rfl rfl rfl (fun _ => ?_) fun _ => ?_) <;> refine o_mv rfl rfl ?_ <;> (first | (refine owp_yes rfl rfl ?_; refine o_mv rfl rfl ?_) | refine owp_no rfl rfl rfl rfl ?_) <;> (first | (refine owp_yes rfl rfl ?_; (first | refine o_gtT rfl rfl rfl ?_ | refine o_gtF rfl rfl rfl ?_ | refine o_gtS rfl rfl rfl (fun _ => ?_) fun _ => ?_)) | refine owp_no rfl rfl rfl rfl ?_) <;> (first | refine o_pt rfl rfl rfl ?_ | refine o_pf rfl rfl rfl ?_) <;> (first | refine owp_nilT ?_ | refine owp_nilB ?_ | refine owp_nilBB ?_ | refine owp_nil ?_)) <;> (repeat (first | refine ewp_seq ?_ | refine ewp_block ?_ | refine ewp_region ?_ | refine ewp_skip ?_ | refine ewp_exit ?_ | refine ewp_ret ?_ | refine ewp_true rfl ?_ | refine ewp_false rfl ?_)))
    all_goals try (
      ((repeat (first | refine ewp_seq ?_ | refine ewp_block ?_ | refine ewp_region ?_ | refine ewp_skip ?_ | refine ewp_exit ?_ | refine ewp_ret ?_ | refine ewp_true rfl ?_ | refine ewp_false rfl ?_)) <;> (refine o_as rfl rfl ?_ <;> (first | refine owp_nilT ?_ | refine owp_nilB ?_ | refine owp_nilBB ?_ | refine owp_nil ?_)) <;> (repeat (first | refine ewp_seq ?_ | refine ewp_block ?_ | refine ewp_region ?_ | refine ewp_skip ?_ | refine ewp_exit ?_ | refine ewp_ret ?_ | refine ewp_true rfl ?_ | refine ewp_false rfl ?_)))
      refine ret1 rfl rfl ⟨?_, hE1⟩
      rw [bof_f (fun h => by have := h.2.2.1 k n hn; omega)])
    exact ⟨(), ⟨rfl, rfl, rfl, rfl, trivial⟩, rfl, upto_step hh fun n' hn' => by rw [hn] at hn'; injection hn' with hn'; omega⟩
  rintro _ _ ⟨rfl, hdom⟩
  repeat (first | refine ewp_seq ?_ | refine ewp_block ?_ | refine ewp_region ?_ | refine ewp_skip ?_ | refine ewp_exit ?_ | refine ewp_ret ?_ | refine ewp_true rfl ?_ | refine ewp_false rfl ?_)
  (refine o_fa rfl rfl ?_ <;> refine o_ld rfl rfl ?_ <;> refine o_fa rfl rfl ?_ <;> refine o_ld rfl rfl ?_)
  refine owp_callB rfl rfl (baseState (hvars.ext hE1) (hinit.ext hE1)) ?_ ?_
  case refine_2 =>
    intro w2 hP hE2
    ((first | refine o_nt rfl rfl ?_ | refine o_nf rfl rfl ?_ | refine o_nn rfl rfl ?_) <;> refine o_mv rfl rfl ?_ <;> (first | (refine owp_yes rfl rfl ?_; refine o_fa rfl rfl ?_) | refine owp_no rfl rfl rfl rfl ?_) <;> (first | (refine owp_yes rfl rfl ?_; refine o_ld rfl rfl ?_) | refine owp_no rfl rfl rfl rfl ?_) <;> (first | (refine owp_yes rfl rfl ?_; refine o_fa rfl rfl ?_) | refine owp_no rfl rfl rfl rfl ?_) <;> (first | (refine owp_yes rfl rfl ?_; refine o_ld rfl rfl ?_) | refine owp_no rfl rfl rfl rfl ?_))
    refine owp_no rfl rfl rfl rfl ?_
    ((first | (refine owp_yes rfl rfl ?_; (first | refine o_nt rfl rfl ?_ | refine o_nf rfl rfl ?_ | refine o_nn rfl rfl ?_)) | refine owp_no rfl rfl rfl rfl ?_) <;> (first | refine o_pt rfl rfl rfl ?_ | refine o_pf rfl rfl rfl ?_) <;> (first | refine owp_nilT ?_ | refine owp_nilB ?_ | refine owp_nilBB ?_ | refine owp_nil ?_))
    repeat (first | refine ewp_seq ?_ | refine ewp_block ?_ | refine ewp_region ?_ | refine ewp_skip ?_ | refine ewp_exit ?_ | refine ewp_ret ?_ | refine ewp_true rfl ?_ | refine ewp_false rfl ?_)
    ((repeat (first | refine ewp_seq ?_ | refine ewp_block ?_ | refine ewp_region ?_ | refine ewp_skip ?_ | refine ewp_exit ?_ | refine ewp_ret ?_ | refine ewp_true rfl ?_ | refine ewp_false rfl ?_)) <;> (refine o_as rfl rfl ?_ <;> (first | refine owp_nilT ?_ | refine owp_nilB ?_ | refine owp_nilBB ?_ | refine owp_nil ?_)) <;> (repeat (first | refine ewp_seq ?_ | refine ewp_block ?_ | refine ewp_region ?_ | refine ewp_skip ?_ | refine ewp_exit ?_ | refine ewp_ret ?_ | refine ewp_true rfl ?_ | refine ewp_false rfl ?_)))
    refine ret1 rfl rfl ⟨?_, hE1.trans' hE2⟩
    rw [bof_f (fun h => hP h.2.2.2.1)]
  intro w2 hst hE2
  replace hb1 := hb1.ext hE2
  replace hE2 : Ext w w2 := hE1.trans' hE2
  ((first | refine o_nt rfl rfl ?_ | refine o_nf rfl rfl ?_ | refine o_nn rfl rfl ?_) <;> refine o_mv rfl rfl ?_ <;> (first | (refine owp_yes rfl rfl ?_; refine o_fa rfl rfl ?_) | refine owp_no rfl rfl rfl rfl ?_) <;> (first | (refine owp_yes rfl rfl ?_; refine o_ld rfl rfl ?_) | refine owp_no rfl rfl rfl rfl ?_) <;> (first | (refine owp_yes rfl rfl ?_; refine o_fa rfl rfl ?_) | refine owp_no rfl rfl rfl rfl ?_) <;> (first | (refine owp_yes rfl rfl ?_; refine o_ld rfl rfl ?_) | refine owp_no rfl rfl rfl rfl ?_))
  refine owp_yes rfl rfl ?_
  refine owp_callB rfl rfl (baseProper (hvars.ext hE2) (hgoal.ext hE2)) ?_ ?_
  case refine_2 =>
    intro w3 hP hE3
    ((first | (refine owp_yes rfl rfl ?_; (first | refine o_nt rfl rfl ?_ | refine o_nf rfl rfl ?_ | refine o_nn rfl rfl ?_)) | refine owp_no rfl rfl rfl rfl ?_) <;> (first | refine o_pt rfl rfl rfl ?_ | refine o_pf rfl rfl rfl ?_) <;> (first | refine owp_nilT ?_ | refine owp_nilB ?_ | refine owp_nilBB ?_ | refine owp_nil ?_))
    repeat (first | refine ewp_seq ?_ | refine ewp_block ?_ | refine ewp_region ?_ | refine ewp_skip ?_ | refine ewp_exit ?_ | refine ewp_ret ?_ | refine ewp_true rfl ?_ | refine ewp_false rfl ?_)
    ((repeat (first | refine ewp_seq ?_ | refine ewp_block ?_ | refine ewp_region ?_ | refine ewp_skip ?_ | refine ewp_exit ?_ | refine ewp_ret ?_ | refine ewp_true rfl ?_ | refine ewp_false rfl ?_)) <;> (refine o_as rfl rfl ?_ <;> (first | refine owp_nilT ?_ | refine owp_nilB ?_ | refine owp_nilBB ?_ | refine owp_nil ?_)) <;> (repeat (first | refine ewp_seq ?_ | refine ewp_block ?_ | refine ewp_region ?_ | refine ewp_skip ?_ | refine ewp_exit ?_ | refine ewp_ret ?_ | refine ewp_true rfl ?_ | refine ewp_false rfl ?_)))
    refine ret1 rfl rfl ⟨?_, hE2.trans' hE3⟩
    rw [bof_f (fun h => hP h.2.2.2.2.1)]
  intro w3 hgo hE3
  replace hb1 := hb1.ext hE3
  replace hE3 : Ext w w3 := hE2.trans' hE3
  ((first | (refine owp_yes rfl rfl ?_; (first | refine o_nt rfl rfl ?_ | refine o_nf rfl rfl ?_ | refine o_nn rfl rfl ?_)) | refine owp_no rfl rfl rfl rfl ?_) <;> (first | refine o_pt rfl rfl rfl ?_ | refine o_pf rfl rfl rfl ?_) <;> (first | refine owp_nilT ?_ | refine owp_nilB ?_ | refine owp_nilBB ?_ | refine owp_nil ?_))
  repeat (first | refine ewp_seq ?_ | refine ewp_block ?_ | refine ewp_region ?_ | refine ewp_skip ?_ | refine ewp_exit ?_ | refine ewp_ret ?_ | refine ewp_true rfl ?_ | refine ewp_false rfl ?_)
  ((repeat (first | refine ewp_seq ?_ | refine ewp_block ?_ | refine ewp_region ?_ | refine ewp_skip ?_ | refine ewp_exit ?_ | refine ewp_ret ?_ | refine ewp_true rfl ?_ | refine ewp_false rfl ?_)) <;> (refine o_fa rfl rfl ?_ <;> refine o_ld rfl rfl ?_ <;> refine o_ln rfl rfl ?_ <;> refine o_mv rfl rfl ?_ <;> (first | refine owp_nilT ?_ | refine owp_nilB ?_ | refine owp_nilBB ?_ | refine owp_nil ?_)) <;> (repeat (first | refine ewp_seq ?_ | refine ewp_block ?_ | refine ewp_region ?_ | refine ewp_skip ?_ | refine ewp_exit ?_ | refine ewp_ret ?_ | refine ewp_true rfl ?_ | refine ewp_false rfl ?_)))
  refine ewp_range t.ops.length (by omega) (fun _ : Unit => [(1, .pointer (some ⟨w.heap.size, 0, none⟩)), (46, .slice Ao t.ops.length co)]) (fun k _ w' => Ext w3 w' ∧ ∀ i, i < k → ∀ o, t.ops[i]? = some o → OpOk t.vars o) ()
    ⟨Below.refl _ _, fun i hi => by omega⟩ ⟨rfl, rfl, rfl, rfl, trivial⟩ (fun _ => ⟨rfl, rfl⟩) ⟨rfl, rfl, rfl⟩ ⟨rfl, rfl⟩ ?_ ?_
  · rintro k _ w4 hk ⟨hE4, hh⟩
    obtain ⟨o, ho⟩ := some_of_lt hk
    replace hb1 := hb1.ext hE4
    have hE34 := hE4
    replace hE4 : Ext w w4 := hE3.trans' hE4
    obtain ⟨b2, o2, ce, rfl, _, _, hd1, hRo⟩ := (hops.ext hE4).elem ho
    obtain ⟨p, q, rfl, hp, hq, hc, hn⟩ := id hRo
    obtain ⟨Ap, cp, rfl⟩ := hp.form
    obtain ⟨Aq, cq, rfl⟩ := hq.form
    ((repeat (first | refine ewp_seq ?_ | refine ewp_block ?_ | refine ewp_region ?_ | refine ewp_skip ?_ | refine ewp_exit ?_ | refine ewp_ret ?_ | refine ewp_true rfl ?_ | refine ewp_false rfl ?_)) <;> (refine o_ia rfl rfl rfl ?_ <;> refine o_la rfl rfl ?_) <;> (repeat (first | refine ewp_seq ?_ | refine ewp_block ?_ | refine ewp_region ?_ | refine ewp_skip ?_ | refine ewp_exit ?_ | refine ewp_ret ?_ | refine ewp_true rfl ?_ | refine ewp_false rfl ?_)))
    refine owp_local rfl rfl rfl (by simp [Value.cells, Value.oneCell']) fun w5 hN5 => ?_
    have hb2 := hN5.blk
    replace hb1 := hb1.ext hN5.ext
    have hE5 : Ext w w5 := hE4.trans' hN5.ext
    ((first | refine owp_nilT ?_ | refine owp_nilB ?_ | refine owp_nilBB ?_ | refine owp_nil ?_))
    repeat (first | refine ewp_seq ?_ | refine ewp_block ?_ | refine ewp_region ?_ | refine ewp_skip ?_ | refine ewp_exit ?_ | refine ewp_ret ?_ | refine ewp_true rfl ?_ | refine ewp_false rfl ?_)
    (refine o_fa rfl rfl ?_ <;> refine o_ld rfl rfl ?_ <;> refine o_la rfl rfl ?_)
    have hVo : V w4 (.agg #[.string o.name, .int .i64 o.cost, .slice Ap o.pre.length cp, .slice Aq o.effs.length cq]) o := ⟨_, rfl, hRo⟩
    refine owp_callB rfl rfl (baseOperator (hvars.ext hE5) (hVo.ext hN5.ext)) ?_ ?_
    · intro w6 hP hE6
      ((first | refine o_nt rfl rfl ?_ | refine o_nf rfl rfl ?_ | refine o_nn rfl rfl ?_) <;> (first | refine owp_nilT ?_ | refine owp_nilB ?_ | refine owp_nilBB ?_ | refine owp_nil ?_))
      repeat (first | refine ewp_seq ?_ | refine ewp_block ?_ | refine ewp_region ?_ | refine ewp_skip ?_ | refine ewp_exit ?_ | refine ewp_ret ?_ | refine ewp_true rfl ?_ | refine ewp_false rfl ?_)
      refine ⟨(), ⟨rfl, rfl, rfl, rfl, trivial⟩, ?_, upto_step hh fun o' ho' => by rw [ho] at ho'; injection ho' with ho'; exact ho' ▸ hP⟩
      exact hE34.trans' (hN5.ext.trans' hE6)
    · intro w6 hP hE6
      ((first | refine o_nt rfl rfl ?_ | refine o_nf rfl rfl ?_ | refine o_nn rfl rfl ?_) <;> (first | refine owp_nilT ?_ | refine owp_nilB ?_ | refine owp_nilBB ?_ | refine owp_nil ?_))
      repeat (first | refine ewp_seq ?_ | refine ewp_block ?_ | refine ewp_region ?_ | refine ewp_skip ?_ | refine ewp_exit ?_ | refine ewp_ret ?_ | refine ewp_true rfl ?_ | refine ewp_false rfl ?_)
      ((repeat (first | refine ewp_seq ?_ | refine ewp_block ?_ | refine ewp_region ?_ | refine ewp_skip ?_ | refine ewp_exit ?_ | refine ewp_ret ?_ | refine ewp_true rfl ?_ | refine ewp_false rfl ?_)) <;> (refine o_as rfl rfl ?_ <;> (first | refine owp_nilT ?_ | refine owp_nilB ?_ | refine owp_nilBB ?_ | refine owp_nil ?_)) <;> (repeat (first | refine ewp_seq ?_ | refine ewp_block ?_ | refine ewp_region ?_ | refine ewp_skip ?_ | refine ewp_exit ?_ | refine ewp_ret ?_ | refine ewp_true rfl ?_ | refine ewp_false rfl ?_)))
      refine ret1 rfl rfl ⟨?_, hE5.trans' hE6⟩
      rw [bof_f (fun h => hP (h.2.2.2.2.2 k o ho))]
  rintro _ w4 ⟨hE4, hh⟩
  repeat (first | refine ewp_seq ?_ | refine ewp_block ?_ | refine ewp_region ?_ | refine ewp_skip ?_ | refine ewp_exit ?_ | refine ewp_ret ?_ | refine ewp_true rfl ?_ | refine ewp_false rfl ?_)
  ((repeat (first | refine ewp_seq ?_ | refine ewp_block ?_ | refine ewp_region ?_ | refine ewp_skip ?_ | refine ewp_exit ?_ | refine ewp_ret ?_ | refine ewp_true rfl ?_ | refine ewp_false rfl ?_)) <;> (refine o_as rfl rfl ?_ <;> (first | refine owp_nilT ?_ | refine owp_nilB ?_ | refine owp_nilBB ?_ | refine owp_nil ?_)) <;> (repeat (first | refine ewp_seq ?_ | refine ewp_block ?_ | refine ewp_region ?_ | refine ewp_skip ?_ | refine ewp_exit ?_ | refine ewp_ret ?_ | refine ewp_true rfl ?_ | refine ewp_false rfl ?_)))
  refine ret1 rfl rfl ⟨?_, hE3.trans' hE4⟩
  rw [bof_t ⟨by omega, by omega, fun i n hn => hdom i (lt_of_some hn) n hn, hst, hgo, fun i o ho => hh i (lt_of_some ho) o ho⟩]
end
section
open Go Go.RowKit
attribute [local irreducible] ewp owp hwp hwq hws Ev Evg Fn retPost loud loudS Res1
/-- All conditions of a task. -/
def opConds (o : Opr) : List (List Fct) := o.pre :: o.effs.map (·.cond)
def conds (t : Tsk) : List (List Fct) := t.goal :: t.ops.flatMap opConds
theorem take_flat {α β : Type} (f : α → List β) {l : List α} {k : Nat} {x : α} (h : l[k]? = some x) : (l.take (k + 1)).flatMap f = (l.take k).flatMap f ++ f x := by
  rw [List.take_add_one, h]; simp
theorem take_map {α β : Type} (f : α → β) {l : List α} {k : Nat} {x : α} (h : l[k]? = some x) : (l.take (k + 1)).map f = (l.take k).map f ++ [f x] := by
  rw [List.take_add_one, h]; simp
theorem flat_le {t : Tsk} (h : ∀ (i : Nat) o, t.ops[i]? = some o → o.effs.length ≤ 64) (k : Nat) : ((t.ops.take k).flatMap opConds).length ≤ k * 65 := by
  induction k with
  | zero => simp
  | succ k ih =>
    cases hx : t.ops[k]? with
    | none =>
      have hl := List.getElem?_eq_none_iff.1 hx
      rw [List.take_of_length_le hl] at ih
      rw [List.take_of_length_le (by omega)]
      omega
    | some o =>
      rw [take_flat opConds hx, List.length_append]
      have := h k o hx
      simp only [opConds, List.length_cons, List.length_map] at *
      omega
theorem taskConditions {w : World} {tv : Value} {t : Tsk} (ht : V w tv t) (hn : t.ops.length ≤ 4096) (hm : ∀ (i : Nat) o, t.ops[i]? = some o → o.effs.length ≤ 64) :
    Fn Try.prog 55 [tv] w fun v w' => V w' v (conds t) ∧ Ext w w' := by
  obtain ⟨cs, rfl, a, b, c, d, rfl, hvars, hinit, hgoal, hops⟩ := ht
  obtain ⟨Av, cv, rfl⟩ := hvars.form
  obtain ⟨Ai, ci, rfl⟩ := hinit.form
  obtain ⟨Ag, cg, rfl⟩ := hgoal.form
  obtain ⟨Ao, co, rfl⟩ := hops.form
  have hF : ∀ {w'}, Ext w w' → ∀ k, All w k → k < w'.heap.size := fun hE k hk => Nat.lt_of_lt_of_le hk hE.size
  refine fn_enter Try.func55 rfl Try.ntmps55 rfl ?_
  repeat (first | refine ewp_seq ?_ | refine ewp_block ?_ | refine ewp_region ?_ | refine ewp_skip ?_ | refine ewp_exit ?_ | refine ewp_ret ?_ | refine ewp_true rfl ?_ | refine ewp_false rfl ?_)
  refine owp_box rfl rfl fun w1 hN => ?_
  have hb1 := hN.blk
  have hE1 : Ext w w1 := hN.ext
  (refine o_as rfl rfl ?_ <;> (first | refine owp_nilT ?_ | refine owp_nilB ?_ | refine owp_nilBB ?_ | refine owp_nil ?_))
  repeat (first | refine ewp_seq ?_ | refine ewp_block ?_ | refine ewp_region ?_ | refine ewp_skip ?_ | refine ewp_exit ?_ | refine ewp_ret ?_ | refine ewp_true rfl ?_ | refine ewp_false rfl ?_)
  (refine o_fa rfl rfl ?_ <;> refine o_ld rfl rfl ?_)
  refine owp_slice rfl rfl rfl (by simp [Value.cells]) (by decide) rfl fun w2 hN2 => ?_
  replace hb1 := hb1.ext hN2.ext
  have hE2 : Ext w w2 := hE1.trans' hN2.ext
  have hown : Own w2 w.heap.size (All w) 23 (.slice (some ⟨w1.heap.size, 0, none⟩) 1 1) [t.goal] :=
    (Own.made hN2 (xs := [t.goal]) (.single (Vb.agree hgoal (hE2.agree fun _ h => h))) rfl (fun h => by have : w1.heap.size < w.heap.size := h; have := hE1.size; omega) (by simp)).lower hE1.size
  (refine o_as rfl rfl ?_ <;> (first | refine owp_nilT ?_ | refine owp_nilB ?_ | refine owp_nilBB ?_ | refine owp_nil ?_))
  repeat (first | refine ewp_seq ?_ | refine ewp_block ?_ | refine ewp_region ?_ | refine ewp_skip ?_ | refine ewp_exit ?_ | refine ewp_ret ?_ | refine ewp_true rfl ?_ | refine ewp_false rfl ?_)
  ((repeat (first | refine ewp_seq ?_ | refine ewp_block ?_ | refine ewp_region ?_ | refine ewp_skip ?_ | refine ewp_exit ?_ | refine ewp_ret ?_ | refine ewp_true rfl ?_ | refine ewp_false rfl ?_)) <;> (refine o_fa rfl rfl ?_ <;> refine o_ld rfl rfl ?_ <;> refine o_ln rfl rfl ?_ <;> refine o_mv rfl rfl ?_ <;> (first | refine owp_nilT ?_ | refine owp_nilB ?_ | refine owp_nilBB ?_ | refine owp_nil ?_)) <;> (repeat (first | refine ewp_seq ?_ | refine ewp_block ?_ | refine ewp_region ?_ | refine ewp_skip ?_ | refine ewp_exit ?_ | refine ewp_ret ?_ | refine ewp_true rfl ?_ | refine ewp_false rfl ?_)))
  refine ewp_range t.ops.length (by omega) (fun v : Value => [(1, .pointer (some ⟨w.heap.size, 0, none⟩)), (3, v), (12, .slice Ao t.ops.length co)]) (fun k v w' => Ext w w' ∧ Blk w' w.heap.size 26 [.slice Av t.vars.length cv, .slice Ai t.init.length ci, .slice Ag t.goal.length cg, .slice Ao t.ops.length co] ∧ Own w' w.heap.size (All w) 23 v (t.goal :: (t.ops.take k).flatMap opConds)) _
    ⟨hE2, hb1, hown⟩ ⟨rfl, rfl, rfl, rfl, rfl, trivial⟩ (fun _ => ⟨rfl, rfl⟩) ⟨rfl, rfl, rfl⟩ ⟨rfl, rfl⟩ ?_ ?_
  · rintro k v w3 hk ⟨hE3, hb1, hown⟩
    have hlk := flat_le hm k
    obtain ⟨o, ho⟩ := some_of_lt hk
    obtain ⟨b2, o2, ce, rfl, _, _, hd1, p, q, rfl, hp, hq, hc, hnm⟩ := Vb.elem (Vb.agree hops (hE3.agree fun _ h => h)) ho
    obtain ⟨Ap, cp, rfl⟩ := hp.form
    obtain ⟨Aq, cq, rfl⟩ := hq.form
    have hql := hm k o ho
    ((repeat (first | refine ewp_seq ?_ | refine ewp_block ?_ | refine ewp_region ?_ | refine ewp_skip ?_ | refine ewp_exit ?_ | refine ewp_ret ?_ | refine ewp_true rfl ?_ | refine ewp_false rfl ?_)) <;> (refine o_ia rfl rfl rfl ?_ <;> refine o_la rfl rfl ?_) <;> (repeat (first | refine ewp_seq ?_ | refine ewp_block ?_ | refine ewp_region ?_ | refine ewp_skip ?_ | refine ewp_exit ?_ | refine ewp_ret ?_ | refine ewp_true rfl ?_ | refine ewp_false rfl ?_)))
    refine owp_local rfl rfl rfl (by simp [Value.cells, Value.oneCell']) fun w4 hN4 => ?_
    have hb2 := hN4.blk
    replace hb1 := hb1.ext hN4.ext
    have hE4 : Ext w w4 := hE3.trans' hN4.ext
    replace hown := hown.ext hN4.ext (hF hE3)
    replace hp := hp.agree (hN4.ext.agree (hF hE3))
    replace hq := hq.agree (hN4.ext.agree (hF hE3))
    ((first | refine owp_nilT ?_ | refine owp_nilB ?_ | refine owp_nilBB ?_ | refine owp_nil ?_))
    repeat (first | refine ewp_seq ?_ | refine ewp_block ?_ | refine ewp_region ?_ | refine ewp_skip ?_ | refine ewp_exit ?_ | refine ewp_ret ?_ | refine ewp_true rfl ?_ | refine ewp_false rfl ?_)
    (refine o_mv rfl rfl ?_ <;> refine o_fa rfl rfl ?_ <;> refine o_ld rfl rfl ?_)
    refine owp_append1 rfl rfl rfl hown (hF hE4) hE4.size hp (by decide) (by decide) (by simp only [List.length_cons, List.length_append, List.length_map, List.length_take]; omega) (by simp only [List.length_cons, List.length_append, List.length_map, List.length_take]; omega) ⟨rfl, rfl⟩ fun v' w5 hown5 hK => ?_
    replace hb1 := hK.blk hb1 (hown.blk_ne hb1 (by decide))
    replace hb2 := hK.blk hb2 (hown.blk_ne hb2 (by decide))
    have hB5 : Below w.heap.size w4 w5 := hown.fits (Nat.le_refl _) hE4.size hK
    have hE5 : Ext w w5 := hE4.trans hB5
    replace hq := hq.below hB5
    (refine o_as rfl rfl ?_ <;> (first | refine owp_nilT ?_ | refine owp_nilB ?_ | refine owp_nilBB ?_ | refine owp_nil ?_))
    repeat (first | refine ewp_seq ?_ | refine ewp_block ?_ | refine ewp_region ?_ | refine ewp_skip ?_ | refine ewp_exit ?_ | refine ewp_ret ?_ | refine ewp_true rfl ?_ | refine ewp_false rfl ?_)
    ((repeat (first | refine ewp_seq ?_ | refine ewp_block ?_ | refine ewp_region ?_ | refine ewp_skip ?_ | refine ewp_exit ?_ | refine ewp_ret ?_ | refine ewp_true rfl ?_ | refine ewp_false rfl ?_)) <;> (refine o_fa rfl rfl ?_ <;> refine o_ld rfl rfl ?_ <;> refine o_ln rfl rfl ?_ <;> refine o_mv rfl rfl ?_ <;> (first | refine owp_nilT ?_ | refine owp_nilB ?_ | refine owp_nilBB ?_ | refine owp_nil ?_)) <;> (repeat (first | refine ewp_seq ?_ | refine ewp_block ?_ | refine ewp_region ?_ | refine ewp_skip ?_ | refine ewp_exit ?_ | refine ewp_ret ?_ | refine ewp_true rfl ?_ | refine ewp_false rfl ?_)))
    refine ewp_range o.effs.length (by omega) (fun v : Value => [(1, .pointer (some ⟨w.heap.size, 0, none⟩)), (3, v), (12, .slice (some ⟨b2, o2, none⟩) t.ops.length co), (13, .int .i64 (t.ops.length : Int)), (14, .int .i64 (k : Int)), (24, .slice Aq o.effs.length cq)]) (fun j v w' => Ext w w' ∧ Blk w' w.heap.size 26 [.slice Av t.vars.length cv, .slice Ai t.init.length ci, .slice Ag t.goal.length cg, .slice (some ⟨b2, o2, none⟩) t.ops.length co] ∧ Vb w' (All w) (.slice Aq o.effs.length cq) o.effs ∧ Own w' w.heap.size (All w) 23 v ((t.goal :: (t.ops.take k).flatMap opConds) ++ o.pre :: (o.effs.take j).map (·.cond))) _
      ⟨hE5, hb1, hq, by simpa using hown5⟩ ⟨rfl, rfl, rfl, rfl, rfl, rfl, rfl, rfl, trivial⟩ (fun _ => ⟨rfl, rfl⟩) ⟨rfl, rfl, rfl⟩ ⟨rfl, rfl⟩ ?_ ?_
    · rintro j v6 w6 hj ⟨hE6, hb1, hq, hown⟩
      obtain ⟨e, he⟩ := some_of_lt hj
      obtain ⟨b3, o3, ce, rfl, _, _, hd1, cv', rfl, hcond, hr1, hr2⟩ := hq.elem he
      obtain ⟨Ac, cc, rfl⟩ := hcond.form
      ((repeat (first | refine ewp_seq ?_ | refine ewp_block ?_ | refine ewp_region ?_ | refine ewp_skip ?_ | refine ewp_exit ?_ | refine ewp_ret ?_ | refine ewp_true rfl ?_ | refine ewp_false rfl ?_)) <;> (refine o_ia rfl rfl rfl ?_ <;> refine o_la rfl rfl ?_) <;> (repeat (first | refine ewp_seq ?_ | refine ewp_block ?_ | refine ewp_region ?_ | refine ewp_skip ?_ | refine ewp_exit ?_ | refine ewp_ret ?_ | refine ewp_true rfl ?_ | refine ewp_false rfl ?_)))
      refine owp_local rfl rfl rfl (by simp [Value.cells, Value.oneCell']) fun w7 hN7 => ?_
      have hb2 := hN7.blk
      replace hb1 := hb1.ext hN7.ext
      have hE7 : Ext w w7 := hE6.trans' hN7.ext
      replace hown := hown.ext hN7.ext (hF hE6)
      replace hcond := hcond.agree (hN7.ext.agree (hF hE6))
      replace hq := hq.agree (hN7.ext.agree (hF hE6))
      ((first | refine owp_nilT ?_ | refine owp_nilB ?_ | refine owp_nilBB ?_ | refine owp_nil ?_))
      repeat (first | refine ewp_seq ?_ | refine ewp_block ?_ | refine ewp_region ?_ | refine ewp_skip ?_ | refine ewp_exit ?_ | refine ewp_ret ?_ | refine ewp_true rfl ?_ | refine ewp_false rfl ?_)
      (refine o_mv rfl rfl ?_ <;> refine o_fa rfl rfl ?_ <;> refine o_ld rfl rfl ?_)
      refine owp_append1 rfl rfl rfl hown (hF hE7) hE7.size hcond (by decide) (by decide) (by simp only [List.length_cons, List.length_append, List.length_map, List.length_take]; omega) (by simp only [List.length_cons, List.length_append, List.length_map, List.length_take]; omega) ⟨rfl, rfl⟩ fun v' w8 hown8 hK => ?_
      have hB8 : Below w.heap.size w7 w8 := hown.fits (Nat.le_refl _) hE7.size hK
      (refine o_as rfl rfl ?_ <;> (first | refine owp_nilT ?_ | refine owp_nilB ?_ | refine owp_nilBB ?_ | refine owp_nil ?_))
      exact ⟨v', ⟨rfl, rfl, rfl, rfl, rfl, rfl, rfl, rfl, trivial⟩, hE7.trans hB8, hK.blk hb1 (hown.blk_ne hb1 (by decide)), hq.below hB8, by rw [take_map _ he]; simpa using hown8⟩
    rintro v6 w6 ⟨hE6, hb1, hq, hown⟩
    repeat (first | refine ewp_seq ?_ | refine ewp_block ?_ | refine ewp_region ?_ | refine ewp_skip ?_ | refine ewp_exit ?_ | refine ewp_ret ?_ | refine ewp_true rfl ?_ | refine ewp_false rfl ?_)
    exact ⟨v6, ⟨rfl, rfl, rfl, rfl, rfl, trivial⟩, hE6, hb1, by rw [take_flat opConds ho]; simpa [opConds] using hown⟩
  rintro v w3 ⟨hE3, hb1, hown⟩
  repeat (first | refine ewp_seq ?_ | refine ewp_block ?_ | refine ewp_region ?_ | refine ewp_skip ?_ | refine ewp_exit ?_ | refine ewp_ret ?_ | refine ewp_true rfl ?_ | refine ewp_false rfl ?_)
  ((repeat (first | refine ewp_seq ?_ | refine ewp_block ?_ | refine ewp_region ?_ | refine ewp_skip ?_ | refine ewp_exit ?_ | refine ewp_ret ?_ | refine ewp_true rfl ?_ | refine ewp_false rfl ?_)) <;> (refine o_mv rfl rfl ?_ <;> refine o_as rfl rfl ?_ <;> (first | refine owp_nilT ?_ | refine owp_nilB ?_ | refine owp_nilBB ?_ | refine owp_nil ?_)) <;> (repeat (first | refine ewp_seq ?_ | refine ewp_block ?_ | refine ewp_region ?_ | refine ewp_skip ?_ | refine ewp_exit ?_ | refine ewp_ret ?_ | refine ewp_true rfl ?_ | refine ewp_false rfl ?_)))
  refine ret1 rfl rfl ⟨?_, hE3⟩
  rw [List.take_length] at hown
  exact hown.vb.mono fun k hk => by
    rcases hk with hk | hk
    · exact hF hE3 k hk
    · exact (hown.lt k hk).2
theorem indexFuncFacts {w : World} {sv : Value} {xs : List (List Fct)} {g : FuncId} [Callable Try.prog g] {caps : List Value} {p : List Fct → Prop} (hs : V w sv xs)
    (hg : ∀ v x w', x ∈ xs → Ext w w' → V w' v x → Fn Try.prog g ([v] ++ caps) w' fun r w'' => r = .bool (bof (p x)) ∧ Ext w' w'') :
    Fn Try.prog 83 [sv, .func (.func g) #[] caps.toArray] w fun v w' => ((∃ k : Nat, v = .int .i64 (k : Int) ∧ ∃ x ∈ xs, p x) ∨ (v = .int .i64 (-1) ∧ ∀ x ∈ xs, ¬ p x)) ∧ Ext w w' := by
  obtain ⟨A, c, rfl⟩ := hs.form
  have hl := hs.len
  refine fn_enter Try.func83 rfl Try.ntmps83 rfl ?_
  ((repeat (first | refine ewp_seq ?_ | refine ewp_block ?_ | refine ewp_region ?_ | refine ewp_skip ?_ | refine ewp_exit ?_ | refine ewp_ret ?_ | refine ewp_true rfl ?_ | refine ewp_false rfl ?_)) <;> (refine o_as rfl rfl ?_ <;> (first | refine owp_nilT ?_ | refine owp_nilB ?_ | refine owp_nilBB ?_ | refine owp_nil ?_)) <;> (repeat (first | refine ewp_seq ?_ | refine ewp_block ?_ | refine ewp_region ?_ | refine ewp_skip ?_ | refine ewp_exit ?_ | refine ewp_ret ?_ | refine ewp_true rfl ?_ | refine ewp_false rfl ?_)) <;> (refine o_mv rfl rfl ?_ <;> refine o_ln rfl rfl ?_ <;> refine o_mv rfl rfl ?_ <;> (first | refine owp_nilT ?_ | refine owp_nilB ?_ | refine owp_nilBB ?_ | refine owp_nil ?_)) <;> (repeat (first | refine ewp_seq ?_ | refine ewp_block ?_ | refine ewp_region ?_ | refine ewp_skip ?_ | refine ewp_exit ?_ | refine ewp_ret ?_ | refine ewp_true rfl ?_ | refine ewp_false rfl ?_)))
  refine ewp_range xs.length (by omega) (fun _ : Unit => [(0, .slice A xs.length c), (1, .func (.func g) #[] caps.toArray)]) (fun k _ w' => Ext w w' ∧ ∀ i, i < k → ∀ x, xs[i]? = some x → ¬ p x) ()
    ⟨Below.refl _ _, fun i hi => by omega⟩ ⟨rfl, rfl, rfl, rfl, trivial⟩ (fun _ => ⟨rfl, rfl⟩) ⟨rfl, rfl, rfl⟩ ⟨rfl, rfl⟩ ?_ ?_
  · rintro k _ w1 hk ⟨hE, hh⟩
    obtain ⟨x, hx⟩ := some_of_lt hk
    obtain ⟨b, o, ce, rfl, _, _, hd1, hR⟩ := (hs.ext hE).elem hx
    obtain ⟨v, rfl⟩ := List.length_eq_one_iff.1 (Rp.len hR)
    ((repeat (first | refine ewp_seq ?_ | refine ewp_block ?_ | refine ewp_region ?_ | refine ewp_skip ?_ | refine ewp_exit ?_ | refine ewp_ret ?_ | refine ewp_true rfl ?_ | refine ewp_false rfl ?_)) <;> (refine o_mv rfl rfl ?_ <;> refine o_as rfl rfl ?_ <;> (first | refine owp_nilT ?_ | refine owp_nilB ?_ | refine owp_nilBB ?_ | refine owp_nil ?_)) <;> (repeat (first | refine ewp_seq ?_ | refine ewp_block ?_ | refine ewp_region ?_ | refine ewp_skip ?_ | refine ewp_exit ?_ | refine ewp_ret ?_ | refine ewp_true rfl ?_ | refine ewp_false rfl ?_)) <;> (refine o_mv rfl rfl ?_ <;> refine o_mv rfl rfl ?_ <;> refine o_mv rfl rfl ?_ <;> refine o_ia rfl rfl rfl ?_ <;> refine o_ld rfl rfl ?_) <;> (repeat (first | refine ewp_seq ?_ | refine ewp_block ?_ | refine ewp_region ?_ | refine ewp_skip ?_ | refine ewp_exit ?_ | refine ewp_ret ?_ | refine ewp_true rfl ?_ | refine ewp_false rfl ?_)))
    refine owp_callv rfl rfl rfl (hg v x w1 (List.mem_of_getElem? hx) hE hR) ?_
    rintro _ w2 ⟨rfl, hE2⟩
    by_cases hp : p x
    · rw [bof_t hp]
      ((first | refine owp_nilT ?_ | refine owp_nilB ?_ | refine owp_nilBB ?_ | refine owp_nil ?_))
      repeat (first | refine ewp_seq ?_ | refine ewp_block ?_ | refine ewp_region ?_ | refine ewp_skip ?_ | refine ewp_exit ?_ | refine ewp_ret ?_ | refine ewp_true rfl ?_ | refine ewp_false rfl ?_)
      ((repeat (first | refine ewp_seq ?_ | refine ewp_block ?_ | refine ewp_region ?_ | refine ewp_skip ?_ | refine ewp_exit ?_ | refine ewp_ret ?_ | refine ewp_true rfl ?_ | refine ewp_false rfl ?_)) <;> (refine o_mv rfl rfl ?_ <;> refine o_as rfl rfl ?_ <;> (first | refine owp_nilT ?_ | refine owp_nilB ?_ | refine owp_nilBB ?_ | refine owp_nil ?_)) <;> (repeat (first | refine ewp_seq ?_ | refine ewp_block ?_ | refine ewp_region ?_ | refine ewp_skip ?_ | refine ewp_exit ?_ | refine ewp_ret ?_ | refine ewp_true rfl ?_ | refine ewp_false rfl ?_)))
      exact ret1 rfl rfl ⟨.inl ⟨k, rfl, x, List.mem_of_getElem? hx, hp⟩, hE.trans' hE2⟩
    · rw [bof_f hp]
      ((first | refine owp_nilT ?_ | refine owp_nilB ?_ | refine owp_nilBB ?_ | refine owp_nil ?_))
      repeat (first | refine ewp_seq ?_ | refine ewp_block ?_ | refine ewp_region ?_ | refine ewp_skip ?_ | refine ewp_exit ?_ | refine ewp_ret ?_ | refine ewp_true rfl ?_ | refine ewp_false rfl ?_)
      exact ⟨(), ⟨rfl, rfl, rfl, rfl, trivial⟩, hE.trans' hE2, upto_step hh fun x' hx' => by rw [hx] at hx'; injection hx' with hx'; exact hx' ▸ hp⟩
  rintro _ w1 ⟨hE, hh⟩
  repeat (first | refine ewp_seq ?_ | refine ewp_block ?_ | refine ewp_region ?_ | refine ewp_skip ?_ | refine ewp_exit ?_ | refine ewp_ret ?_ | refine ewp_true rfl ?_ | refine ewp_false rfl ?_)
  ((repeat (first | refine ewp_seq ?_ | refine ewp_block ?_ | refine ewp_region ?_ | refine ewp_skip ?_ | refine ewp_exit ?_ | refine ewp_ret ?_ | refine ewp_true rfl ?_ | refine ewp_false rfl ?_)) <;> (refine o_as rfl rfl ?_ <;> (first | refine owp_nilT ?_ | refine owp_nilB ?_ | refine owp_nilBB ?_ | refine owp_nil ?_)) <;> (repeat (first | refine ewp_seq ?_ | refine ewp_block ?_ | refine ewp_region ?_ | refine ewp_skip ?_ | refine ewp_exit ?_ | refine ewp_ret ?_ | refine ewp_true rfl ?_ | refine ewp_false rfl ?_)))
  refine ret1 rfl rfl ⟨.inr ⟨rfl, fun x hx => ?_⟩, hE⟩
  obtain ⟨i, hi⟩ := List.getElem?_of_mem hx
  exact hh i (lt_of_some hi) x hi
theorem containsFuncFacts {w : World} {sv : Value} {xs : List (List Fct)} {g : FuncId} [Callable Try.prog g] {caps : List Value} {p : List Fct → Prop} (hs : V w sv xs)
    (hg : ∀ v x w', x ∈ xs → Ext w w' → V w' v x → Fn Try.prog g ([v] ++ caps) w' fun r w'' => r = .bool (bof (p x)) ∧ Ext w' w'') :
    Fn Try.prog 69 [sv, .func (.func g) #[] caps.toArray] w fun v w' => v = .bool (bof (∃ x ∈ xs, p x)) ∧ Ext w w' := by
  refine fn_enter Try.func69 rfl Try.ntmps69 rfl ?_
  ((repeat (first | refine ewp_seq ?_ | refine ewp_block ?_ | refine ewp_region ?_ | refine ewp_skip ?_ | refine ewp_exit ?_ | refine ewp_ret ?_ | refine ewp_true rfl ?_ | refine ewp_false rfl ?_)) <;> (refine o_as rfl rfl ?_ <;> (first | refine owp_nilT ?_ | refine owp_nilB ?_ | refine owp_nilBB ?_ | refine owp_nil ?_)) <;> (repeat (first | refine ewp_seq ?_ | refine ewp_block ?_ | refine ewp_region ?_ | refine ewp_skip ?_ | refine ewp_exit ?_ | refine ewp_ret ?_ | refine ewp_true rfl ?_ | refine ewp_false rfl ?_)) <;> (refine o_mv rfl rfl ?_ <;> refine o_mv rfl rfl ?_) <;> (repeat (first | refine ewp_seq ?_ | refine ewp_block ?_ | refine ewp_region ?_ | refine ewp_skip ?_ | refine ewp_exit ?_ | refine ewp_ret ?_ | refine ewp_true rfl ?_ | refine ewp_false rfl ?_)))
  refine owp_call rfl rfl (indexFuncFacts hs hg) ?_
  rintro v w1 ⟨h, hE⟩
  rcases h with ⟨k, rfl, h⟩ | ⟨rfl, h⟩
  · ((first | refine o_geT rfl rfl rfl ?_ | refine o_geF rfl rfl rfl ?_) <;> refine o_as rfl rfl ?_ <;> (first | refine owp_nilT ?_ | refine owp_nilB ?_ | refine owp_nilBB ?_ | refine owp_nil ?_))
    repeat (first | refine ewp_seq ?_ | refine ewp_block ?_ | refine ewp_region ?_ | refine ewp_skip ?_ | refine ewp_exit ?_ | refine ewp_ret ?_ | refine ewp_true rfl ?_ | refine ewp_false rfl ?_)
    exact ret1 rfl rfl ⟨by rw [bof_t h], hE⟩
  · ((first | refine o_geT rfl rfl rfl ?_ | refine o_geF rfl rfl rfl ?_) <;> refine o_as rfl rfl ?_ <;> (first | refine owp_nilT ?_ | refine owp_nilB ?_ | refine owp_nilBB ?_ | refine owp_nil ?_))
    repeat (first | refine ewp_seq ?_ | refine ewp_block ?_ | refine ewp_region ?_ | refine ewp_skip ?_ | refine ewp_exit ?_ | refine ewp_ret ?_ | refine ewp_true rfl ?_ | refine ewp_false rfl ?_)
    exact ret1 rfl rfl ⟨by rw [bof_f (fun ⟨x, hx, hp⟩ => h x hx hp)], hE⟩
theorem taskLarge1 {w : World} {v : Value} {f : List Fct} (hf : V w v f) : Fn Try.prog 70 ([v] ++ []) w fun r w' => r = .bool (bof (64 < f.length)) ∧ Ext w w' := by
  obtain ⟨A, c, rfl⟩ := hf.form
  refine fn_enter Try.func70 rfl Try.ntmps70 rfl ?_
  by_cases h : 64 < f.length
  · ((repeat (first | refine ewp_seq ?_ | refine ewp_block ?_ | refine ewp_region ?_ | refine ewp_skip ?_ | refine ewp_exit ?_ | refine ewp_ret ?_ | refine ewp_true rfl ?_ | refine ewp_false rfl ?_)) <;> (refine o_as rfl rfl ?_ <;> (first | refine owp_nilT ?_ | refine owp_nilB ?_ | refine owp_nilBB ?_ | refine owp_nil ?_)) <;> (repeat (first | refine ewp_seq ?_ | refine ewp_block ?_ | refine ewp_region ?_ | refine ewp_skip ?_ | refine ewp_exit ?_ | refine ewp_ret ?_ | refine ewp_true rfl ?_ | refine ewp_false rfl ?_)) <;> (refine o_mv rfl rfl ?_ <;> refine o_ln rfl rfl ?_ <;> (first | refine o_gtT rfl rfl rfl ?_ | refine o_gtF rfl rfl rfl ?_) <;> refine o_as rfl rfl ?_ <;> (first | refine owp_nilT ?_ | refine owp_nilB ?_ | refine owp_nilBB ?_ | refine owp_nil ?_)) <;> (repeat (first | refine ewp_seq ?_ | refine ewp_block ?_ | refine ewp_region ?_ | refine ewp_skip ?_ | refine ewp_exit ?_ | refine ewp_ret ?_ | refine ewp_true rfl ?_ | refine ewp_false rfl ?_)))
    exact ret1 rfl rfl ⟨by rw [bof_t h], Below.refl _ _⟩
  · ((repeat (first | refine ewp_seq ?_ | refine ewp_block ?_ | refine ewp_region ?_ | refine ewp_skip ?_ | refine ewp_exit ?_ | refine ewp_ret ?_ | refine ewp_true rfl ?_ | refine ewp_false rfl ?_)) <;> (refine o_as rfl rfl ?_ <;> (first | refine owp_nilT ?_ | refine owp_nilB ?_ | refine owp_nilBB ?_ | refine owp_nil ?_)) <;> (repeat (first | refine ewp_seq ?_ | refine ewp_block ?_ | refine ewp_region ?_ | refine ewp_skip ?_ | refine ewp_exit ?_ | refine ewp_ret ?_ | refine ewp_true rfl ?_ | refine ewp_false rfl ?_)) <;> (refine o_mv rfl rfl ?_ <;> refine o_ln rfl rfl ?_ <;> (first | refine o_gtT rfl rfl rfl ?_ | refine o_gtF rfl rfl rfl ?_) <;> refine o_as rfl rfl ?_ <;> (first | refine owp_nilT ?_ | refine owp_nilB ?_ | refine owp_nilBB ?_ | refine owp_nil ?_)) <;> (repeat (first | refine ewp_seq ?_ | refine ewp_block ?_ | refine ewp_region ?_ | refine ewp_skip ?_ | refine ewp_exit ?_ | refine ewp_ret ?_ | refine ewp_true rfl ?_ | refine ewp_false rfl ?_)))
    exact ret1 rfl rfl ⟨by rw [bof_f h], Below.refl _ _⟩
/-- A task is beyond the limits. -/
def Large (t : Tsk) : Prop := 64 < t.vars.length ∨ 4096 < t.ops.length ∨ (∃ (i : Nat) (o : Opr), t.ops[i]? = some o ∧ 64 < o.effs.length) ∨ ∃ f ∈ conds t, 64 < f.length
theorem taskLarge {w : World} {tv : Value} {t : Tsk} (ht : V w tv t) : Fn Try.prog 53 [tv] w fun v w' => v = .bool (bof (Large t)) ∧ Ext w w' := by
  have ht0 := ht
  obtain ⟨cs, rfl, a, b, c, d, rfl, hvars, hinit, hgoal, hops⟩ := ht
  obtain ⟨Av, cv, rfl⟩ := hvars.form
  obtain ⟨Ai, ci, rfl⟩ := hinit.form
  obtain ⟨Ag, cg, rfl⟩ := hgoal.form
  obtain ⟨Ao, co, rfl⟩ := hops.form
  have hol := hops.len
  refine fn_enter Try.func53 rfl Try.ntmps53 rfl ?_
  repeat (first | refine ewp_seq ?_ | refine ewp_block ?_ | refine ewp_region ?_ | refine ewp_skip ?_ | refine ewp_exit ?_ | refine ewp_ret ?_ | refine ewp_true rfl ?_ | refine ewp_false rfl ?_)
  refine owp_box rfl rfl fun w1 hN => ?_
  have hb1 := hN.blk
  have hE1 : Ext w w1 := hN.ext
  (refine o_as rfl rfl ?_ <;> (first | refine owp_nilT ?_ | refine owp_nilB ?_ | refine owp_nilBB ?_ | refine owp_nil ?_))
  repeat (first | refine ewp_seq ?_ | refine ewp_block ?_ | refine ewp_region ?_ | refine ewp_skip ?_ | refine ewp_exit ?_ | refine ewp_ret ?_ | refine ewp_true rfl ?_ | refine ewp_false rfl ?_)
  ((repeat (first | refine ewp_seq ?_ | refine ewp_block ?_ | refine ewp_region ?_ | refine ewp_skip ?_ | refine ewp_exit ?_ | refine ewp_ret ?_ | refine ewp_true rfl ?_ | refine ewp_false rfl ?_)) <;> (refine o_fa rfl rfl ?_ <;> refine o_ld rfl rfl ?_ <;> refine o_ln rfl rfl ?_ <;> (first | refine o_gtT rfl rfl rfl ?_ | refine o_gtF rfl rfl rfl ?_ | refine o_gtS rfl rfl rfl (fun _ => ?_) fun _ => ?_) <;> refine o_mv rfl rfl ?_ <;> (first | (refine owp_yes rfl rfl ?_; refine o_fa rfl rfl ?_) | refine owp_no rfl rfl rfl rfl ?_) <;> (first | (refine owp_yes rfl rfl ?_; refine o_ld rfl rfl ?_) | refine owp_no rfl rfl rfl rfl ?_) <;> (first | (refine owp_yes rfl rfl ?_; refine o_ln rfl rfl ?_) | refine owp_no rfl rfl rfl rfl ?_) <;> (first | (refine owp_yes rfl rfl ?_; (first | refine o_gtT rfl rfl rfl ?_ | refine o_gtF rfl rfl rfl ?_ | refine o_gtS rfl rfl rfl (fun _ => ?_) fun _ => ?_)) | refine owp_no rfl rfl rfl rfl ?_) <;> (first | refine o_pt rfl rfl rfl ?_ | refine o_pf rfl rfl rfl ?_) <;> (first | refine owp_nilT ?_ | refine owp_nilB ?_ | refine owp_nilBB ?_ | refine owp_nil ?_)) <;> (repeat (first | refine ewp_seq ?_ | refine ewp_block ?_ | refine ewp_region ?_ | refine ewp_skip ?_ | refine ewp_exit ?_ | refine ewp_ret ?_ | refine ewp_true rfl ?_ | refine ewp_false rfl ?_)))
  all_goals try (
    ((repeat (first | refine ewp_seq ?_ | refine ewp_block ?_ | refine ewp_region ?_ | refine ewp_skip ?_ | refine ewp_exit ?_ | refine ewp_ret ?_ | refine ewp_true rfl ?_ | refine ewp_false rfl ?_)) <;> (refine o_as rfl rfl ?_ <;> (first | refine owp_nilT ?_ | refine owp_nilB ?_ | refine owp_nilBB ?_ | refine owp_nil ?_)) <;> (repeat (first | refine ewp_seq ?_ | refine ewp_block ?_ | refine ewp_region ?_ | refine ewp_skip ?_ | refine ewp_exit ?_ | refine ewp_ret ?_ | refine ewp_true rfl ?_ | refine ewp_false rfl ?_)))
    refine ret1 rfl rfl ⟨?_, hE1⟩
    rw [bof_t (by first | exact .inl (by omega) | exact .inr (.inl (by omega)))])
  ((repeat (first | refine ewp_seq ?_ | refine ewp_block ?_ | refine ewp_region ?_ | refine ewp_skip ?_ | refine ewp_exit ?_ | refine ewp_ret ?_ | refine ewp_true rfl ?_ | refine ewp_false rfl ?_)) <;> (refine o_fa rfl rfl ?_ <;> refine o_ld rfl rfl ?_ <;> refine o_ln rfl rfl ?_ <;> refine o_mv rfl rfl ?_ <;> (first | refine owp_nilT ?_ | refine owp_nilB ?_ | refine owp_nilBB ?_ | refine owp_nil ?_)) <;> (repeat (first | refine ewp_seq ?_ | refine ewp_block ?_ | refine ewp_region ?_ | refine ewp_skip ?_ | refine ewp_exit ?_ | refine ewp_ret ?_ | refine ewp_true rfl ?_ | refine ewp_false rfl ?_)))
  refine ewp_range t.ops.length (by omega) (fun _ : Unit => [(1, .pointer (some ⟨w.heap.size, 0, none⟩)), (16, .slice Ao t.ops.length co)]) (fun k _ w' => Ext w1 w' ∧ ∀ i, i < k → ∀ o, t.ops[i]? = some o → o.effs.length ≤ 64) ()
    ⟨Below.refl _ _, fun i hi => by omega⟩ ⟨rfl, rfl, rfl, rfl, trivial⟩ (fun _ => ⟨rfl, rfl⟩) ⟨rfl, rfl, rfl⟩ ⟨rfl, rfl⟩ ?_ ?_
  · rintro k _ w4 hk ⟨hE4, hh⟩
    obtain ⟨o, ho⟩ := some_of_lt hk
    obtain ⟨b2, o2, ce, rfl, _, _, hd1, p, q, rfl, hp, hq, hc, hn⟩ := (hops.ext (hE1.trans' hE4)).elem ho
    obtain ⟨Ap, cp, rfl⟩ := hp.form
    obtain ⟨Aq, cq, rfl⟩ := hq.form
    ((repeat (first | refine ewp_seq ?_ | refine ewp_block ?_ | refine ewp_region ?_ | refine ewp_skip ?_ | refine ewp_exit ?_ | refine ewp_ret ?_ | refine ewp_true rfl ?_ | refine ewp_false rfl ?_)) <;> (refine o_ia rfl rfl rfl ?_ <;> refine o_la rfl rfl ?_) <;> (repeat (first | refine ewp_seq ?_ | refine ewp_block ?_ | refine ewp_region ?_ | refine ewp_skip ?_ | refine ewp_exit ?_ | refine ewp_ret ?_ | refine ewp_true rfl ?_ | refine ewp_false rfl ?_)))
    refine owp_local rfl rfl rfl (by simp [Value.cells, Value.oneCell']) fun w5 hN5 => ?_
    have hb2 := hN5.blk
    have hE5 : Ext w1 w5 := hE4.trans' hN5.ext
    ((first | refine owp_nilT ?_ | refine owp_nilB ?_ | refine owp_nilBB ?_ | refine owp_nil ?_))
    repeat (first | refine ewp_seq ?_ | refine ewp_block ?_ | refine ewp_region ?_ | refine ewp_skip ?_ | refine ewp_exit ?_ | refine ewp_ret ?_ | refine ewp_true rfl ?_ | refine ewp_false rfl ?_)
    ((repeat (first | refine ewp_seq ?_ | refine ewp_block ?_ | refine ewp_region ?_ | refine ewp_skip ?_ | refine ewp_exit ?_ | refine ewp_ret ?_ | refine ewp_true rfl ?_ | refine ewp_false rfl ?_)) <;> (refine o_fa rfl rfl ?_ <;> refine o_ld rfl rfl ?_ <;> refine o_ln rfl rfl ?_ <;> (first | refine o_gtT rfl rfl rfl ?_ | refine o_gtF rfl rfl rfl ?_ | refine o_gtS rfl rfl rfl (fun _ => ?_) fun _ => ?_) <;> (first | refine owp_nilT ?_ | refine owp_nilB ?_ | refine owp_nilBB ?_ | refine owp_nil ?_)) <;> (repeat (first | refine ewp_seq ?_ | refine ewp_block ?_ | refine ewp_region ?_ | refine ewp_skip ?_ | refine ewp_exit ?_ | refine ewp_ret ?_ | refine ewp_true rfl ?_ | refine ewp_false rfl ?_)))
    · ((repeat (first | refine ewp_seq ?_ | refine ewp_block ?_ | refine ewp_region ?_ | refine ewp_skip ?_ | refine ewp_exit ?_ | refine ewp_ret ?_ | refine ewp_true rfl ?_ | refine ewp_false rfl ?_)) <;> (refine o_as rfl rfl ?_ <;> (first | refine owp_nilT ?_ | refine owp_nilB ?_ | refine owp_nilBB ?_ | refine owp_nil ?_)) <;> (repeat (first | refine ewp_seq ?_ | refine ewp_block ?_ | refine ewp_region ?_ | refine ewp_skip ?_ | refine ewp_exit ?_ | refine ewp_ret ?_ | refine ewp_true rfl ?_ | refine ewp_false rfl ?_)))
      refine ret1 rfl rfl ⟨?_, hE1.trans' hE5⟩
      rw [bof_t (.inr (.inr (.inl ⟨k, o, ho, by omega⟩)))]
    · exact ⟨(), ⟨rfl, rfl, rfl, rfl, trivial⟩, hE5, upto_step hh fun o' ho' => by rw [ho] at ho'; injection ho' with ho'; subst ho'; omega⟩
  rintro _ w4 ⟨hE4, hh⟩
  replace hb1 := hb1.ext hE4
  replace hE4 : Ext w w4 := hE1.trans' hE4
  have hm : ∀ (i : Nat) o, t.ops[i]? = some o → o.effs.length ≤ 64 := fun i o ho => hh i (lt_of_some ho) o ho
  repeat (first | refine ewp_seq ?_ | refine ewp_block ?_ | refine ewp_region ?_ | refine ewp_skip ?_ | refine ewp_exit ?_ | refine ewp_ret ?_ | refine ewp_true rfl ?_ | refine ewp_false rfl ?_)
  (refine o_la rfl rfl ?_)
  refine owp_call rfl rfl (taskConditions (ht0.ext hE4) (by omega) hm) ?_
  rintro v5 w5 ⟨hv5, hE5⟩
  refine owp_call rfl rfl (containsFuncFacts (p := fun f => 64 < f.length) (caps := []) hv5 (fun v x w' _ _ hx => taskLarge1 hx)) ?_
  rintro v6 w6 ⟨rfl, hE6⟩
  (refine o_as rfl rfl ?_ <;> (first | refine owp_nilT ?_ | refine owp_nilB ?_ | refine owp_nilBB ?_ | refine owp_nil ?_))
  repeat (first | refine ewp_seq ?_ | refine ewp_block ?_ | refine ewp_region ?_ | refine ewp_skip ?_ | refine ewp_exit ?_ | refine ewp_ret ?_ | refine ewp_true rfl ?_ | refine ewp_false rfl ?_)
  refine ret1 rfl rfl ⟨?_, hE4.trans' (hE5.trans' hE6)⟩
  congr 1
  refine bof_eq ⟨fun h => .inr (.inr (.inr h)), fun h => ?_⟩
  rcases h with h | h | ⟨i, o, ho, h⟩ | h
  · omega
  · omega
  · have := hm i o ho; omega
  · exact h
end
section
open Go Go.RowKit
attribute [local irreducible] ewp owp hwp hwq hws Ev Evg Fn retPost loud loudS Res1
/-- An error by its number. -/
def VarsOk (t : Tsk) : Prop := ∀ (i : Nat) n, t.vars[i]? = some n → 1 ≤ n ∧ n ≤ 64
def CostsOk (t : Tsk) : Prop := ∀ (i : Nat) o, t.ops[i]? = some o → 0 ≤ o.cost ∧ o.cost ≤ 1048576
def CondsOk (t : Tsk) : Prop := ∀ (i : Nat) f, (conds t)[i]? = some f → FactsOk t.vars f
def EffsOk (t : Tsk) : Prop := ∀ (i : Nat) o, t.ops[i]? = some o → ∀ (j : Nat) e, o.effs[j]? = some e → FactOk t.vars ⟨e.var, e.val⟩
def NamesOk (t : Tsk) : Prop := ∀ (i : Nat) o, t.ops[i]? = some o → NameOk o.name
/-- The number of a task's first error. -/
noncomputable def checkN (t : Tsk) : Int :=
  if bof (Large t) = true then 5 else if bof (VarsOk t ∧ CostsOk t) = false then 1 else if bof (StateOk t.vars t.init ∧ CondsOk t ∧ EffsOk t) = false then 2 else if bof (NamesOk t) = false then 8 else 0
theorem taskCheck {w : World} {tv : Value} {t : Tsk} (ht : V w tv t) : Fn Try.prog 29 [tv] w fun v w' => v = errV (checkN t) ∧ Ext w w' := by
  have ht0 := ht
  obtain ⟨cs, rfl, a, b, c, d, rfl, hvars, hinit, hgoal, hops⟩ := ht
  obtain ⟨Av, cv, rfl⟩ := hvars.form
  obtain ⟨Ai, ci, rfl⟩ := hinit.form
  obtain ⟨Ag, cg, rfl⟩ := hgoal.form
  obtain ⟨Ao, co, rfl⟩ := hops.form
  have hvl := hvars.len
  have hol := hops.len
  refine fn_enter Try.func29 rfl Try.ntmps29 rfl ?_
  repeat (first | refine ewp_seq ?_ | refine ewp_block ?_ | refine ewp_region ?_ | refine ewp_skip ?_ | refine ewp_exit ?_ | refine ewp_ret ?_ | refine ewp_true rfl ?_ | refine ewp_false rfl ?_)
  refine owp_box rfl rfl fun w1 hN => ?_
  have hb1 := hN.blk
  have hE1 : Ext w w1 := hN.ext
  (refine o_as rfl rfl ?_ <;> (first | refine owp_nilT ?_ | refine owp_nilB ?_ | refine owp_nilBB ?_ | refine owp_nil ?_))
  repeat (first | refine ewp_seq ?_ | refine ewp_block ?_ | refine ewp_region ?_ | refine ewp_skip ?_ | refine ewp_exit ?_ | refine ewp_ret ?_ | refine ewp_true rfl ?_ | refine ewp_false rfl ?_)
  (refine o_la rfl rfl ?_)
  refine owp_callB rfl rfl (taskLarge (ht0.ext hE1)) ?_ ?_
  case refine_1 =>
    intro w2 hP hE2
    ((first | refine owp_nilT ?_ | refine owp_nilB ?_ | refine owp_nilBB ?_ | refine owp_nil ?_))
    repeat (first | refine ewp_seq ?_ | refine ewp_block ?_ | refine ewp_region ?_ | refine ewp_skip ?_ | refine ewp_exit ?_ | refine ewp_ret ?_ | refine ewp_true rfl ?_ | refine ewp_false rfl ?_)
    ((repeat (first | refine ewp_seq ?_ | refine ewp_block ?_ | refine ewp_region ?_ | refine ewp_skip ?_ | refine ewp_exit ?_ | refine ewp_ret ?_ | refine ewp_true rfl ?_ | refine ewp_false rfl ?_)) <;> (refine o_mi rfl rfl ?_ <;> refine o_as rfl rfl ?_ <;> (first | refine owp_nilT ?_ | refine owp_nilB ?_ | refine owp_nilBB ?_ | refine owp_nil ?_)) <;> (repeat (first | refine ewp_seq ?_ | refine ewp_block ?_ | refine ewp_region ?_ | refine ewp_skip ?_ | refine ewp_exit ?_ | refine ewp_ret ?_ | refine ewp_true rfl ?_ | refine ewp_false rfl ?_)))
    refine ret1 rfl rfl ⟨?_, hE1.trans' hE2⟩
    rw [checkN, bof_t hP]; rfl
  intro w2 hlarge hE2
  replace hb1 := hb1.ext hE2
  replace hE2 : Ext w w2 := hE1.trans' hE2
  have hm : ∀ (i : Nat) o, t.ops[i]? = some o → o.effs.length ≤ 64 := fun i o ho => Nat.le_of_not_lt fun h => hlarge (.inr (.inr (.inl ⟨i, o, ho, h⟩)))
  have hn4 : t.ops.length ≤ 4096 := Nat.le_of_not_lt fun h => hlarge (.inr (.inl h))
  have c1 : checkN t = if bof (VarsOk t ∧ CostsOk t) = false then 1 else if bof (StateOk t.vars t.init ∧ CondsOk t ∧ EffsOk t) = false then 2 else if bof (NamesOk t) = false then 8 else 0 := by rw [checkN, bof_f hlarge]; rfl
  ((first | refine owp_nilT ?_ | refine owp_nilB ?_ | refine owp_nilBB ?_ | refine owp_nil ?_))
  repeat (first | refine ewp_seq ?_ | refine ewp_block ?_ | refine ewp_region ?_ | refine ewp_skip ?_ | refine ewp_exit ?_ | refine ewp_ret ?_ | refine ewp_true rfl ?_ | refine ewp_false rfl ?_)
  ((repeat (first | refine ewp_seq ?_ | refine ewp_block ?_ | refine ewp_region ?_ | refine ewp_skip ?_ | refine ewp_exit ?_ | refine ewp_ret ?_ | refine ewp_true rfl ?_ | refine ewp_false rfl ?_)) <;> (refine o_fa rfl rfl ?_ <;> refine o_ld rfl rfl ?_ <;> refine o_ln rfl rfl ?_ <;> refine o_mv rfl rfl ?_ <;> (first | refine owp_nilT ?_ | refine owp_nilB ?_ | refine owp_nilBB ?_ | refine owp_nil ?_)) <;> (repeat (first | refine ewp_seq ?_ | refine ewp_block ?_ | refine ewp_region ?_ | refine ewp_skip ?_ | refine ewp_exit ?_ | refine ewp_ret ?_ | refine ewp_true rfl ?_ | refine ewp_false rfl ?_)))
  refine ewp_range t.vars.length (by omega) (fun _ : Unit => [(1, .pointer (some ⟨w.heap.size, 0, none⟩)), (19, .slice Av t.vars.length cv)]) (fun k _ w' => w' = w2 ∧ ∀ i, i < k → ∀ n, t.vars[i]? = some n → 1 ≤ n ∧ n ≤ 64) ()
    ⟨rfl, fun i hi => by omega⟩ ⟨rfl, rfl, rfl, rfl, trivial⟩ (fun _ => ⟨rfl, rfl⟩) ⟨rfl, rfl, rfl⟩ ⟨rfl, rfl⟩ ?_ ?_
  · rintro k _ _ hk ⟨rfl, hh⟩
    obtain ⟨n, hn⟩ := some_of_lt hk
    obtain ⟨b2, o2, ce, rfl, _, _, hd1, rfl, _⟩ := (hvars.ext hE2).elem hn
    ((repeat (first | refine ewp_seq ?_ | refine ewp_block ?_ | refine ewp_region ?_ | refine ewp_skip ?_ | refine ewp_exit ?_ | refine ewp_ret ?_ | refine ewp_true rfl ?_ | refine ewp_false rfl ?_)) <;> (refine o_ia rfl rfl rfl ?_ <;> refine o_ld rfl rfl ?_ <;> refine o_as rfl rfl ?_ <;> (first | refine owp_nilT ?_ | refine owp_nilB ?_ | refine owp_nilBB ?_ | refine owp_nil ?_)) <;> (repeat (first | refine ewp_seq ?_ | refine ewp_block ?_ | refine ewp_region ?_ | refine ewp_skip ?_ | refine ewp_exit ?_ | refine ewp_ret ?_ | refine ewp_true rfl ?_ | refine ewp_false rfl ?_)) <;> (refine o_mv rfl rfl ?_ <;> (first | refine o_ltT rfl rfl rfl ?_ | refine o_ltF rfl rfl rfl ?_ | refine o_ltS rfl rfl rfl (fun _ => ?_) fun _ => ?_) <;> refine o_mv rfl rfl ?_ <;> (first | (refine owp_yes rfl rfl ?_; refine o_mv rfl rfl ?_) | refine owp_no rfl rfl rfl rfl ?_) <;> (first | (refine owp_yes rfl rfl ?_; (first | refine o_gtT rfl rfl rfl ?_ | refine o_gtF rfl rfl rfl ?_ | refine o_gtS rfl rfl rfl (fun _ => ?_) fun _ => ?_)) | refine owp_no rfl rfl rfl rfl ?_) <;> (first | refine o_pt rfl rfl rfl ?_ | refine o_pf rfl rfl rfl ?_) <;> (first | refine owp_nilT ?_ | refine owp_nilB ?_ | refine owp_nilBB ?_ | refine owp_nil ?_)) <;> (repeat (first | refine ewp_seq ?_ | refine ewp_block ?_ | refine ewp_region ?_ | refine ewp_skip ?_ | refine ewp_exit ?_ | refine ewp_ret ?_ | refine ewp_true rfl ?_ | refine ewp_false rfl ?_)))
    all_goals try (
      ((repeat (first | refine ewp_seq ?_ | refine ewp_block ?_ | refine ewp_region ?_ | refine ewp_skip ?_ | refine ewp_exit ?_ | refine ewp_ret ?_ | refine ewp_true rfl ?_ | refine ewp_false rfl ?_)) <;> (refine o_mi rfl rfl ?_ <;> refine o_as rfl rfl ?_ <;> (first | refine owp_nilT ?_ | refine owp_nilB ?_ | refine owp_nilBB ?_ | refine owp_nil ?_)) <;> (repeat (first | refine ewp_seq ?_ | refine ewp_block ?_ | refine ewp_region ?_ | refine ewp_skip ?_ | refine ewp_exit ?_ | refine ewp_ret ?_ | refine ewp_true rfl ?_ | refine ewp_false rfl ?_)))
      refine ret1 rfl rfl ⟨?_, hE2⟩
      rw [c1, bof_f (fun h => by have := h.1 k n hn; omega)]; rfl)
    exact ⟨(), ⟨rfl, rfl, rfl, rfl, trivial⟩, rfl, upto_step hh fun n' hn' => by rw [hn] at hn'; injection hn' with hn'; omega⟩
  rintro _ _ ⟨rfl, hdom⟩
  replace hdom : VarsOk t := fun i n hn => hdom i (lt_of_some hn) n hn
  repeat (first | refine ewp_seq ?_ | refine ewp_block ?_ | refine ewp_region ?_ | refine ewp_skip ?_ | refine ewp_exit ?_ | refine ewp_ret ?_ | refine ewp_true rfl ?_ | refine ewp_false rfl ?_)
  ((repeat (first | refine ewp_seq ?_ | refine ewp_block ?_ | refine ewp_region ?_ | refine ewp_skip ?_ | refine ewp_exit ?_ | refine ewp_ret ?_ | refine ewp_true rfl ?_ | refine ewp_false rfl ?_)) <;> (refine o_fa rfl rfl ?_ <;> refine o_ld rfl rfl ?_ <;> refine o_ln rfl rfl ?_ <;> refine o_mv rfl rfl ?_ <;> (first | refine owp_nilT ?_ | refine owp_nilB ?_ | refine owp_nilBB ?_ | refine owp_nil ?_)) <;> (repeat (first | refine ewp_seq ?_ | refine ewp_block ?_ | refine ewp_region ?_ | refine ewp_skip ?_ | refine ewp_exit ?_ | refine ewp_ret ?_ | refine ewp_true rfl ?_ | refine ewp_false rfl ?_)))
  refine ewp_range t.ops.length (by omega) (fun _ : Unit => [(1, .pointer (some ⟨w.heap.size, 0, none⟩)), (34, .slice Ao t.ops.length co)]) (fun k _ w' => Ext w w' ∧ Blk w' w.heap.size 26 [.slice Av t.vars.length cv, .slice Ai t.init.length ci, .slice Ag t.goal.length cg, .slice Ao t.ops.length co] ∧ ∀ i, i < k → ∀ o, t.ops[i]? = some o → 0 ≤ o.cost ∧ o.cost ≤ 1048576) ()
    ⟨hE2, hb1, fun i hi => by omega⟩ ⟨rfl, rfl, rfl, rfl, trivial⟩ (fun _ => ⟨rfl, rfl⟩) ⟨rfl, rfl, rfl⟩ ⟨rfl, rfl⟩ ?_ ?_
  · rintro k _ w4 hk ⟨hE4, hb1, hh⟩
    obtain ⟨o, ho⟩ := some_of_lt hk
    obtain ⟨b2, o2, ce, rfl, _, _, hd1, p, q, rfl, hp, hq, hc, hn⟩ := (hops.ext hE4).elem ho
    obtain ⟨Ap, cp, rfl⟩ := hp.form
    obtain ⟨Aq, cq, rfl⟩ := hq.form
    ((repeat (first | refine ewp_seq ?_ | refine ewp_block ?_ | refine ewp_region ?_ | refine ewp_skip ?_ | refine ewp_exit ?_ | refine ewp_ret ?_ | refine ewp_true rfl ?_ | refine ewp_false rfl ?_)) <;> (refine o_ia rfl rfl rfl ?_ <;> refine o_la rfl rfl ?_) <;> (repeat (first | refine ewp_seq ?_ | refine ewp_block ?_ | refine ewp_region ?_ | refine ewp_skip ?_ | refine ewp_exit ?_ | refine ewp_ret ?_ | refine ewp_true rfl ?_ | refine ewp_false rfl ?_)))
    refine owp_local rfl rfl rfl (by simp [Value.cells, Value.oneCell']) fun w5 hN5 => ?_
    replace hb1 := hb1.ext hN5.ext
    have hb2 := hN5.blk
    have hE5 : Ext w w5 := hE4.trans' hN5.ext
    ((first | refine owp_nilT ?_ | refine owp_nilB ?_ | refine owp_nilBB ?_ | refine owp_nil ?_))
    repeat (first | refine ewp_seq ?_ | refine ewp_block ?_ | refine ewp_region ?_ | refine ewp_skip ?_ | refine ewp_exit ?_ | refine ewp_ret ?_ | refine ewp_true rfl ?_ | refine ewp_false rfl ?_)
    ((repeat (first | refine ewp_seq ?_ | refine ewp_block ?_ | refine ewp_region ?_ | refine ewp_skip ?_ | refine ewp_exit ?_ | refine ewp_ret ?_ | refine ewp_true rfl ?_ | refine ewp_false rfl ?_)) <;> (refine o_fa rfl rfl ?_ <;> refine o_ld rfl rfl ?_ <;> (first | refine o_ltT rfl rfl rfl ?_ | refine o_ltF rfl rfl rfl ?_ | refine o_ltS rfl rfl rfl (fun _ => ?_) fun _ => ?_) <;> refine o_mv rfl rfl ?_ <;> (first | (refine owp_yes rfl rfl ?_; refine o_fa rfl rfl ?_) | refine owp_no rfl rfl rfl rfl ?_) <;> (first | (refine owp_yes rfl rfl ?_; refine o_ld rfl rfl ?_) | refine owp_no rfl rfl rfl rfl ?_) <;> (first | (refine owp_yes rfl rfl ?_; (first | refine o_gtT rfl rfl rfl ?_ | refine o_gtF rfl rfl rfl ?_ | refine o_gtS rfl rfl rfl (fun _ => ?_) fun _ => ?_)) | refine owp_no rfl rfl rfl rfl ?_) <;> (first | refine o_pt rfl rfl rfl ?_ | refine o_pf rfl rfl rfl ?_) <;> (first | refine owp_nilT ?_ | refine owp_nilB ?_ | refine owp_nilBB ?_ | refine owp_nil ?_)) <;> (repeat (first | refine ewp_seq ?_ | refine ewp_block ?_ | refine ewp_region ?_ | refine ewp_skip ?_ | refine ewp_exit ?_ | refine ewp_ret ?_ | refine ewp_true rfl ?_ | refine ewp_false rfl ?_)))
    all_goals try (
      ((repeat (first | refine ewp_seq ?_ | refine ewp_block ?_ | refine ewp_region ?_ | refine ewp_skip ?_ | refine ewp_exit ?_ | refine ewp_ret ?_ | refine ewp_true rfl ?_ | refine ewp_false rfl ?_)) <;> (refine o_mi rfl rfl ?_ <;> refine o_as rfl rfl ?_ <;> (first | refine owp_nilT ?_ | refine owp_nilB ?_ | refine owp_nilBB ?_ | refine owp_nil ?_)) <;> (repeat (first | refine ewp_seq ?_ | refine ewp_block ?_ | refine ewp_region ?_ | refine ewp_skip ?_ | refine ewp_exit ?_ | refine ewp_ret ?_ | refine ewp_true rfl ?_ | refine ewp_false rfl ?_)))
      refine ret1 rfl rfl ⟨?_, hE5⟩
      rw [c1, bof_f (fun h => by have := h.2 k o ho; omega)]; rfl)
    exact ⟨(), ⟨rfl, rfl, rfl, rfl, trivial⟩, hE5, hb1, upto_step hh fun o' ho' => by rw [ho] at ho'; injection ho' with ho'; subst ho'; omega⟩
  rintro _ w3 ⟨hE3, hb1, hcost⟩
  replace hcost : CostsOk t := fun i o ho => hcost i (lt_of_some ho) o ho
  have c2 : checkN t = if bof (StateOk t.vars t.init ∧ CondsOk t ∧ EffsOk t) = false then 2 else if bof (NamesOk t) = false then 8 else 0 := by rw [c1, bof_t ⟨hdom, hcost⟩]; rfl
  repeat (first | refine ewp_seq ?_ | refine ewp_block ?_ | refine ewp_region ?_ | refine ewp_skip ?_ | refine ewp_exit ?_ | refine ewp_ret ?_ | refine ewp_true rfl ?_ | refine ewp_false rfl ?_)
  (refine o_fa rfl rfl ?_ <;> refine o_ld rfl rfl ?_ <;> refine o_fa rfl rfl ?_ <;> refine o_ld rfl rfl ?_)
  refine owp_callB rfl rfl (taskProper (hvars.ext hE3) (hinit.ext hE3)) ?_ ?_
  case refine_2 =>
    intro w4 hP hE4
    ((first | refine o_nt rfl rfl ?_ | refine o_nf rfl rfl ?_ | refine o_nn rfl rfl ?_) <;> (first | refine owp_nilT ?_ | refine owp_nilB ?_ | refine owp_nilBB ?_ | refine owp_nil ?_))
    repeat (first | refine ewp_seq ?_ | refine ewp_block ?_ | refine ewp_region ?_ | refine ewp_skip ?_ | refine ewp_exit ?_ | refine ewp_ret ?_ | refine ewp_true rfl ?_ | refine ewp_false rfl ?_)
    ((repeat (first | refine ewp_seq ?_ | refine ewp_block ?_ | refine ewp_region ?_ | refine ewp_skip ?_ | refine ewp_exit ?_ | refine ewp_ret ?_ | refine ewp_true rfl ?_ | refine ewp_false rfl ?_)) <;> (refine o_mi rfl rfl ?_ <;> refine o_as rfl rfl ?_ <;> (first | refine owp_nilT ?_ | refine owp_nilB ?_ | refine owp_nilBB ?_ | refine owp_nil ?_)) <;> (repeat (first | refine ewp_seq ?_ | refine ewp_block ?_ | refine ewp_region ?_ | refine ewp_skip ?_ | refine ewp_exit ?_ | refine ewp_ret ?_ | refine ewp_true rfl ?_ | refine ewp_false rfl ?_)))
    refine ret1 rfl rfl ⟨?_, hE3.trans' hE4⟩
    rw [c2, bof_f (fun h => hP h.1)]; rfl
  intro w4 hst hE4
  replace hb1 := hb1.ext hE4
  replace hE4 : Ext w w4 := hE3.trans' hE4
  ((first | refine o_nt rfl rfl ?_ | refine o_nf rfl rfl ?_ | refine o_nn rfl rfl ?_) <;> (first | refine owp_nilT ?_ | refine owp_nilB ?_ | refine owp_nilBB ?_ | refine owp_nil ?_))
  repeat (first | refine ewp_seq ?_ | refine ewp_block ?_ | refine ewp_region ?_ | refine ewp_skip ?_ | refine ewp_exit ?_ | refine ewp_ret ?_ | refine ewp_true rfl ?_ | refine ewp_false rfl ?_)
  (refine o_la rfl rfl ?_)
  refine owp_call rfl rfl (taskConditions (ht0.ext hE4) hn4 hm) ?_
  rintro v5 w5 ⟨hv5, hE5⟩
  obtain ⟨Ac, cc, rfl⟩ := hv5.form
  have hcl := hv5.len
  replace hb1 := hb1.ext hE5
  replace hE5 : Ext w w5 := hE4.trans' hE5
  (refine o_ln rfl rfl ?_ <;> refine o_mv rfl rfl ?_ <;> (first | refine owp_nilT ?_ | refine owp_nilB ?_ | refine owp_nilBB ?_ | refine owp_nil ?_))
  repeat (first | refine ewp_seq ?_ | refine ewp_block ?_ | refine ewp_region ?_ | refine ewp_skip ?_ | refine ewp_exit ?_ | refine ewp_ret ?_ | refine ewp_true rfl ?_ | refine ewp_false rfl ?_)
  refine ewp_range (conds t).length (by omega) (fun _ : Unit => [(1, .pointer (some ⟨w.heap.size, 0, none⟩)), (58, .slice Ac (conds t).length cc)]) (fun k _ w' => Ext w5 w' ∧ ∀ i, i < k → ∀ f, (conds t)[i]? = some f → FactsOk t.vars f) ()
    ⟨Below.refl _ _, fun i hi => by omega⟩ ⟨rfl, rfl, rfl, rfl, trivial⟩ (fun _ => ⟨rfl, rfl⟩) ⟨rfl, rfl, rfl⟩ ⟨rfl, rfl⟩ ?_ ?_
  · rintro k _ w6 hk ⟨hE6, hh⟩
    obtain ⟨f, hf⟩ := some_of_lt hk
    have hb1 := hb1.ext hE6
    obtain ⟨b2, o2, ce, rfl, _, _, hd1, v, rfl, hR⟩ := (hv5.ext hE6).elem hf
    ((repeat (first | refine ewp_seq ?_ | refine ewp_block ?_ | refine ewp_region ?_ | refine ewp_skip ?_ | refine ewp_exit ?_ | refine ewp_ret ?_ | refine ewp_true rfl ?_ | refine ewp_false rfl ?_)) <;> (refine o_ia rfl rfl rfl ?_ <;> refine o_ld rfl rfl ?_ <;> refine o_as rfl rfl ?_ <;> (first | refine owp_nilT ?_ | refine owp_nilB ?_ | refine owp_nilBB ?_ | refine owp_nil ?_)) <;> (repeat (first | refine ewp_seq ?_ | refine ewp_block ?_ | refine ewp_region ?_ | refine ewp_skip ?_ | refine ewp_exit ?_ | refine ewp_ret ?_ | refine ewp_true rfl ?_ | refine ewp_false rfl ?_)) <;> (refine o_fa rfl rfl ?_ <;> refine o_ld rfl rfl ?_ <;> refine o_mv rfl rfl ?_) <;> (repeat (first | refine ewp_seq ?_ | refine ewp_block ?_ | refine ewp_region ?_ | refine ewp_skip ?_ | refine ewp_exit ?_ | refine ewp_ret ?_ | refine ewp_true rfl ?_ | refine ewp_false rfl ?_)))
    refine owp_callB rfl rfl (taskFacts (hvars.ext (hE5.trans' hE6)) (Vb.of_slice hR)) ?_ ?_
    · intro w7 hP hE7
      ((first | refine o_nt rfl rfl ?_ | refine o_nf rfl rfl ?_ | refine o_nn rfl rfl ?_) <;> (first | refine owp_nilT ?_ | refine owp_nilB ?_ | refine owp_nilBB ?_ | refine owp_nil ?_))
      repeat (first | refine ewp_seq ?_ | refine ewp_block ?_ | refine ewp_region ?_ | refine ewp_skip ?_ | refine ewp_exit ?_ | refine ewp_ret ?_ | refine ewp_true rfl ?_ | refine ewp_false rfl ?_)
      exact ⟨(), ⟨rfl, rfl, rfl, rfl, trivial⟩, hE6.trans' hE7, upto_step hh fun f' hf' => by rw [hf] at hf'; injection hf' with hf'; exact hf' ▸ hP⟩
    · intro w7 hP hE7
      ((first | refine o_nt rfl rfl ?_ | refine o_nf rfl rfl ?_ | refine o_nn rfl rfl ?_) <;> (first | refine owp_nilT ?_ | refine owp_nilB ?_ | refine owp_nilBB ?_ | refine owp_nil ?_))
      repeat (first | refine ewp_seq ?_ | refine ewp_block ?_ | refine ewp_region ?_ | refine ewp_skip ?_ | refine ewp_exit ?_ | refine ewp_ret ?_ | refine ewp_true rfl ?_ | refine ewp_false rfl ?_)
      ((repeat (first | refine ewp_seq ?_ | refine ewp_block ?_ | refine ewp_region ?_ | refine ewp_skip ?_ | refine ewp_exit ?_ | refine ewp_ret ?_ | refine ewp_true rfl ?_ | refine ewp_false rfl ?_)) <;> (refine o_mi rfl rfl ?_ <;> refine o_as rfl rfl ?_ <;> (first | refine owp_nilT ?_ | refine owp_nilB ?_ | refine owp_nilBB ?_ | refine owp_nil ?_)) <;> (repeat (first | refine ewp_seq ?_ | refine ewp_block ?_ | refine ewp_region ?_ | refine ewp_skip ?_ | refine ewp_exit ?_ | refine ewp_ret ?_ | refine ewp_true rfl ?_ | refine ewp_false rfl ?_)))
      refine ret1 rfl rfl ⟨?_, hE5.trans' (hE6.trans' hE7)⟩
      rw [c2, bof_f (fun h => hP (h.2.1 k f hf))]; rfl
  rintro _ w6 ⟨hE6, hcond⟩
  replace hcond : CondsOk t := fun i f hf => hcond i (lt_of_some hf) f hf
  replace hb1 := hb1.ext hE6
  replace hE6 : Ext w w6 := hE5.trans' hE6
  repeat (first | refine ewp_seq ?_ | refine ewp_block ?_ | refine ewp_region ?_ | refine ewp_skip ?_ | refine ewp_exit ?_ | refine ewp_ret ?_ | refine ewp_true rfl ?_ | refine ewp_false rfl ?_)
  ((repeat (first | refine ewp_seq ?_ | refine ewp_block ?_ | refine ewp_region ?_ | refine ewp_skip ?_ | refine ewp_exit ?_ | refine ewp_ret ?_ | refine ewp_true rfl ?_ | refine ewp_false rfl ?_)) <;> (refine o_fa rfl rfl ?_ <;> refine o_ld rfl rfl ?_ <;> refine o_ln rfl rfl ?_ <;> refine o_mv rfl rfl ?_ <;> (first | refine owp_nilT ?_ | refine owp_nilB ?_ | refine owp_nilBB ?_ | refine owp_nil ?_)) <;> (repeat (first | refine ewp_seq ?_ | refine ewp_block ?_ | refine ewp_region ?_ | refine ewp_skip ?_ | refine ewp_exit ?_ | refine ewp_ret ?_ | refine ewp_true rfl ?_ | refine ewp_false rfl ?_)))
  refine ewp_range t.ops.length (by omega) (fun _ : Unit => [(1, .pointer (some ⟨w.heap.size, 0, none⟩)), (72, .slice Ao t.ops.length co)]) (fun k _ w' => Ext w6 w' ∧ ∀ i, i < k → ∀ o, t.ops[i]? = some o → ∀ (j : Nat) e, o.effs[j]? = some e → FactOk t.vars ⟨e.var, e.val⟩) ()
    ⟨Below.refl _ _, fun i hi => by omega⟩ ⟨rfl, rfl, rfl, rfl, trivial⟩ (fun _ => ⟨rfl, rfl⟩) ⟨rfl, rfl, rfl⟩ ⟨rfl, rfl⟩ ?_ ?_
  · rintro k _ w7 hk ⟨hE7, hh⟩
    obtain ⟨o, ho⟩ := some_of_lt hk
    have hb1 := hb1.ext hE7
    obtain ⟨b2, o2, ce, rfl, _, _, hd1, p, q, rfl, hp, hq, hc, hn⟩ := (hops.ext (hE6.trans' hE7)).elem ho
    obtain ⟨Ap, cp, rfl⟩ := hp.form
    obtain ⟨Aq, cq, rfl⟩ := hq.form
    have hql := hq.len
    ((repeat (first | refine ewp_seq ?_ | refine ewp_block ?_ | refine ewp_region ?_ | refine ewp_skip ?_ | refine ewp_exit ?_ | refine ewp_ret ?_ | refine ewp_true rfl ?_ | refine ewp_false rfl ?_)) <;> (refine o_ia rfl rfl rfl ?_ <;> refine o_la rfl rfl ?_) <;> (repeat (first | refine ewp_seq ?_ | refine ewp_block ?_ | refine ewp_region ?_ | refine ewp_skip ?_ | refine ewp_exit ?_ | refine ewp_ret ?_ | refine ewp_true rfl ?_ | refine ewp_false rfl ?_)))
    refine owp_local rfl rfl rfl (by simp [Value.cells, Value.oneCell']) fun w8 hN8 => ?_
    replace hb1 := hb1.ext hN8.ext
    have hb2 := hN8.blk
    have hE8 : Ext w6 w8 := hE7.trans' hN8.ext
    replace hq := hq.ext hN8.ext
    ((first | refine owp_nilT ?_ | refine owp_nilB ?_ | refine owp_nilBB ?_ | refine owp_nil ?_))
    repeat (first | refine ewp_seq ?_ | refine ewp_block ?_ | refine ewp_region ?_ | refine ewp_skip ?_ | refine ewp_exit ?_ | refine ewp_ret ?_ | refine ewp_true rfl ?_ | refine ewp_false rfl ?_)
    ((repeat (first | refine ewp_seq ?_ | refine ewp_block ?_ | refine ewp_region ?_ | refine ewp_skip ?_ | refine ewp_exit ?_ | refine ewp_ret ?_ | refine ewp_true rfl ?_ | refine ewp_false rfl ?_)) <;> (refine o_fa rfl rfl ?_ <;> refine o_ld rfl rfl ?_ <;> refine o_ln rfl rfl ?_ <;> refine o_mv rfl rfl ?_ <;> (first | refine owp_nilT ?_ | refine owp_nilB ?_ | refine owp_nilBB ?_ | refine owp_nil ?_)) <;> (repeat (first | refine ewp_seq ?_ | refine ewp_block ?_ | refine ewp_region ?_ | refine ewp_skip ?_ | refine ewp_exit ?_ | refine ewp_ret ?_ | refine ewp_true rfl ?_ | refine ewp_false rfl ?_)))
    refine ewp_range o.effs.length (by omega) (fun _ : Unit => [(1, .pointer (some ⟨w.heap.size, 0, none⟩)), (72, .slice (some ⟨b2, o2, none⟩) t.ops.length co), (73, .int .i64 (t.ops.length : Int)), (74, .int .i64 (k : Int)), (79, .slice Aq o.effs.length cq)]) (fun j _ w' => Ext w8 w' ∧ ∀ i, i < j → ∀ e, o.effs[i]? = some e → FactOk t.vars ⟨e.var, e.val⟩) ()
      ⟨Below.refl _ _, fun i hi => by omega⟩ ⟨rfl, rfl, rfl, rfl, rfl, rfl, rfl, trivial⟩ (fun _ => ⟨rfl, rfl⟩) ⟨rfl, rfl, rfl⟩ ⟨rfl, rfl⟩ ?_ ?_
    · rintro j _ w9 hj ⟨hE9, hh9⟩
      obtain ⟨e, he⟩ := some_of_lt hj
      have hb1 := hb1.ext hE9
      obtain ⟨b3, o3, ce, rfl, _, _, hd1, cv', rfl, hcn, hr1, hr2⟩ := (hq.ext hE9).elem he
      obtain ⟨Acn, ccn, rfl⟩ := hcn.form
      ((repeat (first | refine ewp_seq ?_ | refine ewp_block ?_ | refine ewp_region ?_ | refine ewp_skip ?_ | refine ewp_exit ?_ | refine ewp_ret ?_ | refine ewp_true rfl ?_ | refine ewp_false rfl ?_)) <;> (refine o_ia rfl rfl rfl ?_ <;> refine o_la rfl rfl ?_) <;> (repeat (first | refine ewp_seq ?_ | refine ewp_block ?_ | refine ewp_region ?_ | refine ewp_skip ?_ | refine ewp_exit ?_ | refine ewp_ret ?_ | refine ewp_true rfl ?_ | refine ewp_false rfl ?_)))
      refine owp_local rfl rfl rfl (by simp [Value.cells, Value.oneCell']) fun w10 hN10 => ?_
      have hb3 := hN10.blk
      replace hb1 := hb1.ext hN10.ext
      have hE10 : Ext w w10 := hE6.trans' (hE8.trans' (hE9.trans' hN10.ext))
      ((first | refine owp_nilT ?_ | refine owp_nilB ?_ | refine owp_nilBB ?_ | refine owp_nil ?_))
      repeat (first | refine ewp_seq ?_ | refine ewp_block ?_ | refine ewp_region ?_ | refine ewp_skip ?_ | refine ewp_exit ?_ | refine ewp_ret ?_ | refine ewp_true rfl ?_ | refine ewp_false rfl ?_)
      (refine o_fa rfl rfl ?_ <;> refine o_ld rfl rfl ?_ <;> refine o_fa rfl rfl ?_ <;> refine o_ld rfl rfl ?_ <;> refine o_fa rfl rfl ?_ <;> refine o_ld rfl rfl ?_ <;> refine o_bd rfl rfl rfl ?_)
      refine owp_slice rfl rfl rfl (by simp [Value.cells]; rfl) (by decide) rfl fun w11 hN11 => ?_
      have hE11 : Ext w w11 := hE10.trans' hN11.ext
      have hone : V w11 (.slice (some ⟨w10.heap.size, 0, none⟩) 1 1) [(⟨e.var, e.val⟩ : Fct)] := Vb.made hN11 (.single ⟨rfl, hr1, hr2⟩) rfl hN11.blk.lt (by decide)
      refine owp_callB rfl rfl (taskFacts (hvars.ext hE11) hone) ?_ ?_
      · intro w12 hP hE12
        ((first | refine o_nt rfl rfl ?_ | refine o_nf rfl rfl ?_ | refine o_nn rfl rfl ?_) <;> (first | refine owp_nilT ?_ | refine owp_nilB ?_ | refine owp_nilBB ?_ | refine owp_nil ?_))
        repeat (first | refine ewp_seq ?_ | refine ewp_block ?_ | refine ewp_region ?_ | refine ewp_skip ?_ | refine ewp_exit ?_ | refine ewp_ret ?_ | refine ewp_true rfl ?_ | refine ewp_false rfl ?_)
        exact ⟨(), ⟨rfl, rfl, rfl, rfl, rfl, rfl, rfl, trivial⟩, hE9.trans' (hN10.ext.trans' (hN11.ext.trans' hE12)), upto_step hh9 fun e' he' => by rw [he] at he'; injection he' with he'; subst he'; exact factsOk_one.1 hP⟩
      · intro w12 hP hE12
        ((first | refine o_nt rfl rfl ?_ | refine o_nf rfl rfl ?_ | refine o_nn rfl rfl ?_) <;> (first | refine owp_nilT ?_ | refine owp_nilB ?_ | refine owp_nilBB ?_ | refine owp_nil ?_))
        repeat (first | refine ewp_seq ?_ | refine ewp_block ?_ | refine ewp_region ?_ | refine ewp_skip ?_ | refine ewp_exit ?_ | refine ewp_ret ?_ | refine ewp_true rfl ?_ | refine ewp_false rfl ?_)
        ((repeat (first | refine ewp_seq ?_ | refine ewp_block ?_ | refine ewp_region ?_ | refine ewp_skip ?_ | refine ewp_exit ?_ | refine ewp_ret ?_ | refine ewp_true rfl ?_ | refine ewp_false rfl ?_)) <;> (refine o_mi rfl rfl ?_ <;> refine o_as rfl rfl ?_ <;> (first | refine owp_nilT ?_ | refine owp_nilB ?_ | refine owp_nilBB ?_ | refine owp_nil ?_)) <;> (repeat (first | refine ewp_seq ?_ | refine ewp_block ?_ | refine ewp_region ?_ | refine ewp_skip ?_ | refine ewp_exit ?_ | refine ewp_ret ?_ | refine ewp_true rfl ?_ | refine ewp_false rfl ?_)))
        refine ret1 rfl rfl ⟨?_, hE11.trans' hE12⟩
        rw [c2, bof_f (fun h => hP (factsOk_one.2 (h.2.2 k o ho j e he)))]; rfl
    rintro _ w9 ⟨hE9, hh9⟩
    repeat (first | refine ewp_seq ?_ | refine ewp_block ?_ | refine ewp_region ?_ | refine ewp_skip ?_ | refine ewp_exit ?_ | refine ewp_ret ?_ | refine ewp_true rfl ?_ | refine ewp_false rfl ?_)
    exact ⟨(), ⟨rfl, rfl, rfl, rfl, trivial⟩, hE8.trans' hE9, upto_step hh fun o' ho' j e he => by rw [ho] at ho'; injection ho' with ho'; subst ho'; exact hh9 j (lt_of_some he) e he⟩
  rintro _ w7 ⟨hE7, heff⟩
  replace heff : EffsOk t := fun i o ho => heff i (lt_of_some ho) o ho
  have c3 : checkN t = if bof (NamesOk t) = false then 8 else 0 := by rw [c2, bof_t ⟨hst, hcond, heff⟩]; rfl
  replace hb1 := hb1.ext hE7
  replace hE7 : Ext w w7 := hE6.trans' hE7
  repeat (first | refine ewp_seq ?_ | refine ewp_block ?_ | refine ewp_region ?_ | refine ewp_skip ?_ | refine ewp_exit ?_ | refine ewp_ret ?_ | refine ewp_true rfl ?_ | refine ewp_false rfl ?_)
  ((repeat (first | refine ewp_seq ?_ | refine ewp_block ?_ | refine ewp_region ?_ | refine ewp_skip ?_ | refine ewp_exit ?_ | refine ewp_ret ?_ | refine ewp_true rfl ?_ | refine ewp_false rfl ?_)) <;> (refine o_fa rfl rfl ?_ <;> refine o_ld rfl rfl ?_ <;> refine o_ln rfl rfl ?_ <;> refine o_mv rfl rfl ?_ <;> (first | refine owp_nilT ?_ | refine owp_nilB ?_ | refine owp_nilBB ?_ | refine owp_nil ?_)) <;> (repeat (first | refine ewp_seq ?_ | refine ewp_block ?_ | refine ewp_region ?_ | refine ewp_skip ?_ | refine ewp_exit ?_ | refine ewp_ret ?_ | refine ewp_true rfl ?_ | refine ewp_false rfl ?_)))
  refine ewp_range t.ops.length (by omega) (fun _ : Unit => [(1, .pointer (some ⟨w.heap.size, 0, none⟩)), (99, .slice Ao t.ops.length co)]) (fun k _ w' => Ext w w' ∧ ∀ i, i < k → ∀ o, t.ops[i]? = some o → NameOk o.name) ()
    ⟨hE7, fun i hi => by omega⟩ ⟨rfl, rfl, rfl, rfl, trivial⟩ (fun _ => ⟨rfl, rfl⟩) ⟨rfl, rfl, rfl⟩ ⟨rfl, rfl⟩ ?_ ?_
  · rintro k _ w8 hk ⟨hE8, hh⟩
    obtain ⟨o, ho⟩ := some_of_lt hk
    obtain ⟨b2, o2, ce, rfl, _, _, hd1, p, q, rfl, hp, hq, hc, hn⟩ := (hops.ext hE8).elem ho
    obtain ⟨Ap, cp, rfl⟩ := hp.form
    obtain ⟨Aq, cq, rfl⟩ := hq.form
    ((repeat (first | refine ewp_seq ?_ | refine ewp_block ?_ | refine ewp_region ?_ | refine ewp_skip ?_ | refine ewp_exit ?_ | refine ewp_ret ?_ | refine ewp_true rfl ?_ | refine ewp_false rfl ?_)) <;> (refine o_ia rfl rfl rfl ?_ <;> refine o_la rfl rfl ?_) <;> (repeat (first | refine ewp_seq ?_ | refine ewp_block ?_ | refine ewp_region ?_ | refine ewp_skip ?_ | refine ewp_exit ?_ | refine ewp_ret ?_ | refine ewp_true rfl ?_ | refine ewp_false rfl ?_)))
    refine owp_local rfl rfl rfl (by simp [Value.cells, Value.oneCell']) fun w9 hN9 => ?_
    have hb2 := hN9.blk
    have hE9 : Ext w w9 := hE8.trans' hN9.ext
    ((first | refine owp_nilT ?_ | refine owp_nilB ?_ | refine owp_nilBB ?_ | refine owp_nil ?_))
    repeat (first | refine ewp_seq ?_ | refine ewp_block ?_ | refine ewp_region ?_ | refine ewp_skip ?_ | refine ewp_exit ?_ | refine ewp_ret ?_ | refine ewp_true rfl ?_ | refine ewp_false rfl ?_)
    (refine o_fa rfl rfl ?_ <;> refine o_ld rfl rfl ?_)
    refine owp_callB rfl rfl (taskNamed hn) ?_ ?_
    · intro w10 hP hE10
      ((first | refine o_nt rfl rfl ?_ | refine o_nf rfl rfl ?_ | refine o_nn rfl rfl ?_) <;> (first | refine owp_nilT ?_ | refine owp_nilB ?_ | refine owp_nilBB ?_ | refine owp_nil ?_))
      repeat (first | refine ewp_seq ?_ | refine ewp_block ?_ | refine ewp_region ?_ | refine ewp_skip ?_ | refine ewp_exit ?_ | refine ewp_ret ?_ | refine ewp_true rfl ?_ | refine ewp_false rfl ?_)
      exact ⟨(), ⟨rfl, rfl, rfl, rfl, trivial⟩, hE9.trans' hE10, upto_step hh fun o' ho' => by rw [ho] at ho'; injection ho' with ho'; exact ho' ▸ hP⟩
    · intro w10 hP hE10
      ((first | refine o_nt rfl rfl ?_ | refine o_nf rfl rfl ?_ | refine o_nn rfl rfl ?_) <;> (first | refine owp_nilT ?_ | refine owp_nilB ?_ | refine owp_nilBB ?_ | refine owp_nil ?_))
      repeat (first | refine ewp_seq ?_ | refine ewp_block ?_ | refine ewp_region ?_ | refine ewp_skip ?_ | refine ewp_exit ?_ | refine ewp_ret ?_ | refine ewp_true rfl ?_ | refine ewp_false rfl ?_)
      ((repeat (first | refine ewp_seq ?_ | refine ewp_block ?_ | refine ewp_region ?_ | refine ewp_skip ?_ | refine ewp_exit ?_ | refine ewp_ret ?_ | refine ewp_true rfl ?_ | refine ewp_false rfl ?_)) <;> (refine o_mi rfl rfl ?_ <;> refine o_as rfl rfl ?_ <;> (first | refine owp_nilT ?_ | refine owp_nilB ?_ | refine owp_nilBB ?_ | refine owp_nil ?_)) <;> (repeat (first | refine ewp_seq ?_ | refine ewp_block ?_ | refine ewp_region ?_ | refine ewp_skip ?_ | refine ewp_exit ?_ | refine ewp_ret ?_ | refine ewp_true rfl ?_ | refine ewp_false rfl ?_)))
      refine ret1 rfl rfl ⟨?_, hE9.trans' hE10⟩
      rw [c3, bof_f (fun h => hP (h k o ho))]; rfl
  rintro _ w8 ⟨hE8, hnames⟩
  repeat (first | refine ewp_seq ?_ | refine ewp_block ?_ | refine ewp_region ?_ | refine ewp_skip ?_ | refine ewp_exit ?_ | refine ewp_ret ?_ | refine ewp_true rfl ?_ | refine ewp_false rfl ?_)
  ((repeat (first | refine ewp_seq ?_ | refine ewp_block ?_ | refine ewp_region ?_ | refine ewp_skip ?_ | refine ewp_exit ?_ | refine ewp_ret ?_ | refine ewp_true rfl ?_ | refine ewp_false rfl ?_)) <;> (refine o_as rfl rfl ?_ <;> (first | refine owp_nilT ?_ | refine owp_nilB ?_ | refine owp_nilBB ?_ | refine owp_nil ?_)) <;> (repeat (first | refine ewp_seq ?_ | refine ewp_block ?_ | refine ewp_region ?_ | refine ewp_skip ?_ | refine ewp_exit ?_ | refine ewp_ret ?_ | refine ewp_true rfl ?_ | refine ewp_false rfl ?_)))
  refine ret1 rfl rfl ⟨?_, hE8⟩
  rw [c3, bof_t (show NamesOk t from fun i o ho => hnames i (lt_of_some ho) o ho)]; rfl
end
section
theorem bof_iff {p : Prop} : bof p = true ↔ p := ⟨fun h => Classical.byContradiction fun hn => (by rw [bof_f hn] at h; exact Bool.noConfusion h), bof_t⟩
theorem bof_false {p : Prop} : bof p = false ↔ ¬ p := by
  rw [← Bool.not_eq_true, bof_iff]
theorem factsOk_lt {vars : List Int} {f : List Fct} (h : FactsOk vars f) : ∀ (j i : Nat) (x y : Fct), i < j → f[i]? = some x → f[j]? = some y → x.var < y.var
  | 0, i, _, _, hij, _, _ => by omega
  | j + 1, i, x, y, hij, hx, hy => by
    by_cases he : i = j
    · subst he; exact h.2 i x y hx hy
    · obtain ⟨z, hz⟩ := some_of_lt (l := f) (k := j) (by have := lt_of_some hy; omega)
      have h1 := factsOk_lt h j i x z (by omega) hx hz
      have h2 := h.2 j z y hz hy
      omega
theorem factsOk_ge {vars : List Int} {f : List Fct} (h : FactsOk vars f) : ∀ (i : Nat) (x : Fct), f[i]? = some x → (i : Int) ≤ x.var
  | 0, x, hx => (h.1 0 x hx).1
  | i + 1, x, hx => by
    obtain ⟨z, hz⟩ := some_of_lt (l := f) (k := i) (by have := lt_of_some hx; omega)
    have h1 := factsOk_ge h i z hz
    have h2 := h.2 i z x hz hx
    omega
theorem factsOk_len {vars : List Int} {f : List Fct} (h : FactsOk vars f) : f.length ≤ vars.length := by
  rcases Nat.eq_zero_or_pos f.length with h0 | h0
  · omega
  · obtain ⟨x, hx⟩ := some_of_lt (l := f) (k := f.length - 1) (by omega)
    have h1 := factsOk_ge h _ x hx
    obtain ⟨h2, h3, y, hy, _⟩ := h.1 _ x hx
    have := lt_of_some hy
    omega
theorem conds_mem {t : Tsk} {f : List Fct} : f ∈ conds t ↔ f = t.goal ∨ ∃ (i : Nat) (o : Opr), t.ops[i]? = some o ∧ (f = o.pre ∨ ∃ (j : Nat) (e : Eff), o.effs[j]? = some e ∧ f = e.cond) := by
  unfold conds opConds
  rw [List.mem_cons, List.mem_flatMap]
  constructor
  · rintro (h | ⟨o, ho, hf⟩)
    · exact .inl h
    · obtain ⟨i, hi⟩ := List.getElem?_of_mem ho
      refine .inr ⟨i, o, hi, ?_⟩
      rcases List.mem_cons.1 hf with h | h
      · exact .inl h
      · obtain ⟨e, he, rfl⟩ := List.mem_map.1 h
        obtain ⟨j, hj⟩ := List.getElem?_of_mem he
        exact .inr ⟨j, e, hj, rfl⟩
  · rintro (h | ⟨i, o, ho, h⟩)
    · exact .inl h
    · refine .inr ⟨o, List.mem_of_getElem? ho, ?_⟩
      rcases h with rfl | ⟨j, e, he, rfl⟩
      · exact List.mem_cons_self
      · exact List.mem_cons_of_mem _ (List.mem_map.2 ⟨e, List.mem_of_getElem? he, rfl⟩)
theorem check_ok {t : Tsk} : checkN t = 0 ↔ TaskOk t := by
  unfold checkN
  constructor
  · intro h
    by_cases h1 : Large t
    · rw [if_pos (bof_iff.2 h1)] at h; cases h
    rw [if_neg (fun hh => h1 (bof_iff.1 hh))] at h
    by_cases h2 : VarsOk t ∧ CostsOk t
    case neg => rw [if_pos (bof_false.2 h2)] at h; cases h
    rw [if_neg (fun hh => bof_false.1 hh h2)] at h
    by_cases h3 : StateOk t.vars t.init ∧ CondsOk t ∧ EffsOk t
    case neg => rw [if_pos (bof_false.2 h3)] at h; cases h
    rw [if_neg (fun hh => bof_false.1 hh h3)] at h
    by_cases h4 : NamesOk t
    case neg => rw [if_pos (bof_false.2 h4)] at h; cases h
    have hc : ∀ f ∈ conds t, FactsOk t.vars f := fun f hf => by
      obtain ⟨i, hi⟩ := List.getElem?_of_mem hf
      exact h3.2.1 i f hi
    have hl : t.vars.length ≤ 64 ∧ t.ops.length ≤ 4096 ∧ (∀ (i : Nat) (o : Opr), t.ops[i]? = some o → o.effs.length ≤ 64) := by
      unfold Large at h1
      refine ⟨Nat.le_of_not_lt fun h => h1 (.inl h), Nat.le_of_not_lt fun h => h1 (.inr (.inl h)), fun i o ho => Nat.le_of_not_lt fun h => h1 (.inr (.inr (.inl ⟨i, o, ho, h⟩)))⟩
    exact ⟨hl.1, hl.2.1, h2.1, h3.1, hc _ (conds_mem.2 (.inl rfl)), fun i o ho => ⟨(h2.2 i o ho).1, (h2.2 i o ho).2, hl.2.2 i o ho, h4 i o ho, hc _ (conds_mem.2 (.inr ⟨i, o, ho, .inl rfl⟩)), fun j e he => ⟨hc _ (conds_mem.2 (.inr ⟨i, o, ho, .inr ⟨j, e, he, rfl⟩⟩)), h3.2.2 i o ho j e he⟩⟩⟩
  · rintro ⟨h1, h2, h3, h4, h5, h6⟩
    have hc : ∀ f ∈ conds t, FactsOk t.vars f := fun f hf => by
      rcases conds_mem.1 hf with rfl | ⟨i, o, ho, rfl | ⟨j, e, he, rfl⟩⟩
      · exact h5
      · exact (h6 i o ho).2.2.2.2.1
      · exact ((h6 i o ho).2.2.2.2.2 j e he).1
    have hL : ¬ Large t := by
      rintro (h | h | ⟨i, o, ho, h⟩ | ⟨f, hf, h⟩)
      · omega
      · omega
      · have := (h6 i o ho).2.2.1; omega
      · have := factsOk_len (hc f hf); omega
    have hV : VarsOk t ∧ CostsOk t := ⟨h3, fun i o ho => ⟨(h6 i o ho).1, (h6 i o ho).2.1⟩⟩
    have hS : StateOk t.vars t.init ∧ CondsOk t ∧ EffsOk t := ⟨h4, fun i f hf => hc f (List.mem_of_getElem? hf), fun i o ho j e he => ((h6 i o ho).2.2.2.2.2 j e he).2⟩
    have hN : NamesOk t := fun i o ho => (h6 i o ho).2.2.2.1
    rw [if_neg (fun hh => hL (bof_iff.1 hh)), if_neg (fun hh => bof_false.1 hh hV), if_neg (fun hh => bof_false.1 hh hS), if_neg (fun hh => bof_false.1 hh hN)]
theorem TaskOk.vars {t : Tsk} (h : TaskOk t) : VarsOk t := h.2.2.1
end
section
open Go Go.RowKit
attribute [local irreducible] ewp owp hwp hwq hws Ev Evg Fn retPost loud loudS Res1
section
variable {w : World} {A : Nat → Prop} (hA : ∀ k, A k → k < w.heap.size) {v0 v1 : Value}
include hA
omit hA in
def m_base_Holds (f : List Fct) (s : List Int) : Option Bool := some (holdsB f s)
theorem c_base_Holds {x0 : List Fct} (h0 : Vb w A v0 x0) {x1 : List Int} (h1 : Vb w A v1 x1) {r : Bool} (hm : m_base_Holds x0 x1 = some r) : Fn Try.prog 43 [v0, v1] w fun v w' => Ext w w' ∧ Vb w' (upA A w w') v r := by
  obtain rfl := sm hm
  refine (baseHolds (h0.mono hA) (h1.mono hA)).mono fun v w' h => ⟨h.2, ?_⟩
  rw [h.1, bof_b]; exact vBool
omit hA in
def m_task_Holds (f : List Fct) (s : List Int) : Option Bool := some (holdsB f s)
theorem c_task_Holds {x0 : List Fct} (h0 : Vb w A v0 x0) {x1 : List Int} (h1 : Vb w A v1 x1) {r : Bool} (hm : m_task_Holds x0 x1 = some r) : Fn Try.prog 37 [v0, v1] w fun v w' => Ext w w' ∧ Vb w' (upA A w w') v r := by
  obtain rfl := sm hm
  refine (taskHolds (h0.mono hA) (h1.mono hA)).mono fun v w' h => ⟨h.2, ?_⟩
  rw [h.1, bof_b]; exact vBool
omit hA in
noncomputable def m_base_Ints (x : List Int) (y : List Int) : Option Bool := some (bof (x = y))
theorem c_base_Ints {x0 : List Int} (h0 : Vb w A v0 x0) {x1 : List Int} (h1 : Vb w A v1 x1) {r : Bool} (hm : m_base_Ints x0 x1 = some r) : Fn Try.prog 33 [v0, v1] w fun v w' => Ext w w' ∧ Vb w' (upA A w w') v r := by
  obtain rfl := sm hm
  refine (baseInts (h0.mono hA) (h1.mono hA)).mono fun v w' h => ⟨h.2, ?_⟩
  rw [h.1]; exact vBool
omit hA in
noncomputable def m_base_Good (t : Tsk) : Option Bool := some (bof (TaskOk t))
theorem c_base_Good {x0 : Tsk} (h0 : Vb w A v0 x0) {r : Bool} (hm : m_base_Good x0 = some r) : Fn Try.prog 27 [v0] w fun v w' => Ext w w' ∧ Vb w' (upA A w w') v r := by
  obtain rfl := sm hm
  refine (baseGood (h0.mono hA)).mono fun v w' h => ⟨h.2, ?_⟩
  rw [h.1]; exact vBool
end
noncomputable def m_task_Check (t : Tsk) : Option Err := some ⟨checkN t⟩
theorem checkN_rng (t : Tsk) : inI64 (checkN t) := by unfold checkN; (repeat' split) <;> decide
theorem c_task_Check {w : World} {A : Nat → Prop} (hA : ∀ k, A k → k < w.heap.size) {v0 : Value} {x0 : Tsk} (h0 : Vb w A v0 x0) {r : Err} (hm : m_task_Check x0 = some r) : Fn Try.prog 29 [v0] w fun v w' => Ext w w' ∧ Vb w' (upA A w w') v r := by
  obtain rfl := sm hm
  refine (taskCheck (h0.mono hA)).mono fun v w' h => ⟨h.2, ?_⟩
  rw [h.1]
  exact vErr (checkN_rng _)
def m_base_Num (x : Err) : Option Int := some x.n
theorem c_base_Num {w : World} {A : Nat → Prop} (hA : ∀ k, A k → k < w.heap.size) {x0 : Err} (r0 : inI64 x0.n) {r : Int} (hm : m_base_Num x0 = some r) : Fn Try.prog 28 [errV x0.n] w fun v w' => Ext w w' ∧ Vb w' (upA A w w') v r := by
  obtain rfl := sm hm
  refine fn_enter Try.func28 rfl Try.ntmps28 rfl ?_
  by_cases h : x0.n = 0
  · rw [h, errV_zero]
    ((repeat (first | refine ewp_seq ?_ | refine ewp_block ?_ | refine ewp_region ?_ | refine ewp_skip ?_ | refine ewp_exit ?_ | refine ewp_ret ?_ | refine ewp_true rfl ?_ | refine ewp_false rfl ?_)) <;> (refine o_as rfl rfl ?_ <;> (first | refine owp_nilT ?_ | refine owp_nilB ?_ | refine owp_nilBB ?_ | refine owp_nil ?_)) <;> (repeat (first | refine ewp_seq ?_ | refine ewp_block ?_ | refine ewp_region ?_ | refine ewp_skip ?_ | refine ewp_exit ?_ | refine ewp_ret ?_ | refine ewp_true rfl ?_ | refine ewp_false rfl ?_)) <;> (refine o_mv rfl rfl ?_ <;> (first | refine o_en rfl rfl ?_ | refine o_eo rfl rfl ?_) <;> (first | refine owp_nilT ?_ | refine owp_nilB ?_ | refine owp_nilBB ?_ | refine owp_nil ?_)) <;> (repeat (first | refine ewp_seq ?_ | refine ewp_block ?_ | refine ewp_region ?_ | refine ewp_skip ?_ | refine ewp_exit ?_ | refine ewp_ret ?_ | refine ewp_true rfl ?_ | refine ewp_false rfl ?_)) <;> (refine o_as rfl rfl ?_ <;> (first | refine owp_nilT ?_ | refine owp_nilB ?_ | refine owp_nilBB ?_ | refine owp_nil ?_)) <;> (repeat (first | refine ewp_seq ?_ | refine ewp_block ?_ | refine ewp_region ?_ | refine ewp_skip ?_ | refine ewp_exit ?_ | refine ewp_ret ?_ | refine ewp_true rfl ?_ | refine ewp_false rfl ?_)))
    exact ret1 rfl rfl ⟨Below.refl _ _, vInt (by decide)⟩
  · rw [errV_pos h]
    have h2 : -9223372036854775808 ≤ x0.n ∧ x0.n ≤ 9223372036854775807 := r0
    ((repeat (first | refine ewp_seq ?_ | refine ewp_block ?_ | refine ewp_region ?_ | refine ewp_skip ?_ | refine ewp_exit ?_ | refine ewp_ret ?_ | refine ewp_true rfl ?_ | refine ewp_false rfl ?_)) <;> (refine o_as rfl rfl ?_ <;> (first | refine owp_nilT ?_ | refine owp_nilB ?_ | refine owp_nilBB ?_ | refine owp_nil ?_)) <;> (repeat (first | refine ewp_seq ?_ | refine ewp_block ?_ | refine ewp_region ?_ | refine ewp_skip ?_ | refine ewp_exit ?_ | refine ewp_ret ?_ | refine ewp_true rfl ?_ | refine ewp_false rfl ?_)) <;> (refine o_mv rfl rfl ?_ <;> (first | refine o_en rfl rfl ?_ | refine o_eo rfl rfl ?_) <;> (first | refine owp_nilT ?_ | refine owp_nilB ?_ | refine owp_nilBB ?_ | refine owp_nil ?_)) <;> (repeat (first | refine ewp_seq ?_ | refine ewp_block ?_ | refine ewp_region ?_ | refine ewp_skip ?_ | refine ewp_exit ?_ | refine ewp_ret ?_ | refine ewp_true rfl ?_ | refine ewp_false rfl ?_)) <;> (refine o_mv rfl rfl ?_ <;> refine o_ta rfl rfl ?_ <;> refine o_mv rfl rfl ?_ <;> refine o_ex rfl rfl rfl ?_ <;> refine o_ex rfl rfl rfl ?_ <;> refine o_as rfl rfl ?_ <;> refine o_as rfl rfl ?_ <;> (first | refine owp_nilT ?_ | refine owp_nilB ?_ | refine owp_nilBB ?_ | refine owp_nil ?_)) <;> (repeat (first | refine ewp_seq ?_ | refine ewp_block ?_ | refine ewp_region ?_ | refine ewp_skip ?_ | refine ewp_exit ?_ | refine ewp_ret ?_ | refine ewp_true rfl ?_ | refine ewp_false rfl ?_)) <;> (refine o_mv rfl rfl ?_ <;> (first | refine owp_nilT ?_ | refine owp_nilB ?_ | refine owp_nilBB ?_ | refine owp_nil ?_)) <;> (repeat (first | refine ewp_seq ?_ | refine ewp_block ?_ | refine ewp_region ?_ | refine ewp_skip ?_ | refine ewp_exit ?_ | refine ewp_ret ?_ | refine ewp_true rfl ?_ | refine ewp_false rfl ?_)) <;> (refine o_mv rfl rfl ?_ <;> refine o_as rfl rfl ?_ <;> (first | refine owp_nilT ?_ | refine owp_nilB ?_ | refine owp_nilBB ?_ | refine owp_nil ?_)) <;> (repeat (first | refine ewp_seq ?_ | refine ewp_block ?_ | refine ewp_region ?_ | refine ewp_skip ?_ | refine ewp_exit ?_ | refine ewp_ret ?_ | refine ewp_true rfl ?_ | refine ewp_false rfl ?_)))
    exact ret1 rfl rfl ⟨Below.refl _ _, vInt r0⟩
def m_slices_Clone_Lint_int (xs : List Int) : Option (List Int) := if xs.length * 8 ≤ 140737488355328 ∧ xs.length ≤ 9223372036854775807 then some xs else none
theorem c_slices_Clone_Lint_int {w : World} {A : Nat → Prop} (hA : ∀ k, A k → k < w.heap.size) {v0 : Value} {x0 : List Int} (h0 : Vb w A v0 x0) {r : List Int} (hm : m_slices_Clone_Lint_int x0 = some r) :
    Fn Try.prog 65 [v0] w fun v w' => Ext w w' ∧ RowR w w' (upA A w w') 3 v r := by
  obtain ⟨⟨hl, hl2⟩, rfl⟩ := ite_some hm
  obtain ⟨O, hB, hA0⟩ := enter hA
  replace h0 := h0.mono hA0
  obtain ⟨Ad, c, rfl⟩ := h0.form
  refine fn_enter Try.func65 rfl Try.ntmps65 rfl ?_
  cases Ad with
  | none =>
    have hx : x0 = [] := by
      cases x0 with
      | nil => rfl
      | cons x xs => obtain ⟨_, _, _, h, _⟩ := h0.elem (k := 0) (x := x) rfl; cases h
    subst hx
    ((repeat (first | refine ewp_seq ?_ | refine ewp_block ?_ | refine ewp_region ?_ | refine ewp_skip ?_ | refine ewp_exit ?_ | refine ewp_ret ?_ | refine ewp_true rfl ?_ | refine ewp_false rfl ?_)) <;> (refine o_as rfl rfl ?_ <;> (first | refine owp_nilT ?_ | refine owp_nilB ?_ | refine owp_nilBB ?_ | refine owp_nil ?_)) <;> (repeat (first | refine ewp_seq ?_ | refine ewp_block ?_ | refine ewp_region ?_ | refine ewp_skip ?_ | refine ewp_exit ?_ | refine ewp_ret ?_ | refine ewp_true rfl ?_ | refine ewp_false rfl ?_)) <;> (refine o_mv rfl rfl ?_ <;> refine o_sn rfl rfl ?_ <;> (first | refine owp_nilT ?_ | refine owp_nilB ?_ | refine owp_nilBB ?_ | refine owp_nil ?_)) <;> (repeat (first | refine ewp_seq ?_ | refine ewp_block ?_ | refine ewp_region ?_ | refine ewp_skip ?_ | refine ewp_exit ?_ | refine ewp_ret ?_ | refine ewp_true rfl ?_ | refine ewp_false rfl ?_)) <;> (refine o_as rfl rfl ?_ <;> (first | refine owp_nilT ?_ | refine owp_nilB ?_ | refine owp_nilBB ?_ | refine owp_nil ?_)) <;> (repeat (first | refine ewp_seq ?_ | refine ewp_block ?_ | refine ewp_region ?_ | refine ewp_skip ?_ | refine ewp_exit ?_ | refine ewp_ret ?_ | refine ewp_true rfl ?_ | refine ewp_false rfl ?_)))
    exact ret1 rfl rfl ⟨Below.refl _ _, RowR.nil⟩
  | some ad =>
    ((repeat (first | refine ewp_seq ?_ | refine ewp_block ?_ | refine ewp_region ?_ | refine ewp_skip ?_ | refine ewp_exit ?_ | refine ewp_ret ?_ | refine ewp_true rfl ?_ | refine ewp_false rfl ?_)) <;> (refine o_as rfl rfl ?_ <;> (first | refine owp_nilT ?_ | refine owp_nilB ?_ | refine owp_nilBB ?_ | refine owp_nil ?_)) <;> (repeat (first | refine ewp_seq ?_ | refine ewp_block ?_ | refine ewp_region ?_ | refine ewp_skip ?_ | refine ewp_exit ?_ | refine ewp_ret ?_ | refine ewp_true rfl ?_ | refine ewp_false rfl ?_)) <;> (refine o_mv rfl rfl ?_ <;> refine o_sn rfl rfl ?_ <;> (first | refine owp_nilT ?_ | refine owp_nilB ?_ | refine owp_nilBB ?_ | refine owp_nil ?_)) <;> (repeat (first | refine ewp_seq ?_ | refine ewp_block ?_ | refine ewp_region ?_ | refine ewp_skip ?_ | refine ewp_exit ?_ | refine ewp_ret ?_ | refine ewp_true rfl ?_ | refine ewp_false rfl ?_)))
    refine l_bslice 2 (by decide) O (xs := ([] : List Int)) rfl rfl rfl rfl trivial (by decide) (by decide) rfl fun g w1 O1 S1 h1 => ?_
    replace hB := hB.st S1 (fun h => h) (fun h => h)
    replace h0 := h0.st S1 (fun h => h)
    (refine o_mv rfl rfl ?_)
    refine l_append rfl h1 h0.rd rfl rfl (by decide) (by simpa using hl) (by simpa using hl2) rfl fun A2 c2 w2 O2 S2 h2 => ?_
    replace hB := hB.st S2 (by decide) (by decide)
    rw [List.nil_append] at h2 ⊢
    (refine o_as rfl rfl ?_ <;> (first | refine owp_nilT ?_ | refine owp_nilB ?_ | refine owp_nilBB ?_ | refine owp_nil ?_))
    repeat (first | refine ewp_seq ?_ | refine ewp_block ?_ | refine ewp_region ?_ | refine ewp_skip ?_ | refine ewp_exit ?_ | refine ewp_ret ?_ | refine ewp_true rfl ?_ | refine ewp_false rfl ?_)
    exact ret1 rfl rfl ⟨hB.ext, h2.out hB (by decide)⟩
end
end Go.Proofs.Ythomfnkaicjmbaa

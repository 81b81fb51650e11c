/- Own text: what the proof of symmetryLimits_holds uses, part 2: rules, models and their proofs, plain laws. -/
import Derived.Test.YtdhaelekmjgbmaaGreatDoorLiA
set_option linter.unusedVariables false
set_option linter.unusedSimpArgs false
namespace Go.Proofs.YtdhaelekmjgbmaaGreatDoor
open Go Go.RowKit
section
open Go Go.RowKit
/-- The cells of an element, as they lie. -/
structure Raw (a : Bool) (n : Nat) where
  cs : List Value
  len : cs.length = n
  one : ∀ u ∈ cs, u.oneCell' = true
instance {a : Bool} {n : Nat} : Rp (Raw a n) where
  isAgg := a
  size := n
  R _ _ cs x := cs = x.cs
  len := by rintro _ _ cs x rfl; exact x.len
  one := by rintro _ _ cs x rfl; exact x.one
  agree := by rintro _ _ _ cs x rfl _; rfl
  mono := by rintro _ _ _ cs x rfl _; rfl
/-- A type whose values hold a row in cell q. -/
class NestAt (α β : Type) [Rp α] [Rp β] where
  q : Nat
  get : α → List β
  put : α → List β → α
  get_put : ∀ x y, get (put x y) = y
  put_put : ∀ x y z, put (put x y) z = put x z
  split : ∀ {w F cs x}, Rp.R w F cs x → Rp.R w F (cs.set q (.slice none 0 0)) (put x []) ∧ ∃ v, cs[q]? = some v ∧ Vb w F v (get x)
  join : ∀ {w F cs x v}, Rp.R w F (cs.set q (.slice none 0 0)) (put x []) → cs[q]? = some v → Vb w F v (get x) → Rp.R w F cs x
/-- Rows in the elements' cells: their blocks have label j; one of them may be out. -/
def Nest {α β : Type} [Rp α] [Rp β] [N : NestAt α β] {a : Bool} {n : Nat} (j : Nat) (w : World) (O : Lab) (e : TypeId) (rs : List (Raw a n)) (xs : List α) (skip : Option Nat) : Prop :=
  (∃ L : Lab, rs.length = xs.length ∧ ∀ (k : Nat) (r : Raw a n) (x : α), rs[k]? = some r → xs[k]? = some x →
    Rp.R w (Fr 0 w O) (r.cs.set N.q (.slice none 0 0)) (N.put x []) ∧ (skip ≠ some k → ∃ v, r.cs[N.q]? = some v ∧ RwM w (Fr 0 w O) (fun b => Fr j w O b ∧ L b = k) e v (N.get x))) ∧ j ≠ 0
section
variable {α β : Type} [Rp α] [Rp β] [N : NestAt α β] {a : Bool} {n i j l : Nat} {T : Nat → Prop} {w w' : World} {O O' : Lab} {e : TypeId} {rs : List (Raw a n)} {xs : List α} {skip : Option Nat}
theorem Nest.st (h : Nest (β := β) j w O e rs xs skip) (hS : St T w O w' O') (h0 : ¬ T 0 := by decide) (hj : ¬ T j := by decide) : Nest (β := β) j w' O' e rs xs skip := by
  obtain ⟨⟨L, hl, hr⟩, h1⟩ := h
  refine ⟨⟨L, hl, fun k r x g1 g2 => ⟨Rp.mono (Rp.agree (hr k r x g1 g2).1 (hS.agree h0)) (hS.fr h0), fun g3 => ?_⟩⟩, h1⟩
  obtain ⟨v, hv, hm⟩ := (hr k r x g1 g2).2 g3
  exact ⟨v, hv, (hm.agree (hS.agree h0) fun b hb => hS.agree hj b hb.1).mono (hS.fr h0) (fun b hb => ⟨hS.fr hj b hb.1, hb.2⟩) fun b hf hm => frNe0 h1 b hf hm.1⟩
theorem Nest.nil (hj : j ≠ 0) : Nest (α := α) (β := β) (a := a) (n := n) j w O e [] [] none := ⟨⟨fun _ => 0, rfl, fun k r x h => by simp at h⟩, hj⟩
theorem Nest.snoc (h : Nest (β := β) j w O e rs xs none) {r : Raw a n} {x : α} {v : Value} (hr : Rp.R w (Fr 0 w O) (r.cs.set N.q (.slice none 0 0)) (N.put x [])) (hv : r.cs[N.q]? = some v) (hw : Rw l w O e v (N.get x)) (hlj : l ≠ j) :
    ∃ O', St (eT l) w O w O' ∧ Nest (β := β) j w O' e (rs ++ [r]) (xs ++ [x]) none := by
  obtain ⟨⟨L, hl, hra⟩, hj⟩ := h
  have hl0 : l ≠ 0 := hw.2.2
  have hF : ∀ k, Fr 0 w O k → Fr 0 w (fun k => if O k = l then j else O k) k := fun k hk => ⟨hk.1, by show (if _ then _ else _) = _; rw [if_neg (by rw [hk.2]; exact Ne.symm hl0)]; exact hk.2⟩
  refine ⟨fun k => if O k = l then j else O k, ⟨rfl, rfl, rfl, Nat.le_refl _, fun k _ hk => ⟨rfl, if_neg hk⟩⟩, ⟨fun b => if O b = l then rs.length else L b, by simp [hl], fun k r' x' g1 g2 => ?_⟩, hj⟩
  rcases Nat.lt_or_ge k rs.length with hk | hk
  · rw [List.getElem?_append_left hk] at g1
    rw [List.getElem?_append_left (by omega)] at g2
    refine ⟨Rp.mono (hra k r' x' g1 g2).1 hF, fun _ => ?_⟩
    obtain ⟨v', hv', hm⟩ := (hra k r' x' g1 g2).2 (by simp)
    refine ⟨v', hv', hm.mono hF (fun b hb => ?_) fun b hf hm => frNe0 hj b hf hm.1⟩
    have hb' : O b ≠ l := by rw [hb.1.2]; exact Ne.symm hlj
    exact ⟨⟨hb.1.1, by show (if _ then _ else _) = _; rw [if_neg hb']; exact hb.1.2⟩, by show (if _ then _ else _) = _; rw [if_neg hb']; exact hb.2⟩
  · have hk2 := lt_of_get g1
    rw [List.length_append, List.length_singleton] at hk2
    have : k = rs.length := by omega
    subst this
    rw [List.getElem?_append_right (Nat.le_refl _), Nat.sub_self] at g1
    rw [hl, List.getElem?_append_right (Nat.le_refl _), Nat.sub_self] at g2
    have e1 : r = r' := by simpa using g1
    have e2 : x = x' := by simpa using g2
    subst e1 e2
    refine ⟨Rp.mono hr hF, fun _ => ⟨v, hv, ?_⟩⟩
    have h1 : RwM w (Fr 0 w O) (Fr l w O) e v (N.get x) := hw.m (fun _ h => h) (fun _ h => h) (frNe0 hl0)
    exact h1.mono hF (fun b hb => ⟨⟨hb.1, if_pos hb.2⟩, if_pos hb.2⟩) fun b hf hm => frNe0 hj b hf hm.1
theorem Nest.take (h : Nest (β := β) j w O e rs xs none) {k : Nat} {r : Raw a n} {x : α} (hr : rs[k]? = some r) (hx : xs[k]? = some x) (l : Nat) (hl : l ≠ 0) (hlj : l ≠ j) :
    ∃ O' v, St (eT j) w O w O' ∧ r.cs[N.q]? = some v ∧ Nest (β := β) j w O' e rs xs (some k) ∧ Rw l w O' e v (N.get x) := by
  obtain ⟨⟨L, hlen, hra⟩, hj⟩ := h
  obtain ⟨v, hv, hm⟩ := (hra k r x hr hx).2 (by simp)
  have hF : ∀ b, Fr 0 w O b → Fr 0 w (fun b => if O b = j ∧ L b = k then l else O b) b := fun b hb => ⟨hb.1, by show (if _ then _ else _) = _; rw [if_neg (by rw [hb.2]; exact fun h => hj h.1.symm)]; exact hb.2⟩
  refine ⟨fun b => if O b = j ∧ L b = k then l else O b, v, ⟨rfl, rfl, rfl, Nat.le_refl _, fun b _ hb => ⟨rfl, if_neg fun h => hb h.1⟩⟩, hv, ⟨⟨L, hlen, fun k' r' x' g1 g2 => ⟨Rp.mono (hra k' r' x' g1 g2).1 hF, fun g3 => ?_⟩⟩, hj⟩, hm.rw hF (fun b hb => ⟨hb.1.1, if_pos ⟨hb.1.2, hb.2⟩⟩) hl⟩
  obtain ⟨v', hv', hm'⟩ := (hra k' r' x' g1 g2).2 (by simp)
  refine ⟨v', hv', hm'.mono hF (fun b hb => ?_) fun b hf hm => frNe0 hj b hf hm.1⟩
  have hne : ¬ (O b = j ∧ L b = k) := fun h => g3 (by rw [← h.2, hb.2])
  exact ⟨⟨hb.1.1, by show (if _ then _ else _) = _; rw [if_neg hne]; exact hb.1.2⟩, hb.2⟩
theorem Nest.put {k : Nat} (h : Nest (β := β) j w O e rs xs (some k)) {r r' : Raw a n} {x : α} {v : Value} {ys : List β} (hr : rs[k]? = some r) (hx : xs[k]? = some x) (hr' : r'.cs = r.cs.set N.q v) (hq : N.q < n) (hw : Rw l w O e v ys) (hlj : l ≠ j) :
    ∃ O', St (eT l) w O w O' ∧ Nest (β := β) j w O' e (rs.set k r') (xs.set k (N.put x ys)) none := by
  obtain ⟨⟨L, hlen, hra⟩, hj⟩ := h
  have hl0 : l ≠ 0 := hw.2.2
  have hF : ∀ b, Fr 0 w O b → Fr 0 w (fun b => if O b = l then j else O b) b := fun b hb => ⟨hb.1, by show (if _ then _ else _) = _; rw [if_neg (by rw [hb.2]; exact Ne.symm hl0)]; exact hb.2⟩
  refine ⟨fun b => if O b = l then j else O b, ⟨rfl, rfl, rfl, Nat.le_refl _, fun b _ hb => ⟨rfl, if_neg hb⟩⟩, ⟨fun b => if O b = l then k else L b, by simp [hlen], fun k' r2 x2 g1 g2 => ?_⟩, hj⟩
  by_cases hk : k' = k
  · subst hk
    rw [List.getElem?_set_self (lt_of_get hr)] at g1
    rw [List.getElem?_set_self (lt_of_get hx)] at g2
    have e1 : r' = r2 := by simpa using g1
    have e2 : N.put x ys = x2 := by simpa using g2
    subst e1 e2
    refine ⟨?_, fun _ => ⟨v, ?_, ?_⟩⟩
    · rw [hr', List.set_set, N.put_put]; exact Rp.mono (hra k' r x hr hx).1 hF
    · rw [hr', List.getElem?_set_self (by rw [r.len]; exact hq)]
    · rw [N.get_put]
      have h1 : RwM w (Fr 0 w O) (Fr l w O) e v ys := hw.m (fun _ h => h) (fun _ h => h) (frNe0 hl0)
      exact h1.mono hF (fun b hb => ⟨⟨hb.1, if_pos hb.2⟩, if_pos hb.2⟩) fun b hf hm => frNe0 hj b hf hm.1
  · rw [List.getElem?_set_ne (Ne.symm hk)] at g1 g2
    refine ⟨Rp.mono (hra k' r2 x2 g1 g2).1 hF, fun _ => ?_⟩
    obtain ⟨v', hv', hm⟩ := (hra k' r2 x2 g1 g2).2 (fun h => hk (Option.some.inj h).symm)
    refine ⟨v', hv', hm.mono hF (fun b hb => ?_) fun b hf hm => frNe0 hj b hf hm.1⟩
    have hb' : O b ≠ l := by rw [hb.1.2]; exact Ne.symm hlj
    exact ⟨⟨hb.1.1, by show (if _ then _ else _) = _; rw [if_neg hb']; exact hb.1.2⟩, by show (if _ then _ else _) = _; rw [if_neg hb']; exact hb.2⟩
theorem Nest.app {rs' : List (Raw a n)} {xs' : List α} (h : Nest (β := β) j w O e rs xs none) (h' : Nest (β := β) l w O e rs' xs' none) (hlj : l ≠ j) :
    ∃ O', St (eT l) w O w O' ∧ Nest (β := β) j w O' e (rs ++ rs') (xs ++ xs') none := by
  obtain ⟨⟨L, hl, hra⟩, hj⟩ := h
  obtain ⟨⟨L', hl', hra'⟩, hl0⟩ := h'
  have hF : ∀ k, Fr 0 w O k → Fr 0 w (fun k => if O k = l then j else O k) k := fun k hk => ⟨hk.1, by show (if O k = l then j else O k) = 0; rw [if_neg (by rw [hk.2]; exact Ne.symm hl0)]; exact hk.2⟩
  refine ⟨fun k => if O k = l then j else O k, ⟨rfl, rfl, rfl, Nat.le_refl _, fun k _ hk => ⟨rfl, if_neg hk⟩⟩, ⟨fun b => if O b = l then rs.length + L' b else L b, by simp [hl, hl'], fun k r' x' g1 g2 => ?_⟩, hj⟩
  rcases Nat.lt_or_ge k rs.length with hk | hk
  · rw [List.getElem?_append_left hk] at g1
    rw [List.getElem?_append_left (by omega)] at g2
    refine ⟨Rp.mono (hra k r' x' g1 g2).1 hF, fun _ => ?_⟩
    obtain ⟨v', hv', hm⟩ := (hra k r' x' g1 g2).2 (by simp)
    refine ⟨v', hv', hm.mono hF (fun b hb => ?_) fun b hf hm => frNe0 hj b hf hm.1⟩
    have hb' : O b ≠ l := by rw [hb.1.2]; exact Ne.symm hlj
    refine ⟨⟨hb.1.1, ?_⟩, ?_⟩
    · show (if O b = l then j else O b) = j
      rw [if_neg hb']; exact hb.1.2
    · show (if O b = l then rs.length + L' b else L b) = k
      rw [if_neg hb']; exact hb.2
  · rw [List.getElem?_append_right hk] at g1
    rw [List.getElem?_append_right (by omega)] at g2
    rw [← hl] at g2
    refine ⟨Rp.mono (hra' _ r' x' g1 g2).1 hF, fun _ => ?_⟩
    obtain ⟨v', hv', hm⟩ := (hra' _ r' x' g1 g2).2 (by simp)
    refine ⟨v', hv', hm.mono hF (fun b hb => ⟨⟨hb.1.1, if_pos hb.1.2⟩, ?_⟩) fun b hf hm => frNe0 hj b hf hm.1⟩
    show (if O b = l then rs.length + L' b else L b) = k
    rw [if_pos hb.1.2, hb.2]; omega
theorem Chunks.conv {γ δ : Type} [Rp γ] [Rp δ] {F G : Nat → Prop} : ∀ {rs : List γ} {xs : List δ} {cells : List Value}, rs.length = xs.length → (∀ (k : Nat) r x cs, rs[k]? = some r → xs[k]? = some x → Rp.R w F cs r → Rp.R w G cs x) → Chunks w F cells rs → Chunks w G cells xs
  | [], [], _, _, _, h => h
  | [], _ :: _, _, hl, _, _ => by simp at hl
  | _ :: _, [], _, hl, _, _ => by simp at hl
  | r :: rs, x :: xs, _, hl, hc, ⟨cs, rest, he, hr, h⟩ =>
    ⟨cs, rest, he, hc 0 r x cs rfl rfl hr, Chunks.conv (by simpa using hl) (fun k r x cs g1 g2 => hc (k + 1) r x cs (by simpa using g1) (by simpa using g2)) h⟩
theorem Nest.lend {e' : TypeId} {v : Value} (hR : Rw i w O e' v rs) (h : Nest (β := β) j w O e rs xs none) : Vb w (FrS [i, j] w O) v xs := by
  obtain ⟨⟨L, hl, hra⟩, hj⟩ := h
  obtain ⟨A, c, cells, h1, h2, h3, h4, h5⟩ := hR.1.vb.slice
  refine .of_slice ⟨A, c, cells, by rw [h1, hl], by omega, h3, ?_, fun hp => ?_⟩
  · refine h4.conv hl fun k r x cs g1 g2 g3 => ?_
    have g3' : cs = r.cs := g3
    subst g3'
    obtain ⟨q1, q2⟩ := hra k r x g1 g2
    obtain ⟨v', hv', hm⟩ := q2 (by simp)
    refine N.join (Rp.mono q1 fun b hb => ⟨hb.1, .inl hb.2⟩) hv' (hm.1.vb.mono fun b hb => ?_)
    rcases hb with hb | hb
    · exact ⟨hb.1, .inl hb.2⟩
    · have := (hm.2 b hb).1; exact ⟨this.1, .inr (by rw [this.2]; simp)⟩
  · obtain ⟨b, o, h6, h7, h8⟩ := h5 (by omega)
    refine ⟨b, o, h6, ?_, h8⟩
    rcases h7 with h7 | h7
    · exact ⟨h7.1, .inl h7.2⟩
    · exact ⟨(hR.1.lt b h7).2, .inr (by rw [hR.2.1 b h7]; simp)⟩
end
instance {β : Type} [Rp β] : NestAt (List β) β where
  q := 0
  get x := x
  put _ y := y
  get_put _ _ := rfl
  put_put _ _ _ := rfl
  split := by
    intro w F cs x h
    have hl := Rp.len h
    match cs, hl, h with
    | [v], _, h => exact ⟨(Vb.nil w F).cells1, v, rfl, by unfold Vb; exact h⟩
  join := by
    intro w F cs x v h hv hx
    have hl := Rp.len h
    rw [List.length_set] at hl
    match cs, hl, hv with
    | [u], _, hv =>
      obtain rfl : u = v := by simpa using hv
      exact hx.cells1
/-- A row whose elements own a row each in cell q: all of it has one label; one of the inner rows may be out. -/
def NR {α : Type} (β : Type) [Rp α] [Rp β] [N : NestAt α β] (i : Nat) (w : World) (O : Lab) (e' e : TypeId) (v : Value) (xs : List α) (skip : Option Nat) : Prop :=
  ∃ (rs : List (Raw (Rp.isAgg α) (Rp.size α))) (L : Lab), Own w 0 (Fr 0 w O) e' v rs ∧ (∀ g, v.ownBlock = some g → O g = i ∧ L g = 0) ∧ i ≠ 0 ∧ rs.length = xs.length ∧
    ∀ (k : Nat) (r : Raw (Rp.isAgg α) (Rp.size α)) (x : α), rs[k]? = some r → xs[k]? = some x →
      Rp.R w (Fr 0 w O) (r.cs.set N.q (.slice none 0 0)) (N.put x []) ∧ (skip ≠ some k → ∃ u, r.cs[N.q]? = some u ∧ RwM w (Fr 0 w O) (fun b => Fr i w O b ∧ L b = k + 1) e u (N.get x))
theorem labBound (O : Lab) : ∀ n : Nat, ∃ b, ∀ k, k < n → O k ≤ b
  | 0 => ⟨0, fun k h => by omega⟩
  | n + 1 => by
    obtain ⟨b, hb⟩ := labBound O n
    refine ⟨max b (O n), fun k hk => ?_⟩
    rcases Nat.lt_or_ge k n with h | h
    · have := hb k h; omega
    · have : k = n := by omega
      subst this; omega
theorem labFresh (O : Lab) (n a b : Nat) : ∃ j, j ≠ 0 ∧ j ≠ a ∧ j ≠ b ∧ ∀ k, k < n → O k ≠ j := by
  obtain ⟨c, hc⟩ := labBound O n
  exact ⟨c + a + b + 1, by omega, by omega, by omega, fun k hk => by have := hc k hk; omega⟩
theorem St.via {T T1 T2 T3 : Nat → Prop} {w w' : World} {O O1 O2 O3 : Lab} {j : Nat} (h1 : St T1 w O w O1) (h2 : St T2 w O1 w' O2) (h3 : St T3 w' O2 w' O3) (hj : ∀ k, k < w.heap.size → O k ≠ j) (a1 : ∀ q, T1 q → T q) (a2 : ∀ q, T2 q → T q ∨ q = j) (a3 : ∀ q, T3 q → T q ∨ q = j) : St T w O w' O3 :=
  ⟨(h3.os.trans h2.os).trans h1.os, (h3.tape.trans h2.tape).trans h1.tape, (h3.output.trans h2.output).trans h1.output, Nat.le_trans h2.size h3.size, fun k hk hT => by
    obtain ⟨e1, e2⟩ := h1.same k hk fun h => hT (a1 _ h)
    obtain ⟨e3, e4⟩ := h2.same k hk (by rw [e2]; exact fun h => (a2 _ h).elim hT (hj k hk))
    obtain ⟨e5, e6⟩ := h3.same k (Nat.lt_of_lt_of_le hk h2.size) (by rw [e4, e2]; exact fun h => (a3 _ h).elim hT (hj k hk))
    exact ⟨(e5.trans e3).trans e1, (e6.trans e4).trans e2⟩⟩
section
variable {α β : Type} [Rp α] [Rp β] [N : NestAt α β] {i j l : Nat} {T : Nat → Prop} {w w' : World} {O O' : Lab} {e' e : TypeId} {v : Value} {xs : List α} {skip : Option Nat}
theorem NR.opn (h : NR β i w O e' e v xs skip) (j : Nat) (hj : j ≠ 0) (hji : j ≠ i) : ∃ (rs : List (Raw (Rp.isAgg α) (Rp.size α))) (O1 : Lab), St (eT i) w O w O1 ∧ Rw i w O1 e' v rs ∧ Nest (β := β) j w O1 e rs xs skip := by
  obtain ⟨rs, L, h1, h2, h3, h4, h5⟩ := h
  have hF : ∀ b, Fr 0 w O b → Fr 0 w (fun b => if O b = i ∧ L b ≠ 0 then j else O b) b := fun b hb => ⟨hb.1, by show (if _ then _ else _) = _; rw [if_neg (by rw [hb.2]; exact fun h => h3 h.1.symm)]; exact hb.2⟩
  refine ⟨rs, fun b => if O b = i ∧ L b ≠ 0 then j else O b, ⟨rfl, rfl, rfl, Nat.le_refl _, fun b _ hb => ⟨rfl, if_neg fun h => hb h.1⟩⟩, ⟨h1.mono hF fun g hg hf => ?_, fun g hg => ?_, h3⟩, ⟨fun b => L b - 1, h4, fun k r x g1 g2 => ⟨Rp.mono (h5 k r x g1 g2).1 hF, fun g3 => ?_⟩⟩, hj⟩
  · have h8 : (if O g = i ∧ L g ≠ 0 then j else O g) = 0 := hf.2
    rw [if_neg (fun h => h.2 (h2 g hg).2), (h2 g hg).1] at h8
    exact h3 h8
  · show (if O g = i ∧ L g ≠ 0 then j else O g) = i
    rw [if_neg (fun h => h.2 (h2 g hg).2)]; exact (h2 g hg).1
  · obtain ⟨u, hu, hm⟩ := (h5 k r x g1 g2).2 g3
    refine ⟨u, hu, hm.mono hF (fun b hb => ⟨⟨hb.1.1, ?_⟩, ?_⟩) fun b hf hm => frNe0 hj b hf hm.1⟩
    · show (if O b = i ∧ L b ≠ 0 then j else O b) = j
      rw [if_pos ⟨hb.1.2, by have := hb.2; omega⟩]
    · show L b - 1 = k
      have := hb.2; omega
theorem NR.shut {rs : List (Raw (Rp.isAgg α) (Rp.size α))} (hR : Rw i w O e' v rs) (hN : Nest (β := β) j w O e rs xs skip) (hji : j ≠ i) : ∃ O1, St (eT j) w O w O1 ∧ NR β i w O1 e' e v xs skip := by
  obtain ⟨⟨L, h4, h5⟩, hj⟩ := hN
  obtain ⟨h1, h2, h3⟩ := hR
  have hF : ∀ b, Fr 0 w O b → Fr 0 w (fun b => if O b = j then i else O b) b := fun b hb => ⟨hb.1, by show (if _ then _ else _) = _; rw [if_neg (by rw [hb.2]; exact Ne.symm hj)]; exact hb.2⟩
  have hi : ∀ g, v.ownBlock = some g → (if O g = j then i else O g) = i := fun g hg => by
    split
    · rfl
    · exact h2 g hg
  refine ⟨fun b => if O b = j then i else O b, ⟨rfl, rfl, rfl, Nat.le_refl _, fun b _ hb => ⟨rfl, if_neg hb⟩⟩, rs, fun b => if O b = j then L b + 1 else 0, h1.mono hF fun g hg hf => h3 (((hi g hg).symm.trans hf.2)), fun g hg => ⟨hi g hg, ?_⟩, h3, h4, fun k r x g1 g2 => ⟨Rp.mono (h5 k r x g1 g2).1 hF, fun g3 => ?_⟩⟩
  · show (if O g = j then L g + 1 else 0) = 0
    rw [if_neg (by rw [h2 g hg]; exact Ne.symm hji)]
  · obtain ⟨u, hu, hm⟩ := (h5 k r x g1 g2).2 g3
    refine ⟨u, hu, hm.mono hF (fun b hb => ⟨⟨hb.1.1, if_pos hb.1.2⟩, ?_⟩) fun b hf hm => frNe0 h3 b hf hm.1⟩
    show (if O b = j then L b + 1 else 0) = k + 1
    rw [if_pos hb.1.2, hb.2]
theorem NR.st (h : NR β i w O e' e v xs skip) (hS : St T w O w' O') (h0 : ¬ T 0 := by decide) (hi : ¬ T i := by decide) : NR β i w' O' e' e v xs skip := by
  obtain ⟨rs, L, h1, h2, h3, h4, h5⟩ := h
  have hR : Rw i w' O' e' v rs := Rw.st (O := O) ⟨h1, fun g hg => (h2 g hg).1, h3⟩ hS h0 hi
  refine ⟨rs, L, hR.1, fun g hg => ⟨hR.2.1 g hg, (h2 g hg).2⟩, h3, h4, fun k r x g1 g2 => ⟨Rp.mono (Rp.agree (h5 k r x g1 g2).1 (hS.agree h0)) (hS.fr h0), fun g3 => ?_⟩⟩
  obtain ⟨u, hu, hm⟩ := (h5 k r x g1 g2).2 g3
  exact ⟨u, hu, (hm.agree (hS.agree h0) fun b hb => hS.agree hi b hb.1).mono (hS.fr h0) (fun b hb => ⟨hS.fr hi b hb.1, hb.2⟩) fun b hf hm => frNe0 h3 b hf hm.1⟩
theorem NR.nil (i : Nat) (hi : i ≠ 0) : NR (α := α) β i w O e' e (.slice none 0 0) [] none :=
  ⟨[], fun _ => 0, Own.nil _ _ _ _, fun g h => by simp [Value.ownBlock] at h, hi, rfl, fun k r x h => by simp at h⟩
theorem NR.len {A : Option Addr} {m c : Nat} (h : NR β i w O e' e (.slice A m c) xs skip) : m = xs.length ∧ m ≤ c ∧ c ≤ 9223372036854775807 := by
  obtain ⟨rs, L, h1, h2, h3, h4, h5⟩ := h
  have := Rw.len (i := i) (O := O) ⟨h1, fun g hg => (h2 g hg).1, h3⟩
  exact ⟨this.1.trans h4, this.2⟩
theorem NR.relen {A : Option Addr} {m c : Nat} (h : NR β i w O e' e (.slice A m c) xs skip) : NR β i w O e' e (.slice A xs.length c) xs skip := by
  have := h.len.1
  subst this
  exact h
theorem NR.form (h : NR β i w O e' e v xs skip) : ∃ A c, v = .slice A xs.length c := by
  obtain ⟨rs, L, h1, h2, h3, h4, h5⟩ := h
  obtain ⟨A, c, h⟩ := Rw.form (i := i) (O := O) (xs := rs) ⟨h1, fun g hg => (h2 g hg).1, h3⟩
  exact ⟨A, c, by rw [h, h4]⟩
theorem NR.lend (h : NR β i w O e' e v xs none) : Vb w (FrS [i] w O) v xs := by
  obtain ⟨j, hj, hji, _, hf⟩ := labFresh O w.heap.size i 0
  obtain ⟨rs, O1, hS, hR, hN⟩ := h.opn j hj hji
  refine (Nest.lend hR hN).mono fun k hk => ⟨hk.1, ?_⟩
  by_cases hi : O k = i
  · exact .inr (by rw [hi]; simp)
  · have := (hS.same k hk.1 hi).2
    rcases hk.2 with h0 | h0
    · exact .inl (this.symm.trans h0)
    · rw [this] at h0
      rcases List.mem_cons.1 h0 with h0 | h0
      · exact (hi h0).elim
      · exact (hf k hk.1 (by simpa using h0)).elim
theorem NR.at {A : Option Addr} {m c : Nat} (h : NR β i w O e' e (.slice A m c) xs skip) {k : Nat} {x : α} (hx : xs[k]? = some x) : ∃ b o, A = some ⟨b, o, none⟩ ∧ k < m := by
  obtain ⟨rs, L, h1, h2, h3, h4, h5⟩ := h
  have hk : k < rs.length := by rw [h4]; exact lt_of_get hx
  obtain ⟨b, o, cs, h6, h7, _⟩ := Rw.elem (i := i) (O := O) ⟨h1, fun g hg => (h2 g hg).1, h3⟩ (List.getElem?_eq_getElem hk)
  exact ⟨b, o, h6, h7⟩
/-- An inner row is looked at. -/
theorem NR.peek {A : Option Addr} {m c b o : Nat} (h : NR β i w O e' e (.slice A m c) xs none) (hA : A = some ⟨b, o, none⟩) {k : Nat} {x : α} (hx : xs[k]? = some x) :
    ∃ (A' : Option Addr) (c' : Nat), w.cell? ⟨b, o + k * Rp.size α + N.q, none⟩ = some (.slice A' (N.get x).length c') ∧ Vb w (FrS [i] w O) (.slice A' (N.get x).length c') (N.get x) := by
  obtain ⟨rs, L, h1, h2, h3, h4, h5⟩ := h
  have hk : k < rs.length := by rw [h4]; exact lt_of_get hx
  have hr : rs[k]? = some rs[k] := List.getElem?_eq_getElem hk
  obtain ⟨b', o', cs, h6, h7, h8, h9⟩ := Rw.elem (i := i) (O := O) ⟨h1, fun g hg => (h2 g hg).1, h3⟩ hr
  obtain ⟨rfl, rfl⟩ : b = b' ∧ o = o' := by rw [hA] at h6; injection h6 with h6; injection h6 with h6 h7; exact ⟨h6, h7⟩
  have h9' : cs = rs[k].cs := h9
  subst h9'
  obtain ⟨u, hu, hm⟩ := (h5 k rs[k] x hr hx).2 (by simp)
  obtain ⟨A', c', _, rfl, _⟩ := hm.1.chunk
  refine ⟨A', c', cellsAt_get h8 _ _ hu, hm.1.vb.mono fun g hg => ?_⟩
  rcases hg with hg | hg
  · exact ⟨hg.1, .inl hg.2⟩
  · have := (hm.2 g hg).1; exact ⟨this.1, .inr (by rw [this.2]; simp)⟩
theorem NR.stay {A : Option Addr} {m c b o p : Nat} {u : Value} (h : NR β i w O e' e (.slice A m c) xs skip) (hA : A = some ⟨b, o, none⟩) (hS : St T w O w' O') (hi : ¬ T i) (hc : w.cell? ⟨b, p, none⟩ = some u) : w'.cell? ⟨b, p, none⟩ = some u := by
  obtain ⟨rs, L, h1, h2, h3, h4, h5⟩ := h
  subst hA
  have := hS.same b (h1.lt b rfl).2 (by rw [(h2 b rfl).1]; exact hi)
  rw [← hc]
  unfold World.cell?
  rw [this.1]
end
section
variable {P : Program} {n : Nat} {ops : Array Oper} {Q : Post} {rest : List Oper} {l : Env} {w : World} {d d1 d2 : Tmp} {ty ty2 : TypeId} {pos pos2 : String} {aft aft2 : Array Edge}
theorem labFresh3 (O : Lab) (n a b d : Nat) : ∃ j, j ≠ 0 ∧ j ≠ a ∧ j ≠ b ∧ j ≠ d ∧ ∀ k, k < n → O k ≠ j := by
  obtain ⟨c, hc⟩ := labBound O n
  exact ⟨c + a + b + d + 1, by omega, by omega, by omega, by omega, fun k hk => by have := hc k hk; omega⟩
/-- append of a row of rows to a row of rows: the elements go over. -/
theorem l_appendNN {α β : Type} [Rp α] [Rp β] [N : NestAt α β] {i j : Nat} {O : Lab} {t e' e : TypeId} [TSlice P t e'] {z : Value} {size bytes : Nat} [TInfo P e' z size bytes] (hsize : size = Rp.size α) {x y : Operand} {v u : Value} {xs ys : List α} (hR : NR β i w O e' e v xs none) (hU : NR β j w O e' e u ys none) (hji : j ≠ i) (hx : opv l x = some v) (hy : opv l y = some u)
    (hz0 : 0 < size) (hb : (xs.length + ys.length) * bytes ≤ 140737488355328) (h63 : xs.length + ys.length ≤ 9223372036854775807) (hd : Nat.blt d n = true)
    (h : ∀ A c w' O', St (fun q => q = i ∨ q = j) w O w' O' → NR β i w' O' e' e (.slice A (xs ++ ys).length c) (xs ++ ys) none → owp P n ops Q rest ((d, .slice A (xs ++ ys).length c) :: l) w') :
    owp P n ops Q (⟨some d, .call { callee := .builtin .append, args := #[x, y], argTypes := #[t, t] }, ty, pos, aft, none⟩ :: rest) l w := by
  obtain ⟨q1, hq0, hqi, hqj, hf1⟩ := labFresh O w.heap.size i j
  obtain ⟨q2, hr0, hri, hrj, hrq, hf2⟩ := labFresh3 O w.heap.size i j q1
  have hi0 : i ≠ 0 := by obtain ⟨_, _, _, _, h, _⟩ := hR; exact h
  have hj0 : j ≠ 0 := by obtain ⟨_, _, _, _, h, _⟩ := hU; exact h
  obtain ⟨rs, O1, hS1, hRw, hN⟩ := hR.opn q1 hq0 hqi
  have hU1 := hU.st hS1 (fun h => hi0 h.symm) hji
  obtain ⟨rs', O2, hS2, hUw, hM⟩ := hU1.opn q2 hr0 hrj
  have hRw2 := hRw.st hS2 (fun h => hj0 h.symm) (Ne.symm hji)
  have hN2 := hN.st hS2 (fun h => hj0 h.symm) hqj
  have hl1 : rs.length = xs.length := by obtain ⟨⟨_, h, _⟩, _⟩ := hN; exact h
  have hl2 : rs'.length = ys.length := by obtain ⟨⟨_, h, _⟩, _⟩ := hM; exact h
  obtain ⟨O3, hS3, hN3⟩ := Nest.app hN2 hM hrq
  have hRw3 := hRw2.st hS3 (fun h => hr0 h.symm) (Ne.symm hri)
  have hUw3 := hUw.st hS3 (fun h => hr0 h.symm) (Ne.symm hrj)
  refine l_append (α := Raw (Rp.isAgg α) (Rp.size α)) hsize hRw3 hUw3.rd hx hy hz0 (by rw [hl1, hl2]; exact hb) (by rw [hl1, hl2]; exact h63) hd fun A c w' O4 hS4 hR4 => ?_
  have hN4 := hN3.st hS4 (fun h => hi0 h.symm) hqi
  obtain ⟨O5, hS5, h5⟩ := NR.shut hR4 hN4 hqi
  have hle : (rs ++ rs').length = (xs ++ ys).length := by simp [hl1, hl2]
  rw [hle] at h5 ⊢
  refine h A c w' O5 ⟨(hS5.os.trans hS4.os), (hS5.tape.trans hS4.tape), (hS5.output.trans hS4.output), Nat.le_trans hS4.size hS5.size, fun k hk hT => ?_⟩ h5
  obtain ⟨_, e1⟩ := hS1.same k hk fun h => hT (.inl h)
  obtain ⟨_, e2⟩ := hS2.same k hk (by rw [e1]; exact fun h => hT (.inr h))
  obtain ⟨_, e3⟩ := hS3.same k hk (by rw [e2, e1]; exact hf2 k hk)
  obtain ⟨f4, e4⟩ := hS4.same k hk (by rw [e3, e2, e1]; exact fun h => hT (.inl h))
  obtain ⟨f5, e5⟩ := hS5.same k (Nat.lt_of_lt_of_le hk hS4.size) (by rw [e4, e3, e2, e1]; exact hf1 k hk)
  exact ⟨f5.trans f4, by rw [e5, e4, e3, e2, e1]⟩
end
end
section
open Go Go.RowKit
/-- A row of rows whose blocks lie in M. -/
def NRm {α : Type} (β : Type) [Rp α] [Rp β] [N : NestAt α β] (w : World) (F M : Nat → Prop) (e' e : TypeId) (v : Value) (xs : List α) : Prop :=
  ∃ (rs : List (Raw (Rp.isAgg α) (Rp.size α))) (L : Lab), RwM w F (fun b => M b ∧ L b = 0) e' v rs ∧ rs.length = xs.length ∧
    ∀ (k : Nat) (r : Raw (Rp.isAgg α) (Rp.size α)) (x : α), rs[k]? = some r → xs[k]? = some x → Rp.R w F (r.cs.set N.q (.slice none 0 0)) (N.put x []) ∧ ∃ u, r.cs[N.q]? = some u ∧ RwM w F (fun b => M b ∧ L b = k + 1) e u (N.get x)
section
variable {α β : Type} [Rp α] [Rp β] [N : NestAt α β] {i : Nat} {w w' : World} {O : Lab} {e' e : TypeId} {v : Value} {xs : List α} {F M F' M' : Nat → Prop}
theorem NRm.agree (h : NRm β w F M e' e v xs) (h1 : Agree F w w') (h2 : Agree M w w') : NRm β w' F M e' e v xs := by
  obtain ⟨rs, L, a, b, c⟩ := h
  refine ⟨rs, L, a.agree h1 fun k hk => h2 k hk.1, b, fun k r x g1 g2 => ?_⟩
  obtain ⟨q, u, hu, hm⟩ := c k r x g1 g2
  exact ⟨Rp.agree q h1, u, hu, hm.agree h1 fun k hk => h2 k hk.1⟩
theorem NRm.mono (h : NRm β w F M e' e v xs) (h1 : ∀ k, F k → F' k) (h2 : ∀ k, M k → M' k) (h3 : ∀ k, F' k → ¬ M' k) : NRm β w F' M' e' e v xs := by
  obtain ⟨rs, L, a, b, c⟩ := h
  refine ⟨rs, L, a.mono h1 (fun k hk => ⟨h2 k hk.1, hk.2⟩) (fun k hf hm => h3 k hf hm.1), b, fun k r x g1 g2 => ?_⟩
  obtain ⟨q, u, hu, hm⟩ := c k r x g1 g2
  exact ⟨Rp.mono q h1, u, hu, hm.mono h1 (fun k hk => ⟨h2 k hk.1, hk.2⟩) fun k hf hm => h3 k hf hm.1⟩
theorem NRm.nr (h : NRm β w F M e' e v xs) (h1 : ∀ k, F k → Fr 0 w O k) (h2 : ∀ k, M k → Fr i w O k) (hi : i ≠ 0) : NR β i w O e' e v xs none := by
  obtain ⟨rs, L, a, b, c⟩ := h.mono h1 h2 (frNe0 hi)
  exact ⟨rs, L, a.1, fun g hg => ⟨(a.2 g hg).1.2, (a.2 g hg).2⟩, hi, b, fun k r x g1 g2 => ⟨(c k r x g1 g2).1, fun _ => (c k r x g1 g2).2⟩⟩
theorem NR.m (h : NR β i w O e' e v xs none) (h1 : ∀ k, Fr 0 w O k → F k) (h2 : ∀ k, Fr i w O k → M k) (h3 : ∀ k, F k → ¬ M k) : NRm β w F M e' e v xs := by
  obtain ⟨rs, L, a, b, hi, c, d⟩ := h
  have h' : NRm β w (Fr 0 w O) (Fr i w O) e' e v xs := ⟨rs, L, ⟨a, fun g hg => ⟨⟨(a.lt g hg).2, (b g hg).1⟩, (b g hg).2⟩⟩, c, fun k r x g1 g2 => ⟨(d k r x g1 g2).1, (d k r x g1 g2).2 (by simp)⟩⟩
  exact h'.mono h1 h2 h3
end
end
section
open Go Go.RowKit
section
variable {P : Program} {n : Nat} {ops : Array Oper} {Q : Post} {rest : List Oper} {l : Env} {w : World} {d : Tmp} {ty : TypeId} {pos : String} {aft : Array Edge}
/-- A store into an element of an inner row. -/
theorem l_setNI {α β : Type} [Rp α] [Rp β] [N : NestAt α β] {i : Nat} {O : Lab} {t e' e : TypeId} {z : Value} {size bytes : Nat} [TInfo P t z size bytes] {x y : Operand} {b o b1 o1 k k1 off m c c1 : Nat} {A A1 : Option Addr} {u : Value} {a : α} {f f' : β} {xs : List α} (hR : NR β i w O e' e (.slice A m c) xs none) (hA : A = some ⟨b, o, none⟩) (hk : xs[k]? = some a)
    (hcell : w.cell? ⟨b, o + k * Rp.size α + N.q, none⟩ = some (.slice A1 (N.get a).length c1)) (hA1 : A1 = some ⟨b1, o1, none⟩) (hk1 : (N.get a)[k1]? = some f)
    (hx : opv l x = some (.pointer (some ⟨b1, o1 + k1 * Rp.size β + off, none⟩))) (hy : opv l y = some u) (hsz : u.cells.toList.length = size) (hoff : off + size ≤ Rp.size β) (h1 : ∀ v ∈ u.cells.toList, v.oneCell' = true) (hqn : N.q < Rp.size α)
    (hnew : ∀ w' O' ce, Rp.R w' (Fr 0 w' O') ce f → Rp.R w' (Fr 0 w' O') (setFrom ce off u.cells.toList) f')
    (h : ∀ w' O', St (eT i) w O w' O' → NR β i w' O' e' e (.slice A m c) (xs.set k (N.put a ((N.get a).set k1 f'))) none → owp P n ops Q rest l w') : owp P n ops Q (⟨none, .store t x y, ty, pos, aft, none⟩ :: rest) l w := by
  obtain ⟨q1, hq0, hqi, _, hf1⟩ := labFresh O w.heap.size i 0
  obtain ⟨q2, hr0, hri, hrq, hf2⟩ := labFresh O w.heap.size i q1
  have hi0 : i ≠ 0 := by obtain ⟨_, _, _, _, h, _⟩ := hR; exact h
  obtain ⟨rs, O1, hS1, hRw, hN⟩ := hR.opn q1 hq0 hqi
  have hlen : rs.length = xs.length := by obtain ⟨⟨_, h, _⟩, _⟩ := hN; exact h
  have hkr : k < rs.length := by rw [hlen]; exact lt_of_get hk
  have hr : rs[k]? = some rs[k] := List.getElem?_eq_getElem hkr
  obtain ⟨b', o', cs, h6, h7, h8, h9⟩ := Rw.elem hRw hr
  obtain ⟨rfl, rfl⟩ : b = b' ∧ o = o' := by rw [hA] at h6; injection h6 with h6; injection h6 with h6 h7; exact ⟨h6, h7⟩
  have e9 : cs = rs[k].cs := h9
  subst e9
  obtain ⟨O2, v, hS2, hv, hN2, hI⟩ := hN.take hr hk q2 hr0 hrq
  obtain rfl : v = .slice A1 (N.get a).length c1 := by
    have := cellsAt_get h8 N.q v hv
    exact Option.some.inj (this.symm.trans hcell)
  have hR2 := hRw.st hS2 (Ne.symm hq0) (Ne.symm hqi)
  refine l_setPart (α := β) hI hA1 hk1 hx hy hsz hoff h1 (hnew w O2) fun w' hS3 hI3 => ?_
  have hR3 := hR2.st hS3 (Ne.symm hr0) (Ne.symm hri)
  have hN3 := hN2.st hS3 (Ne.symm hr0) (Ne.symm hrq)
  have hsame : rs[k].cs = rs[k].cs.set N.q (.slice A1 (N.get a).length c1) := by
    refine List.ext_getElem? fun p => ?_
    rw [List.getElem?_set]
    split
    · rename_i hp
      subst hp
      split
      · exact hv
      · rename_i hlt
        rw [rs[k].len] at hlt
        exact absurd hqn hlt
    · rfl
  obtain ⟨O4, hS4, hN4⟩ := hN3.put (r' := rs[k]) hr hk hsame hqn hI3 hrq
  have hset : rs.set k rs[k] = rs := by
    refine List.ext_getElem? fun p => ?_
    rw [List.getElem?_set]
    split
    · rename_i hp
      subst hp
      exact hr.symm
    · rfl
  rw [hset] at hN4
  have hR4 := hR3.st hS4 (Ne.symm hr0) (Ne.symm hri)
  obtain ⟨O5, hS5, h5⟩ := NR.shut hR4 hN4 hqi
  refine h w' O5 ⟨hS5.os.trans (hS4.os.trans hS3.os), hS5.tape.trans (hS4.tape.trans hS3.tape), hS5.output.trans (hS4.output.trans hS3.output), Nat.le_trans hS3.size hS5.size, fun g hg hT => ?_⟩ h5
  have n1 : O g ≠ q1 := hf1 g hg
  have n2 : O g ≠ q2 := hf2 g hg
  obtain ⟨_, a1⟩ := hS1.same g hg hT
  obtain ⟨_, a2⟩ := hS2.same g hg (by rw [a1]; exact n1)
  obtain ⟨f3, a3⟩ := hS3.same g hg (by rw [a2, a1]; exact n2)
  have hg' : g < w'.heap.size := Nat.lt_of_lt_of_le hg hS3.size
  obtain ⟨_, a4⟩ := hS4.same g hg' (by rw [a3, a2, a1]; exact n2)
  obtain ⟨_, a5⟩ := hS5.same g hg' (by rw [a4, a3, a2, a1]; exact n1)
  exact ⟨f3, by rw [a5, a4, a3, a2, a1]⟩
end
end
section
open Go Go.RowKit
section
variable {P : Program} {n : Nat} {ops : Array Oper} {Q : Post} {rest : List Oper} {l : Env} {w : World} {d : Tmp} {ty : TypeId} {pos : String} {aft : Array Edge}
theorem l_ins {t : TypeId} {m y u : Operand} (h : owp P n ops Q (⟨none, .mapUpdate t m y u, ty, pos, aft, none⟩ :: rest) l w) : owp P n ops Q (⟨none, .insert t m y u, ty, pos, aft, none⟩ :: rest) l w := fun ac d ha => h ac d ha
end
end
section
open Go Go.RowKit
theorem bytes_beq (a b : ByteArray) : (a.toList == b.toList) = decide (a = b) := by
  rw [ByteArray.toList_eq, ByteArray.toList_eq]
  by_cases h : a = b
  · subst h; simp
  · rw [decide_eq_false h]
    have : a.data.toList ≠ b.data.toList := fun e => h (by cases a; cases b; simp only [ByteArray.mk.injEq]; exact Array.toList_inj.1 e)
    simpa using this
section
variable {P : Program} {l : Env} {w : World} {dst : Option Tmp} {ty : TypeId} {pos : String} {aft : Array Edge}
theorem ev_tn {t u : TypeId} [h : TStr P t] {x y : Operand} {a b : ByteArray} (hx : opv l x = some (.string a)) (hy : opv l y = some (.string b)) : Ev P ⟨dst, .binOp .neq t x y u, ty, pos, aft, none⟩ l w (.bool (decide (a ≠ b))) := fun _ _ e ha => by
  simp [execOp, ha.eval hx, ha.eval hy, eqGuard, binOp, Op.stringOp, bytes_beq]
end
end
section
open Go Go.RowKit
def catI (a b : ByteArray) : Option ByteArray := if a.size + b.size ≤ 9223372036854775807 then some (a ++ b) else none
theorem catI_sz {a b r : ByteArray} (h : catI a b = some r) : r.size ≤ 9223372036854775807 := by
  obtain ⟨h1, rfl⟩ := ite_some h
  rw [ByteArray.size_append]; exact h1
section
variable {P : Program} {l : Env} {w : World} {dst : Option Tmp} {ty : TypeId} {pos : String} {aft : Array Edge}
theorem ev_cat {t u : TypeId} {x y : Operand} {a b c : ByteArray} (he : catI a b = some c) (hx : opv l x = some (.string a)) (hy : opv l y = some (.string b)) : Ev P ⟨dst, .binOp .add t x y u, ty, pos, aft, none⟩ l w (.string c) := fun _ _ e ha => by
  obtain ⟨h1, rfl⟩ := ite_some he
  simp [execOp, ha.eval hx, ha.eval hy, eqGuard, binOp, Op.stringOp]
  omega
end
section
variable {P : Program} {n : Nat} {ops : Array Oper} {Q : Post} {rest : List Oper} {l : Env} {w : World} {d : Tmp} {ty : TypeId} {pos : String} {aft : Array Edge}
theorem o_cat {t u : TypeId} {x y : Operand} {a b c : ByteArray} (he : catI a b = some c) (hx : opv l x = some (.string a)) (hy : opv l y = some (.string b)) (hd : Nat.blt d n = true) (h : owp P n ops Q rest ((d, .string c) :: l) w) : owp P n ops Q (⟨some d, .binOp .add t x y u, ty, pos, aft, none⟩ :: rest) l w := owp_ev (ev_cat he hx hy) hd h
variable {S : World → Prop} {r : List (Nat × Bool)} {i : Nat}
theorem h_cat {t u : TypeId} {x y : Operand} {a b c : ByteArray} (he : catI a b = some c) (hi : ops[i]? = some ⟨some d, .binOp .add t x y u, ty, pos, aft, none⟩) (hx : opv l x = some (.string a)) (hy : opv l y = some (.string b)) (hd : Nat.blt d n = true) (h : hwp P n ops Q S r ((d, .string c) :: l) w) : hwp P n ops Q S ((i, true) :: r) l w := hwp_o hi (hwq_ev (fun _ _ => ev_cat he hx hy) hd h)
end
end
section
open Go Go.RowKit
section
variable {α : Type} [Rp α] {w w' : World} {O : Lab} {ls ls' : List Nat} {v : Value} {x : α}
theorem Vb.subS (h : Vb w (FrS ls w O) v x) (hl : ∀ q ∈ ls, q ∈ ls') : Vb w (FrS ls' w O) v x := h.mono fun _ hk => ⟨hk.1, hk.2.imp_right (hl _)⟩
theorem Vb.all0 (h : Vb w (All w) v x) : Vb w (Fr 0 w (fun _ => 0)) v x := h.mono fun _ hk => ⟨hk, rfl⟩
theorem upA_frS (hE : Ext w w') : upA (FrS ls w O) w w' = FrS ls w' (upO O w.heap.size fun _ => 0) := by
  funext k
  apply propext
  constructor
  · rintro (h | h)
    · exact ⟨Nat.lt_of_lt_of_le h.1 hE.size, by rw [upO_old h.1]; exact h.2⟩
    · exact ⟨h.2, .inl (upO_new h.1)⟩
  · intro h
    rcases Nat.lt_or_ge k w.heap.size with hlt | hge
    · exact .inl ⟨hlt, by have := h.2; rwa [upO_old hlt] at this⟩
    · exact .inr ⟨hge, h.1⟩
theorem chunksInts {F G : Nat → Prop} : ∀ {xs : List Int} {cells : List Value}, Chunks w F cells xs → Chunks w G cells xs
  | [], _, h => h
  | _ :: _, _, ⟨cs, rest, he, hr, hc⟩ => ⟨cs, rest, he, hr, chunksInts hc⟩
theorem RowR.ints {F A : Nat → Prop} {e : TypeId} {xs : List Int} (h : RowR w w' F e v xs) : RowR w w' (upA A w w') e v xs := by
  obtain ⟨G, _, cells, q1, q2, q3⟩ := h
  exact ⟨fun _ => False, fun _ h => h.elim, cells, q1, chunksInts q2, fun _ _ h => h⟩
end
section
variable {P : Program} {n : Nat} {ops : Array Oper} {Q : Post} {rest : List Oper} {l : Env} {w : World} {d : Tmp} {ty : TypeId} {pos : String} {aft : Array Edge}
/-- A call that is lent what has some labels; so is its result. -/
theorem l_callS {f : FuncId} [Callable P f] {xs : List Operand} {vs : List Value} {ts : Array TypeId} {O : Lab} {ls : List Nat} {R : World → (Nat → Prop) → Value → Prop} (hc : Fn P f vs w fun v w' => Ext w w' ∧ R w' (upA (FrS ls w O) w w') v) (hx : opvs l xs = some vs) (hd : Nat.blt d n = true)
    (h : ∀ v w' O', St nT w O w' O' → R w' (FrS ls w' O') v → owp P n ops Q rest ((d, v) :: l) w') : owp P n ops Q (⟨some d, .call { callee := .value (.func f), args := xs.toArray, argTypes := ts }, ty, pos, aft, none⟩ :: rest) l w :=
  owp_call hx hd hc fun v w' ⟨hE, hR⟩ => h v w' (upO O w.heap.size fun _ => 0) (hE.st O _) (by rwa [upA_frS hE] at hR)
/-- A new row of one row. -/
theorem l_bsliceNS {β : Type} [Rp β] (i : Nat) (hi0 : i ≠ 0) {j : Nat} {O : Lab} {t e' e : TypeId} [TSlice P t e'] {z : Value} {size bytes : Nat} [TInfo P e' z size bytes] (hsize : size = 1) {y : Operand} {u : Value} {ys : List β} (hw : Rw j w O e u ys) (hji : j ≠ i)
    (hy : opv l y = some u) (hd : Nat.blt d n = true)
    (h : ∀ g w' O', St (eT j) w O w' O' → NR β i w' O' e' e (.slice (some ⟨g, 0, none⟩) [ys].length 1) [ys] none → owp P n ops Q rest ((d, .slice (some ⟨g, 0, none⟩) [ys].length 1) :: l) w') :
    owp P n ops Q (⟨some d, .buildSlice t 1 #[(0, y)], ty, pos, aft, none⟩ :: rest) l w := by
  obtain ⟨q, hq0, hqi, hqj, hf⟩ := labFresh O w.heap.size i j
  have hj0 : j ≠ 0 := hw.2.2
  let r0 : Raw false 1 := ⟨[u], rfl, fun v hv => by
    have : v = u := by simpa using hv
    obtain ⟨A, c, hu⟩ := hw.form
    rw [this, hu]; rfl⟩
  have hr0 : Rp.R w (Fr 0 w O) (r0.cs.set (NestAt.q (List β) β) (.slice none 0 0)) (NestAt.put (β := β) ys []) := (Vb.nil w _).cells1
  obtain ⟨O2, hS2, hN2⟩ := Nest.snoc (α := List β) (r := r0) (x := ys) (Nest.nil (α := List β) (β := β) (a := false) (n := 1) (w := w) (O := O) (e := e) hq0) hr0 rfl hw (Ne.symm hqj)
  have hv0 : Vb w (Fr 0 w O2) u r0 := show Rp.R w (Fr 0 w O2) [u] r0 from rfl
  refine l_bslice (α := Raw false 1) i hi0 O2 (ps := [(0, y)]) (vs := [u]) (xs := [r0]) hsize rfl (by simp [opvs, hy]) rfl ⟨hv0, trivial⟩ (by omega) (by omega) hd fun g w' O3 hS3 hR3 => ?_
  have hN3 := hN2.st hS3 (fun h => h) (fun h => h)
  obtain ⟨O4, hS4, h4⟩ := NR.shut (α := List β) hR3 hN3 hqi
  exact h g w' O4 (St.via (j := q) hS2 hS3 hS4 hf (fun _ h => h) (fun _ h => h.elim) (fun _ h => .inr h)) h4
end
end
section
open Go Go.RowKit
theorem tfield {P : Program} {t f off s : Nat} {fs : Array Field} {fd : Field} (h1 : P.underlying t = some (.struct fs)) (h2 : fs[f]? = some fd) (h3 : fd.offset = off) (h4 : (P.info? fd.type).map (·.size) = some s) (h5 : s ≠ 0) :
    ∃ fs fd i, P.underlying t = some (.struct fs) ∧ fs[f]? = some fd ∧ fd.offset = off ∧ P.info? fd.type = some i ∧ i.size ≠ 0 := by
  obtain ⟨i, hi, hs⟩ := Option.map_eq_some_iff.1 h4
  exact ⟨fs, fd, i, h1, h2, h3, hi, by rw [hs]; exact h5⟩
instance : TInt Tryz.prog 3 .i64 := ⟨Tryz.underlying3⟩
instance : TOne Tryz.prog 3 := ⟨⟨_, Tryz.underlying3, rfl⟩⟩
instance : TInfo Tryz.prog 3 (.int .i64 0) 1 8 := ⟨info_parts (by kernel_rfl), rfl⟩
instance : TOne Tryz.prog 4 := ⟨⟨_, Tryz.underlying4, rfl⟩⟩
instance : TInfo Tryz.prog 4 (.bool false) 1 1 := ⟨info_parts (by kernel_rfl), rfl⟩
instance : TInt Tryz.prog 5 .u8 := ⟨Tryz.underlying5⟩
instance : TOne Tryz.prog 5 := ⟨⟨_, Tryz.underlying5, rfl⟩⟩
instance : TInfo Tryz.prog 5 (.int .u8 0) 1 1 := ⟨info_parts (by kernel_rfl), rfl⟩
instance : TStr Tryz.prog 9 := ⟨Tryz.underlying9⟩
instance : TOne Tryz.prog 9 := ⟨⟨_, Tryz.underlying9, rfl⟩⟩
instance : TInfo Tryz.prog 9 (.string (ByteArray.mk #[])) 1 16 := ⟨info_parts (by kernel_rfl), rfl⟩
instance : TAgg Tryz.prog 22 := ⟨⟨_, Tryz.underlying22, rfl⟩⟩
instance : TSlice Tryz.prog 24 3 := ⟨Tryz.underlying24⟩
instance : TOne Tryz.prog 24 := ⟨⟨_, Tryz.underlying24, rfl⟩⟩
instance : TInfo Tryz.prog 24 (.slice none 0 0) 1 24 := ⟨info_parts (by kernel_rfl), rfl⟩
instance : TAgg Tryz.prog 26 := ⟨⟨_, Tryz.underlying26, rfl⟩⟩
instance : TInfo Tryz.prog 26 (.agg #[(.int .i64 0), (.int .i64 0)]) 2 16 := ⟨info_parts (by kernel_rfl), rfl⟩
instance : TPlaces Tryz.prog 26 [(0, 1), (1, 1)] := ⟨⟨_, Tryz.underlying26, fun _ => by kernel_rfl⟩⟩
instance : TField Tryz.prog 26 0 0 := ⟨tfield (s := 1) Tryz.underlying26 rfl rfl (by kernel_rfl) (by decide)⟩
instance : TField Tryz.prog 26 1 1 := ⟨tfield (s := 1) Tryz.underlying26 rfl rfl (by kernel_rfl) (by decide)⟩
instance : TSlice Tryz.prog 27 26 := ⟨Tryz.underlying27⟩
instance : TOne Tryz.prog 27 := ⟨⟨_, Tryz.underlying27, rfl⟩⟩
instance : TInfo Tryz.prog 27 (.slice none 0 0) 1 24 := ⟨info_parts (by kernel_rfl), rfl⟩
instance : TSlice Tryz.prog 28 35 := ⟨Tryz.underlying28⟩
instance : TOne Tryz.prog 28 := ⟨⟨_, Tryz.underlying28, rfl⟩⟩
instance : TInfo Tryz.prog 28 (.slice none 0 0) 1 24 := ⟨info_parts (by kernel_rfl), rfl⟩
instance : TAgg Tryz.prog 30 := ⟨⟨_, Tryz.underlying30, rfl⟩⟩
instance : TInfo Tryz.prog 30 (.agg #[(.slice none 0 0), (.slice none 0 0), (.slice none 0 0), (.slice none 0 0)]) 4 96 := ⟨info_parts (by kernel_rfl), rfl⟩
instance : TPlaces Tryz.prog 30 [(0, 1), (1, 1), (2, 1), (3, 1)] := ⟨⟨_, Tryz.underlying30, fun _ => by kernel_rfl⟩⟩
instance : TField Tryz.prog 30 0 0 := ⟨tfield (s := 1) Tryz.underlying30 rfl rfl (by kernel_rfl) (by decide)⟩
instance : TField Tryz.prog 30 1 1 := ⟨tfield (s := 1) Tryz.underlying30 rfl rfl (by kernel_rfl) (by decide)⟩
instance : TField Tryz.prog 30 2 2 := ⟨tfield (s := 1) Tryz.underlying30 rfl rfl (by kernel_rfl) (by decide)⟩
instance : TField Tryz.prog 30 3 3 := ⟨tfield (s := 1) Tryz.underlying30 rfl rfl (by kernel_rfl) (by decide)⟩
instance : TAgg Tryz.prog 32 := ⟨⟨_, Tryz.underlying32, rfl⟩⟩
instance : TInfo Tryz.prog 32 (.agg #[(.slice none 0 0), (.int .i64 0), (.int .i64 0)]) 3 40 := ⟨info_parts (by kernel_rfl), rfl⟩
instance : TPlaces Tryz.prog 32 [(0, 1), (1, 1), (2, 1)] := ⟨⟨_, Tryz.underlying32, fun _ => by kernel_rfl⟩⟩
instance : TField Tryz.prog 32 0 0 := ⟨tfield (s := 1) Tryz.underlying32 rfl rfl (by kernel_rfl) (by decide)⟩
instance : TField Tryz.prog 32 1 1 := ⟨tfield (s := 1) Tryz.underlying32 rfl rfl (by kernel_rfl) (by decide)⟩
instance : TField Tryz.prog 32 2 2 := ⟨tfield (s := 1) Tryz.underlying32 rfl rfl (by kernel_rfl) (by decide)⟩
instance : TSlice Tryz.prog 33 32 := ⟨Tryz.underlying33⟩
instance : TOne Tryz.prog 33 := ⟨⟨_, Tryz.underlying33, rfl⟩⟩
instance : TInfo Tryz.prog 33 (.slice none 0 0) 1 24 := ⟨info_parts (by kernel_rfl), rfl⟩
instance : TAgg Tryz.prog 35 := ⟨⟨_, Tryz.underlying35, rfl⟩⟩
instance : TInfo Tryz.prog 35 (.agg #[(.string (ByteArray.mk #[])), (.int .i64 0), (.slice none 0 0), (.slice none 0 0)]) 4 72 := ⟨info_parts (by kernel_rfl), rfl⟩
instance : TPlaces Tryz.prog 35 [(0, 1), (1, 1), (2, 1), (3, 1)] := ⟨⟨_, Tryz.underlying35, fun _ => by kernel_rfl⟩⟩
instance : TField Tryz.prog 35 0 0 := ⟨tfield (s := 1) Tryz.underlying35 rfl rfl (by kernel_rfl) (by decide)⟩
instance : TField Tryz.prog 35 1 1 := ⟨tfield (s := 1) Tryz.underlying35 rfl rfl (by kernel_rfl) (by decide)⟩
instance : TField Tryz.prog 35 2 2 := ⟨tfield (s := 1) Tryz.underlying35 rfl rfl (by kernel_rfl) (by decide)⟩
instance : TField Tryz.prog 35 3 3 := ⟨tfield (s := 1) Tryz.underlying35 rfl rfl (by kernel_rfl) (by decide)⟩
instance : TSlice Tryz.prog 36 43 := ⟨Tryz.underlying36⟩
instance : TIface Tryz.prog 38 := ⟨⟨_, Tryz.underlying38⟩⟩
instance : TSlice Tryz.prog 41 24 := ⟨Tryz.underlying41⟩
instance : TOne Tryz.prog 41 := ⟨⟨_, Tryz.underlying41, rfl⟩⟩
instance : TInfo Tryz.prog 41 (.slice none 0 0) 1 24 := ⟨info_parts (by kernel_rfl), rfl⟩
instance : TAgg Tryz.prog 43 := ⟨⟨_, Tryz.underlying43, rfl⟩⟩
instance : TInfo Tryz.prog 43 (.agg #[(.slice none 0 0), (.slice none 0 0), (.slice none 0 0)]) 3 72 := ⟨info_parts (by kernel_rfl), rfl⟩
instance : TPlaces Tryz.prog 43 [(0, 1), (1, 1), (2, 1)] := ⟨⟨_, Tryz.underlying43, fun _ => by kernel_rfl⟩⟩
instance : TField Tryz.prog 43 0 0 := ⟨tfield (s := 1) Tryz.underlying43 rfl rfl (by kernel_rfl) (by decide)⟩
instance : TField Tryz.prog 43 1 1 := ⟨tfield (s := 1) Tryz.underlying43 rfl rfl (by kernel_rfl) (by decide)⟩
instance : TField Tryz.prog 43 2 2 := ⟨tfield (s := 1) Tryz.underlying43 rfl rfl (by kernel_rfl) (by decide)⟩
instance : TInt Tryz.prog 45 .i64 := ⟨Tryz.underlying45⟩
instance : TSlice Tryz.prog 63 80 := ⟨Tryz.underlying63⟩
instance : TOne Tryz.prog 63 := ⟨⟨_, Tryz.underlying63, rfl⟩⟩
instance : TInfo Tryz.prog 63 (.slice none 0 0) 1 24 := ⟨info_parts (by kernel_rfl), rfl⟩
instance : TSlice Tryz.prog 64 65 := ⟨Tryz.underlying64⟩
instance : TOne Tryz.prog 64 := ⟨⟨_, Tryz.underlying64, rfl⟩⟩
instance : TInfo Tryz.prog 64 (.slice none 0 0) 1 24 := ⟨info_parts (by kernel_rfl), rfl⟩
instance : TSlice Tryz.prog 65 4 := ⟨Tryz.underlying65⟩
instance : TOne Tryz.prog 65 := ⟨⟨_, Tryz.underlying65, rfl⟩⟩
instance : TInfo Tryz.prog 65 (.slice none 0 0) 1 24 := ⟨info_parts (by kernel_rfl), rfl⟩
instance : TInfo Tryz.prog 67 (.agg #[(.slice none 0 0), (.slice none 0 0), (.slice none 0 0), (.slice none 0 0), (.slice none 0 0), (.slice none 0 0), (.slice none 0 0), (.slice none 0 0), (.slice none 0 0), (.slice none 0 0), (.slice none 0 0), (.int .i64 0), (.int .i64 0), (.bool false)]) 14 288 := ⟨info_parts (by kernel_rfl), rfl⟩
instance : TPlaces Tryz.prog 67 [(0, 4), (4, 1), (5, 1), (6, 3), (9, 1), (10, 1), (11, 1), (12, 1), (13, 1)] := ⟨⟨_, Tryz.underlying67, fun _ => by kernel_rfl⟩⟩
instance : TField Tryz.prog 67 0 0 := ⟨tfield (s := 4) Tryz.underlying67 rfl rfl (by kernel_rfl) (by decide)⟩
instance : TField Tryz.prog 67 1 4 := ⟨tfield (s := 1) Tryz.underlying67 rfl rfl (by kernel_rfl) (by decide)⟩
instance : TField Tryz.prog 67 2 5 := ⟨tfield (s := 1) Tryz.underlying67 rfl rfl (by kernel_rfl) (by decide)⟩
instance : TField Tryz.prog 67 3 6 := ⟨tfield (s := 3) Tryz.underlying67 rfl rfl (by kernel_rfl) (by decide)⟩
instance : TField Tryz.prog 67 4 9 := ⟨tfield (s := 1) Tryz.underlying67 rfl rfl (by kernel_rfl) (by decide)⟩
instance : TField Tryz.prog 67 5 10 := ⟨tfield (s := 1) Tryz.underlying67 rfl rfl (by kernel_rfl) (by decide)⟩
instance : TField Tryz.prog 67 6 11 := ⟨tfield (s := 1) Tryz.underlying67 rfl rfl (by kernel_rfl) (by decide)⟩
instance : TField Tryz.prog 67 7 12 := ⟨tfield (s := 1) Tryz.underlying67 rfl rfl (by kernel_rfl) (by decide)⟩
instance : TField Tryz.prog 67 8 13 := ⟨tfield (s := 1) Tryz.underlying67 rfl rfl (by kernel_rfl) (by decide)⟩
instance : TSlice Tryz.prog 80 9 := ⟨Tryz.underlying80⟩
instance : TOne Tryz.prog 80 := ⟨⟨_, Tryz.underlying80, rfl⟩⟩
instance : TInfo Tryz.prog 80 (.slice none 0 0) 1 24 := ⟨info_parts (by kernel_rfl), rfl⟩
instance : TSlice Tryz.prog 91 27 := ⟨Tryz.underlying91⟩
instance : TInt Tryz.prog 100 .u64 := ⟨Tryz.underlying100⟩
instance : TOne Tryz.prog 108 := ⟨⟨_, Tryz.underlying108, rfl⟩⟩
instance : TInfo Tryz.prog 108 (.map none) 1 8 := ⟨info_parts (by kernel_rfl), rfl⟩
instance : TInfo Tryz.prog 109 (.map none) 1 8 := ⟨info_parts (by kernel_rfl), rfl⟩
instance : Callable Tryz.prog 5 := ⟨⟨_, Tryz.func5, rfl, by decide⟩⟩
instance : Callable Tryz.prog 6 := ⟨⟨_, Tryz.func6, rfl, by decide⟩⟩
instance : Callable Tryz.prog 7 := ⟨⟨_, Tryz.func7, rfl, by decide⟩⟩
instance : Callable Tryz.prog 8 := ⟨⟨_, Tryz.func8, rfl, by decide⟩⟩
instance : Callable Tryz.prog 12 := ⟨⟨_, Tryz.func12, rfl, by decide⟩⟩
instance : Callable Tryz.prog 17 := ⟨⟨_, Tryz.func17, rfl, by decide⟩⟩
instance : Callable Tryz.prog 18 := ⟨⟨_, Tryz.func18, rfl, by decide⟩⟩
instance : Callable Tryz.prog 19 := ⟨⟨_, Tryz.func19, rfl, by decide⟩⟩
instance : Callable Tryz.prog 20 := ⟨⟨_, Tryz.func20, rfl, by decide⟩⟩
instance : Callable Tryz.prog 21 := ⟨⟨_, Tryz.func21, rfl, by decide⟩⟩
instance : Callable Tryz.prog 22 := ⟨⟨_, Tryz.func22, rfl, by decide⟩⟩
instance : Callable Tryz.prog 26 := ⟨⟨_, Tryz.func26, rfl, by decide⟩⟩
instance : Callable Tryz.prog 27 := ⟨⟨_, Tryz.func27, rfl, by decide⟩⟩
instance : Callable Tryz.prog 34 := ⟨⟨_, Tryz.func34, rfl, by decide⟩⟩
instance : Callable Tryz.prog 35 := ⟨⟨_, Tryz.func35, rfl, by decide⟩⟩
instance : Callable Tryz.prog 36 := ⟨⟨_, Tryz.func36, rfl, by decide⟩⟩
instance : Callable Tryz.prog 37 := ⟨⟨_, Tryz.func37, rfl, by decide⟩⟩
instance : Callable Tryz.prog 38 := ⟨⟨_, Tryz.func38, rfl, by decide⟩⟩
instance : Callable Tryz.prog 39 := ⟨⟨_, Tryz.func39, rfl, by decide⟩⟩
instance : Callable Tryz.prog 40 := ⟨⟨_, Tryz.func40, rfl, by decide⟩⟩
instance : Callable Tryz.prog 41 := ⟨⟨_, Tryz.func41, rfl, by decide⟩⟩
instance : Callable Tryz.prog 42 := ⟨⟨_, Tryz.func42, rfl, by decide⟩⟩
instance : Callable Tryz.prog 43 := ⟨⟨_, Tryz.func43, rfl, by decide⟩⟩
instance : Callable Tryz.prog 47 := ⟨⟨_, Tryz.func47, rfl, by decide⟩⟩
instance : Callable Tryz.prog 48 := ⟨⟨_, Tryz.func48, rfl, by decide⟩⟩
instance : Callable Tryz.prog 49 := ⟨⟨_, Tryz.func49, rfl, by decide⟩⟩
instance : Callable Tryz.prog 50 := ⟨⟨_, Tryz.func50, rfl, by decide⟩⟩
instance : Callable Tryz.prog 51 := ⟨⟨_, Tryz.func51, rfl, by decide⟩⟩
instance : Callable Tryz.prog 52 := ⟨⟨_, Tryz.func52, rfl, by decide⟩⟩
instance : Callable Tryz.prog 53 := ⟨⟨_, Tryz.func53, rfl, by decide⟩⟩
instance : Callable Tryz.prog 54 := ⟨⟨_, Tryz.func54, rfl, by decide⟩⟩
instance : Callable Tryz.prog 55 := ⟨⟨_, Tryz.func55, rfl, by decide⟩⟩
instance : Callable Tryz.prog 56 := ⟨⟨_, Tryz.func56, rfl, by decide⟩⟩
instance : Callable Tryz.prog 59 := ⟨⟨_, Tryz.func59, rfl, by decide⟩⟩
instance : Callable Tryz.prog 60 := ⟨⟨_, Tryz.func60, rfl, by decide⟩⟩
instance : Callable Tryz.prog 61 := ⟨⟨_, Tryz.func61, rfl, by decide⟩⟩
instance : Callable Tryz.prog 62 := ⟨⟨_, Tryz.func62, rfl, by decide⟩⟩
instance : Callable Tryz.prog 63 := ⟨⟨_, Tryz.func63, rfl, by decide⟩⟩
instance : Callable Tryz.prog 64 := ⟨⟨_, Tryz.func64, rfl, by decide⟩⟩
instance : Callable Tryz.prog 65 := ⟨⟨_, Tryz.func65, rfl, by decide⟩⟩
instance : Callable Tryz.prog 66 := ⟨⟨_, Tryz.func66, rfl, by decide⟩⟩
instance : Callable Tryz.prog 67 := ⟨⟨_, Tryz.func67, rfl, by decide⟩⟩
instance : Callable Tryz.prog 68 := ⟨⟨_, Tryz.func68, rfl, by decide⟩⟩
instance : Callable Tryz.prog 69 := ⟨⟨_, Tryz.func69, rfl, by decide⟩⟩
instance : Callable Tryz.prog 70 := ⟨⟨_, Tryz.func70, rfl, by decide⟩⟩
instance : Callable Tryz.prog 71 := ⟨⟨_, Tryz.func71, rfl, by decide⟩⟩
instance : Callable Tryz.prog 73 := ⟨⟨_, Tryz.func73, rfl, by decide⟩⟩
instance : Callable Tryz.prog 74 := ⟨⟨_, Tryz.func74, rfl, by decide⟩⟩
instance : Callable Tryz.prog 79 := ⟨⟨_, Tryz.func79, rfl, by decide⟩⟩
instance : Callable Tryz.prog 80 := ⟨⟨_, Tryz.func80, rfl, by decide⟩⟩
instance : Callable Tryz.prog 84 := ⟨⟨_, Tryz.func84, rfl, by decide⟩⟩
instance : Callable Tryz.prog 85 := ⟨⟨_, Tryz.func85, rfl, by decide⟩⟩
instance : Callable Tryz.prog 86 := ⟨⟨_, Tryz.func86, rfl, by decide⟩⟩
instance : Callable Tryz.prog 88 := ⟨⟨_, Tryz.func88, rfl, by decide⟩⟩
instance : Callable Tryz.prog 89 := ⟨⟨_, Tryz.func89, rfl, by decide⟩⟩
instance : Callable Tryz.prog 102 := ⟨⟨_, Tryz.func102, rfl, by decide⟩⟩
instance : Mixed Tryz.prog := ⟨by kernel_rfl⟩
end
section
open Go Go.RowKit
attribute [local irreducible] ewp owp hwp hwq Ev Evg Fn retPost Res1
theorem some_of_lt {α : Type} {l : List α} {k : Nat} (h : k < l.length) : ∃ x, l[k]? = some x := ⟨l[k], List.getElem?_eq_getElem h⟩
theorem lt_of_some {α : Type} {l : List α} {k : Nat} {x : α} (h : l[k]? = some x) : k < l.length := (List.getElem?_eq_some_iff.1 h).1
theorem baseInts {w : World} {av bv : Value} {a b : List Int} (ha : V w av a) (hb : V w bv b) :
    Fn Tryz.prog 18 [av, bv] w fun v w' => v = .bool (bof (a = b)) ∧ Ext w w' := by
  obtain ⟨A, ca, rfl⟩ := ha.form
  obtain ⟨B, cb, rfl⟩ := hb.form
  have hal := ha.len
  refine fn_enter Tryz.func18 rfl Tryz.ntmps18 rfl ?_
  by_cases hl : a.length = b.length
  · ((repeat (first | refine e_go ?_ | refine ewp_true rfl ?_ | refine ewp_false rfl ?_)) <;> (refine o_as rfl rfl ?_ <;> (refine o_z ?_)) <;> (repeat (first | refine e_go ?_ | refine ewp_true rfl ?_ | refine ewp_false rfl ?_)) <;> (refine o_mv rfl rfl ?_ <;> refine o_ln rfl rfl ?_ <;> refine o_mv rfl rfl ?_ <;> refine o_ln rfl rfl ?_ <;> (first | refine o_neT rfl rfl rfl ?_ | refine o_neF rfl rfl rfl ?_) <;> (refine o_z ?_)) <;> (repeat (first | refine e_go ?_ | refine ewp_true rfl ?_ | refine ewp_false rfl ?_)) <;> (refine o_mv rfl rfl ?_ <;> refine o_ln rfl rfl ?_ <;> refine o_mv rfl rfl ?_ <;> (refine o_z ?_)) <;> (repeat (first | refine e_go ?_ | refine ewp_true rfl ?_ | refine ewp_false rfl ?_)))
    refine ewp_for (fun k : Nat => [(0, .slice A a.length ca), (1, .slice B b.length cb), (12, .int .i64 (a.length : Int)), (13, .int .i64 (k : Int))])
      (fun k w' => w' = w ∧ k ≤ a.length ∧ a.take k = b.take k) (fun k => a.length - k) 0 ⟨rfl, Nat.zero_le _, rfl⟩ ⟨rfl, rfl, rfl, rfl, trivial⟩ ?_
    rintro k _ ⟨rfl, hk, hh⟩
    by_cases hlt : k < a.length
    · obtain ⟨x, hx⟩ := some_of_lt hlt
      obtain ⟨y, hy⟩ := some_of_lt (l := b) (k := k) (by omega)
      obtain ⟨b1, o1, ce, rfl, _, _, hd1, rfl, _⟩ := ha.elem hx
      obtain ⟨b2, o2, ce, rfl, _, _, hd2, rfl, _⟩ := hb.elem hy
      ((repeat (first | refine e_go ?_ | refine ewp_true rfl ?_ | refine ewp_false rfl ?_)) <;> ((first | refine o_ltT rfl rfl rfl ?_ | refine o_ltF rfl rfl rfl ?_) <;> (refine o_z ?_)) <;> (repeat (first | refine e_go ?_ | refine ewp_true rfl ?_ | refine ewp_false rfl ?_)) <;> (refine o_mv rfl rfl ?_ <;> refine o_as rfl rfl ?_ <;> (refine o_z ?_)) <;> (repeat (first | refine e_go ?_ | refine ewp_true rfl ?_ | refine ewp_false rfl ?_)))
      refine ewp_draw (· = _) [(0, true), (1, true), (2, true), (3, true), (4, true), (5, true), (6, true), (7, true), (8, true)] (by kernel_rfl) rfl (by kernel_rfl) rfl ?_
      (refine h_mv rfl rfl rfl ?_ <;> refine h_mv rfl rfl rfl ?_ <;> refine h_ia rfl rfl rfl rfl ?_ <;> refine h_ldA rfl rfl rfl ?_ <;> refine h_mv rfl rfl rfl ?_ <;> refine h_mv rfl rfl rfl ?_ <;> refine h_ia rfl rfl rfl rfl ?_ <;> refine h_ldA rfl rfl rfl ?_ <;> (first | refine h_neT rfl rfl rfl rfl ?_ | refine h_neF rfl rfl rfl rfl ?_ | refine h_neS rfl rfl rfl rfl (fun _ => ?_) fun _ => ?_) <;> (refine h_z ?_)) <;> (repeat (first | refine e_go ?_ | refine ewp_true rfl ?_ | refine ewp_false rfl ?_))
      · ((repeat (first | refine e_go ?_ | refine ewp_true rfl ?_ | refine ewp_false rfl ?_)) <;> (refine o_as rfl rfl ?_ <;> (refine o_z ?_)) <;> (repeat (first | refine e_go ?_ | refine ewp_true rfl ?_ | refine ewp_false rfl ?_)))
        refine ret1 rfl rfl ⟨?_, Below.refl _ _⟩
        rw [bof_f]
        rintro rfl
        exact absurd (Option.some.inj (hx.symm.trans hy)) (by assumption)
      · ((first | refine o_ic rfl rfl ?_ | refine o_ad rfl rfl rfl ?_) <;> refine o_mv rfl rfl ?_ <;> (refine o_z ?_))
        exact ⟨k + 1, ⟨rfl, rfl, rfl, rfl, trivial⟩, ⟨rfl, by omega, by rw [List.take_add_one, List.take_add_one, hx, hy, hh, show x = y from by omega]⟩, by omega⟩
    · ((repeat (first | refine e_go ?_ | refine ewp_true rfl ?_ | refine ewp_false rfl ?_)) <;> ((first | refine o_ltT rfl rfl rfl ?_ | refine o_ltF rfl rfl rfl ?_) <;> (refine o_z ?_)) <;> (repeat (first | refine e_go ?_ | refine ewp_true rfl ?_ | refine ewp_false rfl ?_)) <;> (refine o_as rfl rfl ?_ <;> (refine o_z ?_)) <;> (repeat (first | refine e_go ?_ | refine ewp_true rfl ?_ | refine ewp_false rfl ?_)))
      refine ret1 rfl rfl ⟨?_, Below.refl _ _⟩
      rw [List.take_of_length_le (by omega), List.take_of_length_le (by omega)] at hh
      rw [bof_t hh]
  · ((repeat (first | refine e_go ?_ | refine ewp_true rfl ?_ | refine ewp_false rfl ?_)) <;> (refine o_as rfl rfl ?_ <;> (refine o_z ?_)) <;> (repeat (first | refine e_go ?_ | refine ewp_true rfl ?_ | refine ewp_false rfl ?_)) <;> (refine o_mv rfl rfl ?_ <;> refine o_ln rfl rfl ?_ <;> refine o_mv rfl rfl ?_ <;> refine o_ln rfl rfl ?_ <;> (first | refine o_neT rfl rfl rfl ?_ | refine o_neF rfl rfl rfl ?_) <;> (refine o_z ?_)) <;> (repeat (first | refine e_go ?_ | refine ewp_true rfl ?_ | refine ewp_false rfl ?_)) <;> (refine o_as rfl rfl ?_ <;> (refine o_z ?_)) <;> (repeat (first | refine e_go ?_ | refine ewp_true rfl ?_ | refine ewp_false rfl ?_)))
    refine ret1 rfl rfl ⟨?_, Below.refl _ _⟩
    rw [bof_f (fun h => hl (by rw [h]))]
/-- A state is proper. -/
def StateOk (vars s : List Int) : Prop := s.length = vars.length ∧ ∀ (i : Nat) x y, s[i]? = some x → vars[i]? = some y → 0 ≤ x ∧ x < y
end
section
open Go Go.RowKit
attribute [local irreducible] ewp owp hwp hwq Ev Evg Fn retPost Res1
theorem taskProper {w : World} {vv sv : Value} {vars s : List Int} (ha : V w vv vars) (hb : V w sv s) :
    Fn Tryz.prog 34 [vv, sv] w fun v w' => v = .bool (bof (StateOk vars s)) ∧ Ext w w' := by
  obtain ⟨A, ca, rfl⟩ := ha.form
  obtain ⟨B, cb, rfl⟩ := hb.form
  have hal := hb.len
  refine fn_enter Tryz.func34 rfl Tryz.ntmps34 rfl ?_
  by_cases hl : s.length = vars.length
  · ((repeat (first | refine e_go ?_ | refine ewp_true rfl ?_ | refine ewp_false rfl ?_)) <;> (refine o_as rfl rfl ?_ <;> (refine o_z ?_)) <;> (repeat (first | refine e_go ?_ | refine ewp_true rfl ?_ | refine ewp_false rfl ?_)) <;> (refine o_mv rfl rfl ?_ <;> refine o_ln rfl rfl ?_ <;> refine o_mv rfl rfl ?_ <;> refine o_ln rfl rfl ?_ <;> (first | refine o_neT rfl rfl rfl ?_ | refine o_neF rfl rfl rfl ?_) <;> (refine o_z ?_)) <;> (repeat (first | refine e_go ?_ | refine ewp_true rfl ?_ | refine ewp_false rfl ?_)) <;> (refine o_mv rfl rfl ?_ <;> refine o_ln rfl rfl ?_ <;> refine o_mv rfl rfl ?_ <;> (refine o_z ?_)) <;> (repeat (first | refine e_go ?_ | refine ewp_true rfl ?_ | refine ewp_false rfl ?_)))
    refine ewp_for (fun k : Nat => [(0, .slice A vars.length ca), (12, .slice B s.length cb), (13, .int .i64 (s.length : Int)), (14, .int .i64 (k : Int))])
      (fun k w' => w' = w ∧ k ≤ s.length ∧ ∀ (i : Nat) x y, i < k → s[i]? = some x → vars[i]? = some y → 0 ≤ x ∧ x < y) (fun k => s.length - k) 0 ⟨rfl, Nat.zero_le _, fun i _ _ h => by omega⟩ ⟨rfl, rfl, rfl, rfl, trivial⟩ ?_
    rintro k _ ⟨rfl, hk, hh⟩
    by_cases hlt : k < s.length
    · obtain ⟨x, hx⟩ := some_of_lt hlt
      obtain ⟨y, hy⟩ := some_of_lt (l := vars) (k := k) (by omega)
      obtain ⟨b1, o1, ce, rfl, _, _, hd1, rfl, _⟩ := ha.elem hy
      obtain ⟨b2, o2, ce, rfl, _, _, hd2, rfl, _⟩ := hb.elem hx
      ((repeat (first | refine e_go ?_ | refine ewp_true rfl ?_ | refine ewp_false rfl ?_)) <;> ((first | refine o_ltT rfl rfl rfl ?_ | refine o_ltF rfl rfl rfl ?_) <;> (refine o_z ?_)) <;> (repeat (first | refine e_go ?_ | refine ewp_true rfl ?_ | refine ewp_false rfl ?_)) <;> (refine o_mv rfl rfl ?_ <;> refine o_ia rfl rfl rfl ?_ <;> refine o_ld rfl rfl ?_ <;> refine o_as rfl rfl ?_ <;> refine o_as rfl rfl ?_ <;> (refine o_z ?_)) <;> (repeat (first | refine e_go ?_ | refine ewp_true rfl ?_ | refine ewp_false rfl ?_)) <;> (refine o_mv rfl rfl ?_ <;> (first | refine o_ltT rfl rfl rfl ?_ | refine o_ltF rfl rfl rfl ?_ | refine o_ltS rfl rfl rfl (fun _ => ?_) fun _ => ?_) <;> refine o_mv rfl rfl ?_ <;> (first | (refine owp_yes rfl rfl ?_; refine o_mv rfl rfl ?_) | refine owp_no rfl rfl rfl rfl ?_) <;> (first | (refine owp_yes rfl rfl ?_; refine o_mv rfl rfl ?_) | refine owp_no rfl rfl rfl rfl ?_) <;> (first | (refine owp_yes rfl rfl ?_; refine o_mv rfl rfl ?_) | refine owp_no rfl rfl rfl rfl ?_) <;> (first | (refine owp_yes rfl rfl ?_; refine o_ia rfl rfl rfl ?_) | refine owp_no rfl rfl rfl rfl ?_) <;> (first | (refine owp_yes rfl rfl ?_; refine o_ld rfl rfl ?_) | refine owp_no rfl rfl rfl rfl ?_) <;> (first | (refine owp_yes rfl rfl ?_; (first | refine o_geT rfl rfl rfl ?_ | refine o_geF rfl rfl rfl ?_ | refine o_geS rfl rfl rfl (fun _ => ?_) fun _ => ?_)) | refine owp_no rfl rfl rfl rfl ?_) <;> (first | refine o_pt rfl rfl rfl ?_ | refine o_pf rfl rfl rfl ?_) <;> (refine o_z ?_)) <;> (repeat (first | refine e_go ?_ | refine ewp_true rfl ?_ | refine ewp_false rfl ?_)))
      case refine_2.refine_2 =>
        ((first | refine o_ic rfl rfl ?_ | refine o_ad rfl rfl rfl ?_) <;> refine o_mv rfl rfl ?_ <;> (refine o_z ?_))
        refine ⟨k + 1, ⟨rfl, rfl, rfl, rfl, trivial⟩, ⟨rfl, by omega, fun i x' y' hi h1 h2 => ?_⟩, by omega⟩
        by_cases he : i = k
        · subst he
          rw [hx] at h1; rw [hy] at h2
          injection h1 with h1; injection h2 with h2
          omega
        · exact hh i x' y' (by omega) h1 h2
      all_goals
        ((repeat (first | refine e_go ?_ | refine ewp_true rfl ?_ | refine ewp_false rfl ?_)) <;> (refine o_as rfl rfl ?_ <;> (refine o_z ?_)) <;> (repeat (first | refine e_go ?_ | refine ewp_true rfl ?_ | refine ewp_false rfl ?_)))
        refine ret1 rfl rfl ⟨?_, Below.refl _ _⟩
        rw [bof_f (fun h => by have := h.2 k x y hx hy; omega)]
    · ((repeat (first | refine e_go ?_ | refine ewp_true rfl ?_ | refine ewp_false rfl ?_)) <;> ((first | refine o_ltT rfl rfl rfl ?_ | refine o_ltF rfl rfl rfl ?_) <;> (refine o_z ?_)) <;> (repeat (first | refine e_go ?_ | refine ewp_true rfl ?_ | refine ewp_false rfl ?_)) <;> (refine o_as rfl rfl ?_ <;> (refine o_z ?_)) <;> (repeat (first | refine e_go ?_ | refine ewp_true rfl ?_ | refine ewp_false rfl ?_)))
      refine ret1 rfl rfl ⟨?_, Below.refl _ _⟩
      rw [bof_t ⟨hl, fun i x y h1 h2 => hh i x y (by have := lt_of_some h1; omega) h1 h2⟩]
  · ((repeat (first | refine e_go ?_ | refine ewp_true rfl ?_ | refine ewp_false rfl ?_)) <;> (refine o_as rfl rfl ?_ <;> (refine o_z ?_)) <;> (repeat (first | refine e_go ?_ | refine ewp_true rfl ?_ | refine ewp_false rfl ?_)) <;> (refine o_mv rfl rfl ?_ <;> refine o_ln rfl rfl ?_ <;> refine o_mv rfl rfl ?_ <;> refine o_ln rfl rfl ?_ <;> (first | refine o_neT rfl rfl rfl ?_ | refine o_neF rfl rfl rfl ?_) <;> (refine o_z ?_)) <;> (repeat (first | refine e_go ?_ | refine ewp_true rfl ?_ | refine ewp_false rfl ?_)) <;> (refine o_as rfl rfl ?_ <;> (refine o_z ?_)) <;> (repeat (first | refine e_go ?_ | refine ewp_true rfl ?_ | refine ewp_false rfl ?_)))
    refine ret1 rfl rfl ⟨?_, Below.refl _ _⟩
    rw [bof_f (fun h => hl h.1)]
/-- A fact is in range. -/
def FactOk (vars : List Int) (x : Fct) : Prop := 0 ≤ x.var ∧ 0 ≤ x.val ∧ ∃ y, vars[x.var.toNat]? = some y ∧ x.val < y
/-- A list of facts is proper: in range, and strictly ascending by variable. -/
def FactsOk (vars : List Int) (f : List Fct) : Prop := (∀ (i : Nat) x, f[i]? = some x → FactOk vars x) ∧ ∀ (i : Nat) x y, f[i]? = some x → f[i + 1]? = some y → x.var < y.var
def FactsTo (vars : List Int) (f : List Fct) (k : Nat) : Prop := (∀ (i : Nat) x, i < k → f[i]? = some x → FactOk vars x) ∧ ∀ (i : Nat) x y, i + 1 < k → f[i]? = some x → f[i + 1]? = some y → x.var < y.var
theorem FactsTo.step {vars : List Int} {f : List Fct} {k : Nat} {x : Fct} (h : FactsTo vars f k) (hx : f[k]? = some x) (ho : FactOk vars x) (hp : ∀ y, 0 < k → f[k - 1]? = some y → y.var < x.var) : FactsTo vars f (k + 1) := by
  refine ⟨fun i y hi hy => ?_, fun i y z hi hy hz => ?_⟩
  · by_cases he : i = k
    · subst he; rw [hx] at hy; injection hy with hy; exact hy ▸ ho
    · exact h.1 i y (by omega) hy
  · by_cases he : i + 1 = k
    · rw [he, hx] at hz; injection hz with hz; subst hz
      exact hp y (by omega) (by rw [show k - 1 = i from by omega]; exact hy)
    · exact h.2 i y z (by omega) hy hz
theorem FactsTo.done {vars : List Int} {f : List Fct} {k : Nat} (h : FactsTo vars f k) (hk : f.length ≤ k) : FactsOk vars f :=
  ⟨fun i x hx => h.1 i x (by have := lt_of_some hx; omega) hx, fun i x y hx hy => h.2 i x y (by have := lt_of_some hy; omega) hx hy⟩
theorem taskFacts {w : World} {vv fv : Value} {vars : List Int} {f : List Fct} (hv : V w vv vars) (hf : V w fv f) :
    Fn Tryz.prog 49 [vv, fv] w fun v w' => v = .bool (bof (FactsOk vars f)) ∧ Ext w w' := by
  obtain ⟨A, ca, rfl⟩ := hv.form
  obtain ⟨B, cb, rfl⟩ := hf.form
  have hfl := hf.len
  refine fn_enter Tryz.func49 rfl Tryz.ntmps49 rfl ?_
  ((repeat (first | refine e_go ?_ | refine ewp_true rfl ?_ | refine ewp_false rfl ?_)) <;> (refine o_as rfl rfl ?_ <;> (refine o_z ?_)) <;> (repeat (first | refine e_go ?_ | refine ewp_true rfl ?_ | refine ewp_false rfl ?_)) <;> (refine o_as rfl rfl ?_ <;> (refine o_z ?_)) <;> (repeat (first | refine e_go ?_ | refine ewp_true rfl ?_ | refine ewp_false rfl ?_)) <;> (refine o_mv rfl rfl ?_ <;> refine o_ln rfl rfl ?_ <;> refine o_mv rfl rfl ?_ <;> (refine o_z ?_)) <;> (repeat (first | refine e_go ?_ | refine ewp_true rfl ?_ | refine ewp_false rfl ?_)))
  refine ewp_for (X := Nat × Int) (fun k => [(0, .slice A vars.length ca), (5, .int .i64 k.2), (8, .slice B f.length cb), (9, .int .i64 (f.length : Int)), (10, .int .i64 (k.1 : Int))])
    (fun k w' => Ext w w' ∧ k.1 ≤ f.length ∧ FactsTo vars f k.1 ∧ (k.1 = 0 → k.2 = -1) ∧ ∀ y, 0 < k.1 → f[k.1 - 1]? = some y → y.var = k.2) (fun k => f.length - k.1) (0, -1) ⟨Below.refl _ _, Nat.zero_le _, ⟨fun i _ h => by simp at h, fun i _ _ h => by simp at h⟩, fun _ => rfl, fun y h => by simp at h⟩ ⟨rfl, rfl, rfl, rfl, rfl, trivial⟩ ?_
  rintro ⟨k, m⟩ w1 ⟨hE, hk, hh, hm0, hm⟩
  dsimp only at hk hh hm0 hm ⊢
  by_cases hlt : k < f.length
  · obtain ⟨x, hx⟩ := some_of_lt hlt
    obtain ⟨b, o, ce, rfl, hb, _, hd1, rfl, hr1, hr2⟩ := (hf.ext hE).elem hx
    ((repeat (first | refine e_go ?_ | refine ewp_true rfl ?_ | refine ewp_false rfl ?_)) <;> ((first | refine o_ltT rfl rfl rfl ?_ | refine o_ltF rfl rfl rfl ?_) <;> (refine o_z ?_)) <;> (repeat (first | refine e_go ?_ | refine ewp_true rfl ?_ | refine ewp_false rfl ?_)) <;> (refine o_ia rfl rfl rfl ?_ <;> refine o_la rfl rfl ?_) <;> (repeat (first | refine e_go ?_ | refine ewp_true rfl ?_ | refine ewp_false rfl ?_)))
    refine owp_local rfl rfl rfl (by simp [Value.cells, Value.oneCell']) fun w3 hN => ?_
    have hb1 := hN.blk
    have hE3 : Ext w w3 := hE.trans' hN.ext
    ((refine o_z ?_))
    repeat (first | refine e_go ?_ | refine ewp_true rfl ?_ | refine ewp_false rfl ?_)
    refine ewp_draw (· = w3) [(0, true), (1, true), (2, true), (3, true), (4, true), (5, true), (6, true), (7, true), (8, true), (9, true), (10, true), (11, true), (12, true), (13, true), (14, true), (15, true), (16, true), (17, true), (18, true), (19, true), (20, true), (21, true), (22, true), (23, true), (24, true), (25, true)] (by kernel_rfl) rfl (by kernel_rfl) rfl ?_
    have hm1 : 0 < k → ∃ z, f[k - 1]? = some z ∧ z.var = m := fun h0 => by
      obtain ⟨z, hz⟩ := some_of_lt (l := f) (k := k - 1) (by omega)
      exact ⟨z, hz, hm z h0 hz⟩
    have hge : 0 < k → 0 ≤ m := fun h0 => by
      obtain ⟨z, hz, he⟩ := hm1 h0
      have := (hh.1 (k - 1) z (by omega) hz).1
      omega
    have hge' : -1 ≤ m := by
      by_cases h0 : 0 < k
      · have := hge h0; omega
      · have := hm0 (by omega); omega
    have hno0 : ¬ m < x.var → ¬ FactsOk vars f := fun h1 h2 => by
      by_cases h0 : 0 < k
      · obtain ⟨z, hz, he⟩ := hm1 h0
        have := h2.2 (k - 1) z x hz (by rw [show k - 1 + 1 = k from by omega]; exact hx)
        omega
      · have := hm0 (by omega)
        have := (h2.1 k x hx).1
        omega
    by_cases hvr : 0 ≤ x.var ∧ x.var < vars.length
    · obtain ⟨j, hj1⟩ := Int.eq_ofNat_of_zero_le hvr.1
      obtain ⟨y, hy⟩ := some_of_lt (l := vars) (k := j) (by omega)
      obtain ⟨b2, o2, ce2, rfl, _, _, hd2, rfl, _⟩ := (hv.ext hE3).elem hy
      have hjy : vars[x.var.toNat]? = some y := by rw [hj1]; simpa using hy
      have hok : 0 ≤ x.val → x.val < y → FactOk vars x := fun h1 h2 => ⟨hvr.1, h1, y, hjy, h2⟩
      have hno : ¬ (0 ≤ x.val ∧ x.val < y) → ¬ FactsOk vars f := fun h1 h2 => h1 (by
        obtain ⟨_, h3, y', h4, h5⟩ := h2.1 k x hx
        rw [hjy] at h4; injection h4 with h4; subst h4; exact ⟨h3, h5⟩)
      (refine h_fa rfl rfl rfl ?_ <;> refine h_ldA rfl rfl rfl ?_ <;> refine h_mv rfl rfl rfl ?_ <;> (first | refine h_leT rfl rfl rfl rfl ?_ | refine h_leF rfl rfl rfl rfl ?_ | refine h_leS rfl rfl rfl rfl (fun _ => ?_) fun _ => ?_) <;> refine h_mv rfl rfl rfl ?_ <;> (refine hwp_o rfl ?_; (first | (refine hwq_yes rfl rfl ?_; refine g_fa rfl rfl ?_) | refine hwq_no rfl rfl rfl rfl ?_)) <;> (refine hwp_o rfl ?_; (first | (refine hwq_yes rfl rfl ?_; refine g_ldA rfl rfl ?_) | refine hwq_no rfl rfl rfl rfl ?_)) <;> (refine hwp_o rfl ?_; (first | (refine hwq_yes rfl rfl ?_; refine g_mv rfl rfl ?_) | refine hwq_no rfl rfl rfl rfl ?_)) <;> (refine hwp_o rfl ?_; (first | (refine hwq_yes rfl rfl ?_; refine g_ln rfl rfl ?_) | refine hwq_no rfl rfl rfl rfl ?_)) <;> (refine hwp_o rfl ?_; (first | (refine hwq_yes rfl rfl ?_; (first | refine hwq_dT (fun _ _ => ev_geq rfl rfl) rfl (by omega) ?_ | refine hwq_dF (fun _ _ => ev_geq rfl rfl) rfl (by omega) ?_ | refine hwq_split (fun _ _ => ev_geq rfl rfl) rfl (fun _ => ?_) (fun _ => ?_))) | refine hwq_no rfl rfl rfl rfl ?_)) <;> (first | refine h_pt rfl rfl rfl rfl ?_ | refine h_pf rfl rfl rfl rfl ?_) <;> refine h_mv rfl rfl rfl ?_ <;> (refine hwp_o rfl ?_; (first | (refine hwq_yes rfl rfl ?_; refine g_fa rfl rfl ?_) | refine hwq_no rfl rfl rfl rfl ?_)) <;> (refine hwp_o rfl ?_; (first | (refine hwq_yes rfl rfl ?_; refine g_ldA rfl rfl ?_) | refine hwq_no rfl rfl rfl rfl ?_)) <;> (refine hwp_o rfl ?_; (first | (refine hwq_yes rfl rfl ?_; (first | refine hwq_dT (fun _ _ => ev_lss rfl rfl) rfl (by omega) ?_ | refine hwq_dF (fun _ _ => ev_lss rfl rfl) rfl (by omega) ?_ | refine hwq_split (fun _ _ => ev_lss rfl rfl) rfl (fun _ => ?_) (fun _ => ?_))) | refine hwq_no rfl rfl rfl rfl ?_)) <;> (first | refine h_pt rfl rfl rfl rfl ?_ | refine h_pf rfl rfl rfl rfl ?_) <;> refine h_mv rfl rfl rfl ?_ <;> (refine hwp_o rfl ?_; (first | (refine hwq_yes rfl rfl ?_; refine g_fa rfl rfl ?_) | refine hwq_no rfl rfl rfl rfl ?_)) <;> (refine hwp_o rfl ?_; (first | (refine hwq_yes rfl rfl ?_; refine g_ldA rfl rfl ?_) | refine hwq_no rfl rfl rfl rfl ?_)) <;> (refine hwp_o rfl ?_; (first | (refine hwq_yes rfl rfl ?_; refine g_mv rfl rfl ?_) | refine hwq_no rfl rfl rfl rfl ?_)) <;> (refine hwp_o rfl ?_; (first | (refine hwq_yes rfl rfl ?_; refine g_fa rfl rfl ?_) | refine hwq_no rfl rfl rfl rfl ?_)) <;> (refine hwp_o rfl ?_; (first | (refine hwq_yes rfl rfl ?_; refine g_ldA rfl rfl ?_) | refine hwq_no rfl rfl rfl rfl ?_)) <;> (refine hwp_o rfl ?_; (first | (refine hwq_yes rfl rfl ?_; refine g_ia rfl rfl rfl ?_) | refine hwq_no rfl rfl rfl rfl ?_)) <;> (refine hwp_o rfl ?_; (first | (refine hwq_yes rfl rfl ?_; refine g_ldA rfl rfl ?_) | refine hwq_no rfl rfl rfl rfl ?_)) <;> (refine hwp_o rfl ?_; (first | (refine hwq_yes rfl rfl ?_; (first | refine hwq_dT (fun _ _ => ev_geq rfl rfl) rfl (by omega) ?_ | refine hwq_dF (fun _ _ => ev_geq rfl rfl) rfl (by omega) ?_ | refine hwq_split (fun _ _ => ev_geq rfl rfl) rfl (fun _ => ?_) (fun _ => ?_))) | refine hwq_no rfl rfl rfl rfl ?_)) <;> (first | refine h_pt rfl rfl rfl rfl ?_ | refine h_pf rfl rfl rfl rfl ?_) <;> (refine h_z ?_)) <;> (repeat (first | refine e_go ?_ | refine ewp_true rfl ?_ | refine ewp_false rfl ?_))
      all_goals try (
        ((repeat (first | refine e_go ?_ | refine ewp_true rfl ?_ | refine ewp_false rfl ?_)) <;> (refine o_as rfl rfl ?_ <;> (refine o_z ?_)) <;> (repeat (first | refine e_go ?_ | refine ewp_true rfl ?_ | refine ewp_false rfl ?_)))
        refine ret1 rfl rfl ⟨?_, hE3⟩
        first | rw [bof_f (hno (by omega))] | rw [bof_f (hno0 (by omega))])
      ((repeat (first | refine e_go ?_ | refine ewp_true rfl ?_ | refine ewp_false rfl ?_)) <;> (refine o_fa rfl rfl ?_ <;> refine o_ld rfl rfl ?_ <;> refine o_as rfl rfl ?_ <;> (refine o_z ?_)) <;> (repeat (first | refine e_go ?_ | refine ewp_true rfl ?_ | refine ewp_false rfl ?_)))
      ((first | refine o_ic rfl rfl ?_ | refine o_ad rfl rfl rfl ?_) <;> refine o_mv rfl rfl ?_ <;> (refine o_z ?_))
      refine ⟨(k + 1, x.var), ⟨rfl, rfl, rfl, rfl, rfl, trivial⟩, ⟨hE3, hlt, hh.step hx (hok (by omega) (by omega)) (fun y' h0 hy' => by have := hm y' h0 hy'; omega), fun h => absurd h (Nat.succ_ne_zero k), fun y' _ hy' => ?_⟩, Nat.sub_lt_sub_left hlt (Nat.lt_succ_self k)⟩
      rw [show k + 1 - 1 = k from rfl, hx] at hy'
      exact congrArg Fct.var (Option.some.inj hy').symm
    · have hno : ¬ FactsOk vars f := fun h => by
        obtain ⟨h1, h2, y, h3, _⟩ := h.1 k x hx
        have := lt_of_some h3
        omega
      (refine h_fa rfl rfl rfl ?_ <;> refine h_ldA rfl rfl rfl ?_ <;> refine h_mv rfl rfl rfl ?_ <;> (first | refine h_leT rfl rfl rfl rfl ?_ | refine h_leF rfl rfl rfl rfl ?_ | refine h_leS rfl rfl rfl rfl (fun _ => ?_) fun _ => ?_) <;> refine h_mv rfl rfl rfl ?_ <;> (refine hwp_o rfl ?_; (first | (refine hwq_yes rfl rfl ?_; refine g_fa rfl rfl ?_) | refine hwq_no rfl rfl rfl rfl ?_)) <;> (refine hwp_o rfl ?_; (first | (refine hwq_yes rfl rfl ?_; refine g_ldA rfl rfl ?_) | refine hwq_no rfl rfl rfl rfl ?_)) <;> (refine hwp_o rfl ?_; (first | (refine hwq_yes rfl rfl ?_; refine g_mv rfl rfl ?_) | refine hwq_no rfl rfl rfl rfl ?_)) <;> (refine hwp_o rfl ?_; (first | (refine hwq_yes rfl rfl ?_; refine g_ln rfl rfl ?_) | refine hwq_no rfl rfl rfl rfl ?_)) <;> (refine hwp_o rfl ?_; (first | (refine hwq_yes rfl rfl ?_; (first | refine hwq_dT (fun _ _ => ev_geq rfl rfl) rfl (by omega) ?_ | refine hwq_dF (fun _ _ => ev_geq rfl rfl) rfl (by omega) ?_ | refine hwq_split (fun _ _ => ev_geq rfl rfl) rfl (fun _ => ?_) (fun _ => ?_))) | refine hwq_no rfl rfl rfl rfl ?_)) <;> (first | refine h_pt rfl rfl rfl rfl ?_ | refine h_pf rfl rfl rfl rfl ?_) <;> refine h_mv rfl rfl rfl ?_ <;> (refine hwp_o rfl ?_; (first | (refine hwq_yes rfl rfl ?_; refine g_fa rfl rfl ?_) | refine hwq_no rfl rfl rfl rfl ?_)) <;> (refine hwp_o rfl ?_; (first | (refine hwq_yes rfl rfl ?_; refine g_ldA rfl rfl ?_) | refine hwq_no rfl rfl rfl rfl ?_)) <;> (refine hwp_o rfl ?_; (first | (refine hwq_yes rfl rfl ?_; (first | refine hwq_dT (fun _ _ => ev_lss rfl rfl) rfl (by omega) ?_ | refine hwq_dF (fun _ _ => ev_lss rfl rfl) rfl (by omega) ?_ | refine hwq_split (fun _ _ => ev_lss rfl rfl) rfl (fun _ => ?_) (fun _ => ?_))) | refine hwq_no rfl rfl rfl rfl ?_)) <;> (first | refine h_pt rfl rfl rfl rfl ?_ | refine h_pf rfl rfl rfl rfl ?_) <;> refine h_mv rfl rfl rfl ?_ <;> (refine hwp_o rfl ?_; (first | (refine hwq_yes rfl rfl ?_; refine g_fa rfl rfl ?_) | refine hwq_no rfl rfl rfl rfl ?_)) <;> (refine hwp_o rfl ?_; (first | (refine hwq_yes rfl rfl ?_; refine g_ldA rfl rfl ?_) | refine hwq_no rfl rfl rfl rfl ?_)) <;> (refine hwp_o rfl ?_; (first | (refine hwq_yes rfl rfl ?_; refine g_mv rfl rfl ?_) | refine hwq_no rfl rfl rfl rfl ?_)) <;> (refine hwp_o rfl ?_; (first | (refine hwq_yes rfl rfl ?_; refine g_fa rfl rfl ?_) | refine hwq_no rfl rfl rfl rfl ?_)) <;> (refine hwp_o rfl ?_; (first | (refine hwq_yes rfl rfl ?_; refine g_ldA rfl rfl ?_) | refine hwq_no rfl rfl rfl rfl ?_)) <;> (refine hwp_o rfl ?_; (first | (refine hwq_yes rfl rfl ?_; refine g_ia rfl rfl rfl ?_) | refine hwq_no rfl rfl rfl rfl ?_)) <;> (refine hwp_o rfl ?_; (first | (refine hwq_yes rfl rfl ?_; refine g_ldA rfl rfl ?_) | refine hwq_no rfl rfl rfl rfl ?_)) <;> (refine hwp_o rfl ?_; (first | (refine hwq_yes rfl rfl ?_; (first | refine hwq_dT (fun _ _ => ev_geq rfl rfl) rfl (by omega) ?_ | refine hwq_dF (fun _ _ => ev_geq rfl rfl) rfl (by omega) ?_ | refine hwq_split (fun _ _ => ev_geq rfl rfl) rfl (fun _ => ?_) (fun _ => ?_))) | refine hwq_no rfl rfl rfl rfl ?_)) <;> (first | refine h_pt rfl rfl rfl rfl ?_ | refine h_pf rfl rfl rfl rfl ?_) <;> (refine h_z ?_)) <;> (repeat (first | refine e_go ?_ | refine ewp_true rfl ?_ | refine ewp_false rfl ?_))
      all_goals
        ((repeat (first | refine e_go ?_ | refine ewp_true rfl ?_ | refine ewp_false rfl ?_)) <;> (refine o_as rfl rfl ?_ <;> (refine o_z ?_)) <;> (repeat (first | refine e_go ?_ | refine ewp_true rfl ?_ | refine ewp_false rfl ?_)))
        refine ret1 rfl rfl ⟨?_, hE3⟩
        rw [bof_f hno]
  · ((repeat (first | refine e_go ?_ | refine ewp_true rfl ?_ | refine ewp_false rfl ?_)) <;> ((first | refine o_ltT rfl rfl rfl ?_ | refine o_ltF rfl rfl rfl ?_) <;> (refine o_z ?_)) <;> (repeat (first | refine e_go ?_ | refine ewp_true rfl ?_ | refine ewp_false rfl ?_)) <;> (refine o_as rfl rfl ?_ <;> (refine o_z ?_)) <;> (repeat (first | refine e_go ?_ | refine ewp_true rfl ?_ | refine ewp_false rfl ?_)))
    refine ret1 rfl rfl ⟨?_, hE⟩
    rw [bof_t (hh.done (by omega))]
/-- A name is permitted. -/
def NameOk (s : ByteArray) : Prop := s.size ≤ 256 ∧ ∀ (i : Nat) (h : i < s.size), 32 ≤ (s[i]'h).toNat ∧ (s[i]'h).toNat ≤ 126
theorem taskNamed {w : World} {s : ByteArray} (hs : s.size ≤ 9223372036854775807) :
    Fn Tryz.prog 50 [.string s] w fun v w' => v = .bool (bof (NameOk s)) ∧ Ext w w' := by
  refine fn_enter Tryz.func50 rfl Tryz.ntmps50 rfl ?_
  ((repeat (first | refine e_go ?_ | refine ewp_true rfl ?_ | refine ewp_false rfl ?_)) <;> (refine o_as rfl rfl ?_ <;> (refine o_z ?_)) <;> (repeat (first | refine e_go ?_ | refine ewp_true rfl ?_ | refine ewp_false rfl ?_)) <;> (refine o_mv rfl rfl ?_ <;> refine o_ls rfl rfl ?_ <;> refine o_mv rfl rfl ?_ <;> (refine o_z ?_)) <;> (repeat (first | refine e_go ?_ | refine ewp_true rfl ?_ | refine ewp_false rfl ?_)))
  refine ewp_for (fun k : Nat => [(0, .string s), (5, .int .i64 (s.size : Int)), (6, .int .i64 (k : Int))])
    (fun k w' => w' = w ∧ k ≤ s.size ∧ ∀ (i : Nat) (h : i < s.size), i < k → 32 ≤ (s[i]'h).toNat ∧ (s[i]'h).toNat ≤ 126) (fun k => s.size - k) 0 ⟨rfl, Nat.zero_le _, fun i _ h => by omega⟩ ⟨rfl, rfl, rfl, trivial⟩ ?_
  rintro k _ ⟨rfl, hk, hh⟩
  by_cases hlt : k < s.size
  · ((repeat (first | refine e_go ?_ | refine ewp_true rfl ?_ | refine ewp_false rfl ?_)) <;> ((first | refine o_ltT rfl rfl rfl ?_ | refine o_ltF rfl rfl rfl ?_) <;> (refine o_z ?_)) <;> (repeat (first | refine e_go ?_ | refine ewp_true rfl ?_ | refine ewp_false rfl ?_)) <;> (refine o_mv rfl rfl ?_ <;> refine o_as rfl rfl ?_ <;> (refine o_z ?_)) <;> (repeat (first | refine e_go ?_ | refine ewp_true rfl ?_ | refine ewp_false rfl ?_)) <;> (refine o_mv rfl rfl ?_ <;> refine o_mv rfl rfl ?_ <;> refine o_ix rfl rfl rfl (by omega) ?_ <;> (first | refine o_ltT rfl rfl rfl ?_ | refine o_ltF rfl rfl rfl ?_ | refine o_ltS rfl rfl rfl (fun _ => ?_) fun _ => ?_) <;> refine o_mv rfl rfl ?_ <;> (first | (refine owp_yes rfl rfl ?_; refine o_mv rfl rfl ?_) | refine owp_no rfl rfl rfl rfl ?_) <;> (first | (refine owp_yes rfl rfl ?_; refine o_mv rfl rfl ?_) | refine owp_no rfl rfl rfl rfl ?_) <;> (first | (refine owp_yes rfl rfl ?_; refine o_ix rfl rfl rfl (by omega) ?_) | refine owp_no rfl rfl rfl rfl ?_) <;> (first | (refine owp_yes rfl rfl ?_; (first | refine o_gtT rfl rfl rfl ?_ | refine o_gtF rfl rfl rfl ?_ | refine o_gtS rfl rfl rfl (fun _ => ?_) fun _ => ?_)) | refine owp_no rfl rfl rfl rfl ?_) <;> (first | refine o_pt rfl rfl rfl ?_ | refine o_pf rfl rfl rfl ?_) <;> (refine o_z ?_)) <;> (repeat (first | refine e_go ?_ | refine ewp_true rfl ?_ | refine ewp_false rfl ?_)))
    all_goals first
      | (((first | refine o_ic rfl rfl ?_ | refine o_ad rfl rfl rfl ?_) <;> refine o_mv rfl rfl ?_ <;> (refine o_z ?_))
         refine ⟨k + 1, ⟨rfl, rfl, rfl, trivial⟩, ⟨rfl, by omega, fun i h hi => ?_⟩, by omega⟩
         by_cases he : i = k
         · subst he; omega
         · exact hh i h (by omega))
      | (((repeat (first | refine e_go ?_ | refine ewp_true rfl ?_ | refine ewp_false rfl ?_)) <;> (refine o_as rfl rfl ?_ <;> (refine o_z ?_)) <;> (repeat (first | refine e_go ?_ | refine ewp_true rfl ?_ | refine ewp_false rfl ?_)))
         refine ret1 rfl rfl ⟨?_, Below.refl _ _⟩
         rw [bof_f (fun h => by have := h.2 k hlt; omega)])
  · by_cases h256 : s.size ≤ 256
    · ((repeat (first | refine e_go ?_ | refine ewp_true rfl ?_ | refine ewp_false rfl ?_)) <;> ((first | refine o_ltT rfl rfl rfl ?_ | refine o_ltF rfl rfl rfl ?_) <;> (refine o_z ?_)) <;> (repeat (first | refine e_go ?_ | refine ewp_true rfl ?_ | refine ewp_false rfl ?_)) <;> (refine o_mv rfl rfl ?_ <;> refine o_ls rfl rfl ?_ <;> (first | refine o_leT rfl rfl rfl ?_ | refine o_leF rfl rfl rfl ?_) <;> refine o_as rfl rfl ?_ <;> (refine o_z ?_)) <;> (repeat (first | refine e_go ?_ | refine ewp_true rfl ?_ | refine ewp_false rfl ?_)))
      refine ret1 rfl rfl ⟨?_, Below.refl _ _⟩
      rw [bof_t ⟨h256, fun i h => hh i h (by omega)⟩]
    · ((repeat (first | refine e_go ?_ | refine ewp_true rfl ?_ | refine ewp_false rfl ?_)) <;> ((first | refine o_ltT rfl rfl rfl ?_ | refine o_ltF rfl rfl rfl ?_) <;> (refine o_z ?_)) <;> (repeat (first | refine e_go ?_ | refine ewp_true rfl ?_ | refine ewp_false rfl ?_)) <;> (refine o_mv rfl rfl ?_ <;> refine o_ls rfl rfl ?_ <;> (first | refine o_leT rfl rfl rfl ?_ | refine o_leF rfl rfl rfl ?_) <;> refine o_as rfl rfl ?_ <;> (refine o_z ?_)) <;> (repeat (first | refine e_go ?_ | refine ewp_true rfl ?_ | refine ewp_false rfl ?_)))
      refine ret1 rfl rfl ⟨?_, Below.refl _ _⟩
      rw [bof_f (fun h => h256 h.1)]
end
section
open Go Go.RowKit
attribute [local irreducible] ewp owp hwp hwq Ev Evg Fn retPost Res1
theorem factsOk_one {vars : List Int} {x : Fct} : FactsOk vars [x] ↔ FactOk vars x := by
  constructor
  · intro h; exact h.1 0 x rfl
  · intro h
    refine ⟨fun i y hy => ?_, fun i y z _ hz => by simp at hz⟩
    cases i with
    | zero => simp at hy; exact hy ▸ h
    | succ i => simp at hy
/-- An effect is right. -/
def EffOk (vars : List Int) (e : Eff) : Prop := FactsOk vars e.cond ∧ FactOk vars ⟨e.var, e.val⟩
/-- An operator is right. -/
def OpOk (vars : List Int) (o : Opr) : Prop := 0 ≤ o.cost ∧ o.cost ≤ 1048576 ∧ o.effs.length ≤ 64 ∧ NameOk o.name ∧ FactsOk vars o.pre ∧ ∀ (i : Nat) e, o.effs[i]? = some e → EffOk vars e
/-- A task is right. -/
def TaskOk (t : Tsk) : Prop := t.vars.length ≤ 64 ∧ t.ops.length ≤ 4096 ∧ (∀ (i : Nat) n, t.vars[i]? = some n → 1 ≤ n ∧ n ≤ 64) ∧ StateOk t.vars t.init ∧ FactsOk t.vars t.goal ∧ ∀ (i : Nat) o, t.ops[i]? = some o → OpOk t.vars o
theorem upto_step {p : Nat → Prop} {k : Nat} (h : ∀ i, i < k → p i) (hk : p k) : ∀ i, i < k + 1 → p i := fun i hi => by
  by_cases he : i = k
  · subst he; exact hk
  · exact h i (by omega)
end
section
open Go Go.RowKit
attribute [local irreducible] ewp owp hwp hwq Ev Evg Fn retPost Res1
/-- All conditions of a task. -/
def opConds (o : Opr) : List (List Fct) := o.pre :: o.effs.map (·.cond)
def conds (t : Tsk) : List (List Fct) := t.goal :: t.ops.flatMap opConds
theorem take_flat {α β : Type} (f : α → List β) {l : List α} {k : Nat} {x : α} (h : l[k]? = some x) : (l.take (k + 1)).flatMap f = (l.take k).flatMap f ++ f x := by
  rw [List.take_add_one, h]; simp
theorem take_map {α β : Type} (f : α → β) {l : List α} {k : Nat} {x : α} (h : l[k]? = some x) : (l.take (k + 1)).map f = (l.take k).map f ++ [f x] := by
  rw [List.take_add_one, h]; simp
theorem flat_le {t : Tsk} (h : ∀ (i : Nat) o, t.ops[i]? = some o → o.effs.length ≤ 64) (k : Nat) : ((t.ops.take k).flatMap opConds).length ≤ k * 65 := by
  induction k with
  | zero => simp
  | succ k ih =>
    cases hx : t.ops[k]? with
    | none =>
      have hl := List.getElem?_eq_none_iff.1 hx
      rw [List.take_of_length_le hl] at ih
      rw [List.take_of_length_le (by omega)]
      omega
    | some o =>
      rw [take_flat opConds hx, List.length_append]
      have := h k o hx
      simp only [opConds, List.length_cons, List.length_map] at *
      omega
theorem taskConditions {w : World} {tv : Value} {t : Tsk} (ht : V w tv t) (hn : t.ops.length ≤ 4096) (hm : ∀ (i : Nat) o, t.ops[i]? = some o → o.effs.length ≤ 64) :
    Fn Tryz.prog 48 [tv] w fun v w' => V w' v (conds t) ∧ Ext w w' := by
  obtain ⟨cs, rfl, a, b, c, d, rfl, hvars, hinit, hgoal, hops⟩ := ht
  obtain ⟨Av, cv, rfl⟩ := hvars.form
  obtain ⟨Ai, ci, rfl⟩ := hinit.form
  obtain ⟨Ag, cg, rfl⟩ := hgoal.form
  obtain ⟨Ao, co, rfl⟩ := hops.form
  have hF : ∀ {w'}, Ext w w' → ∀ k, All w k → k < w'.heap.size := fun hE k hk => Nat.lt_of_lt_of_le hk hE.size
  refine fn_enter Tryz.func48 rfl Tryz.ntmps48 rfl ?_
  repeat (first | refine e_go ?_ | refine ewp_true rfl ?_ | refine ewp_false rfl ?_)
  refine owp_box rfl rfl fun w1 hN => ?_
  have hb1 := hN.blk
  have hE1 : Ext w w1 := hN.ext
  (refine o_as rfl rfl ?_ <;> (refine o_z ?_))
  repeat (first | refine e_go ?_ | refine ewp_true rfl ?_ | refine ewp_false rfl ?_)
  (refine o_fa rfl rfl ?_ <;> refine o_ld rfl rfl ?_)
  refine owp_slice rfl rfl rfl (by simp [Value.cells]) (by decide) rfl fun w2 hN2 => ?_
  replace hb1 := hb1.ext hN2.ext
  have hE2 : Ext w w2 := hE1.trans' hN2.ext
  have hown : Own w2 w.heap.size (All w) 27 (.slice (some ⟨w1.heap.size, 0, none⟩) 1 1) [t.goal] :=
    (Own.made hN2 (xs := [t.goal]) (.single (Vb.agree hgoal (hE2.agree fun _ h => h))) rfl (fun h => by have : w1.heap.size < w.heap.size := h; have := hE1.size; omega) (by simp)).lower hE1.size
  (refine o_as rfl rfl ?_ <;> (refine o_z ?_))
  repeat (first | refine e_go ?_ | refine ewp_true rfl ?_ | refine ewp_false rfl ?_)
  ((repeat (first | refine e_go ?_ | refine ewp_true rfl ?_ | refine ewp_false rfl ?_)) <;> (refine o_fa rfl rfl ?_ <;> refine o_ld rfl rfl ?_ <;> refine o_ln rfl rfl ?_ <;> refine o_mv rfl rfl ?_ <;> (refine o_z ?_)) <;> (repeat (first | refine e_go ?_ | refine ewp_true rfl ?_ | refine ewp_false rfl ?_)))
  refine ewp_range t.ops.length (by omega) (fun v : Value => [(1, .pointer (some ⟨w.heap.size, 0, none⟩)), (3, v), (12, .slice Ao t.ops.length co)]) (fun k v w' => Ext w w' ∧ Blk w' w.heap.size 30 [.slice Av t.vars.length cv, .slice Ai t.init.length ci, .slice Ag t.goal.length cg, .slice Ao t.ops.length co] ∧ Own w' w.heap.size (All w) 27 v (t.goal :: (t.ops.take k).flatMap opConds)) _
    ⟨hE2, hb1, hown⟩ ⟨rfl, rfl, rfl, rfl, rfl, trivial⟩ (fun _ => ⟨rfl, rfl⟩) ⟨rfl, rfl, rfl⟩ ⟨rfl, rfl⟩ ?_ ?_
  · rintro k v w3 hk ⟨hE3, hb1, hown⟩
    have hlk := flat_le hm k
    obtain ⟨o, ho⟩ := some_of_lt hk
    obtain ⟨b2, o2, ce, rfl, _, _, hd1, p, q, rfl, hp, hq, hc, hnm⟩ := Vb.elem (Vb.agree hops (hE3.agree fun _ h => h)) ho
    obtain ⟨Ap, cp, rfl⟩ := hp.form
    obtain ⟨Aq, cq, rfl⟩ := hq.form
    have hql := hm k o ho
    ((repeat (first | refine e_go ?_ | refine ewp_true rfl ?_ | refine ewp_false rfl ?_)) <;> (refine o_ia rfl rfl rfl ?_ <;> refine o_la rfl rfl ?_) <;> (repeat (first | refine e_go ?_ | refine ewp_true rfl ?_ | refine ewp_false rfl ?_)))
    refine owp_local rfl rfl rfl (by simp [Value.cells, Value.oneCell']) fun w4 hN4 => ?_
    have hb2 := hN4.blk
    replace hb1 := hb1.ext hN4.ext
    have hE4 : Ext w w4 := hE3.trans' hN4.ext
    replace hown := hown.ext hN4.ext (hF hE3)
    replace hp := hp.agree (hN4.ext.agree (hF hE3))
    replace hq := hq.agree (hN4.ext.agree (hF hE3))
    ((refine o_z ?_))
    repeat (first | refine e_go ?_ | refine ewp_true rfl ?_ | refine ewp_false rfl ?_)
    (refine o_mv rfl rfl ?_ <;> refine o_fa rfl rfl ?_ <;> refine o_ld rfl rfl ?_)
    refine owp_append1 rfl rfl rfl hown (hF hE4) hE4.size hp (by decide) (by decide) (by simp only [List.length_cons, List.length_append, List.length_map, List.length_take]; omega) (by simp only [List.length_cons, List.length_append, List.length_map, List.length_take]; omega) ⟨rfl, rfl⟩ fun v' w5 hown5 hK => ?_
    replace hb1 := hK.blk hb1 (hown.blk_ne hb1 (by decide))
    replace hb2 := hK.blk hb2 (hown.blk_ne hb2 (by decide))
    have hB5 : Below w.heap.size w4 w5 := hown.fits (Nat.le_refl _) hE4.size hK
    have hE5 : Ext w w5 := hE4.trans hB5
    replace hq := hq.below hB5
    (refine o_as rfl rfl ?_ <;> (refine o_z ?_))
    repeat (first | refine e_go ?_ | refine ewp_true rfl ?_ | refine ewp_false rfl ?_)
    ((repeat (first | refine e_go ?_ | refine ewp_true rfl ?_ | refine ewp_false rfl ?_)) <;> (refine o_fa rfl rfl ?_ <;> refine o_ld rfl rfl ?_ <;> refine o_ln rfl rfl ?_ <;> refine o_mv rfl rfl ?_ <;> (refine o_z ?_)) <;> (repeat (first | refine e_go ?_ | refine ewp_true rfl ?_ | refine ewp_false rfl ?_)))
    refine ewp_range o.effs.length (by omega) (fun v : Value => [(1, .pointer (some ⟨w.heap.size, 0, none⟩)), (3, v), (12, .slice (some ⟨b2, o2, none⟩) t.ops.length co), (13, .int .i64 (t.ops.length : Int)), (14, .int .i64 (k : Int)), (24, .slice Aq o.effs.length cq)]) (fun j v w' => Ext w w' ∧ Blk w' w.heap.size 30 [.slice Av t.vars.length cv, .slice Ai t.init.length ci, .slice Ag t.goal.length cg, .slice (some ⟨b2, o2, none⟩) t.ops.length co] ∧ Vb w' (All w) (.slice Aq o.effs.length cq) o.effs ∧ Own w' w.heap.size (All w) 27 v ((t.goal :: (t.ops.take k).flatMap opConds) ++ o.pre :: (o.effs.take j).map (·.cond))) _
      ⟨hE5, hb1, hq, by simpa using hown5⟩ ⟨rfl, rfl, rfl, rfl, rfl, rfl, rfl, rfl, trivial⟩ (fun _ => ⟨rfl, rfl⟩) ⟨rfl, rfl, rfl⟩ ⟨rfl, rfl⟩ ?_ ?_
    · rintro j v6 w6 hj ⟨hE6, hb1, hq, hown⟩
      obtain ⟨e, he⟩ := some_of_lt hj
      obtain ⟨b3, o3, ce, rfl, _, _, hd1, cv', rfl, hcond, hr1, hr2⟩ := hq.elem he
      obtain ⟨Ac, cc, rfl⟩ := hcond.form
      ((repeat (first | refine e_go ?_ | refine ewp_true rfl ?_ | refine ewp_false rfl ?_)) <;> (refine o_ia rfl rfl rfl ?_ <;> refine o_la rfl rfl ?_) <;> (repeat (first | refine e_go ?_ | refine ewp_true rfl ?_ | refine ewp_false rfl ?_)))
      refine owp_local rfl rfl rfl (by simp [Value.cells, Value.oneCell']) fun w7 hN7 => ?_
      have hb2 := hN7.blk
      replace hb1 := hb1.ext hN7.ext
      have hE7 : Ext w w7 := hE6.trans' hN7.ext
      replace hown := hown.ext hN7.ext (hF hE6)
      replace hcond := hcond.agree (hN7.ext.agree (hF hE6))
      replace hq := hq.agree (hN7.ext.agree (hF hE6))
      ((refine o_z ?_))
      repeat (first | refine e_go ?_ | refine ewp_true rfl ?_ | refine ewp_false rfl ?_)
      (refine o_mv rfl rfl ?_ <;> refine o_fa rfl rfl ?_ <;> refine o_ld rfl rfl ?_)
      refine owp_append1 rfl rfl rfl hown (hF hE7) hE7.size hcond (by decide) (by decide) (by simp only [List.length_cons, List.length_append, List.length_map, List.length_take]; omega) (by simp only [List.length_cons, List.length_append, List.length_map, List.length_take]; omega) ⟨rfl, rfl⟩ fun v' w8 hown8 hK => ?_
      have hB8 : Below w.heap.size w7 w8 := hown.fits (Nat.le_refl _) hE7.size hK
      (refine o_as rfl rfl ?_ <;> (refine o_z ?_))
      exact ⟨v', ⟨rfl, rfl, rfl, rfl, rfl, rfl, rfl, rfl, trivial⟩, hE7.trans hB8, hK.blk hb1 (hown.blk_ne hb1 (by decide)), hq.below hB8, by rw [take_map _ he]; simpa using hown8⟩
    rintro v6 w6 ⟨hE6, hb1, hq, hown⟩
    repeat (first | refine e_go ?_ | refine ewp_true rfl ?_ | refine ewp_false rfl ?_)
    exact ⟨v6, ⟨rfl, rfl, rfl, rfl, rfl, trivial⟩, hE6, hb1, by rw [take_flat opConds ho]; simpa [opConds] using hown⟩
  rintro v w3 ⟨hE3, hb1, hown⟩
  repeat (first | refine e_go ?_ | refine ewp_true rfl ?_ | refine ewp_false rfl ?_)
  ((repeat (first | refine e_go ?_ | refine ewp_true rfl ?_ | refine ewp_false rfl ?_)) <;> (refine o_mv rfl rfl ?_ <;> refine o_as rfl rfl ?_ <;> (refine o_z ?_)) <;> (repeat (first | refine e_go ?_ | refine ewp_true rfl ?_ | refine ewp_false rfl ?_)))
  refine ret1 rfl rfl ⟨?_, hE3⟩
  rw [List.take_length] at hown
  exact hown.vb.mono fun k hk => by
    rcases hk with hk | hk
    · exact hF hE3 k hk
    · exact (hown.lt k hk).2
theorem indexFuncFacts {w : World} {sv : Value} {xs : List (List Fct)} {g : FuncId} [Callable Tryz.prog g] {caps : List Value} {p : List Fct → Prop} (hs : V w sv xs)
    (hg : ∀ v x w', x ∈ xs → Ext w w' → V w' v x → Fn Tryz.prog g ([v] ++ caps) w' fun r w'' => r = .bool (bof (p x)) ∧ Ext w' w'') :
    Fn Tryz.prog 86 [sv, .func (.func g) #[] caps.toArray] w fun v w' => ((∃ k : Nat, v = .int .i64 (k : Int) ∧ ∃ x ∈ xs, p x) ∨ (v = .int .i64 (-1) ∧ ∀ x ∈ xs, ¬ p x)) ∧ Ext w w' := by
  obtain ⟨A, c, rfl⟩ := hs.form
  have hl := hs.len
  refine fn_enter Tryz.func86 rfl Tryz.ntmps86 rfl ?_
  ((repeat (first | refine e_go ?_ | refine ewp_true rfl ?_ | refine ewp_false rfl ?_)) <;> (refine o_as rfl rfl ?_ <;> (refine o_z ?_)) <;> (repeat (first | refine e_go ?_ | refine ewp_true rfl ?_ | refine ewp_false rfl ?_)) <;> (refine o_mv rfl rfl ?_ <;> refine o_ln rfl rfl ?_ <;> refine o_mv rfl rfl ?_ <;> (refine o_z ?_)) <;> (repeat (first | refine e_go ?_ | refine ewp_true rfl ?_ | refine ewp_false rfl ?_)))
  refine ewp_range xs.length (by omega) (fun _ : Unit => [(0, .slice A xs.length c), (1, .func (.func g) #[] caps.toArray)]) (fun k _ w' => Ext w w' ∧ ∀ i, i < k → ∀ x, xs[i]? = some x → ¬ p x) ()
    ⟨Below.refl _ _, fun i hi => by omega⟩ ⟨rfl, rfl, rfl, rfl, trivial⟩ (fun _ => ⟨rfl, rfl⟩) ⟨rfl, rfl, rfl⟩ ⟨rfl, rfl⟩ ?_ ?_
  · rintro k _ w1 hk ⟨hE, hh⟩
    obtain ⟨x, hx⟩ := some_of_lt hk
    obtain ⟨b, o, ce, rfl, _, _, hd1, hR⟩ := (hs.ext hE).elem hx
    obtain ⟨v, rfl⟩ := List.length_eq_one_iff.1 (Rp.len hR)
    ((repeat (first | refine e_go ?_ | refine ewp_true rfl ?_ | refine ewp_false rfl ?_)) <;> (refine o_mv rfl rfl ?_ <;> refine o_as rfl rfl ?_ <;> (refine o_z ?_)) <;> (repeat (first | refine e_go ?_ | refine ewp_true rfl ?_ | refine ewp_false rfl ?_)) <;> (refine o_mv rfl rfl ?_ <;> refine o_mv rfl rfl ?_ <;> refine o_mv rfl rfl ?_ <;> refine o_ia rfl rfl rfl ?_ <;> refine o_ld rfl rfl ?_) <;> (repeat (first | refine e_go ?_ | refine ewp_true rfl ?_ | refine ewp_false rfl ?_)))
    refine owp_callv rfl rfl rfl (hg v x w1 (List.mem_of_getElem? hx) hE hR) ?_
    rintro _ w2 ⟨rfl, hE2⟩
    by_cases hp : p x
    · rw [bof_t hp]
      ((refine o_z ?_))
      repeat (first | refine e_go ?_ | refine ewp_true rfl ?_ | refine ewp_false rfl ?_)
      ((repeat (first | refine e_go ?_ | refine ewp_true rfl ?_ | refine ewp_false rfl ?_)) <;> (refine o_mv rfl rfl ?_ <;> refine o_as rfl rfl ?_ <;> (refine o_z ?_)) <;> (repeat (first | refine e_go ?_ | refine ewp_true rfl ?_ | refine ewp_false rfl ?_)))
      exact ret1 rfl rfl ⟨.inl ⟨k, rfl, x, List.mem_of_getElem? hx, hp⟩, hE.trans' hE2⟩
    · rw [bof_f hp]
      ((refine o_z ?_))
      repeat (first | refine e_go ?_ | refine ewp_true rfl ?_ | refine ewp_false rfl ?_)
      exact ⟨(), ⟨rfl, rfl, rfl, rfl, trivial⟩, hE.trans' hE2, upto_step hh fun x' hx' => by rw [hx] at hx'; injection hx' with hx'; exact hx' ▸ hp⟩
  rintro _ w1 ⟨hE, hh⟩
  repeat (first | refine e_go ?_ | refine ewp_true rfl ?_ | refine ewp_false rfl ?_)
  ((repeat (first | refine e_go ?_ | refine ewp_true rfl ?_ | refine ewp_false rfl ?_)) <;> (refine o_as rfl rfl ?_ <;> (refine o_z ?_)) <;> (repeat (first | refine e_go ?_ | refine ewp_true rfl ?_ | refine ewp_false rfl ?_)))
  refine ret1 rfl rfl ⟨.inr ⟨rfl, fun x hx => ?_⟩, hE⟩
  obtain ⟨i, hi⟩ := List.getElem?_of_mem hx
  exact hh i (lt_of_some hi) x hi
theorem containsFuncFacts {w : World} {sv : Value} {xs : List (List Fct)} {g : FuncId} [Callable Tryz.prog g] {caps : List Value} {p : List Fct → Prop} (hs : V w sv xs)
    (hg : ∀ v x w', x ∈ xs → Ext w w' → V w' v x → Fn Tryz.prog g ([v] ++ caps) w' fun r w'' => r = .bool (bof (p x)) ∧ Ext w' w'') :
    Fn Tryz.prog 69 [sv, .func (.func g) #[] caps.toArray] w fun v w' => v = .bool (bof (∃ x ∈ xs, p x)) ∧ Ext w w' := by
  refine fn_enter Tryz.func69 rfl Tryz.ntmps69 rfl ?_
  ((repeat (first | refine e_go ?_ | refine ewp_true rfl ?_ | refine ewp_false rfl ?_)) <;> (refine o_as rfl rfl ?_ <;> (refine o_z ?_)) <;> (repeat (first | refine e_go ?_ | refine ewp_true rfl ?_ | refine ewp_false rfl ?_)) <;> (refine o_mv rfl rfl ?_ <;> refine o_mv rfl rfl ?_) <;> (repeat (first | refine e_go ?_ | refine ewp_true rfl ?_ | refine ewp_false rfl ?_)))
  refine owp_call rfl rfl (indexFuncFacts hs hg) ?_
  rintro v w1 ⟨h, hE⟩
  rcases h with ⟨k, rfl, h⟩ | ⟨rfl, h⟩
  · ((first | refine o_geT rfl rfl rfl ?_ | refine o_geF rfl rfl rfl ?_) <;> refine o_as rfl rfl ?_ <;> (refine o_z ?_))
    repeat (first | refine e_go ?_ | refine ewp_true rfl ?_ | refine ewp_false rfl ?_)
    exact ret1 rfl rfl ⟨by rw [bof_t h], hE⟩
  · ((first | refine o_geT rfl rfl rfl ?_ | refine o_geF rfl rfl rfl ?_) <;> refine o_as rfl rfl ?_ <;> (refine o_z ?_))
    repeat (first | refine e_go ?_ | refine ewp_true rfl ?_ | refine ewp_false rfl ?_)
    exact ret1 rfl rfl ⟨by rw [bof_f (fun ⟨x, hx, hp⟩ => h x hx hp)], hE⟩
theorem taskLarge1 {w : World} {v : Value} {f : List Fct} (hf : V w v f) : Fn Tryz.prog 70 ([v] ++ []) w fun r w' => r = .bool (bof (64 < f.length)) ∧ Ext w w' := by
  obtain ⟨A, c, rfl⟩ := hf.form
  refine fn_enter Tryz.func70 rfl Tryz.ntmps70 rfl ?_
  by_cases h : 64 < f.length
  · ((repeat (first | refine e_go ?_ | refine ewp_true rfl ?_ | refine ewp_false rfl ?_)) <;> (refine o_as rfl rfl ?_ <;> (refine o_z ?_)) <;> (repeat (first | refine e_go ?_ | refine ewp_true rfl ?_ | refine ewp_false rfl ?_)) <;> (refine o_mv rfl rfl ?_ <;> refine o_ln rfl rfl ?_ <;> (first | refine o_gtT rfl rfl rfl ?_ | refine o_gtF rfl rfl rfl ?_) <;> refine o_as rfl rfl ?_ <;> (refine o_z ?_)) <;> (repeat (first | refine e_go ?_ | refine ewp_true rfl ?_ | refine ewp_false rfl ?_)))
    exact ret1 rfl rfl ⟨by rw [bof_t h], Below.refl _ _⟩
  · ((repeat (first | refine e_go ?_ | refine ewp_true rfl ?_ | refine ewp_false rfl ?_)) <;> (refine o_as rfl rfl ?_ <;> (refine o_z ?_)) <;> (repeat (first | refine e_go ?_ | refine ewp_true rfl ?_ | refine ewp_false rfl ?_)) <;> (refine o_mv rfl rfl ?_ <;> refine o_ln rfl rfl ?_ <;> (first | refine o_gtT rfl rfl rfl ?_ | refine o_gtF rfl rfl rfl ?_) <;> refine o_as rfl rfl ?_ <;> (refine o_z ?_)) <;> (repeat (first | refine e_go ?_ | refine ewp_true rfl ?_ | refine ewp_false rfl ?_)))
    exact ret1 rfl rfl ⟨by rw [bof_f h], Below.refl _ _⟩
/-- A task is beyond the limits. -/
def Large (t : Tsk) : Prop := 64 < t.vars.length ∨ 4096 < t.ops.length ∨ (∃ (i : Nat) (o : Opr), t.ops[i]? = some o ∧ 64 < o.effs.length) ∨ ∃ f ∈ conds t, 64 < f.length
theorem taskLarge {w : World} {tv : Value} {t : Tsk} (ht : V w tv t) : Fn Tryz.prog 47 [tv] w fun v w' => v = .bool (bof (Large t)) ∧ Ext w w' := by
  have ht0 := ht
  obtain ⟨cs, rfl, a, b, c, d, rfl, hvars, hinit, hgoal, hops⟩ := ht
  obtain ⟨Av, cv, rfl⟩ := hvars.form
  obtain ⟨Ai, ci, rfl⟩ := hinit.form
  obtain ⟨Ag, cg, rfl⟩ := hgoal.form
  obtain ⟨Ao, co, rfl⟩ := hops.form
  have hol := hops.len
  refine fn_enter Tryz.func47 rfl Tryz.ntmps47 rfl ?_
  repeat (first | refine e_go ?_ | refine ewp_true rfl ?_ | refine ewp_false rfl ?_)
  refine owp_box rfl rfl fun w1 hN => ?_
  have hb1 := hN.blk
  have hE1 : Ext w w1 := hN.ext
  (refine o_as rfl rfl ?_ <;> (refine o_z ?_))
  repeat (first | refine e_go ?_ | refine ewp_true rfl ?_ | refine ewp_false rfl ?_)
  ((repeat (first | refine e_go ?_ | refine ewp_true rfl ?_ | refine ewp_false rfl ?_)) <;> (refine o_fa rfl rfl ?_ <;> refine o_ld rfl rfl ?_ <;> refine o_ln rfl rfl ?_ <;> (first | refine o_gtT rfl rfl rfl ?_ | refine o_gtF rfl rfl rfl ?_ | refine o_gtS rfl rfl rfl (fun _ => ?_) fun _ => ?_) <;> refine o_mv rfl rfl ?_ <;> (first | (refine owp_yes rfl rfl ?_; refine o_fa rfl rfl ?_) | refine owp_no rfl rfl rfl rfl ?_) <;> (first | (refine owp_yes rfl rfl ?_; refine o_ld rfl rfl ?_) | refine owp_no rfl rfl rfl rfl ?_) <;> (first | (refine owp_yes rfl rfl ?_; refine o_ln rfl rfl ?_) | refine owp_no rfl rfl rfl rfl ?_) <;> (first | (refine owp_yes rfl rfl ?_; (first | refine o_gtT rfl rfl rfl ?_ | refine o_gtF rfl rfl rfl ?_ | refine o_gtS rfl rfl rfl (fun _ => ?_) fun _ => ?_)) | refine owp_no rfl rfl rfl rfl ?_) <;> (first | refine o_pt rfl rfl rfl ?_ | refine o_pf rfl rfl rfl ?_) <;> (refine o_z ?_)) <;> (repeat (first | refine e_go ?_ | refine ewp_true rfl ?_ | refine ewp_false rfl ?_)))
  all_goals try (
    ((repeat (first | refine e_go ?_ | refine ewp_true rfl ?_ | refine ewp_false rfl ?_)) <;> (refine o_as rfl rfl ?_ <;> (refine o_z ?_)) <;> (repeat (first | refine e_go ?_ | refine ewp_true rfl ?_ | refine ewp_false rfl ?_)))
    refine ret1 rfl rfl ⟨?_, hE1⟩
    rw [bof_t (by first | exact .inl (by omega) | exact .inr (.inl (by omega)))])
  ((repeat (first | refine e_go ?_ | refine ewp_true rfl ?_ | refine ewp_false rfl ?_)) <;> (refine o_fa rfl rfl ?_ <;> refine o_ld rfl rfl ?_ <;> refine o_ln rfl rfl ?_ <;> refine o_mv rfl rfl ?_ <;> (refine o_z ?_)) <;> (repeat (first | refine e_go ?_ | refine ewp_true rfl ?_ | refine ewp_false rfl ?_)))
  refine ewp_range t.ops.length (by omega) (fun _ : Unit => [(1, .pointer (some ⟨w.heap.size, 0, none⟩)), (16, .slice Ao t.ops.length co)]) (fun k _ w' => Ext w1 w' ∧ ∀ i, i < k → ∀ o, t.ops[i]? = some o → o.effs.length ≤ 64) ()
    ⟨Below.refl _ _, fun i hi => by omega⟩ ⟨rfl, rfl, rfl, rfl, trivial⟩ (fun _ => ⟨rfl, rfl⟩) ⟨rfl, rfl, rfl⟩ ⟨rfl, rfl⟩ ?_ ?_
  · rintro k _ w4 hk ⟨hE4, hh⟩
    obtain ⟨o, ho⟩ := some_of_lt hk
    obtain ⟨b2, o2, ce, rfl, _, _, hd1, p, q, rfl, hp, hq, hc, hn⟩ := (hops.ext (hE1.trans' hE4)).elem ho
    obtain ⟨Ap, cp, rfl⟩ := hp.form
    obtain ⟨Aq, cq, rfl⟩ := hq.form
    ((repeat (first | refine e_go ?_ | refine ewp_true rfl ?_ | refine ewp_false rfl ?_)) <;> (refine o_ia rfl rfl rfl ?_ <;> refine o_la rfl rfl ?_) <;> (repeat (first | refine e_go ?_ | refine ewp_true rfl ?_ | refine ewp_false rfl ?_)))
    refine owp_local rfl rfl rfl (by simp [Value.cells, Value.oneCell']) fun w5 hN5 => ?_
    have hb2 := hN5.blk
    have hE5 : Ext w1 w5 := hE4.trans' hN5.ext
    ((refine o_z ?_))
    repeat (first | refine e_go ?_ | refine ewp_true rfl ?_ | refine ewp_false rfl ?_)
    ((repeat (first | refine e_go ?_ | refine ewp_true rfl ?_ | refine ewp_false rfl ?_)) <;> (refine o_fa rfl rfl ?_ <;> refine o_ld rfl rfl ?_ <;> refine o_ln rfl rfl ?_ <;> (first | refine o_gtT rfl rfl rfl ?_ | refine o_gtF rfl rfl rfl ?_ | refine o_gtS rfl rfl rfl (fun _ => ?_) fun _ => ?_) <;> (refine o_z ?_)) <;> (repeat (first | refine e_go ?_ | refine ewp_true rfl ?_ | refine ewp_false rfl ?_)))
    · ((repeat (first | refine e_go ?_ | refine ewp_true rfl ?_ | refine ewp_false rfl ?_)) <;> (refine o_as rfl rfl ?_ <;> (refine o_z ?_)) <;> (repeat (first | refine e_go ?_ | refine ewp_true rfl ?_ | refine ewp_false rfl ?_)))
      refine ret1 rfl rfl ⟨?_, hE1.trans' hE5⟩
      rw [bof_t (.inr (.inr (.inl ⟨k, o, ho, by omega⟩)))]
    · exact ⟨(), ⟨rfl, rfl, rfl, rfl, trivial⟩, hE5, upto_step hh fun o' ho' => by rw [ho] at ho'; injection ho' with ho'; subst ho'; omega⟩
  rintro _ w4 ⟨hE4, hh⟩
  replace hb1 := hb1.ext hE4
  replace hE4 : Ext w w4 := hE1.trans' hE4
  have hm : ∀ (i : Nat) o, t.ops[i]? = some o → o.effs.length ≤ 64 := fun i o ho => hh i (lt_of_some ho) o ho
  repeat (first | refine e_go ?_ | refine ewp_true rfl ?_ | refine ewp_false rfl ?_)
  (refine o_la rfl rfl ?_)
  refine owp_call rfl rfl (taskConditions (ht0.ext hE4) (by omega) hm) ?_
  rintro v5 w5 ⟨hv5, hE5⟩
  refine owp_call rfl rfl (containsFuncFacts (p := fun f => 64 < f.length) (caps := []) hv5 (fun v x w' _ _ hx => taskLarge1 hx)) ?_
  rintro v6 w6 ⟨rfl, hE6⟩
  (refine o_as rfl rfl ?_ <;> (refine o_z ?_))
  repeat (first | refine e_go ?_ | refine ewp_true rfl ?_ | refine ewp_false rfl ?_)
  refine ret1 rfl rfl ⟨?_, hE4.trans' (hE5.trans' hE6)⟩
  congr 1
  refine bof_eq ⟨fun h => .inr (.inr (.inr h)), fun h => ?_⟩
  rcases h with h | h | ⟨i, o, ho, h⟩ | h
  · omega
  · omega
  · have := hm i o ho; omega
  · exact h
end
section
open Go Go.RowKit
/-- An error by its number; 0 is nil. -/
def errV (n : Int) : Value := if n = 0 then .nilIface else .iface 45 (.int .i64 n)
theorem errV_zero : errV 0 = .nilIface := by unfold errV; rfl
theorem errV_pos {n : Int} (h : n ≠ 0) : errV n = .iface 45 (.int .i64 n) := by unfold errV; rw [if_neg h]
theorem errV_one (n : Int) : (errV n).oneCell' = true := by unfold errV; split <;> rfl
structure Err where
  n : Int
instance : Rp Err where
  isAgg := false
  size := 1
  R _ _ cs x := cs = [errV x.n] ∧ inI64 x.n
  len := by rintro w F cs x ⟨rfl, _⟩; rfl
  one := by
    rintro w F cs x ⟨rfl, _⟩ u hu
    have : u = errV x.n := by simpa using hu
    subst this; exact errV_one _
  agree := fun h _ => h
  mono := fun h _ => h
theorem Vb.err {w : World} {F : Nat → Prop} {v : Value} {x : Err} (h : Vb w F v x) : v = errV x.n ∧ inI64 x.n := by
  obtain ⟨h1, h2⟩ := h
  exact ⟨by simpa using h1, h2⟩
theorem vErr {w : World} {F : Nat → Prop} {n : Int} (h : inI64 n) : Vb w F (errV n) (⟨n⟩ : Err) := ⟨rfl, h⟩
end
section
open Go Go.RowKit
attribute [local irreducible] ewp owp hwp hwq Ev Evg Fn retPost Res1
/-- An error by its number. -/
def VarsOk (t : Tsk) : Prop := ∀ (i : Nat) n, t.vars[i]? = some n → 1 ≤ n ∧ n ≤ 64
def CostsOk (t : Tsk) : Prop := ∀ (i : Nat) o, t.ops[i]? = some o → 0 ≤ o.cost ∧ o.cost ≤ 1048576
def CondsOk (t : Tsk) : Prop := ∀ (i : Nat) f, (conds t)[i]? = some f → FactsOk t.vars f
def EffsOk (t : Tsk) : Prop := ∀ (i : Nat) o, t.ops[i]? = some o → ∀ (j : Nat) e, o.effs[j]? = some e → FactOk t.vars ⟨e.var, e.val⟩
def NamesOk (t : Tsk) : Prop := ∀ (i : Nat) o, t.ops[i]? = some o → NameOk o.name
/-- The number of a task's first error. -/
noncomputable def checkN (t : Tsk) : Int :=
  if bof (Large t) = true then 5 else if bof (VarsOk t ∧ CostsOk t) = false then 1 else if bof (StateOk t.vars t.init ∧ CondsOk t ∧ EffsOk t) = false then 2 else if bof (NamesOk t) = false then 8 else 0
theorem taskCheck {w : World} {tv : Value} {t : Tsk} (ht : V w tv t) : Fn Tryz.prog 26 [tv] w fun v w' => v = errV (checkN t) ∧ Ext w w' := by
  have ht0 := ht
  obtain ⟨cs, rfl, a, b, c, d, rfl, hvars, hinit, hgoal, hops⟩ := ht
  obtain ⟨Av, cv, rfl⟩ := hvars.form
  obtain ⟨Ai, ci, rfl⟩ := hinit.form
  obtain ⟨Ag, cg, rfl⟩ := hgoal.form
  obtain ⟨Ao, co, rfl⟩ := hops.form
  have hvl := hvars.len
  have hol := hops.len
  refine fn_enter Tryz.func26 rfl Tryz.ntmps26 rfl ?_
  repeat (first | refine e_go ?_ | refine ewp_true rfl ?_ | refine ewp_false rfl ?_)
  refine owp_box rfl rfl fun w1 hN => ?_
  have hb1 := hN.blk
  have hE1 : Ext w w1 := hN.ext
  (refine o_as rfl rfl ?_ <;> (refine o_z ?_))
  repeat (first | refine e_go ?_ | refine ewp_true rfl ?_ | refine ewp_false rfl ?_)
  (refine o_la rfl rfl ?_)
  refine owp_callB rfl rfl (taskLarge (ht0.ext hE1)) ?_ ?_
  case refine_1 =>
    intro w2 hP hE2
    ((refine o_z ?_))
    repeat (first | refine e_go ?_ | refine ewp_true rfl ?_ | refine ewp_false rfl ?_)
    ((repeat (first | refine e_go ?_ | refine ewp_true rfl ?_ | refine ewp_false rfl ?_)) <;> (refine o_mi rfl rfl ?_ <;> refine o_as rfl rfl ?_ <;> (refine o_z ?_)) <;> (repeat (first | refine e_go ?_ | refine ewp_true rfl ?_ | refine ewp_false rfl ?_)))
    refine ret1 rfl rfl ⟨?_, hE1.trans' hE2⟩
    rw [checkN, bof_t hP]; rfl
  intro w2 hlarge hE2
  replace hb1 := hb1.ext hE2
  replace hE2 : Ext w w2 := hE1.trans' hE2
  have hm : ∀ (i : Nat) o, t.ops[i]? = some o → o.effs.length ≤ 64 := fun i o ho => Nat.le_of_not_lt fun h => hlarge (.inr (.inr (.inl ⟨i, o, ho, h⟩)))
  have hn4 : t.ops.length ≤ 4096 := Nat.le_of_not_lt fun h => hlarge (.inr (.inl h))
  have c1 : checkN t = if bof (VarsOk t ∧ CostsOk t) = false then 1 else if bof (StateOk t.vars t.init ∧ CondsOk t ∧ EffsOk t) = false then 2 else if bof (NamesOk t) = false then 8 else 0 := by rw [checkN, bof_f hlarge]; rfl
  ((refine o_z ?_))
  repeat (first | refine e_go ?_ | refine ewp_true rfl ?_ | refine ewp_false rfl ?_)
  ((repeat (first | refine e_go ?_ | refine ewp_true rfl ?_ | refine ewp_false rfl ?_)) <;> (refine o_fa rfl rfl ?_ <;> refine o_ld rfl rfl ?_ <;> refine o_ln rfl rfl ?_ <;> refine o_mv rfl rfl ?_ <;> (refine o_z ?_)) <;> (repeat (first | refine e_go ?_ | refine ewp_true rfl ?_ | refine ewp_false rfl ?_)))
  refine ewp_range t.vars.length (by omega) (fun _ : Unit => [(1, .pointer (some ⟨w.heap.size, 0, none⟩)), (19, .slice Av t.vars.length cv)]) (fun k _ w' => w' = w2 ∧ ∀ i, i < k → ∀ n, t.vars[i]? = some n → 1 ≤ n ∧ n ≤ 64) ()
    ⟨rfl, fun i hi => by omega⟩ ⟨rfl, rfl, rfl, rfl, trivial⟩ (fun _ => ⟨rfl, rfl⟩) ⟨rfl, rfl, rfl⟩ ⟨rfl, rfl⟩ ?_ ?_
  · rintro k _ _ hk ⟨rfl, hh⟩
    obtain ⟨n, hn⟩ := some_of_lt hk
    obtain ⟨b2, o2, ce, rfl, _, _, hd1, rfl, _⟩ := (hvars.ext hE2).elem hn
    ((repeat (first | refine e_go ?_ | refine ewp_true rfl ?_ | refine ewp_false rfl ?_)) <;> (refine o_ia rfl rfl rfl ?_ <;> refine o_ld rfl rfl ?_ <;> refine o_as rfl rfl ?_ <;> (refine o_z ?_)) <;> (repeat (first | refine e_go ?_ | refine ewp_true rfl ?_ | refine ewp_false rfl ?_)) <;> (refine o_mv rfl rfl ?_ <;> (first | refine o_ltT rfl rfl rfl ?_ | refine o_ltF rfl rfl rfl ?_ | refine o_ltS rfl rfl rfl (fun _ => ?_) fun _ => ?_) <;> refine o_mv rfl rfl ?_ <;> (first | (refine owp_yes rfl rfl ?_; refine o_mv rfl rfl ?_) | refine owp_no rfl rfl rfl rfl ?_) <;> (first | (refine owp_yes rfl rfl ?_; (first | refine o_gtT rfl rfl rfl ?_ | refine o_gtF rfl rfl rfl ?_ | refine o_gtS rfl rfl rfl (fun _ => ?_) fun _ => ?_)) | refine owp_no rfl rfl rfl rfl ?_) <;> (first | refine o_pt rfl rfl rfl ?_ | refine o_pf rfl rfl rfl ?_) <;> (refine o_z ?_)) <;> (repeat (first | refine e_go ?_ | refine ewp_true rfl ?_ | refine ewp_false rfl ?_)))
    all_goals try (
      ((repeat (first | refine e_go ?_ | refine ewp_true rfl ?_ | refine ewp_false rfl ?_)) <;> (refine o_mi rfl rfl ?_ <;> refine o_as rfl rfl ?_ <;> (refine o_z ?_)) <;> (repeat (first | refine e_go ?_ | refine ewp_true rfl ?_ | refine ewp_false rfl ?_)))
      refine ret1 rfl rfl ⟨?_, hE2⟩
      rw [c1, bof_f (fun h => by have := h.1 k n hn; omega)]; rfl)
    exact ⟨(), ⟨rfl, rfl, rfl, rfl, trivial⟩, rfl, upto_step hh fun n' hn' => by rw [hn] at hn'; injection hn' with hn'; omega⟩
  rintro _ _ ⟨rfl, hdom⟩
  replace hdom : VarsOk t := fun i n hn => hdom i (lt_of_some hn) n hn
  repeat (first | refine e_go ?_ | refine ewp_true rfl ?_ | refine ewp_false rfl ?_)
  ((repeat (first | refine e_go ?_ | refine ewp_true rfl ?_ | refine ewp_false rfl ?_)) <;> (refine o_fa rfl rfl ?_ <;> refine o_ld rfl rfl ?_ <;> refine o_ln rfl rfl ?_ <;> refine o_mv rfl rfl ?_ <;> (refine o_z ?_)) <;> (repeat (first | refine e_go ?_ | refine ewp_true rfl ?_ | refine ewp_false rfl ?_)))
  refine ewp_range t.ops.length (by omega) (fun _ : Unit => [(1, .pointer (some ⟨w.heap.size, 0, none⟩)), (34, .slice Ao t.ops.length co)]) (fun k _ w' => Ext w w' ∧ Blk w' w.heap.size 30 [.slice Av t.vars.length cv, .slice Ai t.init.length ci, .slice Ag t.goal.length cg, .slice Ao t.ops.length co] ∧ ∀ i, i < k → ∀ o, t.ops[i]? = some o → 0 ≤ o.cost ∧ o.cost ≤ 1048576) ()
    ⟨hE2, hb1, fun i hi => by omega⟩ ⟨rfl, rfl, rfl, rfl, trivial⟩ (fun _ => ⟨rfl, rfl⟩) ⟨rfl, rfl, rfl⟩ ⟨rfl, rfl⟩ ?_ ?_
  · rintro k _ w4 hk ⟨hE4, hb1, hh⟩
    obtain ⟨o, ho⟩ := some_of_lt hk
    obtain ⟨b2, o2, ce, rfl, _, _, hd1, p, q, rfl, hp, hq, hc, hn⟩ := (hops.ext hE4).elem ho
    obtain ⟨Ap, cp, rfl⟩ := hp.form
    obtain ⟨Aq, cq, rfl⟩ := hq.form
    ((repeat (first | refine e_go ?_ | refine ewp_true rfl ?_ | refine ewp_false rfl ?_)) <;> (refine o_ia rfl rfl rfl ?_ <;> refine o_la rfl rfl ?_) <;> (repeat (first | refine e_go ?_ | refine ewp_true rfl ?_ | refine ewp_false rfl ?_)))
    refine owp_local rfl rfl rfl (by simp [Value.cells, Value.oneCell']) fun w5 hN5 => ?_
    replace hb1 := hb1.ext hN5.ext
    have hb2 := hN5.blk
    have hE5 : Ext w w5 := hE4.trans' hN5.ext
    ((refine o_z ?_))
    repeat (first | refine e_go ?_ | refine ewp_true rfl ?_ | refine ewp_false rfl ?_)
    ((repeat (first | refine e_go ?_ | refine ewp_true rfl ?_ | refine ewp_false rfl ?_)) <;> (refine o_fa rfl rfl ?_ <;> refine o_ld rfl rfl ?_ <;> (first | refine o_ltT rfl rfl rfl ?_ | refine o_ltF rfl rfl rfl ?_ | refine o_ltS rfl rfl rfl (fun _ => ?_) fun _ => ?_) <;> refine o_mv rfl rfl ?_ <;> (first | (refine owp_yes rfl rfl ?_; refine o_fa rfl rfl ?_) | refine owp_no rfl rfl rfl rfl ?_) <;> (first | (refine owp_yes rfl rfl ?_; refine o_ld rfl rfl ?_) | refine owp_no rfl rfl rfl rfl ?_) <;> (first | (refine owp_yes rfl rfl ?_; (first | refine o_gtT rfl rfl rfl ?_ | refine o_gtF rfl rfl rfl ?_ | refine o_gtS rfl rfl rfl (fun _ => ?_) fun _ => ?_)) | refine owp_no rfl rfl rfl rfl ?_) <;> (first | refine o_pt rfl rfl rfl ?_ | refine o_pf rfl rfl rfl ?_) <;> (refine o_z ?_)) <;> (repeat (first | refine e_go ?_ | refine ewp_true rfl ?_ | refine ewp_false rfl ?_)))
    all_goals try (
      ((repeat (first | refine e_go ?_ | refine ewp_true rfl ?_ | refine ewp_false rfl ?_)) <;> (refine o_mi rfl rfl ?_ <;> refine o_as rfl rfl ?_ <;> (refine o_z ?_)) <;> (repeat (first | refine e_go ?_ | refine ewp_true rfl ?_ | refine ewp_false rfl ?_)))
      refine ret1 rfl rfl ⟨?_, hE5⟩
      rw [c1, bof_f (fun h => by have := h.2 k o ho; omega)]; rfl)
    exact ⟨(), ⟨rfl, rfl, rfl, rfl, trivial⟩, hE5, hb1, upto_step hh fun o' ho' => by rw [ho] at ho'; injection ho' with ho'; subst ho'; omega⟩
  rintro _ w3 ⟨hE3, hb1, hcost⟩
  replace hcost : CostsOk t := fun i o ho => hcost i (lt_of_some ho) o ho
  have c2 : checkN t = if bof (StateOk t.vars t.init ∧ CondsOk t ∧ EffsOk t) = false then 2 else if bof (NamesOk t) = false then 8 else 0 := by rw [c1, bof_t ⟨hdom, hcost⟩]; rfl
  repeat (first | refine e_go ?_ | refine ewp_true rfl ?_ | refine ewp_false rfl ?_)
  (refine o_fa rfl rfl ?_ <;> refine o_ld rfl rfl ?_ <;> refine o_fa rfl rfl ?_ <;> refine o_ld rfl rfl ?_)
  refine owp_callB rfl rfl (taskProper (hvars.ext hE3) (hinit.ext hE3)) ?_ ?_
  case refine_2 =>
    intro w4 hP hE4
    ((first | refine o_nt rfl rfl ?_ | refine o_nf rfl rfl ?_ | refine o_nn rfl rfl ?_) <;> (refine o_z ?_))
    repeat (first | refine e_go ?_ | refine ewp_true rfl ?_ | refine ewp_false rfl ?_)
    ((repeat (first | refine e_go ?_ | refine ewp_true rfl ?_ | refine ewp_false rfl ?_)) <;> (refine o_mi rfl rfl ?_ <;> refine o_as rfl rfl ?_ <;> (refine o_z ?_)) <;> (repeat (first | refine e_go ?_ | refine ewp_true rfl ?_ | refine ewp_false rfl ?_)))
    refine ret1 rfl rfl ⟨?_, hE3.trans' hE4⟩
    rw [c2, bof_f (fun h => hP h.1)]; rfl
  intro w4 hst hE4
  replace hb1 := hb1.ext hE4
  replace hE4 : Ext w w4 := hE3.trans' hE4
  ((first | refine o_nt rfl rfl ?_ | refine o_nf rfl rfl ?_ | refine o_nn rfl rfl ?_) <;> (refine o_z ?_))
  repeat (first | refine e_go ?_ | refine ewp_true rfl ?_ | refine ewp_false rfl ?_)
  (refine o_la rfl rfl ?_)
  refine owp_call rfl rfl (taskConditions (ht0.ext hE4) hn4 hm) ?_
  rintro v5 w5 ⟨hv5, hE5⟩
  obtain ⟨Ac, cc, rfl⟩ := hv5.form
  have hcl := hv5.len
  replace hb1 := hb1.ext hE5
  replace hE5 : Ext w w5 := hE4.trans' hE5
  (refine o_ln rfl rfl ?_ <;> refine o_mv rfl rfl ?_ <;> (refine o_z ?_))
  repeat (first | refine e_go ?_ | refine ewp_true rfl ?_ | refine ewp_false rfl ?_)
  refine ewp_range (conds t).length (by omega) (fun _ : Unit => [(1, .pointer (some ⟨w.heap.size, 0, none⟩)), (58, .slice Ac (conds t).length cc)]) (fun k _ w' => Ext w5 w' ∧ ∀ i, i < k → ∀ f, (conds t)[i]? = some f → FactsOk t.vars f) ()
    ⟨Below.refl _ _, fun i hi => by omega⟩ ⟨rfl, rfl, rfl, rfl, trivial⟩ (fun _ => ⟨rfl, rfl⟩) ⟨rfl, rfl, rfl⟩ ⟨rfl, rfl⟩ ?_ ?_
  · rintro k _ w6 hk ⟨hE6, hh⟩
    obtain ⟨f, hf⟩ := some_of_lt hk
    have hb1 := hb1.ext hE6
    obtain ⟨b2, o2, ce, rfl, _, _, hd1, v, rfl, hR⟩ := (hv5.ext hE6).elem hf
    ((repeat (first | refine e_go ?_ | refine ewp_true rfl ?_ | refine ewp_false rfl ?_)) <;> (refine o_ia rfl rfl rfl ?_ <;> refine o_ld rfl rfl ?_ <;> refine o_as rfl rfl ?_ <;> (refine o_z ?_)) <;> (repeat (first | refine e_go ?_ | refine ewp_true rfl ?_ | refine ewp_false rfl ?_)) <;> (refine o_fa rfl rfl ?_ <;> refine o_ld rfl rfl ?_ <;> refine o_mv rfl rfl ?_) <;> (repeat (first | refine e_go ?_ | refine ewp_true rfl ?_ | refine ewp_false rfl ?_)))
    refine owp_callB rfl rfl (taskFacts (hvars.ext (hE5.trans' hE6)) (Vb.of_slice hR)) ?_ ?_
    · intro w7 hP hE7
      ((first | refine o_nt rfl rfl ?_ | refine o_nf rfl rfl ?_ | refine o_nn rfl rfl ?_) <;> (refine o_z ?_))
      repeat (first | refine e_go ?_ | refine ewp_true rfl ?_ | refine ewp_false rfl ?_)
      exact ⟨(), ⟨rfl, rfl, rfl, rfl, trivial⟩, hE6.trans' hE7, upto_step hh fun f' hf' => by rw [hf] at hf'; injection hf' with hf'; exact hf' ▸ hP⟩
    · intro w7 hP hE7
      ((first | refine o_nt rfl rfl ?_ | refine o_nf rfl rfl ?_ | refine o_nn rfl rfl ?_) <;> (refine o_z ?_))
      repeat (first | refine e_go ?_ | refine ewp_true rfl ?_ | refine ewp_false rfl ?_)
      ((repeat (first | refine e_go ?_ | refine ewp_true rfl ?_ | refine ewp_false rfl ?_)) <;> (refine o_mi rfl rfl ?_ <;> refine o_as rfl rfl ?_ <;> (refine o_z ?_)) <;> (repeat (first | refine e_go ?_ | refine ewp_true rfl ?_ | refine ewp_false rfl ?_)))
      refine ret1 rfl rfl ⟨?_, hE5.trans' (hE6.trans' hE7)⟩
      rw [c2, bof_f (fun h => hP (h.2.1 k f hf))]; rfl
  rintro _ w6 ⟨hE6, hcond⟩
  replace hcond : CondsOk t := fun i f hf => hcond i (lt_of_some hf) f hf
  replace hb1 := hb1.ext hE6
  replace hE6 : Ext w w6 := hE5.trans' hE6
  repeat (first | refine e_go ?_ | refine ewp_true rfl ?_ | refine ewp_false rfl ?_)
  ((repeat (first | refine e_go ?_ | refine ewp_true rfl ?_ | refine ewp_false rfl ?_)) <;> (refine o_fa rfl rfl ?_ <;> refine o_ld rfl rfl ?_ <;> refine o_ln rfl rfl ?_ <;> refine o_mv rfl rfl ?_ <;> (refine o_z ?_)) <;> (repeat (first | refine e_go ?_ | refine ewp_true rfl ?_ | refine ewp_false rfl ?_)))
  refine ewp_range t.ops.length (by omega) (fun _ : Unit => [(1, .pointer (some ⟨w.heap.size, 0, none⟩)), (72, .slice Ao t.ops.length co)]) (fun k _ w' => Ext w6 w' ∧ ∀ i, i < k → ∀ o, t.ops[i]? = some o → ∀ (j : Nat) e, o.effs[j]? = some e → FactOk t.vars ⟨e.var, e.val⟩) ()
    ⟨Below.refl _ _, fun i hi => by omega⟩ ⟨rfl, rfl, rfl, rfl, trivial⟩ (fun _ => ⟨rfl, rfl⟩) ⟨rfl, rfl, rfl⟩ ⟨rfl, rfl⟩ ?_ ?_
  · rintro k _ w7 hk ⟨hE7, hh⟩
    obtain ⟨o, ho⟩ := some_of_lt hk
    have hb1 := hb1.ext hE7
    obtain ⟨b2, o2, ce, rfl, _, _, hd1, p, q, rfl, hp, hq, hc, hn⟩ := (hops.ext (hE6.trans' hE7)).elem ho
    obtain ⟨Ap, cp, rfl⟩ := hp.form
    obtain ⟨Aq, cq, rfl⟩ := hq.form
    have hql := hq.len
    ((repeat (first | refine e_go ?_ | refine ewp_true rfl ?_ | refine ewp_false rfl ?_)) <;> (refine o_ia rfl rfl rfl ?_ <;> refine o_la rfl rfl ?_) <;> (repeat (first | refine e_go ?_ | refine ewp_true rfl ?_ | refine ewp_false rfl ?_)))
    refine owp_local rfl rfl rfl (by simp [Value.cells, Value.oneCell']) fun w8 hN8 => ?_
    replace hb1 := hb1.ext hN8.ext
    have hb2 := hN8.blk
    have hE8 : Ext w6 w8 := hE7.trans' hN8.ext
    replace hq := hq.ext hN8.ext
    ((refine o_z ?_))
    repeat (first | refine e_go ?_ | refine ewp_true rfl ?_ | refine ewp_false rfl ?_)
    ((repeat (first | refine e_go ?_ | refine ewp_true rfl ?_ | refine ewp_false rfl ?_)) <;> (refine o_fa rfl rfl ?_ <;> refine o_ld rfl rfl ?_ <;> refine o_ln rfl rfl ?_ <;> refine o_mv rfl rfl ?_ <;> (refine o_z ?_)) <;> (repeat (first | refine e_go ?_ | refine ewp_true rfl ?_ | refine ewp_false rfl ?_)))
    refine ewp_range o.effs.length (by omega) (fun _ : Unit => [(1, .pointer (some ⟨w.heap.size, 0, none⟩)), (72, .slice (some ⟨b2, o2, none⟩) t.ops.length co), (73, .int .i64 (t.ops.length : Int)), (74, .int .i64 (k : Int)), (79, .slice Aq o.effs.length cq)]) (fun j _ w' => Ext w8 w' ∧ ∀ i, i < j → ∀ e, o.effs[i]? = some e → FactOk t.vars ⟨e.var, e.val⟩) ()
      ⟨Below.refl _ _, fun i hi => by omega⟩ ⟨rfl, rfl, rfl, rfl, rfl, rfl, rfl, trivial⟩ (fun _ => ⟨rfl, rfl⟩) ⟨rfl, rfl, rfl⟩ ⟨rfl, rfl⟩ ?_ ?_
    · rintro j _ w9 hj ⟨hE9, hh9⟩
      obtain ⟨e, he⟩ := some_of_lt hj
      have hb1 := hb1.ext hE9
      obtain ⟨b3, o3, ce, rfl, _, _, hd1, cv', rfl, hcn, hr1, hr2⟩ := (hq.ext hE9).elem he
      obtain ⟨Acn, ccn, rfl⟩ := hcn.form
      ((repeat (first | refine e_go ?_ | refine ewp_true rfl ?_ | refine ewp_false rfl ?_)) <;> (refine o_ia rfl rfl rfl ?_ <;> refine o_la rfl rfl ?_) <;> (repeat (first | refine e_go ?_ | refine ewp_true rfl ?_ | refine ewp_false rfl ?_)))
      refine owp_local rfl rfl rfl (by simp [Value.cells, Value.oneCell']) fun w10 hN10 => ?_
      have hb3 := hN10.blk
      replace hb1 := hb1.ext hN10.ext
      have hE10 : Ext w w10 := hE6.trans' (hE8.trans' (hE9.trans' hN10.ext))
      ((refine o_z ?_))
      repeat (first | refine e_go ?_ | refine ewp_true rfl ?_ | refine ewp_false rfl ?_)
      (refine o_fa rfl rfl ?_ <;> refine o_ld rfl rfl ?_ <;> refine o_fa rfl rfl ?_ <;> refine o_ld rfl rfl ?_ <;> refine o_fa rfl rfl ?_ <;> refine o_ld rfl rfl ?_ <;> refine o_bd rfl rfl rfl ?_)
      refine owp_slice rfl rfl rfl (by simp [Value.cells]; rfl) (by decide) rfl fun w11 hN11 => ?_
      have hE11 : Ext w w11 := hE10.trans' hN11.ext
      have hone : V w11 (.slice (some ⟨w10.heap.size, 0, none⟩) 1 1) [(⟨e.var, e.val⟩ : Fct)] := Vb.made hN11 (.single ⟨rfl, hr1, hr2⟩) rfl hN11.blk.lt (by decide)
      refine owp_callB rfl rfl (taskFacts (hvars.ext hE11) hone) ?_ ?_
      · intro w12 hP hE12
        ((first | refine o_nt rfl rfl ?_ | refine o_nf rfl rfl ?_ | refine o_nn rfl rfl ?_) <;> (refine o_z ?_))
        repeat (first | refine e_go ?_ | refine ewp_true rfl ?_ | refine ewp_false rfl ?_)
        exact ⟨(), ⟨rfl, rfl, rfl, rfl, rfl, rfl, rfl, trivial⟩, hE9.trans' (hN10.ext.trans' (hN11.ext.trans' hE12)), upto_step hh9 fun e' he' => by rw [he] at he'; injection he' with he'; subst he'; exact factsOk_one.1 hP⟩
      · intro w12 hP hE12
        ((first | refine o_nt rfl rfl ?_ | refine o_nf rfl rfl ?_ | refine o_nn rfl rfl ?_) <;> (refine o_z ?_))
        repeat (first | refine e_go ?_ | refine ewp_true rfl ?_ | refine ewp_false rfl ?_)
        ((repeat (first | refine e_go ?_ | refine ewp_true rfl ?_ | refine ewp_false rfl ?_)) <;> (refine o_mi rfl rfl ?_ <;> refine o_as rfl rfl ?_ <;> (refine o_z ?_)) <;> (repeat (first | refine e_go ?_ | refine ewp_true rfl ?_ | refine ewp_false rfl ?_)))
        refine ret1 rfl rfl ⟨?_, hE11.trans' hE12⟩
        rw [c2, bof_f (fun h => hP (factsOk_one.2 (h.2.2 k o ho j e he)))]; rfl
    rintro _ w9 ⟨hE9, hh9⟩
    repeat (first | refine e_go ?_ | refine ewp_true rfl ?_ | refine ewp_false rfl ?_)
    exact ⟨(), ⟨rfl, rfl, rfl, rfl, trivial⟩, hE8.trans' hE9, upto_step hh fun o' ho' j e he => by rw [ho] at ho'; injection ho' with ho'; subst ho'; exact hh9 j (lt_of_some he) e he⟩
  rintro _ w7 ⟨hE7, heff⟩
  replace heff : EffsOk t := fun i o ho => heff i (lt_of_some ho) o ho
  have c3 : checkN t = if bof (NamesOk t) = false then 8 else 0 := by rw [c2, bof_t ⟨hst, hcond, heff⟩]; rfl
  replace hb1 := hb1.ext hE7
  replace hE7 : Ext w w7 := hE6.trans' hE7
  repeat (first | refine e_go ?_ | refine ewp_true rfl ?_ | refine ewp_false rfl ?_)
  ((repeat (first | refine e_go ?_ | refine ewp_true rfl ?_ | refine ewp_false rfl ?_)) <;> (refine o_fa rfl rfl ?_ <;> refine o_ld rfl rfl ?_ <;> refine o_ln rfl rfl ?_ <;> refine o_mv rfl rfl ?_ <;> (refine o_z ?_)) <;> (repeat (first | refine e_go ?_ | refine ewp_true rfl ?_ | refine ewp_false rfl ?_)))
  refine ewp_range t.ops.length (by omega) (fun _ : Unit => [(1, .pointer (some ⟨w.heap.size, 0, none⟩)), (99, .slice Ao t.ops.length co)]) (fun k _ w' => Ext w w' ∧ ∀ i, i < k → ∀ o, t.ops[i]? = some o → NameOk o.name) ()
    ⟨hE7, fun i hi => by omega⟩ ⟨rfl, rfl, rfl, rfl, trivial⟩ (fun _ => ⟨rfl, rfl⟩) ⟨rfl, rfl, rfl⟩ ⟨rfl, rfl⟩ ?_ ?_
  · rintro k _ w8 hk ⟨hE8, hh⟩
    obtain ⟨o, ho⟩ := some_of_lt hk
    obtain ⟨b2, o2, ce, rfl, _, _, hd1, p, q, rfl, hp, hq, hc, hn⟩ := (hops.ext hE8).elem ho
    obtain ⟨Ap, cp, rfl⟩ := hp.form
    obtain ⟨Aq, cq, rfl⟩ := hq.form
    ((repeat (first | refine e_go ?_ | refine ewp_true rfl ?_ | refine ewp_false rfl ?_)) <;> (refine o_ia rfl rfl rfl ?_ <;> refine o_la rfl rfl ?_) <;> (repeat (first | refine e_go ?_ | refine ewp_true rfl ?_ | refine ewp_false rfl ?_)))
    refine owp_local rfl rfl rfl (by simp [Value.cells, Value.oneCell']) fun w9 hN9 => ?_
    have hb2 := hN9.blk
    have hE9 : Ext w w9 := hE8.trans' hN9.ext
    ((refine o_z ?_))
    repeat (first | refine e_go ?_ | refine ewp_true rfl ?_ | refine ewp_false rfl ?_)
    (refine o_fa rfl rfl ?_ <;> refine o_ld rfl rfl ?_)
    refine owp_callB rfl rfl (taskNamed hn) ?_ ?_
    · intro w10 hP hE10
      ((first | refine o_nt rfl rfl ?_ | refine o_nf rfl rfl ?_ | refine o_nn rfl rfl ?_) <;> (refine o_z ?_))
      repeat (first | refine e_go ?_ | refine ewp_true rfl ?_ | refine ewp_false rfl ?_)
      exact ⟨(), ⟨rfl, rfl, rfl, rfl, trivial⟩, hE9.trans' hE10, upto_step hh fun o' ho' => by rw [ho] at ho'; injection ho' with ho'; exact ho' ▸ hP⟩
    · intro w10 hP hE10
      ((first | refine o_nt rfl rfl ?_ | refine o_nf rfl rfl ?_ | refine o_nn rfl rfl ?_) <;> (refine o_z ?_))
      repeat (first | refine e_go ?_ | refine ewp_true rfl ?_ | refine ewp_false rfl ?_)
      ((repeat (first | refine e_go ?_ | refine ewp_true rfl ?_ | refine ewp_false rfl ?_)) <;> (refine o_mi rfl rfl ?_ <;> refine o_as rfl rfl ?_ <;> (refine o_z ?_)) <;> (repeat (first | refine e_go ?_ | refine ewp_true rfl ?_ | refine ewp_false rfl ?_)))
      refine ret1 rfl rfl ⟨?_, hE9.trans' hE10⟩
      rw [c3, bof_f (fun h => hP (h k o ho))]; rfl
  rintro _ w8 ⟨hE8, hnames⟩
  repeat (first | refine e_go ?_ | refine ewp_true rfl ?_ | refine ewp_false rfl ?_)
  ((repeat (first | refine e_go ?_ | refine ewp_true rfl ?_ | refine ewp_false rfl ?_)) <;> (refine o_as rfl rfl ?_ <;> (refine o_z ?_)) <;> (repeat (first | refine e_go ?_ | refine ewp_true rfl ?_ | refine ewp_false rfl ?_)))
  refine ret1 rfl rfl ⟨?_, hE8⟩
  rw [c3, bof_t (show NamesOk t from fun i o ho => hnames i (lt_of_some ho) o ho)]; rfl
end
section
theorem bof_iff {p : Prop} : bof p = true ↔ p := ⟨fun h => Classical.byContradiction fun hn => (by rw [bof_f hn] at h; exact Bool.noConfusion h), bof_t⟩
theorem bof_false {p : Prop} : bof p = false ↔ ¬ p := by
  rw [← Bool.not_eq_true, bof_iff]
theorem factsOk_lt {vars : List Int} {f : List Fct} (h : FactsOk vars f) : ∀ (j i : Nat) (x y : Fct), i < j → f[i]? = some x → f[j]? = some y → x.var < y.var
  | 0, i, _, _, hij, _, _ => by omega
  | j + 1, i, x, y, hij, hx, hy => by
    by_cases he : i = j
    · subst he; exact h.2 i x y hx hy
    · obtain ⟨z, hz⟩ := some_of_lt (l := f) (k := j) (by have := lt_of_some hy; omega)
      have h1 := factsOk_lt h j i x z (by omega) hx hz
      have h2 := h.2 j z y hz hy
      omega
theorem factsOk_ge {vars : List Int} {f : List Fct} (h : FactsOk vars f) : ∀ (i : Nat) (x : Fct), f[i]? = some x → (i : Int) ≤ x.var
  | 0, x, hx => (h.1 0 x hx).1
  | i + 1, x, hx => by
    obtain ⟨z, hz⟩ := some_of_lt (l := f) (k := i) (by have := lt_of_some hx; omega)
    have h1 := factsOk_ge h i z hz
    have h2 := h.2 i z x hz hx
    omega
theorem factsOk_len {vars : List Int} {f : List Fct} (h : FactsOk vars f) : f.length ≤ vars.length := by
  rcases Nat.eq_zero_or_pos f.length with h0 | h0
  · omega
  · obtain ⟨x, hx⟩ := some_of_lt (l := f) (k := f.length - 1) (by omega)
    have h1 := factsOk_ge h _ x hx
    obtain ⟨h2, h3, y, hy, _⟩ := h.1 _ x hx
    have := lt_of_some hy
    omega
theorem conds_mem {t : Tsk} {f : List Fct} : f ∈ conds t ↔ f = t.goal ∨ ∃ (i : Nat) (o : Opr), t.ops[i]? = some o ∧ (f = o.pre ∨ ∃ (j : Nat) (e : Eff), o.effs[j]? = some e ∧ f = e.cond) := by
  unfold conds opConds
  rw [List.mem_cons, List.mem_flatMap]
  constructor
  · rintro (h | ⟨o, ho, hf⟩)
    · exact .inl h
    · obtain ⟨i, hi⟩ := List.getElem?_of_mem ho
      refine .inr ⟨i, o, hi, ?_⟩
      rcases List.mem_cons.1 hf with h | h
      · exact .inl h
      · obtain ⟨e, he, rfl⟩ := List.mem_map.1 h
        obtain ⟨j, hj⟩ := List.getElem?_of_mem he
        exact .inr ⟨j, e, hj, rfl⟩
  · rintro (h | ⟨i, o, ho, h⟩)
    · exact .inl h
    · refine .inr ⟨o, List.mem_of_getElem? ho, ?_⟩
      rcases h with rfl | ⟨j, e, he, rfl⟩
      · exact List.mem_cons_self
      · exact List.mem_cons_of_mem _ (List.mem_map.2 ⟨e, List.mem_of_getElem? he, rfl⟩)
theorem check_ok {t : Tsk} : checkN t = 0 ↔ TaskOk t := by
  unfold checkN
  constructor
  · intro h
    by_cases h1 : Large t
    · rw [if_pos (bof_iff.2 h1)] at h; cases h
    rw [if_neg (fun hh => h1 (bof_iff.1 hh))] at h
    by_cases h2 : VarsOk t ∧ CostsOk t
    case neg => rw [if_pos (bof_false.2 h2)] at h; cases h
    rw [if_neg (fun hh => bof_false.1 hh h2)] at h
    by_cases h3 : StateOk t.vars t.init ∧ CondsOk t ∧ EffsOk t
    case neg => rw [if_pos (bof_false.2 h3)] at h; cases h
    rw [if_neg (fun hh => bof_false.1 hh h3)] at h
    by_cases h4 : NamesOk t
    case neg => rw [if_pos (bof_false.2 h4)] at h; cases h
    have hc : ∀ f ∈ conds t, FactsOk t.vars f := fun f hf => by
      obtain ⟨i, hi⟩ := List.getElem?_of_mem hf
      exact h3.2.1 i f hi
    have hl : t.vars.length ≤ 64 ∧ t.ops.length ≤ 4096 ∧ (∀ (i : Nat) (o : Opr), t.ops[i]? = some o → o.effs.length ≤ 64) := by
      unfold Large at h1
      refine ⟨Nat.le_of_not_lt fun h => h1 (.inl h), Nat.le_of_not_lt fun h => h1 (.inr (.inl h)), fun i o ho => Nat.le_of_not_lt fun h => h1 (.inr (.inr (.inl ⟨i, o, ho, h⟩)))⟩
    exact ⟨hl.1, hl.2.1, h2.1, h3.1, hc _ (conds_mem.2 (.inl rfl)), fun i o ho => ⟨(h2.2 i o ho).1, (h2.2 i o ho).2, hl.2.2 i o ho, h4 i o ho, hc _ (conds_mem.2 (.inr ⟨i, o, ho, .inl rfl⟩)), fun j e he => ⟨hc _ (conds_mem.2 (.inr ⟨i, o, ho, .inr ⟨j, e, he, rfl⟩⟩)), h3.2.2 i o ho j e he⟩⟩⟩
  · rintro ⟨h1, h2, h3, h4, h5, h6⟩
    have hc : ∀ f ∈ conds t, FactsOk t.vars f := fun f hf => by
      rcases conds_mem.1 hf with rfl | ⟨i, o, ho, rfl | ⟨j, e, he, rfl⟩⟩
      · exact h5
      · exact (h6 i o ho).2.2.2.2.1
      · exact ((h6 i o ho).2.2.2.2.2 j e he).1
    have hL : ¬ Large t := by
      rintro (h | h | ⟨i, o, ho, h⟩ | ⟨f, hf, h⟩)
      · omega
      · omega
      · have := (h6 i o ho).2.2.1; omega
      · have := factsOk_len (hc f hf); omega
    have hV : VarsOk t ∧ CostsOk t := ⟨h3, fun i o ho => ⟨(h6 i o ho).1, (h6 i o ho).2.1⟩⟩
    have hS : StateOk t.vars t.init ∧ CondsOk t ∧ EffsOk t := ⟨h4, fun i f hf => hc f (List.mem_of_getElem? hf), fun i o ho j e he => ((h6 i o ho).2.2.2.2.2 j e he).2⟩
    have hN : NamesOk t := fun i o ho => (h6 i o ho).2.2.2.1
    rw [if_neg (fun hh => hL (bof_iff.1 hh)), if_neg (fun hh => bof_false.1 hh hV), if_neg (fun hh => bof_false.1 hh hS), if_neg (fun hh => bof_false.1 hh hN)]
end
section
open Go Go.RowKit
instance : TArr Tryz.prog 22 3 5 := ⟨Tryz.underlying22⟩
end
section
open Go Go.RowKit
section
variable {P : Program} {l : Env} {w : World} {dst : Option Tmp} {ty : TypeId} {pos : String} {aft : Array Edge}
theorem ev_chk_add {t u : TypeId} {x y : Operand} {a b c : Int} (hx : opv l x = some (.int .i64 a)) (hy : opv l y = some (.int .i64 b)) (he : chkI (a + b) = some c) : Ev P ⟨dst, .binOp .add t x y u, ty, pos, aft, none⟩ l w (.int .i64 c) := by
  obtain ⟨rfl, h⟩ := chkI_some he
  exact ev_add hx hy h
theorem ev_chk_sub {t u : TypeId} {x y : Operand} {a b c : Int} (hx : opv l x = some (.int .i64 a)) (hy : opv l y = some (.int .i64 b)) (he : chkI (a - b) = some c) : Ev P ⟨dst, .binOp .sub t x y u, ty, pos, aft, none⟩ l w (.int .i64 c) := by
  obtain ⟨rfl, h⟩ := chkI_some he
  exact ev_sub hx hy h
theorem ev_chk_mul {t u : TypeId} {x y : Operand} {a b c : Int} (hx : opv l x = some (.int .i64 a)) (hy : opv l y = some (.int .i64 b)) (he : chkI (a * b) = some c) : Ev P ⟨dst, .binOp .mul t x y u, ty, pos, aft, none⟩ l w (.int .i64 c) := by
  obtain ⟨rfl, h⟩ := chkI_some he
  exact ev_mul hx hy h
theorem ev_iaE {t e : TypeId} [TSlice P t e] {z : Value} {size bytes : Nat} [TInfo P e z size bytes] {x i : Operand} {k : IntKind} {A : Option Addr} {b o m c j : Nat} {q : Int} (hx : opv l x = some (.slice A m c)) (hq : opv l i = some (.int k q)) (hA : A = some ⟨b, o, none⟩) (hj : q = (j : Int)) (hlt : j < m) :
    Ev P ⟨dst, .indexAddr t x i, ty, pos, aft, none⟩ l w (.pointer (some ⟨b, o + j * size, none⟩)) := by
  subst hA
  exact ev_indexAddr hx hq hj hlt
theorem ev_miE {x : Operand} {n : Int} [TInt P 45 .i64] (hx : opv l x = some (.int .i64 n)) (hn : n ≠ 0) : Ev P ⟨dst, .makeInterface 45 x, ty, pos, aft, none⟩ l w (errV n) := by
  rw [errV_pos hn]
  exact ev_mkiface hx
theorem run_equal_fact (a b c d : Int) (w : World) : (Op.equal 26 (.agg #[.int .i64 a, .int .i64 b]) (.agg #[.int .i64 c, .int .i64 d])).run Tryz.prog w = .ok (decide (a = c ∧ b = d)) w := by
  have h1 : ∀ (n : Nat) (x y : Int) (w : World), (Op.equalIn (n + 1) 3 (.int .i64 x) (.int .i64 y)).run Tryz.prog w = .ok (x == y) w := fun n x y w => by simp [Op.equalIn, run_underlying Tryz.underlying3]
  have hs : Tryz.prog.stoodInHeld 26 = false := by kernel_rfl
  have hd : ∀ n : Nat, (Op.equalIn (n + 2) 26 (.agg #[.int .i64 a, .int .i64 b]) (.agg #[.int .i64 c, .int .i64 d])).run Tryz.prog w = .ok (decide (a = c ∧ b = d)) w := fun n => by
    rw [Op.equalIn]
    simp [run_underlying Tryz.underlying26, hs, Go.part, run_isAgg_no (P := Tryz.prog) (t := 3), h1]
    by_cases hx : a = c <;> by_cases hy : b = d <;> simp [hx, hy]
  exact hd 9998
theorem ev_fn {u : TypeId} {x y : Operand} {a b c d : Int} (hx : opv l x = some (.agg #[.int .i64 a, .int .i64 b])) (hy : opv l y = some (.agg #[.int .i64 c, .int .i64 d])) : Ev Tryz.prog ⟨dst, .binOp .neq 26 x y u, ty, pos, aft, none⟩ l w (.bool (decide (¬ (a = c ∧ b = d)))) := fun _ _ e ha => by
  simp [execOp, ha.eval hx, ha.eval hy, eqGuard, binOp, run_equal_fact]
theorem ev_errE {t u : TypeId} [TIface P t] {x : Operand} {n : Int} (hx : opv l x = some (errV n)) : Ev P ⟨dst, .binOp .eql t x (.const .nilIface) u, ty, pos, aft, none⟩ l w (.bool (decide (n = 0))) := by
  by_cases h : n = 0
  · subst h
    rw [errV_zero] at hx
    exact ev_errnil hx
  · rw [errV_pos h] at hx
    simpa [h] using ev_errnil' (P := P) (w := w) (dst := dst) (ty := ty) (pos := pos) (aft := aft) (t := t) (u := u) hx
theorem ev_errN {t u : TypeId} [TIface P t] {x : Operand} {n : Int} (hx : opv l x = some (errV n)) : Ev P ⟨dst, .binOp .neq t x (.const .nilIface) u, ty, pos, aft, none⟩ l w (.bool (decide (n ≠ 0))) := by
  by_cases h : n = 0
  · subst h
    rw [errV_zero] at hx
    exact ev_errnnil hx
  · rw [errV_pos h] at hx
    simpa [h] using ev_errnnil' (P := P) (w := w) (dst := dst) (ty := ty) (pos := pos) (aft := aft) (t := t) (u := u) hx
end
section
variable {P : Program} {n : Nat} {ops : Array Oper} {Q : Post} {rest : List Oper} {l : Env} {w : World} {d : Tmp} {ty : TypeId} {pos : String} {aft : Array Edge}
theorem o_adE {t u : TypeId} {x y : Operand} {a b c : Int} (hx : opv l x = some (.int .i64 a)) (hy : opv l y = some (.int .i64 b)) (hd : Nat.blt d n = true) (h : owp P n ops Q rest ((d, .int .i64 c) :: l) w) (he : chkI (a + b) = some c := by assumption) : owp P n ops Q (⟨some d, .binOp .add t x y u, ty, pos, aft, none⟩ :: rest) l w := owp_ev (ev_chk_add hx hy he) hd h
theorem o_sbE {t u : TypeId} {x y : Operand} {a b c : Int} (hx : opv l x = some (.int .i64 a)) (hy : opv l y = some (.int .i64 b)) (hd : Nat.blt d n = true) (h : owp P n ops Q rest ((d, .int .i64 c) :: l) w) (he : chkI (a - b) = some c := by assumption) : owp P n ops Q (⟨some d, .binOp .sub t x y u, ty, pos, aft, none⟩ :: rest) l w := owp_ev (ev_chk_sub hx hy he) hd h
theorem o_mlE {t u : TypeId} {x y : Operand} {a b c : Int} (hx : opv l x = some (.int .i64 a)) (hy : opv l y = some (.int .i64 b)) (hd : Nat.blt d n = true) (h : owp P n ops Q rest ((d, .int .i64 c) :: l) w) (he : chkI (a * b) = some c := by assumption) : owp P n ops Q (⟨some d, .binOp .mul t x y u, ty, pos, aft, none⟩ :: rest) l w := owp_ev (ev_chk_mul hx hy he) hd h
theorem o_iaE {t e : TypeId} [TSlice P t e] {z : Value} {size bytes : Nat} [TInfo P e z size bytes] {x i : Operand} {k : IntKind} {A : Option Addr} {b o m c j : Nat} {q : Int} (hx : opv l x = some (.slice A m c)) (hq : opv l i = some (.int k q)) (hd : Nat.blt d n = true) (h : owp P n ops Q rest ((d, .pointer (some ⟨b, o + j * size, none⟩)) :: l) w) (hA : A = some ⟨b, o, none⟩ := by assumption) (hj : q = (j : Int) := by rfl) (hlt : j < m := by assumption) : owp P n ops Q (⟨some d, .indexAddr t x i, ty, pos, aft, none⟩ :: rest) l w := owp_ev (ev_iaE hx hq hA hj hlt) hd h
theorem o_miE [TInt P 45 .i64] {x : Operand} {q : Int} (hx : opv l x = some (.int .i64 q)) (hd : Nat.blt d n = true) (h : owp P n ops Q rest ((d, errV q) :: l) w) (hn : q ≠ 0 := by decide) : owp P n ops Q (⟨some d, .makeInterface 45 x, ty, pos, aft, none⟩ :: rest) l w := owp_ev (ev_miE hx hn) hd h
theorem o_erS {t u : TypeId} [TIface P t] {x : Operand} {k : Int} (hx : opv l x = some (errV k)) (hd : Nat.blt d n = true) (ht : k = 0 → owp P n ops Q rest ((d, .bool true) :: l) w) (hf : ¬ (k = 0) → owp P n ops Q rest ((d, .bool false) :: l) w) : owp P n ops Q (⟨some d, .binOp .eql t x (.const .nilIface) u, ty, pos, aft, none⟩ :: rest) l w := owp_split (ev_errE hx) hd ht hf
theorem o_rnS {t u : TypeId} [TIface P t] {x : Operand} {k : Int} (hx : opv l x = some (errV k)) (hd : Nat.blt d n = true) (ht : k ≠ 0 → owp P n ops Q rest ((d, .bool true) :: l) w) (hf : ¬ (k ≠ 0) → owp P n ops Q rest ((d, .bool false) :: l) w) : owp P n ops Q (⟨some d, .binOp .neq t x (.const .nilIface) u, ty, pos, aft, none⟩ :: rest) l w := owp_split (ev_errN hx) hd ht hf
variable {S : World → Prop} {r : List (Nat × Bool)} {i : Nat}
theorem h_fnS {u : TypeId} {x y : Operand} {a b c e : Int} (hi : ops[i]? = some ⟨some d, .binOp .neq 26 x y u, ty, pos, aft, none⟩) (hx : opv l x = some (.agg #[.int .i64 a, .int .i64 b])) (hy : opv l y = some (.agg #[.int .i64 c, .int .i64 e])) (hd : Nat.blt d n = true) (ht : ¬ (a = c ∧ b = e) → hwp Tryz.prog n ops Q S r ((d, .bool true) :: l) w) (hf : ¬ (¬ (a = c ∧ b = e)) → hwp Tryz.prog n ops Q S r ((d, .bool false) :: l) w) : hwp Tryz.prog n ops Q S ((i, true) :: r) l w := hwp_o hi (hwq_split (fun _ _ => ev_fn hx hy) hd ht hf)
theorem h_adE {t u : TypeId} {x y : Operand} {a b c : Int} (hi : ops[i]? = some ⟨some d, .binOp .add t x y u, ty, pos, aft, none⟩) (hx : opv l x = some (.int .i64 a)) (hy : opv l y = some (.int .i64 b)) (hd : Nat.blt d n = true) (h : hwp P n ops Q S r ((d, .int .i64 c) :: l) w) (he : chkI (a + b) = some c := by assumption) : hwp P n ops Q S ((i, true) :: r) l w := hwp_o hi (hwq_ev (fun _ _ => ev_chk_add hx hy he) hd h)
theorem h_sbE {t u : TypeId} {x y : Operand} {a b c : Int} (hi : ops[i]? = some ⟨some d, .binOp .sub t x y u, ty, pos, aft, none⟩) (hx : opv l x = some (.int .i64 a)) (hy : opv l y = some (.int .i64 b)) (hd : Nat.blt d n = true) (h : hwp P n ops Q S r ((d, .int .i64 c) :: l) w) (he : chkI (a - b) = some c := by assumption) : hwp P n ops Q S ((i, true) :: r) l w := hwp_o hi (hwq_ev (fun _ _ => ev_chk_sub hx hy he) hd h)
theorem g_sbE {t u : TypeId} {x y : Operand} {a b c : Int} (hx : opv l x = some (.int .i64 a)) (hy : opv l y = some (.int .i64 b)) (hd : Nat.blt d n = true) (h : hwp P n ops Q S r ((d, .int .i64 c) :: l) w) (he : chkI (a - b) = some c := by assumption) : hwq P n ops Q S ⟨some d, .binOp .sub t x y u, ty, pos, aft, none⟩ r l w := hwq_ev (fun _ _ => ev_chk_sub hx hy he) hd h
theorem h_iaE {t e : TypeId} [TSlice P t e] {z : Value} {size bytes : Nat} [TInfo P e z size bytes] {x i' : Operand} {k : IntKind} {A : Option Addr} {b o m c j : Nat} {q : Int} (hi : ops[i]? = some ⟨some d, .indexAddr t x i', ty, pos, aft, none⟩) (hx : opv l x = some (.slice A m c)) (hq : opv l i' = some (.int k q)) (hd : Nat.blt d n = true) (h : hwp P n ops Q S r ((d, .pointer (some ⟨b, o + j * size, none⟩)) :: l) w) (hA : A = some ⟨b, o, none⟩ := by assumption) (hj : q = (j : Int) := by rfl) (hlt : j < m := by assumption) : hwp P n ops Q S ((i, true) :: r) l w := hwp_o hi (hwq_ev (fun _ _ => ev_iaE hx hq hA hj hlt) hd h)
theorem g_iaE {t e : TypeId} [TSlice P t e] {z : Value} {size bytes : Nat} [TInfo P e z size bytes] {x i' : Operand} {k : IntKind} {A : Option Addr} {b o m c j : Nat} {q : Int} (hx : opv l x = some (.slice A m c)) (hq : opv l i' = some (.int k q)) (hd : Nat.blt d n = true) (h : hwp P n ops Q S r ((d, .pointer (some ⟨b, o + j * size, none⟩)) :: l) w) (hA : A = some ⟨b, o, none⟩ := by assumption) (hj : q = (j : Int) := by rfl) (hlt : j < m := by assumption) : hwq P n ops Q S ⟨some d, .indexAddr t x i', ty, pos, aft, none⟩ r l w := hwq_ev (fun _ _ => ev_iaE hx hq hA hj hlt) hd h
theorem h_iaP {t e : TypeId} {n' : Nat} [TArr P t n' e] {z : Value} {size bytes : Nat} [TInfo P e z size bytes] {x i' : Operand} {k : IntKind} {b o j : Nat} {q : Int} (hi : ops[i]? = some ⟨some d, .indexAddr t x i', ty, pos, aft, none⟩) (hx : opv l x = some (.pointer (some ⟨b, o, none⟩))) (hq : opv l i' = some (.int k q)) (hd : Nat.blt d n = true) (h : hwp P n ops Q S r ((d, .pointer (some ⟨b, o + j * size, none⟩)) :: l) w) (hj : q = (j : Int) := by rfl) (hlt : j < n' := by decide) : hwp P n ops Q S ((i, true) :: r) l w := hwp_o hi (hwq_ev (fun _ _ => ev_iaP hx hq hj hlt) hd h)
theorem h_cutL {t e : TypeId} [TSlice P t e] {z : Value} {size bytes : Nat} [TInfo P e z size bytes] {A A' : Option Addr} {m c m' c' : Nat} {q : Int} {k : IntKind} {x y : Operand} (hi : ops[i]? = some ⟨some d, .slice t x (some y) none none, ty, pos, aft, none⟩) (hx : opv l x = some (.slice A m c)) (hy : opv l y = some (.int k q)) (hd : Nat.blt d n = true) (h : hwp P n ops Q S r ((d, .slice A' m' c') :: l) w) (hc : CutB size A m c q (m : Int) A' m' c' := by assumption) : hwp P n ops Q S ((i, true) :: r) l w := hwp_o hi (hwq_ev (fun _ _ => ev_cutL hx hy hc) hd h)
theorem h_cutH {t e : TypeId} [TSlice P t e] {z : Value} {size bytes : Nat} [TInfo P e z size bytes] {A A' : Option Addr} {m c m' c' : Nat} {q : Int} {k : IntKind} {x y : Operand} (hi : ops[i]? = some ⟨some d, .slice t x none (some y) none, ty, pos, aft, none⟩) (hx : opv l x = some (.slice A m c)) (hy : opv l y = some (.int k q)) (hd : Nat.blt d n = true) (h : hwp P n ops Q S r ((d, .slice A' m' c') :: l) w) (hc : CutB size A m c 0 q A' m' c' := by assumption) : hwp P n ops Q S ((i, true) :: r) l w := hwp_o hi (hwq_ev (fun _ _ => ev_cutH hx hy hc) hd h)
end
end
section
open Go Go.RowKit
attribute [local irreducible] ewp owp hwp hwq Ev Evg Fn retPost Res1
section
variable {w : World} {A : Nat → Prop} (hA : ∀ k, A k → k < w.heap.size) {v0 v1 : Value}
include hA
omit hA in
noncomputable def m_base_Ints (x : List Int) (y : List Int) : Option Bool := some (bof (x = y))
theorem c_base_Ints {x0 : List Int} (h0 : Vb w A v0 x0) {x1 : List Int} (h1 : Vb w A v1 x1) {r : Bool} (hm : m_base_Ints x0 x1 = some r) : Fn Tryz.prog 18 [v0, v1] w fun v w' => Ext w w' ∧ Vb w' (upA A w w') v r := by
  obtain rfl := sm hm
  refine (baseInts (h0.mono hA) (h1.mono hA)).mono fun v w' h => ⟨h.2, ?_⟩
  rw [h.1]; exact vBool
omit hA in
noncomputable def m_task_Proper (x : List Int) (y : List Int) : Option Bool := some (bof (StateOk x y))
theorem c_task_Proper {x0 : List Int} (h0 : Vb w A v0 x0) {x1 : List Int} (h1 : Vb w A v1 x1) {r : Bool} (hm : m_task_Proper x0 x1 = some r) : Fn Tryz.prog 34 [v0, v1] w fun v w' => Ext w w' ∧ Vb w' (upA A w w') v r := by
  obtain rfl := sm hm
  refine (taskProper (h0.mono hA) (h1.mono hA)).mono fun v w' h => ⟨h.2, ?_⟩
  rw [h.1]; exact vBool
end
noncomputable def m_task_Check (t : Tsk) : Option Err := some ⟨checkN t⟩
theorem checkN_rng (t : Tsk) : inI64 (checkN t) := by unfold checkN; (repeat' split) <;> decide
theorem c_task_Check {w : World} {A : Nat → Prop} (hA : ∀ k, A k → k < w.heap.size) {v0 : Value} {x0 : Tsk} (h0 : Vb w A v0 x0) {r : Err} (hm : m_task_Check x0 = some r) : Fn Tryz.prog 26 [v0] w fun v w' => Ext w w' ∧ Vb w' (upA A w w') v r := by
  obtain rfl := sm hm
  refine (taskCheck (h0.mono hA)).mono fun v w' h => ⟨h.2, ?_⟩
  rw [h.1]
  exact vErr (checkN_rng _)
def m_base_Num (x : Err) : Option Int := some x.n
theorem c_base_Num {w : World} {A : Nat → Prop} (hA : ∀ k, A k → k < w.heap.size) {x0 : Err} (r0 : inI64 x0.n) {r : Int} (hm : m_base_Num x0 = some r) : Fn Tryz.prog 22 [errV x0.n] w fun v w' => Ext w w' ∧ Vb w' (upA A w w') v r := by
  obtain rfl := sm hm
  refine fn_enter Tryz.func22 rfl Tryz.ntmps22 rfl ?_
  by_cases h : x0.n = 0
  · rw [h, errV_zero]
    ((repeat (first | refine e_go ?_ | refine ewp_true rfl ?_ | refine ewp_false rfl ?_)) <;> (refine o_as rfl rfl ?_ <;> (refine o_z ?_)) <;> (repeat (first | refine e_go ?_ | refine ewp_true rfl ?_ | refine ewp_false rfl ?_)) <;> (refine o_mv rfl rfl ?_ <;> (first | refine o_en rfl rfl ?_ | refine o_eo rfl rfl ?_) <;> (refine o_z ?_)) <;> (repeat (first | refine e_go ?_ | refine ewp_true rfl ?_ | refine ewp_false rfl ?_)) <;> (refine o_as rfl rfl ?_ <;> (refine o_z ?_)) <;> (repeat (first | refine e_go ?_ | refine ewp_true rfl ?_ | refine ewp_false rfl ?_)))
    exact ret1 rfl rfl ⟨Below.refl _ _, vInt (by decide)⟩
  · rw [errV_pos h]
    have h2 : -9223372036854775808 ≤ x0.n ∧ x0.n ≤ 9223372036854775807 := r0
    ((repeat (first | refine e_go ?_ | refine ewp_true rfl ?_ | refine ewp_false rfl ?_)) <;> (refine o_as rfl rfl ?_ <;> (refine o_z ?_)) <;> (repeat (first | refine e_go ?_ | refine ewp_true rfl ?_ | refine ewp_false rfl ?_)) <;> (refine o_mv rfl rfl ?_ <;> (first | refine o_en rfl rfl ?_ | refine o_eo rfl rfl ?_) <;> (refine o_z ?_)) <;> (repeat (first | refine e_go ?_ | refine ewp_true rfl ?_ | refine ewp_false rfl ?_)) <;> (refine o_mv rfl rfl ?_ <;> refine o_ta rfl rfl ?_ <;> refine o_mv rfl rfl ?_ <;> refine o_ex rfl rfl rfl ?_ <;> refine o_ex rfl rfl rfl ?_ <;> refine o_as rfl rfl ?_ <;> refine o_as rfl rfl ?_ <;> (refine o_z ?_)) <;> (repeat (first | refine e_go ?_ | refine ewp_true rfl ?_ | refine ewp_false rfl ?_)) <;> (refine o_mv rfl rfl ?_ <;> (refine o_z ?_)) <;> (repeat (first | refine e_go ?_ | refine ewp_true rfl ?_ | refine ewp_false rfl ?_)) <;> (refine o_mv rfl rfl ?_ <;> refine o_as rfl rfl ?_ <;> (refine o_z ?_)) <;> (repeat (first | refine e_go ?_ | refine ewp_true rfl ?_ | refine ewp_false rfl ?_)))
    exact ret1 rfl rfl ⟨Below.refl _ _, vInt r0⟩
def m_slices_Clone_Lint_int (xs : List Int) : Option (List Int) := if xs.length * 8 ≤ 140737488355328 ∧ xs.length ≤ 9223372036854775807 then some xs else none
theorem c_slices_Clone_Lint_int {w : World} {A : Nat → Prop} (hA : ∀ k, A k → k < w.heap.size) {v0 : Value} {x0 : List Int} (h0 : Vb w A v0 x0) {r : List Int} (hm : m_slices_Clone_Lint_int x0 = some r) :
    Fn Tryz.prog 102 [v0] w fun v w' => Ext w w' ∧ RowR w w' (upA A w w') 3 v r := by
  obtain ⟨⟨hl, hl2⟩, rfl⟩ := ite_some hm
  obtain ⟨O, hB, hA0⟩ := enter hA
  replace h0 := h0.mono hA0
  obtain ⟨Ad, c, rfl⟩ := h0.form
  refine fn_enter Tryz.func102 rfl Tryz.ntmps102 rfl ?_
  cases Ad with
  | none =>
    have hx : x0 = [] := by
      cases x0 with
      | nil => rfl
      | cons x xs => obtain ⟨_, _, _, h, _⟩ := h0.elem (k := 0) (x := x) rfl; cases h
    subst hx
    ((repeat (first | refine e_go ?_ | refine ewp_true rfl ?_ | refine ewp_false rfl ?_)) <;> (refine o_as rfl rfl ?_ <;> (refine o_z ?_)) <;> (repeat (first | refine e_go ?_ | refine ewp_true rfl ?_ | refine ewp_false rfl ?_)) <;> (refine o_mv rfl rfl ?_ <;> refine o_sn rfl rfl ?_ <;> (refine o_z ?_)) <;> (repeat (first | refine e_go ?_ | refine ewp_true rfl ?_ | refine ewp_false rfl ?_)) <;> (refine o_as rfl rfl ?_ <;> (refine o_z ?_)) <;> (repeat (first | refine e_go ?_ | refine ewp_true rfl ?_ | refine ewp_false rfl ?_)))
    exact ret1 rfl rfl ⟨Below.refl _ _, RowR.nil⟩
  | some ad =>
    ((repeat (first | refine e_go ?_ | refine ewp_true rfl ?_ | refine ewp_false rfl ?_)) <;> (refine o_as rfl rfl ?_ <;> (refine o_z ?_)) <;> (repeat (first | refine e_go ?_ | refine ewp_true rfl ?_ | refine ewp_false rfl ?_)) <;> (refine o_mv rfl rfl ?_ <;> refine o_sn rfl rfl ?_ <;> (refine o_z ?_)) <;> (repeat (first | refine e_go ?_ | refine ewp_true rfl ?_ | refine ewp_false rfl ?_)))
    refine l_bslice 2 (by decide) O (xs := ([] : List Int)) rfl rfl rfl rfl trivial (by decide) (by decide) rfl fun g w1 O1 S1 h1 => ?_
    replace hB := hB.st S1 (fun h => h) (fun h => h)
    replace h0 := h0.st S1 (fun h => h)
    (refine o_mv rfl rfl ?_)
    refine l_append rfl h1 h0.rd rfl rfl (by decide) (by simpa using hl) (by simpa using hl2) rfl fun A2 c2 w2 O2 S2 h2 => ?_
    replace hB := hB.st S2 (by decide) (by decide)
    rw [List.nil_append] at h2 ⊢
    (refine o_as rfl rfl ?_ <;> (refine o_z ?_))
    repeat (first | refine e_go ?_ | refine ewp_true rfl ?_ | refine ewp_false rfl ?_)
    exact ret1 rfl rfl ⟨hB.ext, h2.out hB (by decide)⟩
end
section
open Go Go.RowKit
attribute [local irreducible] ewp owp hwp hwq Ev Evg Fn retPost Res1
structure Swp where
  vars : List Int
  vals : List (List Int)
  ops : List Int
instance : Rp Swp where
  isAgg := true
  size := 3
  R w F cs x := ∃ v0 v1 v2, cs = [v0, v1, v2] ∧ Vb w F v0 x.vars ∧ Vb w F v1 x.vals ∧ Vb w F v2 x.ops
  len := by rintro w F cs x ⟨v0, v1, v2, rfl, h0, h1, h2⟩; rfl
  one := by rintro w F cs x ⟨v0, v1, v2, rfl, h0, h1, h2⟩ u hu; simp at hu; rcases hu with rfl | rfl | rfl <;> first | rfl | exact Vb.one rfl (by assumption)
  agree := by rintro w w' F cs x ⟨v0, v1, v2, rfl, h0, h1, h2⟩ ha; exact ⟨v0, v1, v2, rfl, h0.agree ha, h1.agree ha, h2.agree ha⟩
  mono := by rintro w F G cs x ⟨v0, v1, v2, rfl, h0, h1, h2⟩ ha; exact ⟨v0, v1, v2, rfl, h0.mono ha, h1.mono ha, h2.mono ha⟩
noncomputable def m_slices_Equal_Lapi_Fact_api_Fact (x0 : List Fct) (x1 : List Fct) : Option Bool :=
  if (x0.length : Int) ≠ (x1.length : Int) then (some false) else (bnd (rng (ρ := Bool) (fun (k18 : Nat) (a19 : Fct) (s16 : Unit) => bnd (x1[k18]?) fun a38 => if ¬ (a19.var = a38.var ∧ a19.val = a38.val) then (some (.ret false)) else (some (.next ()))) x0 0 ()) fun res14 => fin res14 fun (s54 : Unit) => some true)
theorem c_slices_Equal_Lapi_Fact_api_Fact {w : World} {A : Nat → Prop} (hA : ∀ k, A k → k < w.heap.size) {vx0 : Value} {x0 : List Fct} (hx0 : Vb w A vx0 x0) {vx1 : Value} {x1 : List Fct} (hx1 : Vb w A vx1 x1) {r : Bool} (hm : m_slices_Equal_Lapi_Fact_api_Fact x0 x1 = some r) :
    Fn Tryz.prog 53 [vx0, vx1] w fun v w' => Ext w w' ∧ Vb w' (upA A w w') v r := by
 obtain ⟨O, hB, hA0⟩ := enter hA
 replace hx0 := hx0.mono hA0
 obtain ⟨A3, c4, rfl⟩ := hx0.form
 replace hx1 := hx1.mono hA0
 obtain ⟨A5, c6, rfl⟩ := hx1.form
 refine fn_enter Tryz.func53 rfl Tryz.ntmps53 rfl ?_
 unfold m_slices_Equal_Lapi_Fact_api_Fact at hm
 refine ewp_seq (ewp_region (o_as rfl rfl (o_z ?_)))
 refine ewp_seq (ewp_seq (ewp_region (o_mv rfl rfl (o_ln rfl rfl ?_))))
 have l8 : x0.length ≤ 9223372036854775807 := Nat.le_trans hx0.len.2.1 hx0.len.2.2
 have r7 : inI64 (x0.length : Int) := rngNat l8
 refine o_mv rfl rfl (o_ln rfl rfl ?_)
 have l10 : x1.length ≤ 9223372036854775807 := Nat.le_trans hx1.len.2.1 hx1.len.2.2
 have r9 : inI64 (x1.length : Int) := rngNat l10
 refine o_neS rfl rfl rfl (fun c11 => ?_) fun c11 => ?_
 ·
  replace hm := ip hm c11
  refine o_z ?_
  refine ewp_true rfl (ewp_seq (ewp_region (o_as rfl rfl (o_z ?_))))
  refine ewp_ret ?_
  obtain rfl := sm hm
  exact ret1v rfl (res_tmp rfl) ⟨hB.ext, vBool⟩
 replace hm := im hm c11
 refine o_z ?_
 refine ewp_false rfl (ewp_skip (ewp_seq (ewp_seq (ewp_region (o_mv rfl rfl (o_ln rfl rfl ?_))))))
 have l13 : x0.length ≤ 9223372036854775807 := Nat.le_trans hx0.len.2.1 hx0.len.2.2
 have r12 : inI64 (x0.length : Int) := rngNat l13
 refine o_mv rfl rfl (o_z ?_)
 obtain ⟨res14, hL15, hm⟩ := bs hm
 refine ewp_join (aft res14 (fun (s16 : Unit) (x17 : Unit) => []) (fun s16 x17 w' => ∃ O' : Lab, Bs w A w' O')) ?_ ?_
 ·
  refine ewp_block (ewp_rng (σ := Unit) (X := Unit) (x0.length) hL15 rfl l13 (fun (s16 : Unit) (x17 : Unit) => [(0, (.slice A3 x0.length c4)), (1, (.slice A5 x1.length c6))]) _ (fun s16 x17 w' => ∃ O' : Lab, Bs w A w' O' ∧ Vb w' (Fr 0 w' O') (.slice A3 x0.length c4) x0 ∧ Vb w' (Fr 0 w' O') (.slice A5 x1.length c6) x1) _ () ⟨O, hB, hx0, hx1⟩ ⟨rfl, rfl, rfl, rfl, trivial⟩ (fun _ _ => ⟨rfl, rfl⟩) (fun _ _ => trivial) (fun _ _ _ ⟨O', hB, hx0, hx1⟩ => ⟨O', hB⟩) ⟨rfl, rfl, rfl⟩ ⟨rfl, rfl⟩ ?_)
  rintro k18 a19 s16 x17 w20 cc22 hx23 ⟨O21, hB, hx0, hx1⟩ hf24 hret25 hbrk26
  have rk18 : inI64 (k18 : Int) := rngK hx23 l13
  refine ewp_seq (ewp_region (o_mv rfl rfl (o_as rfl rfl (o_z ?_))))
  refine ewp_seq (ewp_draw (· = w20) [(0, true), (1, true), (2, true), (3, true), (4, true), (5, true), (6, true), (7, true), (8, true)] (by kernel_rfl) rfl (by kernel_rfl) rfl ?_)
  refine h_mv rfl rfl rfl (h_mv rfl rfl rfl ?_)
  obtain ⟨b29, o30, ce31, hA32, hl33, hd34, rfl, r36, r37⟩ := hx0.elem' hx23
  refine h_iaE (hA := hA32) (hj := rfl) (hlt := hl33) rfl rfl rfl rfl ?_
  refine h_laA (hl := rfl) (hc := hd34) rfl rfl rfl ?_
  refine h_mv rfl rfl rfl (h_mv rfl rfl rfl ?_)
  obtain ⟨a38, e39, hf24⟩ := bs hf24
  obtain ⟨b40, o41, ce42, hA43, hl44, hd45, rfl, r47, r48⟩ := hx1.elem' e39
  refine h_iaE (hA := hA43) (hj := rfl) (hlt := hl44) rfl rfl rfl rfl ?_
  refine h_laA (hl := rfl) (hc := hd45) rfl rfl rfl ?_
  refine h_fnS rfl rfl rfl rfl (fun c49 => ?_) fun c49 => ?_
  ·
   replace hf24 := ip hf24 c49
   refine h_z ?_
   refine ewp_true rfl (ewp_seq (ewp_region (o_as rfl rfl (o_z ?_))))
   refine ewp_ret ?_
   obtain rfl := sm hf24
   obtain rfl := hret25 _ rfl
   obtain rfl := sm (fin_ret hm)
   exact ret1v rfl (res_tmp rfl) ⟨hB.ext, vBool⟩
  replace hf24 := im hf24 c49
  refine h_z ?_
  refine ewp_false rfl (ewp_skip ?_)
  obtain rfl := sm hf24
  exact show Exists _ from ⟨_, (), rfl, ⟨rfl, rfl, rfl, rfl, trivial⟩, _, hB, hx0, hx1⟩
 rintro l50 w51 ⟨s54, x55, rfl, hs53, O52, hB⟩
 replace hm := fin_done hm
 refine ewp_sub _ hs53 ?_
 refine ewp_seq (ewp_region (o_as rfl rfl (o_z ?_)))
 refine ewp_ret ?_
 obtain rfl := sm hm
 exact ret1v rfl (res_tmp rfl) ⟨hB.ext, vBool⟩
noncomputable def m_symmetry_permutation (x0 : List Int) (x1 : Int) : Option Bool :=
  if (x0.length : Int) ≠ x1 then (some false) else (bnd (mkI 1 (false : Bool) x1) fun u8 => bnd (rng (ρ := Bool) (fun (k27 : Nat) (a28 : Int) (s25 : (List Bool)) => bnd (if a28 < 0 then (some true) else (if x1 ≤ a28 then (some true) else (bnd (atI s25 a28) fun a56 => some a56)) : Option Bool) fun y50 => if y50 = true then (some (.ret false)) else (bnd (atI s25 a28) fun a72 => some (.next (s25.set (a28 : Int).toNat true)))) x0 0 u8) fun res23 => fin res23 fun (s89 : (List Bool)) => some true)
theorem c_symmetry_permutation {w : World} {A : Nat → Prop} (hA : ∀ k, A k → k < w.heap.size) {vx0 : Value} {x0 : List Int} (hx0 : Vb w A vx0 x0) {x1 : Int} (rx1 : inI64 x1) {r : Bool} (hm : m_symmetry_permutation x0 x1 = some r) :
    Fn Tryz.prog 52 [vx0, (.int .i64 x1)] w fun v w' => Ext w w' ∧ Vb w' (upA A w w') v r := by
 obtain ⟨O, hB, hA0⟩ := enter hA
 replace hx0 := hx0.mono hA0
 obtain ⟨A3, c4, rfl⟩ := hx0.form
 refine fn_enter Tryz.func52 rfl Tryz.ntmps52 rfl ?_
 unfold m_symmetry_permutation at hm
 refine ewp_seq (ewp_region (o_as rfl rfl (o_z ?_)))
 refine ewp_seq (ewp_seq (ewp_region (o_mv rfl rfl (o_ln rfl rfl ?_))))
 have l6 : x0.length ≤ 9223372036854775807 := Nat.le_trans hx0.len.2.1 hx0.len.2.2
 have r5 : inI64 (x0.length : Int) := rngNat l6
 refine o_mv rfl rfl (o_neS rfl rfl rfl (fun c7 => ?_) fun c7 => ?_)
 ·
  replace hm := ip hm c7
  refine o_z ?_
  refine ewp_true rfl (ewp_seq (ewp_region (o_as rfl rfl (o_z ?_))))
  refine ewp_ret ?_
  obtain rfl := sm hm
  exact ret1v rfl (res_tmp rfl) ⟨hB.ext, vBool⟩
 replace hm := im hm c7
 refine o_z ?_
 refine ewp_false rfl (ewp_skip (ewp_seq (ewp_region (o_mv rfl rfl ?_))))
 obtain ⟨u8, e9, hm⟩ := bs hm
 obtain ⟨m10, e11, e12, e13, e14⟩ := mkI_some e9
 refine l_make 2 (by decide) O (z0 := (false : Bool)) rfl rfl rfl rfl rfl e11 vBool e12 e13 rfl fun g15 w16 O17 S18 h19 => ?_
 rw [← e14] at h19 ⊢
 refine o_as rfl rfl (o_z ?_)
 refine ewp_seq (ewp_seq (ewp_region (o_mv rfl rfl (o_ln rfl rfl ?_))))
 replace hx0 := hx0.st S18
 have l22 : x0.length ≤ 9223372036854775807 := Nat.le_trans hx0.len.2.1 hx0.len.2.2
 have r21 : inI64 (x0.length : Int) := rngNat l22
 refine o_mv rfl rfl (o_z ?_)
 obtain ⟨res23, hL24, hm⟩ := bs hm
 refine ewp_join (aft res23 (fun (s25 : (List Bool)) (x26 : Unit) => []) (fun s25 x26 w' => ∃ O' : Lab, Bs w A w' O')) ?_ ?_
 ·
  refine ewp_block ?_
  replace hB := hB.st S18
  refine ewp_rng (σ := (List Bool)) (X := Unit) (x0.length) hL24 rfl l22 (fun (s25 : (List Bool)) (x26 : Unit) => [(1, (.int .i64 x1)), (5, (.slice (some ⟨g15, 0, none⟩) u8.length m10)), (14, (.slice A3 x0.length c4))]) _ (fun s25 x26 w' => ∃ O' : Lab, Bs w A w' O' ∧ Rw 2 w' O' 4 (.slice (some ⟨g15, 0, none⟩) u8.length m10) s25 ∧ Vb w' (Fr 0 w' O') (.slice A3 x0.length c4) x0) _ () ⟨O17, hB, h19, hx0⟩ ⟨rfl, rfl, rfl, rfl, rfl, trivial⟩ (fun _ _ => ⟨rfl, rfl⟩) (fun _ _ => trivial) (fun _ _ _ ⟨O', hB, h40, hx0⟩ => ⟨O', hB⟩) ⟨rfl, rfl, rfl⟩ ⟨rfl, rfl⟩ ?_
  rintro k27 a28 s25 x26 w29 cc31 hx32 ⟨O30, hB, h40, hx0⟩ hf33 hret34 hbrk35
  have rk27 : inI64 (k27 : Int) := rngK hx32 l22
  refine ewp_seq (ewp_region ?_)
  obtain ⟨b42, o43, ce44, hA45, hl46, hd47, rfl, r49⟩ := hx0.elem' hx32
  refine o_iaE (hA := hA45) (hj := rfl) (hlt := hl46) rfl rfl rfl ?_
  refine o_ld (hc := cat0 hd47) rfl rfl ?_
  refine o_as rfl rfl (o_z ?_)
  refine ewp_seq (ewp_seq ?_)
  obtain ⟨y50, hy51, hf33⟩ := bs hf33
  refine ewp_join (fun l' w' => ∃ (x53 : Unit) (O' : Lab), subs l' [(1, (.int .i64 x1)), (5, (.slice (some ⟨g15, 0, none⟩) u8.length m10)), (7, (.int .i64 a28)), (14, (.slice A3 x0.length c4)), (15, (.int .i64 (x0.length : Int))), (16, (.int .i64 (k27 : Int))), (32, (.bool y50))] ∧ Bs w A w' O' ∧ Rw 2 w' O' 4 (.slice (some ⟨g15, 0, none⟩) u8.length m10) s25 ∧ Vb w' (Fr 0 w' O') (.slice A3 x0.length c4) x0) ?_ ?_
  ·
   refine ewp_region (o_mv rfl rfl (o_ltS rfl rfl rfl (fun c54 => ?_) fun c54 => ?_))
   ·
    replace hy51 := ip hy51 c54
    refine o_mv rfl rfl (owp_no rfl rfl rfl rfl (owp_no rfl rfl rfl rfl (owp_no rfl rfl rfl rfl (o_pt rfl rfl rfl (o_mv rfl rfl (owp_no rfl rfl rfl rfl (owp_no rfl rfl rfl rfl (owp_no rfl rfl rfl rfl (owp_no rfl rfl rfl rfl (o_pt rfl rfl rfl (o_z ?_)))))))))))
    obtain rfl := sm hy51
    exact ⟨(), _, ⟨rfl, rfl, rfl, rfl, rfl, rfl, rfl, trivial⟩, hB, h40, hx0⟩
   replace hy51 := im hy51 c54
   refine o_mv rfl rfl (owp_yes rfl rfl (o_mv rfl rfl (owp_yes rfl rfl (o_mv rfl rfl (owp_yes rfl rfl (o_geS rfl rfl rfl (fun c55 => ?_) fun c55 => ?_))))))
   ·
    replace hy51 := ip hy51 c55
    refine o_pf rfl rfl rfl (o_mv rfl rfl (owp_no rfl rfl rfl rfl (owp_no rfl rfl rfl rfl (owp_no rfl rfl rfl rfl (owp_no rfl rfl rfl rfl (o_pt rfl rfl rfl (o_z ?_)))))))
    obtain rfl := sm hy51
    exact ⟨(), _, ⟨rfl, rfl, rfl, rfl, rfl, rfl, rfl, trivial⟩, hB, h40, hx0⟩
   replace hy51 := im hy51 c55
   refine o_pf rfl rfl rfl (o_mv rfl rfl (owp_yes rfl rfl (o_mv rfl rfl (owp_yes rfl rfl (o_mv rfl rfl (owp_yes rfl rfl ?_))))))
   obtain ⟨a56, e57, hy51⟩ := bs hy51
   obtain ⟨p59, x58⟩ := atI_some' e57
   obtain ⟨b60, o61, ce62, hA63, hl64, hd65, rfl⟩ := h40.elem x58
   refine o_iaE (hA := hA63) (hj := (Int.toNat_of_nonneg p59).symm) (hlt := hl64) rfl rfl rfl ?_
   refine owp_yes rfl rfl (o_ld (hc := cat0 hd65) rfl rfl ?_)
   refine o_pf rfl rfl rfl (o_z ?_)
   obtain rfl := sm hy51
   exact ⟨(), _, ⟨rfl, rfl, rfl, rfl, rfl, rfl, rfl, trivial⟩, hB, h40, hx0⟩
  rintro l67 w68 ⟨x53, O69, hs70, hB, h40, hx0⟩
  refine ewp_sub _ hs70 ?_
  refine ewp_cond rfl (fun c71 => ?_) (fun c71 => ?_)
  ·
   replace hf33 := ip hf33 c71
   refine ewp_seq (ewp_region (o_as rfl rfl (o_z ?_)))
   refine ewp_ret ?_
   obtain rfl := sm hf33
   obtain rfl := hret34 _ rfl
   obtain rfl := sm (fin_ret hm)
   exact ret1v rfl (res_tmp rfl) ⟨hB.ext, vBool⟩
  replace hf33 := im' hf33 c71
  refine ewp_skip (ewp_region (o_mv rfl rfl (o_mv rfl rfl ?_)))
  obtain ⟨a72, e73, hf33⟩ := bs hf33
  obtain ⟨p75, x74⟩ := atI_some' e73
  obtain ⟨b76, o77, ce78, hA79, hl80, hd81, rfl⟩ := h40.elem x74
  refine o_iaE (hA := hA79) (hj := (Int.toNat_of_nonneg p75).symm) (hlt := hl80) rfl rfl rfl ?_
  refine l_setE rfl h40 (a := true) vBool hA79 rfl rfl (lt_of_get x74) fun w83 S84 h40 => ?_
  refine o_z ?_
  obtain rfl := sm hf33
  replace hx0 := hx0.st S84
  replace hB := hB.st S84
  exact show Exists _ from ⟨_, (), rfl, ⟨rfl, rfl, rfl, rfl, rfl, trivial⟩, _, hB, h40, hx0⟩
 replace hB := hB.st S18
 rintro l85 w86 ⟨s89, x90, rfl, hs88, O87, hB⟩
 replace hm := fin_done hm
 refine ewp_sub _ hs88 ?_
 refine ewp_seq (ewp_region (o_as rfl rfl (o_z ?_)))
 refine ewp_ret ?_
 obtain rfl := sm hm
 exact ret1v rfl (res_tmp rfl) ⟨hB.ext, vBool⟩
noncomputable def m_symmetry_facts (x0 : Tsk) (x1 : Swp) : Option Bool :=
  bnd (bnd (m_symmetry_permutation x1.vars (x0.vars.length : Int)) fun q49 => if q49 = true then if (x1.vals.length : Int) ≠ (x0.vars.length : Int) then (some true) else (some false) else some true : Option Bool) fun y43 => if y43 = true then (some false) else (bnd (rng (ρ := Bool) (fun (k72 : Nat) (a73 : Int) (s70 : Unit) => bnd (bnd (x1.vars[k72]?) fun a95 => bnd (atI x0.vars a95) fun a105 => if a105 ≠ a73 then (some true) else (bnd (x1.vals[k72]?) fun a118 => bnd (m_symmetry_permutation a118 a73) fun q131 => if q131 = true then some false else some true) : Option Bool) fun y91 => if y91 = true then (some (.ret false)) else (some (.next ()))) x0.vars 0 ()) fun res68 => fin res68 fun (s147 : Unit) => some true)
theorem c_symmetry_facts {w : World} {A : Nat → Prop} (hA : ∀ k, A k → k < w.heap.size) {vx0 : Value} {x0 : Tsk} (hx0 : Vb w A vx0 x0) {vx1 : Value} {x1 : Swp} (hx1 : Vb w A vx1 x1) {r : Bool} (hm : m_symmetry_facts x0 x1 = some r) :
    Fn Tryz.prog 51 [vx0, vx1] w fun v w' => Ext w w' ∧ Vb w' (upA A w w') v r := by
 obtain ⟨O, hB, hA0⟩ := enter hA
 replace hx0 := hx0.mono hA0
 obtain ⟨cs3, rfl, v4, v5, v6, v7, rfl, h8, h11, h14, h17⟩ := hx0
 obtain ⟨A9, c10, rfl⟩ := h8.form
 obtain ⟨A12, c13, rfl⟩ := h11.form
 obtain ⟨A15, c16, rfl⟩ := h14.form
 obtain ⟨A18, c19, rfl⟩ := h17.form
 replace hx1 := hx1.mono hA0
 obtain ⟨cs20, rfl, v21, v22, v23, rfl, h24, h27, h30⟩ := hx1
 obtain ⟨A25, c26, rfl⟩ := h24.form
 obtain ⟨A28, c29, rfl⟩ := h27.form
 obtain ⟨A31, c32, rfl⟩ := h30.form
 refine fn_enter Tryz.func51 rfl Tryz.ntmps51 rfl ?_
 unfold m_symmetry_facts at hm
 refine ewp_seq (ewp_region (l_box 2 O rfl rfl fun g33 w34 O35 S36 h37 => ?_))
 replace h37 : Lc 2 w34 O35 g33 30 [(.slice A9 x0.vars.length c10), (.slice A12 x0.init.length c13), (.slice A15 x0.goal.length c16), (.slice A18 x0.ops.length c19)] := h37
 refine l_box 3 O35 rfl rfl fun g38 w39 O40 S41 h42 => ?_
 replace h42 : Lc 3 w39 O40 g38 43 [(.slice A25 x1.vars.length c26), (.slice A28 x1.vals.length c29), (.slice A31 x1.ops.length c32)] := h42
 refine o_as rfl rfl (o_z ?_)
 refine ewp_seq (ewp_seq ?_)
 obtain ⟨y43, hy44, hm⟩ := bs hm
 refine ewp_join (fun l' w' => ∃ (x46 : Unit) (O' : Lab), subs l' [(2, (.pointer (some ⟨g33, 0, none⟩))), (3, (.pointer (some ⟨g38, 0, none⟩))), (22, (.bool y43))] ∧ Bs w A w' O' ∧ Lc 2 w' O' g33 30 [(.slice A9 x0.vars.length c10), (.slice A12 x0.init.length c13), (.slice A15 x0.goal.length c16), (.slice A18 x0.ops.length c19)] ∧ Vb w' (Fr 0 w' O') (.slice A9 x0.vars.length c10) x0.vars ∧ Vb w' (Fr 0 w' O') (.slice A12 x0.init.length c13) x0.init ∧ Vb w' (Fr 0 w' O') (.slice A15 x0.goal.length c16) x0.goal ∧ Vb w' (Fr 0 w' O') (.slice A18 x0.ops.length c19) x0.ops ∧ Lc 3 w' O' g38 43 [(.slice A25 x1.vars.length c26), (.slice A28 x1.vals.length c29), (.slice A31 x1.ops.length c32)] ∧ Vb w' (Fr 0 w' O') (.slice A25 x1.vars.length c26) x1.vars ∧ Vb w' (Fr 0 w' O') (.slice A28 x1.vals.length c29) x1.vals ∧ Vb w' (Fr 0 w' O') (.slice A31 x1.ops.length c32) x1.ops) ?_ ?_
 ·
  refine ewp_region (o_fa rfl rfl (o_ld (hc := Blk.cell (i := 0) (h42.1) rfl) rfl rfl ?_))
  refine o_fa rfl rfl ?_
  replace h37 := h37.st S41
  refine o_ld (hc := Blk.cell (i := 0) (h37.1) rfl) rfl rfl ?_
  refine o_ln rfl rfl ?_
  replace h8 := (h8.st S36).st S41
  have l48 : x0.vars.length ≤ 9223372036854775807 := Nat.le_trans h8.len.2.1 h8.len.2.2
  have r47 : inI64 (x0.vars.length : Int) := rngNat l48
  obtain ⟨q49, e50, hy44⟩ := bs hy44
  replace h24 := (h24.st S36).st S41
  refine l_callA (O := O40) (A := All w39) (R := fun w' F v => Vb w' F v q49) (c_symmetry_permutation (fun _ h => h) (Vb.mono (F := Fr 0 w39 O40) h24 Fr.lt) r47 e50) rfl rfl fun v55 w51 O52 S53 h54 => ?_
  obtain rfl := h54.bool
  cases q49
  case false =>
   replace hy44 := iF hy44
   refine o_nf rfl rfl (o_mv rfl rfl (owp_no rfl rfl rfl rfl (owp_no rfl rfl rfl rfl (owp_no rfl rfl rfl rfl (owp_no rfl rfl rfl rfl (owp_no rfl rfl rfl rfl (owp_no rfl rfl rfl rfl (owp_no rfl rfl rfl rfl (o_pt rfl rfl rfl (o_z ?_))))))))))
   obtain rfl := sm hy44
   replace hB := ((hB.st S36).st S41).st S53
   replace h8 := h8.st S53
   replace h11 := ((h11.st S36).st S41).st S53
   replace h14 := ((h14.st S36).st S41).st S53
   replace h17 := ((h17.st S36).st S41).st S53
   replace h24 := h24.st S53
   replace h27 := ((h27.st S36).st S41).st S53
   replace h30 := ((h30.st S36).st S41).st S53
   replace h37 := h37.st S53
   replace h42 := h42.st S53
   exact ⟨(), _, ⟨rfl, rfl, rfl, trivial⟩, hB, h37, h8, h11, h14, h17, h42, h24, h27, h30⟩
  replace hy44 := iT hy44
  refine o_nt rfl rfl (o_mv rfl rfl (owp_yes rfl rfl (o_fa rfl rfl (owp_yes rfl rfl ?_))))
  replace h42 := h42.st S53
  refine o_ld (hc := Blk.cell (i := 1) (h42.1) rfl) rfl rfl ?_
  refine owp_yes rfl rfl (o_ln rfl rfl ?_)
  replace h27 := ((h27.st S36).st S41).st S53
  have l57 : x1.vals.length ≤ 9223372036854775807 := Nat.le_trans h27.len.2.1 h27.len.2.2
  have r56 : inI64 (x1.vals.length : Int) := rngNat l57
  refine owp_yes rfl rfl (o_fa rfl rfl (owp_yes rfl rfl ?_))
  replace h37 := h37.st S53
  refine o_ld (hc := Blk.cell (i := 0) (h37.1) rfl) rfl rfl ?_
  refine owp_yes rfl rfl (o_ln rfl rfl ?_)
  replace h8 := h8.st S53
  have l59 : x0.vars.length ≤ 9223372036854775807 := Nat.le_trans h8.len.2.1 h8.len.2.2
  have r58 : inI64 (x0.vars.length : Int) := rngNat l59
  refine owp_yes rfl rfl (o_neS rfl rfl rfl (fun c60 => ?_) fun c60 => ?_)
  ·
   replace hy44 := ip hy44 c60
   refine o_pf rfl rfl rfl (o_z ?_)
   obtain rfl := sm hy44
   replace hB := ((hB.st S36).st S41).st S53
   replace h11 := ((h11.st S36).st S41).st S53
   replace h14 := ((h14.st S36).st S41).st S53
   replace h17 := ((h17.st S36).st S41).st S53
   replace h24 := h24.st S53
   replace h30 := ((h30.st S36).st S41).st S53
   exact ⟨(), _, ⟨rfl, rfl, rfl, trivial⟩, hB, h37, h8, h11, h14, h17, h42, h24, h27, h30⟩
  replace hy44 := im hy44 c60
  refine o_pf rfl rfl rfl (o_z ?_)
  obtain rfl := sm hy44
  replace hB := ((hB.st S36).st S41).st S53
  replace h11 := ((h11.st S36).st S41).st S53
  replace h14 := ((h14.st S36).st S41).st S53
  replace h17 := ((h17.st S36).st S41).st S53
  replace h24 := h24.st S53
  replace h30 := ((h30.st S36).st S41).st S53
  exact ⟨(), _, ⟨rfl, rfl, rfl, trivial⟩, hB, h37, h8, h11, h14, h17, h42, h24, h27, h30⟩
 replace hB := (hB.st S36).st S41
 replace h8 := (h8.st S36).st S41
 replace h11 := (h11.st S36).st S41
 replace h14 := (h14.st S36).st S41
 replace h17 := (h17.st S36).st S41
 replace h24 := (h24.st S36).st S41
 replace h27 := (h27.st S36).st S41
 replace h30 := (h30.st S36).st S41
 replace h37 := h37.st S41
 rintro l61 w62 ⟨x46, O63, hs64, hB, h37, h8, h11, h14, h17, h42, h24, h27, h30⟩
 refine ewp_sub _ hs64 ?_
 refine ewp_cond rfl (fun c65 => ?_) (fun c65 => ?_)
 ·
  replace hm := ip hm c65
  refine ewp_seq (ewp_region (o_as rfl rfl (o_z ?_)))
  refine ewp_ret ?_
  obtain rfl := sm hm
  exact ret1v rfl (res_tmp rfl) ⟨hB.ext, vBool⟩
 replace hm := im' hm c65
 refine ewp_skip (ewp_seq (ewp_seq (ewp_region (o_fa rfl rfl (o_ld (hc := Blk.cell (i := 0) (h37.1) rfl) rfl rfl ?_)))))
 refine o_ln rfl rfl ?_
 have l67 : x0.vars.length ≤ 9223372036854775807 := Nat.le_trans h8.len.2.1 h8.len.2.2
 have r66 : inI64 (x0.vars.length : Int) := rngNat l67
 refine o_mv rfl rfl (o_z ?_)
 obtain ⟨res68, hL69, hm⟩ := bs hm
 refine ewp_join (aft res68 (fun (s70 : Unit) (x71 : Unit) => []) (fun s70 x71 w' => ∃ O' : Lab, Bs w A w' O')) ?_ ?_
 ·
  refine ewp_block (ewp_rng (σ := Unit) (X := Unit) (x0.vars.length) hL69 rfl l67 (fun (s70 : Unit) (x71 : Unit) => [(2, (.pointer (some ⟨g33, 0, none⟩))), (3, (.pointer (some ⟨g38, 0, none⟩))), (24, (.slice A9 x0.vars.length c10))]) _ (fun s70 x71 w' => ∃ O' : Lab, Bs w A w' O' ∧ Lc 2 w' O' g33 30 [(.slice A9 x0.vars.length c10), (.slice A12 x0.init.length c13), (.slice A15 x0.goal.length c16), (.slice A18 x0.ops.length c19)] ∧ Vb w' (Fr 0 w' O') (.slice A9 x0.vars.length c10) x0.vars ∧ Vb w' (Fr 0 w' O') (.slice A12 x0.init.length c13) x0.init ∧ Vb w' (Fr 0 w' O') (.slice A15 x0.goal.length c16) x0.goal ∧ Vb w' (Fr 0 w' O') (.slice A18 x0.ops.length c19) x0.ops ∧ Lc 3 w' O' g38 43 [(.slice A25 x1.vars.length c26), (.slice A28 x1.vals.length c29), (.slice A31 x1.ops.length c32)] ∧ Vb w' (Fr 0 w' O') (.slice A25 x1.vars.length c26) x1.vars ∧ Vb w' (Fr 0 w' O') (.slice A28 x1.vals.length c29) x1.vals ∧ Vb w' (Fr 0 w' O') (.slice A31 x1.ops.length c32) x1.ops) _ () ⟨O63, hB, h37, h8, h11, h14, h17, h42, h24, h27, h30⟩ ⟨rfl, rfl, rfl, rfl, rfl, trivial⟩ (fun _ _ => ⟨rfl, rfl⟩) (fun _ _ => trivial) (fun _ _ _ ⟨O', hB, h37, h8, h11, h14, h17, h42, h24, h27, h30⟩ => ⟨O', hB⟩) ⟨rfl, rfl, rfl⟩ ⟨rfl, rfl⟩ ?_)
  rintro k72 a73 s70 x71 w74 cc76 hx77 ⟨O75, hB, h37, h8, h11, h14, h17, h42, h24, h27, h30⟩ hf78 hret79 hbrk80
  have rk72 : inI64 (k72 : Int) := rngK hx77 l67
  refine ewp_seq (ewp_region (o_mv rfl rfl ?_))
  obtain ⟨b83, o84, ce85, hA86, hl87, hd88, rfl, r90⟩ := h8.elem' hx77
  refine o_iaE (hA := hA86) (hj := rfl) (hlt := hl87) rfl rfl rfl ?_
  refine o_ld (hc := cat0 hd88) rfl rfl ?_
  refine o_as rfl rfl (o_as rfl rfl (o_z ?_))
  refine ewp_seq ?_
  obtain ⟨y91, hy92, hf78⟩ := bs hf78
  refine ewp_join (fun l' w' => ∃ (x94 : Unit) (O' : Lab), subs l' [(2, (.pointer (some ⟨g33, 0, none⟩))), (3, (.pointer (some ⟨g38, 0, none⟩))), (24, (.slice A9 x0.vars.length c10)), (25, (.int .i64 (x0.vars.length : Int))), (26, (.int .i64 (k72 : Int))), (51, (.bool y91))] ∧ Bs w A w' O' ∧ Lc 2 w' O' g33 30 [(.slice A9 x0.vars.length c10), (.slice A12 x0.init.length c13), (.slice A15 x0.goal.length c16), (.slice A18 x0.ops.length c19)] ∧ Vb w' (Fr 0 w' O') (.slice A9 x0.vars.length c10) x0.vars ∧ Vb w' (Fr 0 w' O') (.slice A12 x0.init.length c13) x0.init ∧ Vb w' (Fr 0 w' O') (.slice A15 x0.goal.length c16) x0.goal ∧ Vb w' (Fr 0 w' O') (.slice A18 x0.ops.length c19) x0.ops ∧ Lc 3 w' O' g38 43 [(.slice A25 x1.vars.length c26), (.slice A28 x1.vals.length c29), (.slice A31 x1.ops.length c32)] ∧ Vb w' (Fr 0 w' O') (.slice A25 x1.vars.length c26) x1.vars ∧ Vb w' (Fr 0 w' O') (.slice A28 x1.vals.length c29) x1.vals ∧ Vb w' (Fr 0 w' O') (.slice A31 x1.ops.length c32) x1.ops) ?_ ?_
  ·
   refine ewp_drawX [] O75 ?_
   refine x_pre (fuel := 3) [] [(0, true), (1, true), (2, true), (3, true), (4, true), (5, true), (6, true), (7, true), (8, true), (9, true), (10, true), (11, true), (12, true), (13, true), (14, true), (15, true), (16, true), (17, true)] (by kernel_rfl) rfl ?_
   refine h_fa rfl rfl rfl (h_ldC (hc := fun w' ⟨O', hq⟩ => Blk.cell (i := 0) ((h37.st hq (by decide)).1) rfl) rfl rfl rfl ?_)
   refine h_fa rfl rfl rfl (h_ldC (hc := fun w' ⟨O', hq⟩ => Blk.cell (i := 0) ((h42.st hq (by decide)).1) rfl) rfl rfl rfl ?_)
   refine h_mv rfl rfl rfl ?_
   obtain ⟨a95, e96, hy92⟩ := bs hy92
   obtain ⟨b97, o98, ce99, hA100, hF103, hl101, hd102, rfl, r104⟩ := h24.elem e96
   refine h_iaE (hA := hA100) (hj := rfl) (hlt := hl101) rfl rfl rfl rfl ?_
   refine h_ldC (hc := fun w' ⟨O', hq⟩ => cat0 (cellsAt_agree (hq.agree (i := 0) (by decide)) hF103 hd102)) rfl rfl rfl ?_
   obtain ⟨a105, e106, hy92⟩ := bs hy92
   obtain ⟨p108, x107⟩ := atI_some' e106
   obtain ⟨b109, o110, ce111, hA112, hF115, hl113, hd114, rfl, r116⟩ := h8.elem x107
   refine h_iaE (hA := hA112) (hj := (Int.toNat_of_nonneg p108).symm) (hlt := hl113) rfl rfl rfl rfl ?_
   refine h_ldC (hc := fun w' ⟨O', hq⟩ => cat0 (cellsAt_agree (hq.agree (i := 0) (by decide)) hF115 hd114)) rfl rfl rfl ?_
   refine h_mv rfl rfl rfl (h_neS rfl rfl rfl rfl (fun c117 => ?_) fun c117 => ?_)
   ·
    replace hy92 := ip hy92 c117
    refine h_mv rfl rfl rfl (h_no rfl rfl rfl rfl rfl (h_no rfl rfl rfl rfl rfl (h_no rfl rfl rfl rfl rfl (h_no rfl rfl rfl rfl rfl (h_no rfl rfl rfl rfl rfl (h_no rfl rfl rfl rfl rfl (hwp_nilT ?_)))))))
    refine x_one (i := 18) (by kernel_rfl) rfl ?_
    refine owp_no rfl rfl rfl rfl (x_go [] ((St.refl nT _ _).lst [] (fun _ h => h.elim)) (by kernel_rfl) ?_)
    refine x_pre (fuel := 0) [] [(19, true), (20, true)] (by kernel_rfl) rfl ?_
    refine h_no rfl rfl rfl rfl rfl (h_pt rfl rfl rfl rfl (hwp_nilT ?_))
    refine x_nil (by kernel_rfl) ?_
    obtain rfl := sm hy92
    exact ⟨(), _, ⟨rfl, rfl, rfl, rfl, rfl, rfl, trivial⟩, hB, h37, h8, h11, h14, h17, h42, h24, h27, h30⟩
   replace hy92 := im hy92 c117
   refine h_mv rfl rfl rfl (hwp_o rfl (hwq_yes rfl rfl (g_fa rfl rfl (hwp_o rfl (hwq_yes rfl rfl (g_ldC (hc := fun w' ⟨O', hq⟩ => Blk.cell (i := 1) ((h42.st hq (by decide)).1) rfl) rfl rfl ?_))))))
   refine hwp_o rfl (hwq_yes rfl rfl (g_mv rfl rfl (hwp_o rfl (hwq_yes rfl rfl ?_))))
   obtain ⟨a118, e119, hy92⟩ := bs hy92
   obtain ⟨b120, o121, ce122, hA123, hF126, hl124, hd125, v127, rfl, h128⟩ := h27.elem e119
   replace h128 := Vb.of_slice h128
   obtain ⟨A129, c130, rfl⟩ := h128.form
   refine g_iaE (hA := hA123) (hj := rfl) (hlt := hl124) rfl rfl rfl ?_
   refine hwp_o rfl (hwq_yes rfl rfl (g_ldC (hc := fun w' ⟨O', hq⟩ => cat0 (cellsAt_agree (hq.agree (i := 0) (by decide)) hF126 hd125)) rfl rfl ?_))
   refine hwp_o rfl (hwq_yes rfl rfl (g_mv rfl rfl (hwp_nilT ?_)))
   refine x_one (i := 18) (by kernel_rfl) rfl ?_
   refine owp_yes rfl rfl ?_
   obtain ⟨q131, e132, hy92⟩ := bs hy92
   refine l_callA (O := O75) (A := All w74) (R := fun w' F v => Vb w' F v q131) (c_symmetry_permutation (fun _ h => h) (Vb.mono (F := Fr 0 w74 O75) h128 Fr.lt) r90 e132) rfl rfl fun v137 w133 O134 S135 h136 => ?_
   obtain rfl := h136.bool
   have hZ := S135.lst [] (fun _ h => h.elim)
   cases q131
   case false =>
    replace hy92 := iF hy92
    refine x_go [] hZ (by kernel_rfl) ?_
    refine x_pre (fuel := 0) [] [(19, true), (20, true)] (by kernel_rfl) rfl ?_
    refine hwp_o rfl (hwq_yes rfl rfl (g_nf rfl rfl (h_pf rfl rfl rfl rfl (hwp_nilT ?_))))
    refine x_nil (by kernel_rfl) ?_
    obtain rfl := sm hy92
    replace hB := hB.st S135
    replace h8 := h8.st S135
    replace h11 := h11.st S135
    replace h14 := h14.st S135
    replace h17 := h17.st S135
    replace h24 := h24.st S135
    replace h27 := h27.st S135
    replace h30 := h30.st S135
    replace h37 := h37.st S135
    replace h42 := h42.st S135
    exact ⟨(), _, ⟨rfl, rfl, rfl, rfl, rfl, rfl, trivial⟩, hB, h37, h8, h11, h14, h17, h42, h24, h27, h30⟩
   replace hy92 := iT hy92
   refine x_go [] hZ (by kernel_rfl) ?_
   refine x_pre (fuel := 0) [] [(19, true), (20, true)] (by kernel_rfl) rfl ?_
   refine hwp_o rfl (hwq_yes rfl rfl (g_nt rfl rfl (h_pf rfl rfl rfl rfl (hwp_nilT ?_))))
   refine x_nil (by kernel_rfl) ?_
   obtain rfl := sm hy92
   replace hB := hB.st S135
   replace h8 := h8.st S135
   replace h11 := h11.st S135
   replace h14 := h14.st S135
   replace h17 := h17.st S135
   replace h24 := h24.st S135
   replace h27 := h27.st S135
   replace h30 := h30.st S135
   replace h37 := h37.st S135
   replace h42 := h42.st S135
   exact ⟨(), _, ⟨rfl, rfl, rfl, rfl, rfl, rfl, trivial⟩, hB, h37, h8, h11, h14, h17, h42, h24, h27, h30⟩
  rintro l138 w139 ⟨x94, O140, hs141, hB, h37, h8, h11, h14, h17, h42, h24, h27, h30⟩
  refine ewp_sub _ hs141 ?_
  refine ewp_cond rfl (fun c142 => ?_) (fun c142 => ?_)
  ·
   replace hf78 := ip hf78 c142
   refine ewp_seq (ewp_region (o_as rfl rfl (o_z ?_)))
   refine ewp_ret ?_
   obtain rfl := sm hf78
   obtain rfl := hret79 _ rfl
   obtain rfl := sm (fin_ret hm)
   exact ret1v rfl (res_tmp rfl) ⟨hB.ext, vBool⟩
  replace hf78 := im' hf78 c142
  refine ewp_skip ?_
  obtain rfl := sm hf78
  exact show Exists _ from ⟨_, (), rfl, ⟨rfl, rfl, rfl, rfl, rfl, trivial⟩, _, hB, h37, h8, h11, h14, h17, h42, h24, h27, h30⟩
 rintro l143 w144 ⟨s147, x148, rfl, hs146, O145, hB⟩
 replace hm := fin_done hm
 refine ewp_sub _ hs146 ?_
 refine ewp_seq (ewp_region (o_as rfl rfl (o_z ?_)))
 refine ewp_ret ?_
 obtain rfl := sm hm
 exact ret1v rfl (res_tmp rfl) ⟨hB.ext, vBool⟩
noncomputable def m_symmetry_moved (x0 : Swp) (x1 : List Int) : Option (List Int) :=
  bnd (mkI 8 (0 : Int) (x1.length : Int)) fun u25 => bnd (rng (ρ := (List Int)) (fun (k44 : Nat) (a45 : Int) (s42 : (List Int)) => bnd (x0.vars[k44]?) fun a67 => bnd (x0.vals[k44]?) fun a77 => bnd (atI a77 a45) fun a90 => bnd (atI s42 a67) fun a102 => some (.next (s42.set (a67 : Int).toNat a90))) x1 0 u25) fun res40 => fin res40 fun (s120 : (List Int)) => some s120
theorem c_symmetry_moved {w : World} {A : Nat → Prop} (hA : ∀ k, A k → k < w.heap.size) {vx0 : Value} {x0 : Swp} (hx0 : Vb w A vx0 x0) {vx1 : Value} {x1 : List Int} (hx1 : Vb w A vx1 x1) {r : (List Int)} (hm : m_symmetry_moved x0 x1 = some r) :
    Fn Tryz.prog 35 [vx0, vx1] w fun v w' => Ext w w' ∧ Vb w' (upA A w w') v r := by
 obtain ⟨O, hB, hA0⟩ := enter hA
 replace hx0 := hx0.mono hA0
 obtain ⟨cs3, rfl, v4, v5, v6, rfl, h7, h10, h13⟩ := hx0
 obtain ⟨A8, c9, rfl⟩ := h7.form
 obtain ⟨A11, c12, rfl⟩ := h10.form
 obtain ⟨A14, c15, rfl⟩ := h13.form
 replace hx1 := hx1.mono hA0
 obtain ⟨A16, c17, rfl⟩ := hx1.form
 refine fn_enter Tryz.func35 rfl Tryz.ntmps35 rfl ?_
 unfold m_symmetry_moved at hm
 refine ewp_seq (ewp_region (l_box 2 O rfl rfl fun g18 w19 O20 S21 h22 => ?_))
 replace h22 : Lc 2 w19 O20 g18 43 [(.slice A8 x0.vars.length c9), (.slice A11 x0.vals.length c12), (.slice A14 x0.ops.length c15)] := h22
 refine o_as rfl rfl (o_z ?_)
 refine ewp_seq (ewp_region (o_mv rfl rfl (o_ln rfl rfl ?_)))
 replace hx1 := hx1.st S21
 have l24 : x1.length ≤ 9223372036854775807 := Nat.le_trans hx1.len.2.1 hx1.len.2.2
 have r23 : inI64 (x1.length : Int) := rngNat l24
 obtain ⟨u25, e26, hm⟩ := bs hm
 obtain ⟨m27, e28, e29, e30, e31⟩ := mkI_some e26
 refine l_make 3 (by decide) O20 (z0 := (0 : Int)) rfl rfl rfl rfl rfl e28 (vInt (show inI64 0 from by decide)) e29 e30 rfl fun g32 w33 O34 S35 h36 => ?_
 rw [← e31] at h36 ⊢
 refine o_as rfl rfl (o_z ?_)
 refine ewp_seq (ewp_seq (ewp_region (o_mv rfl rfl (o_ln rfl rfl ?_))))
 replace hx1 := hx1.st S35
 have l39 : x1.length ≤ 9223372036854775807 := Nat.le_trans hx1.len.2.1 hx1.len.2.2
 have r38 : inI64 (x1.length : Int) := rngNat l39
 refine o_mv rfl rfl (o_z ?_)
 obtain ⟨res40, hL41, hm⟩ := bs hm
 refine ewp_join (aft res40 (fun (s42 : (List Int)) (x43 : Unit) => [(5, (.slice (some ⟨g32, 0, none⟩) u25.length m27))]) (fun s42 x43 w' => ∃ O' : Lab, Bs w A w' O' ∧ Rw 3 w' O' 3 (.slice (some ⟨g32, 0, none⟩) u25.length m27) s42)) ?_ ?_
 ·
  refine ewp_block ?_
  replace hB := (hB.st S21).st S35
  replace h7 := (h7.st S21).st S35
  replace h10 := (h10.st S21).st S35
  replace h13 := (h13.st S21).st S35
  replace h22 := h22.st S35
  refine ewp_rng (σ := (List Int)) (X := Unit) (x1.length) hL41 rfl l39 (fun (s42 : (List Int)) (x43 : Unit) => [(2, (.pointer (some ⟨g18, 0, none⟩))), (5, (.slice (some ⟨g32, 0, none⟩) u25.length m27)), (11, (.slice A16 x1.length c17))]) _ (fun s42 x43 w' => ∃ O' : Lab, Bs w A w' O' ∧ Lc 2 w' O' g18 43 [(.slice A8 x0.vars.length c9), (.slice A11 x0.vals.length c12), (.slice A14 x0.ops.length c15)] ∧ Vb w' (Fr 0 w' O') (.slice A8 x0.vars.length c9) x0.vars ∧ Vb w' (Fr 0 w' O') (.slice A11 x0.vals.length c12) x0.vals ∧ Vb w' (Fr 0 w' O') (.slice A14 x0.ops.length c15) x0.ops ∧ Rw 3 w' O' 3 (.slice (some ⟨g32, 0, none⟩) u25.length m27) s42 ∧ Vb w' (Fr 0 w' O') (.slice A16 x1.length c17) x1) _ () ⟨O34, hB, h22, h7, h10, h13, h36, hx1⟩ ⟨rfl, rfl, rfl, rfl, rfl, trivial⟩ (fun _ _ => ⟨rfl, rfl⟩) (fun _ _ => ⟨rfl, trivial⟩) (fun _ _ _ ⟨O', hB, h22, h7, h10, h13, h57, hx1⟩ => ⟨O', hB, h57⟩) ⟨rfl, rfl, rfl⟩ ⟨rfl, rfl⟩ ?_
  rintro k44 a45 s42 x43 w46 cc48 hx49 ⟨O47, hB, h22, h7, h10, h13, h57, hx1⟩ hf50 hret51 hbrk52
  have rk44 : inI64 (k44 : Int) := rngK hx49 l39
  refine ewp_seq (ewp_region (o_mv rfl rfl ?_))
  obtain ⟨b59, o60, ce61, hA62, hl63, hd64, rfl, r66⟩ := hx1.elem' hx49
  refine o_iaE (hA := hA62) (hj := rfl) (hlt := hl63) rfl rfl rfl ?_
  refine o_ld (hc := cat0 hd64) rfl rfl ?_
  refine o_as rfl rfl (o_as rfl rfl (o_z ?_))
  refine ewp_drawX [] O47 ?_
  refine x_pre (fuel := 1) [] [(0, true), (1, true), (2, true), (3, true), (4, true), (5, true), (6, true), (7, true), (8, true), (9, true), (10, true), (11, true), (12, true), (13, true), (14, true)] (by kernel_rfl) rfl ?_
  refine h_mv rfl rfl rfl (h_fa rfl rfl rfl (h_ldC (hc := fun w' ⟨O', hq⟩ => Blk.cell (i := 0) ((h22.st hq (by decide)).1) rfl) rfl rfl rfl ?_))
  refine h_mv rfl rfl rfl ?_
  obtain ⟨a67, e68, hf50⟩ := bs hf50
  obtain ⟨b69, o70, ce71, hA72, hF75, hl73, hd74, rfl, r76⟩ := h7.elem e68
  refine h_iaE (hA := hA72) (hj := rfl) (hlt := hl73) rfl rfl rfl rfl ?_
  refine h_ldC (hc := fun w' ⟨O', hq⟩ => cat0 (cellsAt_agree (hq.agree (i := 0) (by decide)) hF75 hd74)) rfl rfl rfl ?_
  refine h_fa rfl rfl rfl (h_ldC (hc := fun w' ⟨O', hq⟩ => Blk.cell (i := 1) ((h22.st hq (by decide)).1) rfl) rfl rfl rfl ?_)
  refine h_mv rfl rfl rfl ?_
  obtain ⟨a77, e78, hf50⟩ := bs hf50
  obtain ⟨b79, o80, ce81, hA82, hF85, hl83, hd84, v86, rfl, h87⟩ := h10.elem e78
  replace h87 := Vb.of_slice h87
  obtain ⟨A88, c89, rfl⟩ := h87.form
  refine h_iaE (hA := hA82) (hj := rfl) (hlt := hl83) rfl rfl rfl rfl ?_
  refine h_ldC (hc := fun w' ⟨O', hq⟩ => cat0 (cellsAt_agree (hq.agree (i := 0) (by decide)) hF85 hd84)) rfl rfl rfl ?_
  refine h_mv rfl rfl rfl ?_
  obtain ⟨a90, e91, hf50⟩ := bs hf50
  obtain ⟨p93, x92⟩ := atI_some' e91
  obtain ⟨b94, o95, ce96, hA97, hF100, hl98, hd99, rfl, r101⟩ := h87.elem x92
  refine h_iaE (hA := hA97) (hj := (Int.toNat_of_nonneg p93).symm) (hlt := hl98) rfl rfl rfl rfl ?_
  refine h_ldC (hc := fun w' ⟨O', hq⟩ => cat0 (cellsAt_agree (hq.agree (i := 0) (by decide)) hF100 hd99)) rfl rfl rfl ?_
  obtain ⟨a102, e103, hf50⟩ := bs hf50
  obtain ⟨p105, x104⟩ := atI_some' e103
  obtain ⟨b106, o107, ce108, hA109, hF112, hl110, hd111, rfl, r113⟩ := h57.elemF x104
  refine h_iaE (hA := hA109) (hj := (Int.toNat_of_nonneg p105).symm) (hlt := hl110) rfl rfl rfl rfl ?_
  refine hwp_nilT ?_
  refine x_one (i := 15) (by kernel_rfl) rfl ?_
  refine l_setE rfl h57 (a := a90) (vInt r101) hA109 rfl rfl (lt_of_get x104) fun w114 S115 h57 => ?_
  refine x_end (by kernel_rfl) ?_
  refine x_nil (by kernel_rfl) ?_
  obtain rfl := sm hf50
  replace hB := hB.st S115
  replace hx1 := hx1.st S115
  replace h7 := h7.st S115
  replace h10 := h10.st S115
  replace h13 := h13.st S115
  replace h22 := h22.st S115
  exact show Exists _ from ⟨_, (), rfl, ⟨rfl, rfl, rfl, rfl, rfl, trivial⟩, _, hB, h22, h7, h10, h13, h57, hx1⟩
 replace hB := (hB.st S21).st S35
 rintro l116 w117 ⟨s120, x121, rfl, hs119, O118, hB, h57⟩
 replace hm := fin_done hm
 refine ewp_sub _ hs119 ?_
 refine ewp_seq (ewp_region (o_mv rfl rfl (o_as rfl rfl (o_z ?_))))
 refine ewp_ret ?_
 obtain ⟨O122, S123, h57⟩ := h57.freeze
 obtain rfl := sm hm
 replace hB := hB.st S123
 exact ret1v rfl (res_tmp rfl) ⟨hB.ext, (Vb.mono (F := Fr 0 w117 O122) h57 hB.out)⟩
noncomputable def m_symmetry_alike_l1 (x0 : Eff) (x1 : Eff) : Option Bool :=
  bnd (if x0.var = x1.var then (if x0.val = x1.val then (bnd (m_slices_Equal_Lapi_Fact_api_Fact x0.cond x1.cond) fun q33 => if q33 = true then some true else some false) else (some false)) else (some false) : Option Bool) fun y27 => some y27
theorem c_symmetry_alike_l1 {w : World} {A : Nat → Prop} (hA : ∀ k, A k → k < w.heap.size) {vx0 : Value} {x0 : Eff} (hx0 : Vb w A vx0 x0) {vx1 : Value} {x1 : Eff} (hx1 : Vb w A vx1 x1) {r : Bool} (hm : m_symmetry_alike_l1 x0 x1 = some r) :
    Fn Tryz.prog 74 [vx0, vx1] w fun v w' => Ext w w' ∧ Vb w' (upA A w w') v r := by
 obtain ⟨O, hB, hA0⟩ := enter hA
 replace hx0 := hx0.mono hA0
 obtain ⟨cs3, rfl, v4, rfl, h5, r8, r9⟩ := hx0
 obtain ⟨A6, c7, rfl⟩ := h5.form
 replace hx1 := hx1.mono hA0
 obtain ⟨cs10, rfl, v11, rfl, h12, r15, r16⟩ := hx1
 obtain ⟨A13, c14, rfl⟩ := h12.form
 refine fn_enter Tryz.func74 rfl Tryz.ntmps74 rfl ?_
 unfold m_symmetry_alike_l1 at hm
 refine ewp_seq (ewp_region (l_box 2 O rfl rfl fun g17 w18 O19 S20 h21 => ?_))
 replace h21 : Lc 2 w18 O19 g17 32 [(.slice A6 x0.cond.length c7), (.int .i64 x0.var), (.int .i64 x0.val)] := h21
 refine l_box 3 O19 rfl rfl fun g22 w23 O24 S25 h26 => ?_
 replace h26 : Lc 3 w23 O24 g22 32 [(.slice A13 x1.cond.length c14), (.int .i64 x1.var), (.int .i64 x1.val)] := h26
 refine o_as rfl rfl (o_z ?_)
 refine ewp_seq ?_
 obtain ⟨y27, hy28, hm⟩ := bs hm
 refine ewp_join (fun l' w' => ∃ (x30 : Unit) (O' : Lab), subs l' [(4, (.bool y27))] ∧ Bs w A w' O') ?_ ?_
 ·
  refine ewp_region (o_fa rfl rfl ?_)
  replace h21 := h21.st S25
  refine o_ld (hc := Blk.cell (i := 1) (h21.1) rfl) rfl rfl ?_
  refine o_fa rfl rfl (o_ld (hc := Blk.cell (i := 1) (h26.1) rfl) rfl rfl ?_)
  refine o_eeS rfl rfl rfl (fun c31 => ?_) fun c31 => ?_
  ·
   replace hy28 := ip hy28 c31
   refine o_mv rfl rfl (owp_yes rfl rfl (o_fa rfl rfl (owp_yes rfl rfl (o_ld (hc := Blk.cell (i := 2) (h21.1) rfl) rfl rfl ?_))))
   refine owp_yes rfl rfl (o_fa rfl rfl (owp_yes rfl rfl (o_ld (hc := Blk.cell (i := 2) (h26.1) rfl) rfl rfl ?_)))
   refine owp_yes rfl rfl (o_eeS rfl rfl rfl (fun c32 => ?_) fun c32 => ?_)
   ·
    replace hy28 := ip hy28 c32
    refine o_pt rfl rfl rfl (o_mv rfl rfl (owp_yes rfl rfl (o_fa rfl rfl (owp_yes rfl rfl (o_ld (hc := Blk.cell (i := 0) (h21.1) rfl) rfl rfl ?_)))))
    refine owp_yes rfl rfl (o_fa rfl rfl (owp_yes rfl rfl (o_ld (hc := Blk.cell (i := 0) (h26.1) rfl) rfl rfl ?_)))
    refine owp_yes rfl rfl ?_
    obtain ⟨q33, e34, hy28⟩ := bs hy28
    replace h5 := (h5.st S20).st S25
    replace h12 := (h12.st S20).st S25
    refine l_callA (O := O24) (A := All w23) (R := fun w' F v => Vb w' F v q33) (c_slices_Equal_Lapi_Fact_api_Fact (fun _ h => h) (Vb.mono (F := Fr 0 w23 O24) h5 Fr.lt) (Vb.mono (F := Fr 0 w23 O24) h12 Fr.lt) e34) rfl rfl fun v39 w35 O36 S37 h38 => ?_
    obtain rfl := h38.bool
    cases q33
    case false =>
     replace hy28 := iF hy28
     refine o_pt rfl rfl rfl (o_as rfl rfl (o_z ?_))
     obtain rfl := sm hy28
     replace hB := ((hB.st S20).st S25).st S37
     exact ⟨(), _, ⟨rfl, trivial⟩, hB⟩
    replace hy28 := iT hy28
    refine o_pt rfl rfl rfl (o_as rfl rfl (o_z ?_))
    obtain rfl := sm hy28
    replace hB := ((hB.st S20).st S25).st S37
    exact ⟨(), _, ⟨rfl, trivial⟩, hB⟩
   replace hy28 := im hy28 c32
   refine o_pt rfl rfl rfl (o_mv rfl rfl (owp_no rfl rfl rfl rfl (owp_no rfl rfl rfl rfl (owp_no rfl rfl rfl rfl (owp_no rfl rfl rfl rfl (owp_no rfl rfl rfl rfl (o_pf rfl rfl rfl (o_as rfl rfl (o_z ?_)))))))))
   obtain rfl := sm hy28
   replace hB := (hB.st S20).st S25
   exact ⟨(), _, ⟨rfl, trivial⟩, hB⟩
  replace hy28 := im hy28 c31
  refine o_mv rfl rfl (owp_no rfl rfl rfl rfl (owp_no rfl rfl rfl rfl (owp_no rfl rfl rfl rfl (owp_no rfl rfl rfl rfl (owp_no rfl rfl rfl rfl (o_pf rfl rfl rfl (o_mv rfl rfl (owp_no rfl rfl rfl rfl (owp_no rfl rfl rfl rfl (owp_no rfl rfl rfl rfl (owp_no rfl rfl rfl rfl (owp_no rfl rfl rfl rfl (o_pf rfl rfl rfl (o_as rfl rfl ?_))))))))))))))
  refine o_z ?_
  obtain rfl := sm hy28
  replace hB := (hB.st S20).st S25
  exact ⟨(), _, ⟨rfl, trivial⟩, hB⟩
 replace hB := (hB.st S20).st S25
 rintro l40 w41 ⟨x30, O42, hs43, hB⟩
 refine ewp_sub _ hs43 ?_
 refine ewp_ret ?_
 obtain rfl := sm hm
 exact ret1v rfl (res_tmp rfl) ⟨hB.ext, vBool⟩
noncomputable def m_slices_EqualFunc_Lapi_Effect_Lapi_Effect_api_Effect_api_Effect__symmetry_alike_l1 (x0 : List Eff) (x1 : List Eff) : Option Bool :=
  if (x0.length : Int) ≠ (x1.length : Int) then (some false) else (bnd (rng (ρ := Bool) (fun (k19 : Nat) (a20 : Eff) (s17 : Unit) => bnd (x1[k19]?) fun a50 => bnd (m_symmetry_alike_l1 a20 a50) fun q72 => if q72 = true then some (.next ()) else some (.ret false)) x0 0 ()) fun res15 => fin res15 fun (s83 : Unit) => some true)
theorem c_slices_EqualFunc_Lapi_Effect_Lapi_Effect_api_Effect_api_Effect__symmetry_alike_l1 {w : World} {A : Nat → Prop} (hA : ∀ k, A k → k < w.heap.size) {vx0 : Value} {x0 : List Eff} (hx0 : Vb w A vx0 x0) {vx1 : Value} {x1 : List Eff} (hx1 : Vb w A vx1 x1) {r : Bool} (hm : m_slices_EqualFunc_Lapi_Effect_Lapi_Effect_api_Effect_api_Effect__symmetry_alike_l1 x0 x1 = some r) :
    Fn Tryz.prog 73 [vx0, vx1, (.func (.func 74) #[] #[])] w fun v w' => Ext w w' ∧ Vb w' (upA A w w') v r := by
 obtain ⟨O, hB, hA0⟩ := enter hA
 replace hx0 := hx0.mono hA0
 obtain ⟨A4, c5, rfl⟩ := hx0.form
 replace hx1 := hx1.mono hA0
 obtain ⟨A6, c7, rfl⟩ := hx1.form
 refine fn_enter Tryz.func73 rfl Tryz.ntmps73 rfl ?_
 unfold m_slices_EqualFunc_Lapi_Effect_Lapi_Effect_api_Effect_api_Effect__symmetry_alike_l1 at hm
 refine ewp_seq (ewp_region (o_as rfl rfl (o_z ?_)))
 refine ewp_seq (ewp_seq (ewp_region (o_mv rfl rfl (o_ln rfl rfl ?_))))
 have l9 : x0.length ≤ 9223372036854775807 := Nat.le_trans hx0.len.2.1 hx0.len.2.2
 have r8 : inI64 (x0.length : Int) := rngNat l9
 refine o_mv rfl rfl (o_ln rfl rfl ?_)
 have l11 : x1.length ≤ 9223372036854775807 := Nat.le_trans hx1.len.2.1 hx1.len.2.2
 have r10 : inI64 (x1.length : Int) := rngNat l11
 refine o_neS rfl rfl rfl (fun c12 => ?_) fun c12 => ?_
 ·
  replace hm := ip hm c12
  refine o_z ?_
  refine ewp_true rfl (ewp_seq (ewp_region (o_as rfl rfl (o_z ?_))))
  refine ewp_ret ?_
  obtain rfl := sm hm
  exact ret1v rfl (res_tmp rfl) ⟨hB.ext, vBool⟩
 replace hm := im hm c12
 refine o_z ?_
 refine ewp_false rfl (ewp_skip (ewp_seq (ewp_seq (ewp_region (o_mv rfl rfl (o_ln rfl rfl ?_))))))
 have l14 : x0.length ≤ 9223372036854775807 := Nat.le_trans hx0.len.2.1 hx0.len.2.2
 have r13 : inI64 (x0.length : Int) := rngNat l14
 refine o_mv rfl rfl (o_z ?_)
 obtain ⟨res15, hL16, hm⟩ := bs hm
 refine ewp_join (aft res15 (fun (s17 : Unit) (x18 : Unit) => []) (fun s17 x18 w' => ∃ O' : Lab, Bs w A w' O')) ?_ ?_
 ·
  refine ewp_block (ewp_rng (σ := Unit) (X := Unit) (x0.length) hL16 rfl l14 (fun (s17 : Unit) (x18 : Unit) => [(1, (.slice A6 x1.length c7)), (2, (.func (.func 74) #[] #[])), (15, (.slice A4 x0.length c5))]) _ (fun s17 x18 w' => ∃ O' : Lab, Bs w A w' O' ∧ Vb w' (Fr 0 w' O') (.slice A6 x1.length c7) x1 ∧ Vb w' (Fr 0 w' O') (.slice A4 x0.length c5) x0) _ () ⟨O, hB, hx1, hx0⟩ ⟨rfl, rfl, rfl, rfl, rfl, trivial⟩ (fun _ _ => ⟨rfl, rfl⟩) (fun _ _ => trivial) (fun _ _ _ ⟨O', hB, hx1, hx0⟩ => ⟨O', hB⟩) ⟨rfl, rfl, rfl⟩ ⟨rfl, rfl⟩ ?_)
  rintro k19 a20 s17 x18 w21 cc23 hx24 ⟨O22, hB, hx1, hx0⟩ hf25 hret26 hbrk27
  have rk19 : inI64 (k19 : Int) := rngK hx24 l14
  refine ewp_seq (ewp_region (o_mv rfl rfl ?_))
  obtain ⟨b30, o31, ce32, hA33, hl34, hd35, v37, rfl, h38, r41, r42⟩ := hx0.elem' hx24
  obtain ⟨A39, c40, rfl⟩ := h38.form
  refine o_iaE (hA := hA33) (hj := rfl) (hlt := hl34) rfl rfl rfl ?_
  refine o_la (hl := rfl) (hc := hd35) rfl rfl ?_
  refine l_alloc 2 O22 rfl fun g43 w44 O45 S46 h47 => ?_
  refine o_as rfl rfl (l_store h47 rfl rfl rfl (nle_b rfl) (allOne rfl) fun w48 S49 h47 => ?_)
  replace h47 : Lc 2 w48 O45 g43 32 [(.slice A39 a20.cond.length c40), (.int .i64 a20.var), (.int .i64 a20.val)] := h47
  refine o_z ?_
  refine ewp_seq (ewp_region (o_mv rfl rfl (o_mv rfl rfl ?_)))
  obtain ⟨a50, e51, hf25⟩ := bs hf25
  replace hx1 := (hx1.st S46).st S49
  obtain ⟨b52, o53, ce54, hA55, hl56, hd57, v59, rfl, h60, r63, r64⟩ := hx1.elem' e51
  obtain ⟨A61, c62, rfl⟩ := h60.form
  refine o_iaE (hA := hA55) (hj := rfl) (hlt := hl56) rfl rfl rfl ?_
  refine o_la (hl := rfl) (hc := hd57) rfl rfl ?_
  refine l_alloc 3 O45 rfl fun g65 w66 O67 S68 h69 => ?_
  refine l_store h69 rfl rfl rfl (nle_b rfl) (allOne rfl) fun w70 S71 h69 => ?_
  replace h69 : Lc 3 w70 O67 g65 32 [(.slice A61 a50.cond.length c62), (.int .i64 a50.var), (.int .i64 a50.val)] := h69
  refine o_z ?_
  refine ewp_seq (ewp_region (o_mv rfl rfl ?_))
  replace h47 := (h47.st S68).st S71
  refine o_la (hl := rfl) (hc := (h47.1).cellsAt) rfl rfl ?_
  refine o_la (hl := rfl) (hc := (h69.1).cellsAt) rfl rfl ?_
  obtain ⟨q72, e73, hf25⟩ := bs hf25
  replace h38 := (((h38.st S46).st S49).st S68).st S71
  replace h60 := (h60.st S68).st S71
  refine l_callAv (O := O67) (A := All w70) (R := fun w' F v => Vb w' F v q72) (c_symmetry_alike_l1 (fun _ h => h) (Vb.mono (F := Fr 0 w70 O67) (Vb.ofAgg (cs := [(.slice A39 a20.cond.length c40), (.int .i64 a20.var), (.int .i64 a20.val)]) (x := a20) rfl ⟨_, rfl, h38, r41, r42⟩) Fr.lt) (Vb.mono (F := Fr 0 w70 O67) (Vb.ofAgg (cs := [(.slice A61 a50.cond.length c62), (.int .i64 a50.var), (.int .i64 a50.val)]) (x := a50) rfl ⟨_, rfl, h60, r63, r64⟩) Fr.lt) e73) rfl rfl rfl fun v78 w74 O75 S76 h77 => ?_
  obtain rfl := h77.bool
  cases q72
  case false =>
   replace hf25 := iF hf25
   refine o_nf rfl rfl (o_z ?_)
   refine ewp_true rfl (ewp_seq (ewp_region (o_as rfl rfl (o_z ?_))))
   refine ewp_ret ?_
   obtain rfl := sm hf25
   obtain rfl := hret26 _ rfl
   obtain rfl := sm (fin_ret hm)
   replace hB := ((((hB.st S46).st S49).st S68).st S71).st S76
   exact ret1v rfl (res_tmp rfl) ⟨hB.ext, vBool⟩
  replace hf25 := iT hf25
  refine o_nt rfl rfl (o_z ?_)
  refine ewp_false rfl (ewp_skip ?_)
  obtain rfl := sm hf25
  replace hx0 := ((((hx0.st S46).st S49).st S68).st S71).st S76
  replace hB := ((((hB.st S46).st S49).st S68).st S71).st S76
  replace hx1 := ((hx1.st S68).st S71).st S76
  exact show Exists _ from ⟨_, (), rfl, ⟨rfl, rfl, rfl, rfl, rfl, trivial⟩, _, hB, hx1, hx0⟩
 rintro l79 w80 ⟨s83, x84, rfl, hs82, O81, hB⟩
 replace hm := fin_done hm
 refine ewp_sub _ hs82 ?_
 refine ewp_seq (ewp_region (o_as rfl rfl (o_z ?_)))
 refine ewp_ret ?_
 obtain rfl := sm hm
 exact ret1v rfl (res_tmp rfl) ⟨hB.ext, vBool⟩
noncomputable def m_symmetry_alike (x0 : Opr) (x1 : Opr) : Option Bool :=
  bnd (if x0.cost = x1.cost then (bnd (m_slices_Equal_Lapi_Fact_api_Fact x0.pre x1.pre) fun q40 => if q40 = true then bnd (m_slices_EqualFunc_Lapi_Effect_Lapi_Effect_api_Effect_api_Effect__symmetry_alike_l1 x0.effs x1.effs) fun q47 => if q47 = true then some true else some false else some false) else (some false) : Option Bool) fun y35 => some y35
theorem c_symmetry_alike {w : World} {A : Nat → Prop} (hA : ∀ k, A k → k < w.heap.size) {vx0 : Value} {x0 : Opr} (hx0 : Vb w A vx0 x0) {vx1 : Value} {x1 : Opr} (hx1 : Vb w A vx1 x1) {r : Bool} (hm : m_symmetry_alike x0 x1 = some r) :
    Fn Tryz.prog 55 [vx0, vx1] w fun v w' => Ext w w' ∧ Vb w' (upA A w w') v r := by
 obtain ⟨O, hB, hA0⟩ := enter hA
 replace hx0 := hx0.mono hA0
 obtain ⟨cs3, rfl, v4, v5, rfl, h6, h9, r12, z13⟩ := hx0
 obtain ⟨A7, c8, rfl⟩ := h6.form
 obtain ⟨A10, c11, rfl⟩ := h9.form
 replace hx1 := hx1.mono hA0
 obtain ⟨cs14, rfl, v15, v16, rfl, h17, h20, r23, z24⟩ := hx1
 obtain ⟨A18, c19, rfl⟩ := h17.form
 obtain ⟨A21, c22, rfl⟩ := h20.form
 refine fn_enter Tryz.func55 rfl Tryz.ntmps55 rfl ?_
 unfold m_symmetry_alike at hm
 refine ewp_seq (ewp_region (l_box 2 O rfl rfl fun g25 w26 O27 S28 h29 => ?_))
 replace h29 : Lc 2 w26 O27 g25 35 [(.string x0.name), (.int .i64 x0.cost), (.slice A7 x0.pre.length c8), (.slice A10 x0.effs.length c11)] := h29
 refine l_box 3 O27 rfl rfl fun g30 w31 O32 S33 h34 => ?_
 replace h34 : Lc 3 w31 O32 g30 35 [(.string x1.name), (.int .i64 x1.cost), (.slice A18 x1.pre.length c19), (.slice A21 x1.effs.length c22)] := h34
 refine o_as rfl rfl (o_z ?_)
 refine ewp_seq ?_
 obtain ⟨y35, hy36, hm⟩ := bs hm
 refine ewp_join (fun l' w' => ∃ (x38 : Unit) (O' : Lab), subs l' [(4, (.bool y35))] ∧ Bs w A w' O') ?_ ?_
 ·
  refine ewp_region (o_fa rfl rfl ?_)
  replace h29 := h29.st S33
  refine o_ld (hc := Blk.cell (i := 1) (h29.1) rfl) rfl rfl ?_
  refine o_fa rfl rfl (o_ld (hc := Blk.cell (i := 1) (h34.1) rfl) rfl rfl ?_)
  refine o_eeS rfl rfl rfl (fun c39 => ?_) fun c39 => ?_
  ·
   replace hy36 := ip hy36 c39
   refine o_mv rfl rfl (owp_yes rfl rfl (o_fa rfl rfl (owp_yes rfl rfl (o_ld (hc := Blk.cell (i := 2) (h29.1) rfl) rfl rfl ?_))))
   refine owp_yes rfl rfl (o_fa rfl rfl (owp_yes rfl rfl (o_ld (hc := Blk.cell (i := 2) (h34.1) rfl) rfl rfl ?_)))
   refine owp_yes rfl rfl ?_
   obtain ⟨q40, e41, hy36⟩ := bs hy36
   replace h6 := (h6.st S28).st S33
   replace h17 := (h17.st S28).st S33
   refine l_callA (O := O32) (A := All w31) (R := fun w' F v => Vb w' F v q40) (c_slices_Equal_Lapi_Fact_api_Fact (fun _ h => h) (Vb.mono (F := Fr 0 w31 O32) h6 Fr.lt) (Vb.mono (F := Fr 0 w31 O32) h17 Fr.lt) e41) rfl rfl fun v46 w42 O43 S44 h45 => ?_
   obtain rfl := h45.bool
   cases q40
   case false =>
    replace hy36 := iF hy36
    refine o_pt rfl rfl rfl (o_mv rfl rfl (owp_no rfl rfl rfl rfl (owp_no rfl rfl rfl rfl (owp_no rfl rfl rfl rfl (owp_no rfl rfl rfl rfl (owp_no rfl rfl rfl rfl (o_pf rfl rfl rfl (o_as rfl rfl (o_z ?_)))))))))
    obtain rfl := sm hy36
    replace hB := ((hB.st S28).st S33).st S44
    exact ⟨(), _, ⟨rfl, trivial⟩, hB⟩
   replace hy36 := iT hy36
   refine o_pt rfl rfl rfl (o_mv rfl rfl (owp_yes rfl rfl (o_fa rfl rfl (owp_yes rfl rfl ?_))))
   replace h29 := h29.st S44
   refine o_ld (hc := Blk.cell (i := 3) (h29.1) rfl) rfl rfl ?_
   refine owp_yes rfl rfl (o_fa rfl rfl (owp_yes rfl rfl ?_))
   replace h34 := h34.st S44
   refine o_ld (hc := Blk.cell (i := 3) (h34.1) rfl) rfl rfl ?_
   refine owp_yes rfl rfl ?_
   obtain ⟨q47, e48, hy36⟩ := bs hy36
   replace h9 := ((h9.st S28).st S33).st S44
   replace h20 := ((h20.st S28).st S33).st S44
   refine l_callA (O := O43) (A := All w42) (R := fun w' F v => Vb w' F v q47) (c_slices_EqualFunc_Lapi_Effect_Lapi_Effect_api_Effect_api_Effect__symmetry_alike_l1 (fun _ h => h) (Vb.mono (F := Fr 0 w42 O43) h9 Fr.lt) (Vb.mono (F := Fr 0 w42 O43) h20 Fr.lt) e48) rfl rfl fun v53 w49 O50 S51 h52 => ?_
   obtain rfl := h52.bool
   cases q47
   case false =>
    replace hy36 := iF hy36
    refine o_pt rfl rfl rfl (o_as rfl rfl (o_z ?_))
    obtain rfl := sm hy36
    replace hB := (((hB.st S28).st S33).st S44).st S51
    exact ⟨(), _, ⟨rfl, trivial⟩, hB⟩
   replace hy36 := iT hy36
   refine o_pt rfl rfl rfl (o_as rfl rfl (o_z ?_))
   obtain rfl := sm hy36
   replace hB := (((hB.st S28).st S33).st S44).st S51
   exact ⟨(), _, ⟨rfl, trivial⟩, hB⟩
  replace hy36 := im hy36 c39
  refine o_mv rfl rfl (owp_no rfl rfl rfl rfl (owp_no rfl rfl rfl rfl (owp_no rfl rfl rfl rfl (owp_no rfl rfl rfl rfl (owp_no rfl rfl rfl rfl (o_pf rfl rfl rfl (o_mv rfl rfl (owp_no rfl rfl rfl rfl (owp_no rfl rfl rfl rfl (owp_no rfl rfl rfl rfl (owp_no rfl rfl rfl rfl (owp_no rfl rfl rfl rfl (o_pf rfl rfl rfl (o_as rfl rfl ?_))))))))))))))
  refine o_z ?_
  obtain rfl := sm hy36
  replace hB := (hB.st S28).st S33
  exact ⟨(), _, ⟨rfl, trivial⟩, hB⟩
 replace hB := (hB.st S28).st S33
 rintro l54 w55 ⟨x38, O56, hs57, hB⟩
 refine ewp_sub _ hs57 ?_
 refine ewp_ret ?_
 obtain rfl := sm hm
 exact ret1v rfl (res_tmp rfl) ⟨hB.ext, vBool⟩
noncomputable def m_base_Is (x0 : Err) (x1 : Int) : Option Bool :=
  bnd (if x0.n ≠ 0 then (bnd (m_base_Num (⟨x0.n⟩ : Err)) fun q8 => if q8 = x1 then (some true) else (some false)) else (some false) : Option Bool) fun y3 => some y3
theorem c_base_Is {w : World} {A : Nat → Prop} (hA : ∀ k, A k → k < w.heap.size) {x0 : Err} (rx0 : inI64 x0.n) {x1 : Int} (rx1 : inI64 x1) {r : Bool} (hm : m_base_Is x0 x1 = some r) :
    Fn Tryz.prog 7 [(errV x0.n), (.int .i64 x1)] w fun v w' => Ext w w' ∧ Vb w' (upA A w w') v r := by
 obtain ⟨O, hB, hA0⟩ := enter hA
 refine fn_enter Tryz.func7 rfl Tryz.ntmps7 rfl ?_
 unfold m_base_Is at hm
 refine ewp_seq (ewp_region (o_as rfl rfl (o_z ?_)))
 refine ewp_seq ?_
 obtain ⟨y3, hy4, hm⟩ := bs hm
 refine ewp_join (fun l' w' => ∃ (x6 : Unit) (O' : Lab), subs l' [(4, (.bool y3))] ∧ Bs w A w' O') ?_ ?_
 ·
  refine ewp_region (o_mv rfl rfl (o_rnS rfl rfl (fun c7 => ?_) fun c7 => ?_))
  ·
   replace hy4 := ip hy4 c7
   refine o_mv rfl rfl (owp_yes rfl rfl (o_mv rfl rfl (owp_yes rfl rfl ?_)))
   obtain ⟨q8, e9, hy4⟩ := bs hy4
   refine l_callA (O := O) (A := All w) (R := fun w' F v => Vb w' F v q8) (c_base_Num (fun _ h => h) rx0 e9) rfl rfl fun v14 w10 O11 S12 h13 => ?_
   obtain ⟨rfl, r15⟩ := h13.int
   refine owp_yes rfl rfl (o_mv rfl rfl (owp_yes rfl rfl (o_eeS rfl rfl rfl (fun c16 => ?_) fun c16 => ?_)))
   ·
    replace hy4 := ip hy4 c16
    refine o_pt rfl rfl rfl (o_as rfl rfl (o_z ?_))
    obtain rfl := sm hy4
    replace hB := hB.st S12
    exact ⟨(), _, ⟨rfl, trivial⟩, hB⟩
   replace hy4 := im hy4 c16
   refine o_pt rfl rfl rfl (o_as rfl rfl (o_z ?_))
   obtain rfl := sm hy4
   replace hB := hB.st S12
   exact ⟨(), _, ⟨rfl, trivial⟩, hB⟩
  replace hy4 := im hy4 c7
  refine o_mv rfl rfl (owp_no rfl rfl rfl rfl (owp_no rfl rfl rfl rfl (owp_no rfl rfl rfl rfl (owp_no rfl rfl rfl rfl (o_pf rfl rfl rfl (o_as rfl rfl (o_z ?_)))))))
  obtain rfl := sm hy4
  exact ⟨(), _, ⟨rfl, trivial⟩, hB⟩
 rintro l17 w18 ⟨x6, O19, hs20, hB⟩
 refine ewp_sub _ hs20 ?_
 refine ewp_ret ?_
 obtain rfl := sm hm
 exact ret1v rfl (res_tmp rfl) ⟨hB.ext, vBool⟩
end
section
open Go Go.RowKit
attribute [local irreducible] ewp owp hwp hwq Ev Evg Fn retPost Res1
structure Fnd where
  t : Tsk
  list : List Fct
  signs : List (List ByteArray)
  x : Swp
  taken : List (List Bool)
  vars : List Bool
  steps : Int
  most : Int
  full : Bool
instance : Ow Fnd where
  R w F M v x := ∃ (g : Nat) (L : Lab) (c0 c1 c2 c3 c4 c5 c6 c7 c8 c9 c10 : Value), v = .pointer (some ⟨g, 0, none⟩) ∧ Blk w g 67 [c0, c1, c2, c3, c4, c5, c6, c7, c8, c9, c10, .int .i64 x.steps, .int .i64 x.most, .bool x.full] ∧ M g ∧ L g = 0 ∧ Vb w F c0 x.t.vars ∧ Vb w F c1 x.t.init ∧ Vb w F c2 x.t.goal ∧ Vb w F c3 x.t.ops ∧ Vb w F c4 x.list ∧ NRm ByteArray w F (fun k => M k ∧ L k = 1) 80 9 c5 x.signs ∧ RwM w F (fun k => M k ∧ L k = 2) 3 c6 x.x.vars ∧ NRm Int w F (fun k => M k ∧ L k = 3) 24 3 c7 x.x.vals ∧ Vb w F c8 x.x.ops ∧ NRm Bool w F (fun k => M k ∧ L k = 4) 65 4 c9 x.taken ∧ RwM w F (fun k => M k ∧ L k = 5) 4 c10 x.vars ∧ inI64 x.steps ∧ inI64 x.most
  agree := by rintro w w' F M v x ⟨g, L, c0, c1, c2, c3, c4, c5, c6, c7, c8, c9, c10, rfl, hb, hM, hL, h0, h1, h2, h3, h4, h5, h6, h7, h8, h9, h10, h11, h12⟩ a1 a2; exact ⟨g, L, c0, c1, c2, c3, c4, c5, c6, c7, c8, c9, c10, rfl, hb.keep (a2 g hM), hM, hL, h0.agree a1, h1.agree a1, h2.agree a1, h3.agree a1, h4.agree a1, h5.agree a1 fun k hk => a2 k hk.1, h6.agree a1 fun k hk => a2 k hk.1, h7.agree a1 fun k hk => a2 k hk.1, h8.agree a1, h9.agree a1 fun k hk => a2 k hk.1, h10.agree a1 fun k hk => a2 k hk.1, h11, h12⟩
  mono := by rintro w F M F' M' v x ⟨g, L, c0, c1, c2, c3, c4, c5, c6, c7, c8, c9, c10, rfl, hb, hM, hL, h0, h1, h2, h3, h4, h5, h6, h7, h8, h9, h10, h11, h12⟩ a1 a2 a3; exact ⟨g, L, c0, c1, c2, c3, c4, c5, c6, c7, c8, c9, c10, rfl, hb, a2 g hM, hL, h0.mono a1, h1.mono a1, h2.mono a1, h3.mono a1, h4.mono a1, h5.mono a1 (fun k hk => ⟨a2 k hk.1, hk.2⟩) fun k hf hm => a3 k hf hm.1, h6.mono a1 (fun k hk => ⟨a2 k hk.1, hk.2⟩) fun k hf hm => a3 k hf hm.1, h7.mono a1 (fun k hk => ⟨a2 k hk.1, hk.2⟩) fun k hf hm => a3 k hf hm.1, h8.mono a1, h9.mono a1 (fun k hk => ⟨a2 k hk.1, hk.2⟩) fun k hf hm => a3 k hf hm.1, h10.mono a1 (fun k hk => ⟨a2 k hk.1, hk.2⟩) fun k hf hm => a3 k hf hm.1, h11, h12⟩
instance : OwP Fnd := ⟨by rintro w F M v x ⟨g, L, c0, c1, c2, c3, c4, c5, c6, c7, c8, c9, c10, rfl, _⟩; exact ⟨g, rfl⟩⟩
theorem Fnd.kp {T : Nat → Prop} {i : Nat} {w w' : World} {O O' : Lab} {p q : Nat} {x : Fnd} {u : Value} (h : Ob i w O (.pointer (some ⟨p, 0, none⟩)) x) (hS : St T w O w' O') (hi : ¬ T i) (hc : w.cell? ⟨p, q, none⟩ = some u) : w'.cell? ⟨p, q, none⟩ = some u := by
  obtain ⟨⟨g, L, c0, c1, c2, c3, c4, c5, c6, c7, c8, c9, c10, hv, hb, hM, _⟩, _⟩ := h
  obtain rfl : p = g := by injection hv with hv; injection hv with hv; injection hv
  have e := (hS.same p hM.1 (by rw [hM.2]; exact hi)).1
  rw [← hc]; unfold World.cell?; rw [e]
theorem Fnd.pk_list {i : Nat} {w : World} {O : Lab} {p : Nat} {x : Fnd} (h : Ob i w O (.pointer (some ⟨p, 0, none⟩)) x) : ∃ A c, w.cell? ⟨p, 4, none⟩ = some (.slice A x.list.length c) ∧ Vb w (Fr 0 w O) (.slice A x.list.length c) x.list := by
  obtain ⟨⟨g, L, c0, c1, c2, c3, c4, c5, c6, c7, c8, c9, c10, hv, hb, hM, hL, h0, h1, h2, h3, h4, h5, h6, h7, h8, h9, h10, h11, h12⟩, _⟩ := h
  obtain rfl : p = g := by injection hv with hv; injection hv with hv; injection hv
  obtain ⟨A, c, e⟩ := h4.form
  exact ⟨A, c, by rw [← e]; exact hb.cell (i := 4) rfl, by rw [← e]; exact h4⟩
theorem Fnd.opn {i : Nat} {w : World} {O : Lab} {p : Nat} {x : Fnd} (h : Ob i w O (.pointer (some ⟨p, 0, none⟩)) x) (l0 l1 l2 l3 l4 l5 : Nat) (hl : l0 ≠ 0 ∧ l1 ≠ 0 ∧ l2 ≠ 0 ∧ l3 ≠ 0 ∧ l4 ≠ 0 ∧ l5 ≠ 0) : ∃ (O' : Lab) (c0 c1 c2 c3 c4 c5 c6 c7 c8 c9 c10 : Value), St (eT i) w O w O' ∧ (∀ k, Fr i w O k → ∃ q, q ∈ [l0, l1, l2, l3, l4, l5] ∧ Fr q w O' k) ∧ Lc l0 w O' p 67 [c0, c1, c2, c3, c4, c5, c6, c7, c8, c9, c10, .int .i64 x.steps, .int .i64 x.most, .bool x.full] ∧ Vb w (Fr 0 w O') c0 x.t.vars ∧ Vb w (Fr 0 w O') c1 x.t.init ∧ Vb w (Fr 0 w O') c2 x.t.goal ∧ Vb w (Fr 0 w O') c3 x.t.ops ∧ Vb w (Fr 0 w O') c4 x.list ∧ NR ByteArray l1 w O' 80 9 c5 x.signs none ∧ Rw l2 w O' 3 c6 x.x.vars ∧ NR Int l3 w O' 24 3 c7 x.x.vals none ∧ Vb w (Fr 0 w O') c8 x.x.ops ∧ NR Bool l4 w O' 65 4 c9 x.taken none ∧ Rw l5 w O' 4 c10 x.vars ∧ inI64 x.steps ∧ inI64 x.most := by
  obtain ⟨⟨g, L, c0, c1, c2, c3, c4, c5, c6, c7, c8, c9, c10, hv, hb, hM, hL, h0, h1, h2, h3, h4, h5, h6, h7, h8, h9, h10, h11, h12⟩, hi⟩ := h
  obtain rfl : p = g := by injection hv with hv; injection hv with hv; injection hv
  exact ⟨part O i L [l0, l1, l2, l3, l4, l5], c0, c1, c2, c3, c4, c5, c6, c7, c8, c9, c10, part_st hi, part_all (by simp), ⟨hb, (part_fr (j := 0) rfl p ⟨hM, hL⟩).2⟩, h0.mono (part_fr0 hi), h1.mono (part_fr0 hi), h2.mono (part_fr0 hi), h3.mono (part_fr0 hi), h4.mono (part_fr0 hi), h5.nr (part_fr0 hi) (part_fr (j := 1) rfl) hl.2.1, h6.rw (part_fr0 hi) (part_fr (j := 2) rfl) hl.2.2.1, h7.nr (part_fr0 hi) (part_fr (j := 3) rfl) hl.2.2.2.1, h8.mono (part_fr0 hi), h9.nr (part_fr0 hi) (part_fr (j := 4) rfl) hl.2.2.2.2.1, h10.rw (part_fr0 hi) (part_fr (j := 5) rfl) hl.2.2.2.2.2, h11, h12⟩
theorem Fnd.shut {w : World} {O : Lab} {p : Nat} {x : Fnd} {l0 l1 l2 l3 l4 l5 : Nat} {c0 c1 c2 c3 c4 c5 c6 c7 c8 c9 c10 : Value} (hd : ¬ 0 ∈ [l0, l1, l2, l3, l4, l5] ∧ [l0, l1, l2, l3, l4, l5].idxOf l0 = 0 ∧ [l0, l1, l2, l3, l4, l5].idxOf l1 = 1 ∧ [l0, l1, l2, l3, l4, l5].idxOf l2 = 2 ∧ [l0, l1, l2, l3, l4, l5].idxOf l3 = 3 ∧ [l0, l1, l2, l3, l4, l5].idxOf l4 = 4 ∧ [l0, l1, l2, l3, l4, l5].idxOf l5 = 5) (hb : Lc l0 w O p 67 [c0, c1, c2, c3, c4, c5, c6, c7, c8, c9, c10, .int .i64 x.steps, .int .i64 x.most, .bool x.full]) (h0 : Vb w (Fr 0 w O) c0 x.t.vars) (h1 : Vb w (Fr 0 w O) c1 x.t.init) (h2 : Vb w (Fr 0 w O) c2 x.t.goal) (h3 : Vb w (Fr 0 w O) c3 x.t.ops) (h4 : Vb w (Fr 0 w O) c4 x.list) (h5 : NR ByteArray l1 w O 80 9 c5 x.signs none) (h6 : Rw l2 w O 3 c6 x.x.vars) (h7 : NR Int l3 w O 24 3 c7 x.x.vals none) (h8 : Vb w (Fr 0 w O) c8 x.x.ops) (h9 : NR Bool l4 w O 65 4 c9 x.taken none) (h10 : Rw l5 w O 4 c10 x.vars) (h11 : inI64 x.steps) (h12 : inI64 x.most) : ∃ O', St (· ∈ [l0, l1, l2, l3, l4, l5]) w O w O' ∧ (∀ k, Fr 0 w O k → Fr 0 w O' k) ∧ (∀ q, q ∈ [l0, l1, l2, l3, l4, l5] → ∀ k, Fr q w O k → Fr l0 w O' k) ∧ Ob l0 w O' (.pointer (some ⟨p, 0, none⟩)) x := by
  have hb1 : l0 ≠ 0 := fun e => hd.1 (by simp [e])
  have hg := whole_fr (i := l0) hd.2.1 (by simp) p ⟨hb.1.lt, hb.2⟩
  exact ⟨whole O l0 [l0, l1, l2, l3, l4, l5], whole_st, whole_fr0 hd.1, whole_all, ⟨p, fun k => [l0, l1, l2, l3, l4, l5].idxOf (O k), c0, c1, c2, c3, c4, c5, c6, c7, c8, c9, c10, rfl, hb.1, hg.1, hg.2, h0.mono (whole_fr0 hd.1), h1.mono (whole_fr0 hd.1), h2.mono (whole_fr0 hd.1), h3.mono (whole_fr0 hd.1), h4.mono (whole_fr0 hd.1), h5.m (whole_fr0 hd.1) (whole_fr hd.2.2.1 (by simp)) (fun k a b => frNe0 hb1 k a b.1), h6.m (whole_fr0 hd.1) (whole_fr hd.2.2.2.1 (by simp)) (fun k a b => frNe0 hb1 k a b.1), h7.m (whole_fr0 hd.1) (whole_fr hd.2.2.2.2.1 (by simp)) (fun k a b => frNe0 hb1 k a b.1), h8.mono (whole_fr0 hd.1), h9.m (whole_fr0 hd.1) (whole_fr hd.2.2.2.2.2.1 (by simp)) (fun k a b => frNe0 hb1 k a b.1), h10.m (whole_fr0 hd.1) (whole_fr hd.2.2.2.2.2.2 (by simp)) (fun k a b => frNe0 hb1 k a b.1), h11, h12⟩, hb1⟩
noncomputable def m_symmetry_finder_choose (x0 : Fnd) (x1 : Fct) (x2 : Fct) : Option (Bool × Fnd) :=
  bnd (atI x0.x.vals x1.var) fun a75 => bnd (atI a75 x1.val) fun a90 => bnd (atI x0.taken x2.var) fun a106 => bnd (atI a106 x2.val) fun a121 => bnd (atI x0.x.vars x1.var) fun a136 => if 0 ≤ a136 then (some (false, (⟨(⟨x0.t.vars, x0.t.init, x0.t.goal, x0.t.ops⟩ : Tsk), x0.list, x0.signs, (⟨x0.x.vars, (x0.x.vals.set (x1.var : Int).toNat (a75.set (x1.val : Int).toNat x2.val)), x0.x.ops⟩ : Swp), (x0.taken.set (x2.var : Int).toNat (a106.set (x2.val : Int).toNat true)), x0.vars, x0.steps, x0.most, x0.full⟩ : Fnd))) else (bnd (atI x0.x.vars x1.var) fun a154 => bnd (atI x0.vars x2.var) fun a168 => some (true, (⟨(⟨x0.t.vars, x0.t.init, x0.t.goal, x0.t.ops⟩ : Tsk), x0.list, x0.signs, (⟨(x0.x.vars.set (x1.var : Int).toNat x2.var), (x0.x.vals.set (x1.var : Int).toNat (a75.set (x1.val : Int).toNat x2.val)), x0.x.ops⟩ : Swp), (x0.taken.set (x2.var : Int).toNat (a106.set (x2.val : Int).toNat true)), (x0.vars.set (x2.var : Int).toNat true), x0.steps, x0.most, x0.full⟩ : Fnd)))
theorem c_symmetry_finder_choose {w : World} {O : Lab} {p0 i0 : Nat} {x0 : Fnd} (hx0 : Ob i0 w O (.pointer (some ⟨p0, 0, none⟩)) x0) {vx1 : Value} {x1 : Fct} (hx1 : Vb w (Fr 0 w O) vx1 x1) {vx2 : Value} {x2 : Fct} (hx2 : Vb w (Fr 0 w O) vx2 x2) {r : Bool × Fnd} (hm : m_symmetry_finder_choose x0 x1 x2 = some r) :
    Fn Tryz.prog 39 [(.pointer (some ⟨p0, 0, none⟩)), vx1, vx2] w fun v w' => ∃ O', St (eT i0) w O w' O' ∧ Ob i0 w' O' (.pointer (some ⟨p0, 0, none⟩)) r.2 ∧ Vb w' (Fr 0 w' O') v r.1 := by
 obtain ⟨O0, hE, hz0, hl2⟩ := ent1 (w := w) (O := O) hx0.2
 have hx0' := Ob.leave hx0 hz0 hl2 (j := 2) (by decide)
 have hB : Bm w O0 w O0 := Bm.refl
 replace hx1 := hx1.mono hz0
 obtain ⟨cs4, rfl, rfl, r5, r6⟩ := hx1
 replace hx2 := hx2.mono hz0
 obtain ⟨cs7, rfl, rfl, r8, r9⟩ := hx2
 refine fn_enter Tryz.func39 rfl Tryz.ntmps39 rfl ?_
 unfold m_symmetry_finder_choose at hm
 refine ewp_seq (ewp_region (l_box 3 O0 rfl rfl fun g10 w11 O12 S13 h14 => ?_))
 replace h14 : Lc 3 w11 O12 g10 26 [(.int .i64 x1.var), (.int .i64 x1.val)] := h14
 refine l_box 4 O12 rfl rfl fun g15 w16 O17 S18 h19 => ?_
 replace h19 : Lc 4 w16 O17 g15 26 [(.int .i64 x2.var), (.int .i64 x2.val)] := h19
 refine o_as rfl rfl (o_z ?_)
 refine ewp_seq ?_
 replace hx0' := (hx0'.st S13).st S18
 obtain ⟨O20, v24, v28, v32, v36, v40, v44, v49, v54, v59, v63, v68, S21, ha23, h22, h25, h29, h33, h37, h41, h45, h50, h55, h60, h64, h69, r73, r74⟩ := Fnd.opn hx0' 2 5 6 7 8 9 (by decide)
 obtain ⟨A26, c27, rfl⟩ := h25.form
 obtain ⟨A30, c31, rfl⟩ := h29.form
 obtain ⟨A34, c35, rfl⟩ := h33.form
 obtain ⟨A38, c39, rfl⟩ := h37.form
 obtain ⟨A42, c43, rfl⟩ := h41.form
 obtain ⟨A46, c47, rfl⟩ := h45.form
 obtain ⟨A51, c52, rfl⟩ := h50.form
 obtain ⟨A56, c57, rfl⟩ := h55.form
 obtain ⟨A61, c62, rfl⟩ := h60.form
 obtain ⟨A65, c66, rfl⟩ := h64.form
 obtain ⟨A70, c71, rfl⟩ := h69.form
 refine ewp_drawX [] O20 ?_
 refine x_pre (fuel := 1) [] [(0, true), (1, true), (2, true), (3, true), (4, true), (5, true), (6, true), (7, true), (8, true), (9, true), (10, true), (11, true), (12, true), (13, true)] (by kernel_rfl) rfl ?_
 refine h_mv rfl rfl rfl (h_nc rfl rfl rfl (h_fa rfl rfl rfl (h_fa rfl rfl rfl (h_ldC (hc := fun w' ⟨O', hq⟩ => Blk.cell (i := 7) ((h22.st hq (by decide)).1) rfl) rfl rfl rfl ?_))))
 refine h_fa rfl rfl rfl ?_
 replace h14 := (h14.st S18).st S21
 refine h_ldC (hc := fun w' ⟨O', hq⟩ => Blk.cell (i := 0) ((h14.st hq (by decide)).1) rfl) rfl rfl rfl ?_
 obtain ⟨a75, e76, hm⟩ := bs hm
 obtain ⟨p78, x77⟩ := atI_some' e76
 obtain ⟨b79, o80, hA82, hl83⟩ := h55.at x77
 refine h_iaE (hA := hA82) (hj := (Int.toNat_of_nonneg p78).symm) (hlt := hl83) rfl rfl rfl rfl ?_
 obtain ⟨A86, c87, hc88, h89⟩ := NR.peek h55 hA82 x77
 replace h89 : Vb w16 (FrS [7] w16 O20) (.slice A86 a75.length c87) a75 := h89
 refine h_ldC (hc := fun w' ⟨O', hq⟩ => NR.stay h55 hA82 hq (by decide) hc88) rfl rfl rfl ?_
 refine h_fa rfl rfl rfl (h_ldC (hc := fun w' ⟨O', hq⟩ => Blk.cell (i := 1) ((h14.st hq (by decide)).1) rfl) rfl rfl rfl ?_)
 refine h_fa rfl rfl rfl ?_
 replace h19 := h19.st S21
 refine h_ldC (hc := fun w' ⟨O', hq⟩ => Blk.cell (i := 1) ((h19.st hq (by decide)).1) rfl) rfl rfl rfl ?_
 obtain ⟨a90, e91, hm⟩ := bs hm
 obtain ⟨p93, x92⟩ := atI_some' e91
 obtain ⟨b94, o95, ce96, hA97, hF100, hl98, hd99, rfl, r101⟩ := h89.elem x92
 refine h_iaE (hA := hA97) (hj := (Int.toNat_of_nonneg p93).symm) (hlt := hl98) rfl rfl rfl rfl ?_
 refine hwp_nilT ?_
 refine x_one (i := 14) (by kernel_rfl) rfl ?_
 refine l_setNI (off := 0) (a := a75) (f := a90) (f' := x2.val) h55 hA82 x77 hc88 hA97 x92 rfl rfl rfl (Nat.le_of_ble_eq_true rfl) (allOne rfl) (by decide) (by rintro w' O' ce ⟨rfl, _⟩; exact ⟨rfl, r9⟩) fun w102 O103 S104 h105 => ?_
 replace h105 : NR Int 7 w102 O103 24 3 (.slice A56 x0.x.vals.length c57) (x0.x.vals.set (x1.var : Int).toNat (a75.set (x1.val : Int).toNat x2.val)) none := h105
 refine x_end (by kernel_rfl) ?_
 refine x_nil (by kernel_rfl) ?_
 refine ewp_seq (ewp_drawX [] O103 ?_)
 refine x_pre (fuel := 1) [] [(0, true), (1, true), (2, true), (3, true), (4, true), (5, true), (6, true), (7, true), (8, true), (9, true), (10, true)] (by kernel_rfl) rfl ?_
 refine h_mv rfl rfl rfl (h_nc rfl rfl rfl (h_fa rfl rfl rfl ?_))
 replace h22 := h22.st S104
 refine h_ldC (hc := fun w' ⟨O', hq⟩ => Blk.cell (i := 9) ((h22.st hq (by decide)).1) rfl) rfl rfl rfl ?_
 refine h_fa rfl rfl rfl ?_
 replace h19 := h19.st S104
 refine h_ldC (hc := fun w' ⟨O', hq⟩ => Blk.cell (i := 0) ((h19.st hq (by decide)).1) rfl) rfl rfl rfl ?_
 obtain ⟨a106, e107, hm⟩ := bs hm
 obtain ⟨p109, x108⟩ := atI_some' e107
 replace h64 := h64.st S104
 obtain ⟨b110, o111, hA113, hl114⟩ := h64.at x108
 refine h_iaE (hA := hA113) (hj := (Int.toNat_of_nonneg p109).symm) (hlt := hl114) rfl rfl rfl rfl ?_
 obtain ⟨A117, c118, hc119, h120⟩ := NR.peek h64 hA113 x108
 replace h120 : Vb w102 (FrS [8] w102 O103) (.slice A117 a106.length c118) a106 := h120
 refine h_ldC (hc := fun w' ⟨O', hq⟩ => NR.stay h64 hA113 hq (by decide) hc119) rfl rfl rfl ?_
 refine h_fa rfl rfl rfl (h_ldC (hc := fun w' ⟨O', hq⟩ => Blk.cell (i := 1) ((h19.st hq (by decide)).1) rfl) rfl rfl rfl ?_)
 obtain ⟨a121, e122, hm⟩ := bs hm
 obtain ⟨p124, x123⟩ := atI_some' e122
 obtain ⟨b125, o126, ce127, hA128, hF131, hl129, hd130, rfl⟩ := h120.elem x123
 refine h_iaE (hA := hA128) (hj := (Int.toNat_of_nonneg p124).symm) (hlt := hl129) rfl rfl rfl rfl ?_
 refine hwp_nilT ?_
 refine x_one (i := 11) (by kernel_rfl) rfl ?_
 refine l_setNI (off := 0) (a := a106) (f := a121) (f' := true) h64 hA113 x108 hc119 hA128 x123 rfl rfl rfl (Nat.le_of_ble_eq_true rfl) (allOne rfl) (by decide) (by rintro w' O' ce rfl; exact rfl) fun w132 O133 S134 h135 => ?_
 replace h135 : NR Bool 8 w132 O133 65 4 (.slice A65 x0.taken.length c66) (x0.taken.set (x2.var : Int).toNat (a106.set (x2.val : Int).toNat true)) none := h135
 refine x_end (by kernel_rfl) ?_
 refine x_nil (by kernel_rfl) ?_
 refine ewp_seq (ewp_seq (ewp_draw (· = w132) [(0, true), (1, true), (2, true), (3, true), (4, true), (5, true), (6, true), (7, true), (8, true), (9, true)] (by kernel_rfl) rfl (by kernel_rfl) rfl ?_))
 refine h_mv rfl rfl rfl (h_nc rfl rfl rfl (h_fa rfl rfl rfl (h_fa rfl rfl rfl ?_)))
 replace h22 := h22.st S134
 refine h_ldA (hc := Blk.cell (i := 6) (h22.1) rfl) rfl rfl rfl ?_
 refine h_fa rfl rfl rfl ?_
 replace h14 := (h14.st S104).st S134
 refine h_ldA (hc := Blk.cell (i := 0) (h14.1) rfl) rfl rfl rfl ?_
 obtain ⟨a136, e137, hm⟩ := bs hm
 obtain ⟨p139, x138⟩ := atI_some' e137
 replace h50 := (h50.st S104).st S134
 obtain ⟨b140, o141, ce142, hA143, hl144, hd145, rfl, r147⟩ := h50.elem x138
 refine h_iaE (hA := hA143) (hj := (Int.toNat_of_nonneg p139).symm) (hlt := hl144) rfl rfl rfl rfl ?_
 refine h_ldA (hc := cat0 hd145) rfl rfl rfl ?_
 refine h_geS rfl rfl rfl rfl (fun c148 => ?_) fun c148 => ?_
 ·
  replace hm := ip hm c148
  refine h_z ?_
  refine ewp_true rfl (ewp_seq (ewp_region (o_as rfl rfl (o_z ?_))))
  refine ewp_ret ?_
  replace h25 := (h25.st S104).st S134
  replace h29 := (h29.st S104).st S134
  replace h33 := (h33.st S104).st S134
  replace h37 := (h37.st S104).st S134
  replace h41 := (h41.st S104).st S134
  replace h45 := (h45.st S104).st S134
  replace h60 := (h60.st S104).st S134
  replace h69 := (h69.st S104).st S134
  replace h105 := h105.st S134
  obtain ⟨O149, S150, hz152, ha153, h151⟩ := Fnd.shut (x := (⟨(⟨x0.t.vars, x0.t.init, x0.t.goal, x0.t.ops⟩ : Tsk), x0.list, x0.signs, (⟨x0.x.vars, (x0.x.vals.set (x1.var : Int).toNat (a75.set (x1.val : Int).toNat x2.val)), x0.x.ops⟩ : Swp), (x0.taken.set (x2.var : Int).toNat (a106.set (x2.val : Int).toNat true)), x0.vars, x0.steps, x0.most, x0.full⟩ : Fnd)) (l0 := 2) (l1 := 5) (l2 := 6) (l3 := 7) (l4 := 8) (l5 := 9) (by decide) (by have q := h22; rw [← ((by simp : (x0.x.vals.set (x1.var : Int).toNat (a75.set (x1.val : Int).toNat x2.val)).length = x0.x.vals.length).trans rfl), ← ((by simp : (x0.taken.set (x2.var : Int).toNat (a106.set (x2.val : Int).toNat true)).length = x0.taken.length).trans rfl)] at q; exact q) h25 h29 h33 h37 h41 h45 h50 h105.relen h60 h135.relen h69 r73 r74
  obtain rfl := sm hm
  replace hB := (((((hB.st S13).st S18).st S21).st S104).st S134).st S150
  obtain ⟨O', hS', hz, hl⟩ := hE.leave (fun q => if q = 2 then i0 else 0) rfl hB
  exact ret1v rfl (res_tmp rfl) ⟨O', hS', (Ob.leave h151 hz (hl 2 (by decide) (by decide)) hx0.2), vBool⟩
 replace hm := im hm c148
 refine h_z ?_
 refine ewp_false rfl (ewp_skip (ewp_seq (ewp_drawX [(16, [6])] O133 ?_)))
 refine x_pre (fuel := 5) [] [(0, true), (1, true), (2, true), (3, true), (4, true), (5, true), (6, true), (7, true), (8, true), (9, true), (10, true), (13, true), (14, true), (15, true)] (by kernel_rfl) rfl ?_
 refine h_mv rfl rfl rfl (h_nc rfl rfl rfl (h_fa rfl rfl rfl (h_fa rfl rfl rfl (h_ldC (hc := fun w' ⟨O', hq⟩ => Blk.cell (i := 6) ((h22.st hq (by decide)).1) rfl) rfl rfl rfl ?_))))
 refine h_fa rfl rfl rfl (h_ldC (hc := fun w' ⟨O', hq⟩ => Blk.cell (i := 0) ((h14.st hq (by decide)).1) rfl) rfl rfl rfl ?_)
 refine h_mv rfl rfl rfl (h_nc rfl rfl rfl (h_fa rfl rfl rfl (h_ldC (hc := fun w' ⟨O', hq⟩ => Blk.cell (i := 10) ((h22.st hq (by decide)).1) rfl) rfl rfl rfl ?_)))
 refine h_fa rfl rfl rfl ?_
 replace h19 := h19.st S134
 refine h_ldC (hc := fun w' ⟨O', hq⟩ => Blk.cell (i := 0) ((h19.st hq (by decide)).1) rfl) rfl rfl rfl ?_
 obtain ⟨a154, e155, hm⟩ := bs hm
 obtain ⟨p157, x156⟩ := atI_some' e155
 obtain ⟨b158, o159, ce160, hA161, hF164, hl162, hd163, rfl, r165⟩ := h50.elemF x156
 refine h_iaE (hA := hA161) (hj := (Int.toNat_of_nonneg p157).symm) (hlt := hl162) rfl rfl rfl rfl ?_
 refine hwp_nilT ?_
 refine x_pre (fuel := 3) [6] [(11, true), (12, true)] (by kernel_rfl) rfl ?_
 refine h_fa rfl rfl rfl (h_ldC (hc := fun w' ⟨O', hq⟩ => Blk.cell (i := 0) ((h19.st hq (by decide)).1) rfl) rfl rfl rfl ?_)
 refine hwp_nilT ?_
 refine x_one (i := 16) (by kernel_rfl) rfl ?_
 refine l_setE rfl h50 (a := x2.var) (vInt r8) hA161 rfl rfl (lt_of_get x156) fun w166 S167 h50 => ?_
 have hZ := S167.lst [6] (fun _ h => by cases h; decide)
 refine x_go [] hZ (by kernel_rfl) ?_
 refine x_pre (fuel := 1) [] [(17, true)] (by kernel_rfl) rfl ?_
 obtain ⟨a168, e169, hm⟩ := bs hm
 obtain ⟨p171, x170⟩ := atI_some' e169
 replace h69 := ((h69.st S104).st S134).st S167
 obtain ⟨b172, o173, ce174, hA175, hF178, hl176, hd177, rfl⟩ := h69.elemF x170
 refine h_iaE (hA := hA175) (hj := (Int.toNat_of_nonneg p171).symm) (hlt := hl176) rfl rfl rfl rfl ?_
 refine hwp_nilT ?_
 refine x_one (i := 18) (by kernel_rfl) rfl ?_
 refine l_setE rfl h69 (a := true) vBool hA175 rfl rfl (lt_of_get x170) fun w179 S180 h69 => ?_
 refine x_end (by kernel_rfl) ?_
 refine x_nil (by kernel_rfl) ?_
 refine ewp_seq (ewp_region (o_as rfl rfl (o_z ?_)))
 refine ewp_ret ?_
 replace h22 := (h22.st S167).st S180
 replace h25 := (((h25.st S104).st S134).st S167).st S180
 replace h29 := (((h29.st S104).st S134).st S167).st S180
 replace h33 := (((h33.st S104).st S134).st S167).st S180
 replace h37 := (((h37.st S104).st S134).st S167).st S180
 replace h41 := (((h41.st S104).st S134).st S167).st S180
 replace h45 := (((h45.st S104).st S134).st S167).st S180
 replace h50 := h50.st S180
 replace h60 := (((h60.st S104).st S134).st S167).st S180
 replace h105 := ((h105.st S134).st S167).st S180
 replace h135 := (h135.st S167).st S180
 obtain ⟨O181, S182, hz184, ha185, h183⟩ := Fnd.shut (x := (⟨(⟨x0.t.vars, x0.t.init, x0.t.goal, x0.t.ops⟩ : Tsk), x0.list, x0.signs, (⟨(x0.x.vars.set (x1.var : Int).toNat x2.var), (x0.x.vals.set (x1.var : Int).toNat (a75.set (x1.val : Int).toNat x2.val)), x0.x.ops⟩ : Swp), (x0.taken.set (x2.var : Int).toNat (a106.set (x2.val : Int).toNat true)), (x0.vars.set (x2.var : Int).toNat true), x0.steps, x0.most, x0.full⟩ : Fnd)) (l0 := 2) (l1 := 5) (l2 := 6) (l3 := 7) (l4 := 8) (l5 := 9) (by decide) (by have q := h22; rw [← ((by simp : (x0.x.vars.set (x1.var : Int).toNat x2.var).length = x0.x.vars.length).trans rfl), ← ((by simp : (x0.x.vals.set (x1.var : Int).toNat (a75.set (x1.val : Int).toNat x2.val)).length = x0.x.vals.length).trans rfl), ← ((by simp : (x0.taken.set (x2.var : Int).toNat (a106.set (x2.val : Int).toNat true)).length = x0.taken.length).trans rfl), ← ((by simp : (x0.vars.set (x2.var : Int).toNat true).length = x0.vars.length).trans rfl)] at q; exact q) h25 h29 h33 h37 h41 h45 h50.relen h105.relen h60 h135.relen h69.relen r73 r74
 obtain rfl := sm hm
 replace hB := (((((((hB.st S13).st S18).st S21).st S104).st S134).st S167).st S180).st S182
 obtain ⟨O', hS', hz, hl⟩ := hE.leave (fun q => if q = 2 then i0 else 0) rfl hB
 exact ret1v rfl (res_tmp rfl) ⟨O', hS', (Ob.leave h183 hz (hl 2 (by decide) (by decide)) hx0.2), vBool⟩
noncomputable def m_symmetry_finder_undo (x0 : Fnd) (x1 : Fct) (x2 : Fct) (x3 : Bool) : Option Fnd :=
  bnd (atI x0.x.vals x1.var) fun a76 => bnd (atI a76 x1.val) fun a91 => bnd (atI x0.taken x2.var) fun a107 => bnd (atI a107 x2.val) fun a122 => if x3 = true then (bnd (atI x0.x.vars x1.var) fun a138 => bnd (atI x0.vars x2.var) fun a152 => some (⟨(⟨x0.t.vars, x0.t.init, x0.t.goal, x0.t.ops⟩ : Tsk), x0.list, x0.signs, (⟨(x0.x.vars.set (x1.var : Int).toNat (-1)), (x0.x.vals.set (x1.var : Int).toNat (a76.set (x1.val : Int).toNat (-1))), x0.x.ops⟩ : Swp), (x0.taken.set (x2.var : Int).toNat (a107.set (x2.val : Int).toNat false)), (x0.vars.set (x2.var : Int).toNat false), x0.steps, x0.most, x0.full⟩ : Fnd)) else (some (⟨(⟨x0.t.vars, x0.t.init, x0.t.goal, x0.t.ops⟩ : Tsk), x0.list, x0.signs, (⟨x0.x.vars, (x0.x.vals.set (x1.var : Int).toNat (a76.set (x1.val : Int).toNat (-1))), x0.x.ops⟩ : Swp), (x0.taken.set (x2.var : Int).toNat (a107.set (x2.val : Int).toNat false)), x0.vars, x0.steps, x0.most, x0.full⟩ : Fnd))
theorem c_symmetry_finder_undo {w : World} {O : Lab} {p0 i0 : Nat} {x0 : Fnd} (hx0 : Ob i0 w O (.pointer (some ⟨p0, 0, none⟩)) x0) {vx1 : Value} {x1 : Fct} (hx1 : Vb w (Fr 0 w O) vx1 x1) {vx2 : Value} {x2 : Fct} (hx2 : Vb w (Fr 0 w O) vx2 x2) {x3 : Bool} {r : Fnd} (hm : m_symmetry_finder_undo x0 x1 x2 x3 = some r) :
    Fn Tryz.prog 43 [(.pointer (some ⟨p0, 0, none⟩)), vx1, vx2, (.bool x3)] w fun v w' => ∃ O', St (eT i0) w O w' O' ∧ Ob i0 w' O' (.pointer (some ⟨p0, 0, none⟩)) r := by
 obtain ⟨O0, hE, hz0, hl2⟩ := ent1 (w := w) (O := O) hx0.2
 have hx0' := Ob.leave hx0 hz0 hl2 (j := 2) (by decide)
 have hB : Bm w O0 w O0 := Bm.refl
 replace hx1 := hx1.mono hz0
 obtain ⟨cs5, rfl, rfl, r6, r7⟩ := hx1
 replace hx2 := hx2.mono hz0
 obtain ⟨cs8, rfl, rfl, r9, r10⟩ := hx2
 refine fn_enter Tryz.func43 rfl Tryz.ntmps43 rfl ?_
 unfold m_symmetry_finder_undo at hm
 refine ewp_seq (ewp_region (l_box 3 O0 rfl rfl fun g11 w12 O13 S14 h15 => ?_))
 replace h15 : Lc 3 w12 O13 g11 26 [(.int .i64 x1.var), (.int .i64 x1.val)] := h15
 refine l_box 4 O13 rfl rfl fun g16 w17 O18 S19 h20 => ?_
 replace h20 : Lc 4 w17 O18 g16 26 [(.int .i64 x2.var), (.int .i64 x2.val)] := h20
 refine o_z ?_
 refine ewp_seq ?_
 replace hx0' := (hx0'.st S14).st S19
 obtain ⟨O21, v25, v29, v33, v37, v41, v45, v50, v55, v60, v64, v69, S22, ha24, h23, h26, h30, h34, h38, h42, h46, h51, h56, h61, h65, h70, r74, r75⟩ := Fnd.opn hx0' 2 5 6 7 8 9 (by decide)
 obtain ⟨A27, c28, rfl⟩ := h26.form
 obtain ⟨A31, c32, rfl⟩ := h30.form
 obtain ⟨A35, c36, rfl⟩ := h34.form
 obtain ⟨A39, c40, rfl⟩ := h38.form
 obtain ⟨A43, c44, rfl⟩ := h42.form
 obtain ⟨A47, c48, rfl⟩ := h46.form
 obtain ⟨A52, c53, rfl⟩ := h51.form
 obtain ⟨A57, c58, rfl⟩ := h56.form
 obtain ⟨A62, c63, rfl⟩ := h61.form
 obtain ⟨A66, c67, rfl⟩ := h65.form
 obtain ⟨A71, c72, rfl⟩ := h70.form
 refine ewp_drawX [] O21 ?_
 refine x_pre (fuel := 1) [] [(0, true), (1, true), (2, true), (3, true), (4, true), (5, true), (6, true), (7, true), (8, true), (9, true), (10, true), (11, true)] (by kernel_rfl) rfl ?_
 refine h_mv rfl rfl rfl (h_nc rfl rfl rfl (h_fa rfl rfl rfl (h_fa rfl rfl rfl (h_ldC (hc := fun w' ⟨O', hq⟩ => Blk.cell (i := 7) ((h23.st hq (by decide)).1) rfl) rfl rfl rfl ?_))))
 refine h_fa rfl rfl rfl ?_
 replace h15 := (h15.st S19).st S22
 refine h_ldC (hc := fun w' ⟨O', hq⟩ => Blk.cell (i := 0) ((h15.st hq (by decide)).1) rfl) rfl rfl rfl ?_
 obtain ⟨a76, e77, hm⟩ := bs hm
 obtain ⟨p79, x78⟩ := atI_some' e77
 obtain ⟨b80, o81, hA83, hl84⟩ := h56.at x78
 refine h_iaE (hA := hA83) (hj := (Int.toNat_of_nonneg p79).symm) (hlt := hl84) rfl rfl rfl rfl ?_
 obtain ⟨A87, c88, hc89, h90⟩ := NR.peek h56 hA83 x78
 replace h90 : Vb w17 (FrS [7] w17 O21) (.slice A87 a76.length c88) a76 := h90
 refine h_ldC (hc := fun w' ⟨O', hq⟩ => NR.stay h56 hA83 hq (by decide) hc89) rfl rfl rfl ?_
 refine h_fa rfl rfl rfl (h_ldC (hc := fun w' ⟨O', hq⟩ => Blk.cell (i := 1) ((h15.st hq (by decide)).1) rfl) rfl rfl rfl ?_)
 obtain ⟨a91, e92, hm⟩ := bs hm
 obtain ⟨p94, x93⟩ := atI_some' e92
 obtain ⟨b95, o96, ce97, hA98, hF101, hl99, hd100, rfl, r102⟩ := h90.elem x93
 refine h_iaE (hA := hA98) (hj := (Int.toNat_of_nonneg p94).symm) (hlt := hl99) rfl rfl rfl rfl ?_
 refine hwp_nilT ?_
 refine x_one (i := 12) (by kernel_rfl) rfl ?_
 refine l_setNI (off := 0) (a := a76) (f := a91) (f' := (-1)) h56 hA83 x78 hc89 hA98 x93 rfl rfl rfl (Nat.le_of_ble_eq_true rfl) (allOne rfl) (by decide) (by rintro w' O' ce ⟨rfl, _⟩; exact ⟨rfl, (show inI64 (-1) from by decide)⟩) fun w103 O104 S105 h106 => ?_
 replace h106 : NR Int 7 w103 O104 24 3 (.slice A57 x0.x.vals.length c58) (x0.x.vals.set (x1.var : Int).toNat (a76.set (x1.val : Int).toNat (-1))) none := h106
 refine x_end (by kernel_rfl) ?_
 refine x_nil (by kernel_rfl) ?_
 refine ewp_seq (ewp_drawX [] O104 ?_)
 refine x_pre (fuel := 1) [] [(0, true), (1, true), (2, true), (3, true), (4, true), (5, true), (6, true), (7, true), (8, true), (9, true), (10, true)] (by kernel_rfl) rfl ?_
 refine h_mv rfl rfl rfl (h_nc rfl rfl rfl (h_fa rfl rfl rfl ?_))
 replace h23 := h23.st S105
 refine h_ldC (hc := fun w' ⟨O', hq⟩ => Blk.cell (i := 9) ((h23.st hq (by decide)).1) rfl) rfl rfl rfl ?_
 refine h_fa rfl rfl rfl ?_
 replace h20 := (h20.st S22).st S105
 refine h_ldC (hc := fun w' ⟨O', hq⟩ => Blk.cell (i := 0) ((h20.st hq (by decide)).1) rfl) rfl rfl rfl ?_
 obtain ⟨a107, e108, hm⟩ := bs hm
 obtain ⟨p110, x109⟩ := atI_some' e108
 replace h65 := h65.st S105
 obtain ⟨b111, o112, hA114, hl115⟩ := h65.at x109
 refine h_iaE (hA := hA114) (hj := (Int.toNat_of_nonneg p110).symm) (hlt := hl115) rfl rfl rfl rfl ?_
 obtain ⟨A118, c119, hc120, h121⟩ := NR.peek h65 hA114 x109
 replace h121 : Vb w103 (FrS [8] w103 O104) (.slice A118 a107.length c119) a107 := h121
 refine h_ldC (hc := fun w' ⟨O', hq⟩ => NR.stay h65 hA114 hq (by decide) hc120) rfl rfl rfl ?_
 refine h_fa rfl rfl rfl (h_ldC (hc := fun w' ⟨O', hq⟩ => Blk.cell (i := 1) ((h20.st hq (by decide)).1) rfl) rfl rfl rfl ?_)
 obtain ⟨a122, e123, hm⟩ := bs hm
 obtain ⟨p125, x124⟩ := atI_some' e123
 obtain ⟨b126, o127, ce128, hA129, hF132, hl130, hd131, rfl⟩ := h121.elem x124
 refine h_iaE (hA := hA129) (hj := (Int.toNat_of_nonneg p125).symm) (hlt := hl130) rfl rfl rfl rfl ?_
 refine hwp_nilT ?_
 refine x_one (i := 11) (by kernel_rfl) rfl ?_
 refine l_setNI (off := 0) (a := a107) (f := a122) (f' := false) h65 hA114 x109 hc120 hA129 x124 rfl rfl rfl (Nat.le_of_ble_eq_true rfl) (allOne rfl) (by decide) (by rintro w' O' ce rfl; exact rfl) fun w133 O134 S135 h136 => ?_
 replace h136 : NR Bool 8 w133 O134 65 4 (.slice A66 x0.taken.length c67) (x0.taken.set (x2.var : Int).toNat (a107.set (x2.val : Int).toNat false)) none := h136
 refine x_end (by kernel_rfl) ?_
 refine x_nil (by kernel_rfl) ?_
 refine ewp_seq (ewp_region (o_mv rfl rfl (o_z ?_)))
 refine ewp_cond rfl (fun c137 => ?_) (fun c137 => ?_)
 ·
  replace hm := ip hm c137
  refine ewp_drawX [(14, [6])] O134 ?_
  refine x_pre (fuel := 5) [] [(0, true), (1, true), (2, true), (3, true), (4, true), (5, true), (6, true), (7, true), (8, true), (9, true), (10, true), (13, true)] (by kernel_rfl) rfl ?_
  refine h_mv rfl rfl rfl (h_nc rfl rfl rfl (h_fa rfl rfl rfl (h_fa rfl rfl rfl ?_)))
  replace h23 := h23.st S135
  refine h_ldC (hc := fun w' ⟨O', hq⟩ => Blk.cell (i := 6) ((h23.st hq (by decide)).1) rfl) rfl rfl rfl ?_
  refine h_fa rfl rfl rfl ?_
  replace h15 := (h15.st S105).st S135
  refine h_ldC (hc := fun w' ⟨O', hq⟩ => Blk.cell (i := 0) ((h15.st hq (by decide)).1) rfl) rfl rfl rfl ?_
  refine h_mv rfl rfl rfl (h_nc rfl rfl rfl (h_fa rfl rfl rfl (h_ldC (hc := fun w' ⟨O', hq⟩ => Blk.cell (i := 10) ((h23.st hq (by decide)).1) rfl) rfl rfl rfl ?_)))
  obtain ⟨a138, e139, hm⟩ := bs hm
  obtain ⟨p141, x140⟩ := atI_some' e139
  replace h51 := (h51.st S105).st S135
  obtain ⟨b142, o143, ce144, hA145, hF148, hl146, hd147, rfl, r149⟩ := h51.elemF x140
  refine h_iaE (hA := hA145) (hj := (Int.toNat_of_nonneg p141).symm) (hlt := hl146) rfl rfl rfl rfl ?_
  refine hwp_nilT ?_
  refine x_pre (fuel := 3) [6] [(11, true), (12, true)] (by kernel_rfl) rfl ?_
  refine h_fa rfl rfl rfl ?_
  replace h20 := h20.st S135
  refine h_ldC (hc := fun w' ⟨O', hq⟩ => Blk.cell (i := 0) ((h20.st hq (by decide)).1) rfl) rfl rfl rfl ?_
  refine hwp_nilT ?_
  refine x_one (i := 14) (by kernel_rfl) rfl ?_
  refine l_setE rfl h51 (a := (-1)) (vInt (show inI64 (-1) from by decide)) hA145 rfl rfl (lt_of_get x140) fun w150 S151 h51 => ?_
  have hZ := S151.lst [6] (fun _ h => by cases h; decide)
  refine x_go [] hZ (by kernel_rfl) ?_
  refine x_pre (fuel := 1) [] [(15, true)] (by kernel_rfl) rfl ?_
  obtain ⟨a152, e153, hm⟩ := bs hm
  obtain ⟨p155, x154⟩ := atI_some' e153
  replace h70 := ((h70.st S105).st S135).st S151
  obtain ⟨b156, o157, ce158, hA159, hF162, hl160, hd161, rfl⟩ := h70.elemF x154
  refine h_iaE (hA := hA159) (hj := (Int.toNat_of_nonneg p155).symm) (hlt := hl160) rfl rfl rfl rfl ?_
  refine hwp_nilT ?_
  refine x_one (i := 16) (by kernel_rfl) rfl ?_
  refine l_setE rfl h70 (a := false) vBool hA159 rfl rfl (lt_of_get x154) fun w163 S164 h70 => ?_
  refine x_end (by kernel_rfl) ?_
  refine x_nil (by kernel_rfl) ?_
  replace h23 := (h23.st S151).st S164
  replace h26 := (((h26.st S105).st S135).st S151).st S164
  replace h30 := (((h30.st S105).st S135).st S151).st S164
  replace h34 := (((h34.st S105).st S135).st S151).st S164
  replace h38 := (((h38.st S105).st S135).st S151).st S164
  replace h42 := (((h42.st S105).st S135).st S151).st S164
  replace h46 := (((h46.st S105).st S135).st S151).st S164
  replace h51 := h51.st S164
  replace h61 := (((h61.st S105).st S135).st S151).st S164
  replace h106 := ((h106.st S135).st S151).st S164
  replace h136 := (h136.st S151).st S164
  obtain ⟨O165, S166, hz168, ha169, h167⟩ := Fnd.shut (x := (⟨(⟨x0.t.vars, x0.t.init, x0.t.goal, x0.t.ops⟩ : Tsk), x0.list, x0.signs, (⟨(x0.x.vars.set (x1.var : Int).toNat (-1)), (x0.x.vals.set (x1.var : Int).toNat (a76.set (x1.val : Int).toNat (-1))), x0.x.ops⟩ : Swp), (x0.taken.set (x2.var : Int).toNat (a107.set (x2.val : Int).toNat false)), (x0.vars.set (x2.var : Int).toNat false), x0.steps, x0.most, x0.full⟩ : Fnd)) (l0 := 2) (l1 := 5) (l2 := 6) (l3 := 7) (l4 := 8) (l5 := 9) (by decide) (by have q := h23; rw [← ((by simp : (x0.x.vars.set (x1.var : Int).toNat (-1)).length = x0.x.vars.length).trans rfl), ← ((by simp : (x0.x.vals.set (x1.var : Int).toNat (a76.set (x1.val : Int).toNat (-1))).length = x0.x.vals.length).trans rfl), ← ((by simp : (x0.taken.set (x2.var : Int).toNat (a107.set (x2.val : Int).toNat false)).length = x0.taken.length).trans rfl), ← ((by simp : (x0.vars.set (x2.var : Int).toNat false).length = x0.vars.length).trans rfl)] at q; exact q) h26 h30 h34 h38 h42 h46 h51.relen h106.relen h61 h136.relen h70.relen r74 r75
  obtain rfl := sm hm
  replace hB := (((((((hB.st S14).st S19).st S22).st S105).st S135).st S151).st S164).st S166
  obtain ⟨O', hS', hz, hl⟩ := hE.leave (fun q => if q = 2 then i0 else 0) rfl hB
  exact ret0n rfl  ⟨O', hS', (Ob.leave h167 hz (hl 2 (by decide) (by decide)) hx0.2)⟩
 replace hm := im' hm c137
 refine ewp_skip ?_
 replace h23 := h23.st S135
 replace h26 := (h26.st S105).st S135
 replace h30 := (h30.st S105).st S135
 replace h34 := (h34.st S105).st S135
 replace h38 := (h38.st S105).st S135
 replace h42 := (h42.st S105).st S135
 replace h46 := (h46.st S105).st S135
 replace h51 := (h51.st S105).st S135
 replace h61 := (h61.st S105).st S135
 replace h70 := (h70.st S105).st S135
 replace h106 := h106.st S135
 obtain ⟨O170, S171, hz173, ha174, h172⟩ := Fnd.shut (x := (⟨(⟨x0.t.vars, x0.t.init, x0.t.goal, x0.t.ops⟩ : Tsk), x0.list, x0.signs, (⟨x0.x.vars, (x0.x.vals.set (x1.var : Int).toNat (a76.set (x1.val : Int).toNat (-1))), x0.x.ops⟩ : Swp), (x0.taken.set (x2.var : Int).toNat (a107.set (x2.val : Int).toNat false)), x0.vars, x0.steps, x0.most, x0.full⟩ : Fnd)) (l0 := 2) (l1 := 5) (l2 := 6) (l3 := 7) (l4 := 8) (l5 := 9) (by decide) (by have q := h23; rw [← ((by simp : (x0.x.vals.set (x1.var : Int).toNat (a76.set (x1.val : Int).toNat (-1))).length = x0.x.vals.length).trans rfl), ← ((by simp : (x0.taken.set (x2.var : Int).toNat (a107.set (x2.val : Int).toNat false)).length = x0.taken.length).trans rfl)] at q; exact q) h26 h30 h34 h38 h42 h46 h51 h106.relen h61 h136.relen h70 r74 r75
 obtain rfl := sm hm
 replace hB := (((((hB.st S14).st S19).st S22).st S105).st S135).st S171
 obtain ⟨O', hS', hz, hl⟩ := hE.leave (fun q => if q = 2 then i0 else 0) rfl hB
 exact ret0n rfl  ⟨O', hS', (Ob.leave h172 hz (hl 2 (by decide) (by decide)) hx0.2)⟩
noncomputable def m_symmetry_finder_sign (x0 : Fnd) (x1 : Fct) (x2 : ByteArray) : Option Fnd :=
  bnd (atI x0.signs x1.var) fun a67 => bnd (atI a67 x1.val) fun a82 => bnd (catI x2 (⟨#[59]⟩ : ByteArray)) fun n94 => bnd (catI a82 n94) fun n96 => bnd (atI a67 x1.val) fun a98 => some (⟨(⟨x0.t.vars, x0.t.init, x0.t.goal, x0.t.ops⟩ : Tsk), x0.list, (x0.signs.set (x1.var : Int).toNat (a67.set (x1.val : Int).toNat n96)), (⟨x0.x.vars, x0.x.vals, x0.x.ops⟩ : Swp), x0.taken, x0.vars, x0.steps, x0.most, x0.full⟩ : Fnd)
theorem c_symmetry_finder_sign {w : World} {O : Lab} {p0 i0 : Nat} {x0 : Fnd} (hx0 : Ob i0 w O (.pointer (some ⟨p0, 0, none⟩)) x0) {vx1 : Value} {x1 : Fct} (hx1 : Vb w (Fr 0 w O) vx1 x1) {x2 : ByteArray} (zx2 : x2.size ≤ 9223372036854775807) {r : Fnd} (hm : m_symmetry_finder_sign x0 x1 x2 = some r) :
    Fn Tryz.prog 37 [(.pointer (some ⟨p0, 0, none⟩)), vx1, (.string x2)] w fun v w' => ∃ O', St (eT i0) w O w' O' ∧ Ob i0 w' O' (.pointer (some ⟨p0, 0, none⟩)) r := by
 obtain ⟨O0, hE, hz0, hl2⟩ := ent1 (w := w) (O := O) hx0.2
 have hx0' := Ob.leave hx0 hz0 hl2 (j := 2) (by decide)
 have hB : Bm w O0 w O0 := Bm.refl
 replace hx1 := hx1.mono hz0
 obtain ⟨cs4, rfl, rfl, r5, r6⟩ := hx1
 refine fn_enter Tryz.func37 rfl Tryz.ntmps37 rfl ?_
 unfold m_symmetry_finder_sign at hm
 refine ewp_seq (ewp_region (l_box 3 O0 rfl rfl fun g7 w8 O9 S10 h11 => ?_))
 replace h11 : Lc 3 w8 O9 g7 26 [(.int .i64 x1.var), (.int .i64 x1.val)] := h11
 refine o_z ?_
 replace hx0' := hx0'.st S10
 obtain ⟨O12, v16, v20, v24, v28, v32, v36, v41, v46, v51, v55, v60, S13, ha15, h14, h17, h21, h25, h29, h33, h37, h42, h47, h52, h56, h61, r65, r66⟩ := Fnd.opn hx0' 2 4 5 6 7 8 (by decide)
 obtain ⟨A18, c19, rfl⟩ := h17.form
 obtain ⟨A22, c23, rfl⟩ := h21.form
 obtain ⟨A26, c27, rfl⟩ := h25.form
 obtain ⟨A30, c31, rfl⟩ := h29.form
 obtain ⟨A34, c35, rfl⟩ := h33.form
 obtain ⟨A38, c39, rfl⟩ := h37.form
 obtain ⟨A43, c44, rfl⟩ := h42.form
 obtain ⟨A48, c49, rfl⟩ := h47.form
 obtain ⟨A53, c54, rfl⟩ := h52.form
 obtain ⟨A57, c58, rfl⟩ := h56.form
 obtain ⟨A62, c63, rfl⟩ := h61.form
 refine ewp_drawX [] O12 ?_
 refine x_pre (fuel := 1) [] [(0, true), (1, true), (2, true), (3, true), (4, true), (5, true), (6, true), (7, true), (8, true), (9, true), (10, true), (11, true), (12, true), (13, true), (14, true), (15, true)] (by kernel_rfl) rfl ?_
 refine h_mv rfl rfl rfl (h_nc rfl rfl rfl (h_fa rfl rfl rfl (h_ldC (hc := fun w' ⟨O', hq⟩ => Blk.cell (i := 5) ((h14.st hq (by decide)).1) rfl) rfl rfl rfl ?_)))
 refine h_fa rfl rfl rfl ?_
 replace h11 := h11.st S13
 refine h_ldC (hc := fun w' ⟨O', hq⟩ => Blk.cell (i := 0) ((h11.st hq (by decide)).1) rfl) rfl rfl rfl ?_
 obtain ⟨a67, e68, hm⟩ := bs hm
 obtain ⟨p70, x69⟩ := atI_some' e68
 obtain ⟨b71, o72, hA74, hl75⟩ := h37.at x69
 refine h_iaE (hA := hA74) (hj := (Int.toNat_of_nonneg p70).symm) (hlt := hl75) rfl rfl rfl rfl ?_
 obtain ⟨A78, c79, hc80, h81⟩ := NR.peek h37 hA74 x69
 replace h81 : Vb w8 (FrS [4] w8 O12) (.slice A78 a67.length c79) a67 := h81
 refine h_ldC (hc := fun w' ⟨O', hq⟩ => NR.stay h37 hA74 hq (by decide) hc80) rfl rfl rfl ?_
 refine h_fa rfl rfl rfl (h_ldC (hc := fun w' ⟨O', hq⟩ => Blk.cell (i := 1) ((h11.st hq (by decide)).1) rfl) rfl rfl rfl ?_)
 obtain ⟨a82, e83, hm⟩ := bs hm
 obtain ⟨p85, x84⟩ := atI_some' e83
 obtain ⟨b86, o87, ce88, hA89, hF92, hl90, hd91, rfl, z93⟩ := h81.elem x84
 refine h_iaE (hA := hA89) (hj := (Int.toNat_of_nonneg p85).symm) (hlt := hl90) rfl rfl rfl rfl ?_
 refine h_ldC (hc := fun w' ⟨O', hq⟩ => cat0 (cellsAt_agree (hq.agreeS (by decide) (by decide)) hF92 hd91)) rfl rfl rfl ?_
 refine h_mv rfl rfl rfl ?_
 obtain ⟨n94, e95, hm⟩ := bs hm
 refine h_cat (he := e95) rfl rfl rfl rfl ?_
 obtain ⟨n96, e97, hm⟩ := bs hm
 refine h_cat (he := e97) rfl rfl rfl rfl ?_
 obtain ⟨a98, e99, hm⟩ := bs hm
 obtain ⟨p101, x100⟩ := atI_some' e99
 obtain ⟨b102, o103, ce104, hA105, hF108, hl106, hd107, rfl, z109⟩ := h81.elem x100
 refine h_iaE (hA := hA105) (hj := (Int.toNat_of_nonneg p101).symm) (hlt := hl106) rfl rfl rfl rfl ?_
 refine hwp_nilT ?_
 refine x_one (i := 16) (by kernel_rfl) rfl ?_
 refine l_setNI (off := 0) (a := a67) (f := a98) (f' := n96) h37 hA74 x69 hc80 hA105 x100 rfl rfl rfl (Nat.le_of_ble_eq_true rfl) (allOne rfl) (by decide) (by rintro w' O' ce ⟨rfl, _⟩; exact ⟨rfl, (catI_sz e97)⟩) fun w110 O111 S112 h113 => ?_
 replace h113 : NR ByteArray 4 w110 O111 80 9 (.slice A38 x0.signs.length c39) (x0.signs.set (x1.var : Int).toNat (a67.set (x1.val : Int).toNat n96)) none := h113
 refine x_end (by kernel_rfl) ?_
 refine x_nil (by kernel_rfl) ?_
 replace h14 := h14.st S112
 replace h17 := h17.st S112
 replace h21 := h21.st S112
 replace h25 := h25.st S112
 replace h29 := h29.st S112
 replace h33 := h33.st S112
 replace h42 := h42.st S112
 replace h47 := h47.st S112
 replace h52 := h52.st S112
 replace h56 := h56.st S112
 replace h61 := h61.st S112
 obtain ⟨O114, S115, hz117, ha118, h116⟩ := Fnd.shut (x := (⟨(⟨x0.t.vars, x0.t.init, x0.t.goal, x0.t.ops⟩ : Tsk), x0.list, (x0.signs.set (x1.var : Int).toNat (a67.set (x1.val : Int).toNat n96)), (⟨x0.x.vars, x0.x.vals, x0.x.ops⟩ : Swp), x0.taken, x0.vars, x0.steps, x0.most, x0.full⟩ : Fnd)) (l0 := 2) (l1 := 4) (l2 := 5) (l3 := 6) (l4 := 7) (l5 := 8) (by decide) (by have q := h14; rw [← ((by simp : (x0.signs.set (x1.var : Int).toNat (a67.set (x1.val : Int).toNat n96)).length = x0.signs.length).trans rfl)] at q; exact q) h17 h21 h25 h29 h33 h113.relen h42 h47 h52 h56 h61 r65 r66
 obtain rfl := sm hm
 replace hB := (((hB.st S10).st S13).st S112).st S115
 obtain ⟨O', hS', hz, hl⟩ := hE.leave (fun q => if q = 2 then i0 else 0) rfl hB
 exact ret0n rfl  ⟨O', hS', (Ob.leave h116 hz (hl 2 (by decide) (by decide)) hx0.2)⟩
noncomputable def m_symmetry_finder_fits (x0 : Fnd) (x1 : Fct) (x2 : Fct) : Option Bool :=
  bnd (bnd (atI x0.taken x2.var) fun a79 => bnd (atI a79 x2.val) fun a94 => if a94 = true then (some true) else (bnd (atI x0.signs x1.var) fun a111 => bnd (atI a111 x1.val) fun a126 => bnd (atI x0.signs x2.var) fun a138 => bnd (atI a138 x2.val) fun a153 => if a126 ≠ a153 then (some true) else (some false)) : Option Bool) fun y20 => if y20 = true then (some false) else (bnd (atI x0.x.vars x1.var) fun a236 => if 0 ≤ a236 then (bnd (if a236 = x2.var then (some true) else (some false) : Option Bool) fun y249 => some y249) else (bnd (bnd (atI x0.vars x2.var) fun a272 => if (!a272) = true then (bnd (atI x0.t.vars x1.var) fun a284 => bnd (atI x0.t.vars x2.var) fun a296 => if a284 = a296 then (some true) else (some false)) else (some false) : Option Bool) fun y268 => some y268))
theorem c_symmetry_finder_fits {w : World} {O : Lab} {p0 i0 : Nat} {x0 : Fnd} (hx0 : Ob i0 w O (.pointer (some ⟨p0, 0, none⟩)) x0) {vx1 : Value} {x1 : Fct} (hx1 : Vb w (Fr 0 w O) vx1 x1) {vx2 : Value} {x2 : Fct} (hx2 : Vb w (Fr 0 w O) vx2 x2) {r : Bool} (hm : m_symmetry_finder_fits x0 x1 x2 = some r) :
    Fn Tryz.prog 40 [(.pointer (some ⟨p0, 0, none⟩)), vx1, vx2] w fun v w' => ∃ O', St (eT i0) w O w' O' ∧ Ob i0 w' O' (.pointer (some ⟨p0, 0, none⟩)) x0 ∧ Vb w' (Fr 0 w' O') v r := by
 obtain ⟨O0, hE, hz0, hl2⟩ := ent1 (w := w) (O := O) hx0.2
 have hx0' := Ob.leave hx0 hz0 hl2 (j := 2) (by decide)
 have hB : Bm w O0 w O0 := Bm.refl
 replace hx1 := hx1.mono hz0
 obtain ⟨cs4, rfl, rfl, r5, r6⟩ := hx1
 replace hx2 := hx2.mono hz0
 obtain ⟨cs7, rfl, rfl, r8, r9⟩ := hx2
 refine fn_enter Tryz.func40 rfl Tryz.ntmps40 rfl ?_
 unfold m_symmetry_finder_fits at hm
 refine ewp_seq (ewp_region (l_box 3 O0 rfl rfl fun g10 w11 O12 S13 h14 => ?_))
 replace h14 : Lc 3 w11 O12 g10 26 [(.int .i64 x1.var), (.int .i64 x1.val)] := h14
 refine l_box 4 O12 rfl rfl fun g15 w16 O17 S18 h19 => ?_
 replace h19 : Lc 4 w16 O17 g15 26 [(.int .i64 x2.var), (.int .i64 x2.val)] := h19
 refine o_as rfl rfl (o_z ?_)
 refine ewp_seq (ewp_seq ?_)
 obtain ⟨y20, hy21, hm⟩ := bs hm
 refine ewp_join (fun l' w' => ∃ (x23 : Unit) (O' : Lab), subs l' [(0, (.pointer (some ⟨p0, 0, none⟩))), (4, (.pointer (some ⟨g10, 0, none⟩))), (5, (.pointer (some ⟨g15, 0, none⟩))), (46, (.bool y20))] ∧ Bm w O0 w' O' ∧ Ob 2 w' O' (.pointer (some ⟨p0, 0, none⟩)) x0 ∧ Lc 3 w' O' g10 26 [(.int .i64 x1.var), (.int .i64 x1.val)] ∧ Lc 4 w' O' g15 26 [(.int .i64 x2.var), (.int .i64 x2.val)]) ?_ ?_
 ·
  refine ewp_draw (· = w16) [(0, true), (1, true), (2, true), (3, true), (4, true), (5, true), (6, true), (7, true), (8, true), (9, true), (10, true), (11, true), (12, true), (13, true), (14, true), (15, true), (16, true), (17, true), (18, true), (19, true), (20, true), (21, true), (22, true), (23, true), (24, true), (25, true), (26, true), (27, true), (28, true), (29, true), (30, true), (31, true), (32, true), (33, true), (34, true), (35, true), (36, true), (37, true), (38, true)] (by kernel_rfl) rfl (by kernel_rfl) rfl ?_
  refine h_mv rfl rfl rfl (h_nc rfl rfl rfl ?_)
  replace hx0' := (hx0'.st S13).st S18
  obtain ⟨O24, v28, v32, v36, v40, v44, v48, v53, v58, v63, v67, v72, S25, ha27, h26, h29, h33, h37, h41, h45, h49, h54, h59, h64, h68, h73, r77, r78⟩ := Fnd.opn hx0' 2 5 6 7 8 9 (by decide)
  obtain ⟨A30, c31, rfl⟩ := h29.form
  obtain ⟨A34, c35, rfl⟩ := h33.form
  obtain ⟨A38, c39, rfl⟩ := h37.form
  obtain ⟨A42, c43, rfl⟩ := h41.form
  obtain ⟨A46, c47, rfl⟩ := h45.form
  obtain ⟨A50, c51, rfl⟩ := h49.form
  obtain ⟨A55, c56, rfl⟩ := h54.form
  obtain ⟨A60, c61, rfl⟩ := h59.form
  obtain ⟨A65, c66, rfl⟩ := h64.form
  obtain ⟨A69, c70, rfl⟩ := h68.form
  obtain ⟨A74, c75, rfl⟩ := h73.form
  refine h_fa rfl rfl rfl (h_ldA (hc := Blk.cell (i := 9) (h26.1) rfl) rfl rfl rfl ?_)
  refine h_fa rfl rfl rfl ?_
  replace h19 := h19.st S25
  refine h_ldA (hc := Blk.cell (i := 0) (h19.1) rfl) rfl rfl rfl ?_
  obtain ⟨a79, e80, hy21⟩ := bs hy21
  obtain ⟨p82, x81⟩ := atI_some' e80
  obtain ⟨b83, o84, hA86, hl87⟩ := h68.at x81
  refine h_iaE (hA := hA86) (hj := (Int.toNat_of_nonneg p82).symm) (hlt := hl87) rfl rfl rfl rfl ?_
  obtain ⟨A90, c91, hc92, h93⟩ := NR.peek h68 hA86 x81
  replace h93 : Vb w16 (FrS [8] w16 O24) (.slice A90 a79.length c91) a79 := h93
  refine h_ldA (hc := hc92) rfl rfl rfl ?_
  refine h_fa rfl rfl rfl (h_ldA (hc := Blk.cell (i := 1) (h19.1) rfl) rfl rfl rfl ?_)
  obtain ⟨a94, e95, hy21⟩ := bs hy21
  obtain ⟨p97, x96⟩ := atI_some' e95
  obtain ⟨b98, o99, ce100, hA101, hl102, hd103, rfl⟩ := h93.elem' x96
  refine h_iaE (hA := hA101) (hj := (Int.toNat_of_nonneg p97).symm) (hlt := hl102) rfl rfl rfl rfl ?_
  refine h_ldA (hc := cat0 hd103) rfl rfl rfl ?_
  refine h_mv rfl rfl rfl ?_
  rcases Bool.eq_false_or_eq_true a94 with c105 | c105
  ·
   try rw [c105]
   replace hy21 := ip hy21 c105
   refine h_no rfl rfl rfl rfl rfl (h_no rfl rfl rfl rfl rfl (h_no rfl rfl rfl rfl rfl (h_no rfl rfl rfl rfl rfl (h_no rfl rfl rfl rfl rfl (h_no rfl rfl rfl rfl rfl (h_no rfl rfl rfl rfl rfl (h_no rfl rfl rfl rfl rfl (h_no rfl rfl rfl rfl rfl (h_no rfl rfl rfl rfl rfl (h_no rfl rfl rfl rfl rfl (h_no rfl rfl rfl rfl rfl (h_no rfl rfl rfl rfl rfl (h_no rfl rfl rfl rfl rfl (h_no rfl rfl rfl rfl rfl ?_))))))))))))))
   refine h_no rfl rfl rfl rfl rfl (h_no rfl rfl rfl rfl rfl (h_no rfl rfl rfl rfl rfl (h_no rfl rfl rfl rfl rfl (h_no rfl rfl rfl rfl rfl (h_no rfl rfl rfl rfl rfl (h_no rfl rfl rfl rfl rfl (h_no rfl rfl rfl rfl rfl (h_no rfl rfl rfl rfl rfl (h_no rfl rfl rfl rfl rfl (h_pt rfl rfl rfl rfl (h_z ?_)))))))))))
   obtain ⟨O106, S107, hz109, ha110, h108⟩ := Fnd.shut (x := x0) (l0 := 2) (l1 := 5) (l2 := 6) (l3 := 7) (l4 := 8) (l5 := 9) (by decide) h26 h29 h33 h37 h41 h45 h49 h54 h59 h64 h68 h73 r77 r78
   obtain rfl := sm hy21
   replace hB := (((hB.st S13).st S18).st S25).st S107
   replace h14 := ((h14.st S18).st S25).st S107
   replace h19 := h19.st S107
   exact ⟨(), _, ⟨rfl, rfl, rfl, rfl, trivial⟩, hB, h108, h14, h19⟩
  try rw [c105]
  replace hy21 := im' hy21 c105
  refine hwp_o rfl (hwq_yes rfl rfl (g_mv rfl rfl (hwp_o rfl (hwq_yes rfl rfl (g_nc rfl rfl (hwp_o rfl (hwq_yes rfl rfl (g_fa rfl rfl (hwp_o rfl (hwq_yes rfl rfl (g_ldA (hc := Blk.cell (i := 5) (h26.1) rfl) rfl rfl ?_)))))))))))
  refine hwp_o rfl (hwq_yes rfl rfl (g_fa rfl rfl (hwp_o rfl (hwq_yes rfl rfl ?_))))
  replace h14 := (h14.st S18).st S25
  refine g_ldA (hc := Blk.cell (i := 0) (h14.1) rfl) rfl rfl ?_
  refine hwp_o rfl (hwq_yes rfl rfl ?_)
  obtain ⟨a111, e112, hy21⟩ := bs hy21
  obtain ⟨p114, x113⟩ := atI_some' e112
  obtain ⟨b115, o116, hA118, hl119⟩ := h49.at x113
  refine g_iaE (hA := hA118) (hj := (Int.toNat_of_nonneg p114).symm) (hlt := hl119) rfl rfl rfl ?_
  refine hwp_o rfl (hwq_yes rfl rfl ?_)
  obtain ⟨A122, c123, hc124, h125⟩ := NR.peek h49 hA118 x113
  replace h125 : Vb w16 (FrS [5] w16 O24) (.slice A122 a111.length c123) a111 := h125
  refine g_ldA (hc := hc124) rfl rfl ?_
  refine hwp_o rfl (hwq_yes rfl rfl (g_fa rfl rfl (hwp_o rfl (hwq_yes rfl rfl (g_ldA (hc := Blk.cell (i := 1) (h14.1) rfl) rfl rfl ?_)))))
  refine hwp_o rfl (hwq_yes rfl rfl ?_)
  obtain ⟨a126, e127, hy21⟩ := bs hy21
  obtain ⟨p129, x128⟩ := atI_some' e127
  obtain ⟨b130, o131, ce132, hA133, hl134, hd135, rfl, z137⟩ := h125.elem' x128
  refine g_iaE (hA := hA133) (hj := (Int.toNat_of_nonneg p129).symm) (hlt := hl134) rfl rfl rfl ?_
  refine hwp_o rfl (hwq_yes rfl rfl (g_ldA (hc := cat0 hd135) rfl rfl ?_))
  refine hwp_o rfl (hwq_yes rfl rfl (g_mv rfl rfl (hwp_o rfl (hwq_yes rfl rfl (g_nc rfl rfl (hwp_o rfl (hwq_yes rfl rfl (g_fa rfl rfl (hwp_o rfl (hwq_yes rfl rfl (g_ldA (hc := Blk.cell (i := 5) (h26.1) rfl) rfl rfl ?_)))))))))))
  refine hwp_o rfl (hwq_yes rfl rfl (g_fa rfl rfl (hwp_o rfl (hwq_yes rfl rfl (g_ldA (hc := Blk.cell (i := 0) (h19.1) rfl) rfl rfl ?_)))))
  refine hwp_o rfl (hwq_yes rfl rfl ?_)
  obtain ⟨a138, e139, hy21⟩ := bs hy21
  obtain ⟨p141, x140⟩ := atI_some' e139
  obtain ⟨b142, o143, hA145, hl146⟩ := h49.at x140
  refine g_iaE (hA := hA145) (hj := (Int.toNat_of_nonneg p141).symm) (hlt := hl146) rfl rfl rfl ?_
  refine hwp_o rfl (hwq_yes rfl rfl ?_)
  obtain ⟨A149, c150, hc151, h152⟩ := NR.peek h49 hA145 x140
  replace h152 : Vb w16 (FrS [5] w16 O24) (.slice A149 a138.length c150) a138 := h152
  refine g_ldA (hc := hc151) rfl rfl ?_
  refine hwp_o rfl (hwq_yes rfl rfl (g_fa rfl rfl (hwp_o rfl (hwq_yes rfl rfl (g_ldA (hc := Blk.cell (i := 1) (h19.1) rfl) rfl rfl ?_)))))
  refine hwp_o rfl (hwq_yes rfl rfl ?_)
  obtain ⟨a153, e154, hy21⟩ := bs hy21
  obtain ⟨p156, x155⟩ := atI_some' e154
  obtain ⟨b157, o158, ce159, hA160, hl161, hd162, rfl, z164⟩ := h152.elem' x155
  refine g_iaE (hA := hA160) (hj := (Int.toNat_of_nonneg p156).symm) (hlt := hl161) rfl rfl rfl ?_
  refine hwp_o rfl (hwq_yes rfl rfl (g_ldA (hc := cat0 hd162) rfl rfl ?_))
  refine hwp_o rfl (hwq_yes rfl rfl (hwq_split (fun _ _ => ev_tn rfl rfl) rfl (fun c165 => ?_) (fun c165 => ?_)))
  ·
   replace hy21 := ip hy21 c165
   refine h_pf rfl rfl rfl rfl (h_z ?_)
   obtain ⟨O166, S167, hz169, ha170, h168⟩ := Fnd.shut (x := x0) (l0 := 2) (l1 := 5) (l2 := 6) (l3 := 7) (l4 := 8) (l5 := 9) (by decide) h26 h29 h33 h37 h41 h45 h49 h54 h59 h64 h68 h73 r77 r78
   obtain rfl := sm hy21
   replace hB := (((hB.st S13).st S18).st S25).st S167
   replace h14 := h14.st S167
   replace h19 := h19.st S167
   exact ⟨(), _, ⟨rfl, rfl, rfl, rfl, trivial⟩, hB, h168, h14, h19⟩
  replace hy21 := im hy21 c165
  refine h_pf rfl rfl rfl rfl (h_z ?_)
  obtain ⟨O171, S172, hz174, ha175, h173⟩ := Fnd.shut (x := x0) (l0 := 2) (l1 := 5) (l2 := 6) (l3 := 7) (l4 := 8) (l5 := 9) (by decide) h26 h29 h33 h37 h41 h45 h49 h54 h59 h64 h68 h73 r77 r78
  obtain rfl := sm hy21
  replace hB := (((hB.st S13).st S18).st S25).st S172
  replace h14 := h14.st S172
  replace h19 := h19.st S172
  exact ⟨(), _, ⟨rfl, rfl, rfl, rfl, trivial⟩, hB, h173, h14, h19⟩
 replace hB := (hB.st S13).st S18
 replace h14 := h14.st S18
 rintro l176 w177 ⟨x23, O178, hs179, hB, h104, h14, h19⟩
 refine ewp_sub _ hs179 ?_
 refine ewp_cond rfl (fun c180 => ?_) (fun c180 => ?_)
 ·
  replace hm := ip hm c180
  refine ewp_seq (ewp_region (o_as rfl rfl (o_z ?_)))
  refine ewp_ret ?_
  obtain rfl := sm hm
  obtain ⟨O', hS', hz, hl⟩ := hE.leave (fun q => if q = 2 then i0 else 0) rfl hB
  exact ret1v rfl (res_tmp rfl) ⟨O', hS', (Ob.leave h104 hz (hl 2 (by decide) (by decide)) hx0.2), vBool⟩
 replace hm := im' hm c180
 refine ewp_skip (ewp_seq (ewp_seq (ewp_draw (· = w177) [(0, true), (1, true), (2, true), (3, true), (4, true), (5, true), (6, true), (7, true), (8, true), (9, true)] (by kernel_rfl) rfl (by kernel_rfl) rfl ?_)))
 refine h_mv rfl rfl rfl (h_nc rfl rfl rfl ?_)
 obtain ⟨O181, v185, v189, v193, v197, v201, v205, v210, v215, v220, v224, v229, S182, ha184, h183, h186, h190, h194, h198, h202, h206, h211, h216, h221, h225, h230, r234, r235⟩ := Fnd.opn h104 2 5 6 7 8 9 (by decide)
 obtain ⟨A187, c188, rfl⟩ := h186.form
 obtain ⟨A191, c192, rfl⟩ := h190.form
 obtain ⟨A195, c196, rfl⟩ := h194.form
 obtain ⟨A199, c200, rfl⟩ := h198.form
 obtain ⟨A203, c204, rfl⟩ := h202.form
 obtain ⟨A207, c208, rfl⟩ := h206.form
 obtain ⟨A212, c213, rfl⟩ := h211.form
 obtain ⟨A217, c218, rfl⟩ := h216.form
 obtain ⟨A222, c223, rfl⟩ := h221.form
 obtain ⟨A226, c227, rfl⟩ := h225.form
 obtain ⟨A231, c232, rfl⟩ := h230.form
 refine h_fa rfl rfl rfl (h_fa rfl rfl rfl (h_ldA (hc := Blk.cell (i := 6) (h183.1) rfl) rfl rfl rfl ?_))
 refine h_fa rfl rfl rfl ?_
 replace h14 := h14.st S182
 refine h_ldA (hc := Blk.cell (i := 0) (h14.1) rfl) rfl rfl rfl ?_
 obtain ⟨a236, e237, hm⟩ := bs hm
 obtain ⟨p239, x238⟩ := atI_some' e237
 obtain ⟨b240, o241, ce242, hA243, hl244, hd245, rfl, r247⟩ := h211.elem x238
 refine h_iaE (hA := hA243) (hj := (Int.toNat_of_nonneg p239).symm) (hlt := hl244) rfl rfl rfl rfl ?_
 refine h_ldA (hc := cat0 hd245) rfl rfl rfl ?_
 refine h_as rfl rfl rfl (h_z ?_)
 refine ewp_seq (ewp_region (o_mv rfl rfl (o_geS rfl rfl rfl (fun c248 => ?_) fun c248 => ?_)))
 ·
  replace hm := ip hm c248
  refine o_z ?_
  refine ewp_true rfl (ewp_seq ?_)
  obtain ⟨y249, hy250, hm⟩ := bs hm
  refine ewp_join (fun l' w' => ∃ (x252 : Unit) (O' : Lab), subs l' [(6, (.bool y249))] ∧ Bm w O0 w' O' ∧ Ob 2 w' O' (.pointer (some ⟨p0, 0, none⟩)) x0) ?_ ?_
  ·
   refine ewp_region (o_mv rfl rfl (o_fa rfl rfl ?_))
   replace h19 := h19.st S182
   refine o_ld (hc := Blk.cell (i := 0) (h19.1) rfl) rfl rfl ?_
   refine o_eeS rfl rfl rfl (fun c253 => ?_) fun c253 => ?_
   ·
    replace hy250 := ip hy250 c253
    refine o_as rfl rfl (o_z ?_)
    obtain ⟨O254, S255, hz257, ha258, h256⟩ := Fnd.shut (x := x0) (l0 := 2) (l1 := 5) (l2 := 6) (l3 := 7) (l4 := 8) (l5 := 9) (by decide) h183 h186 h190 h194 h198 h202 h206 h211 h216 h221 h225 h230 r234 r235
    obtain rfl := sm hy250
    replace hB := (hB.st S182).st S255
    exact ⟨(), _, ⟨rfl, trivial⟩, hB, h256⟩
   replace hy250 := im hy250 c253
   refine o_as rfl rfl (o_z ?_)
   obtain ⟨O259, S260, hz262, ha263, h261⟩ := Fnd.shut (x := x0) (l0 := 2) (l1 := 5) (l2 := 6) (l3 := 7) (l4 := 8) (l5 := 9) (by decide) h183 h186 h190 h194 h198 h202 h206 h211 h216 h221 h225 h230 r234 r235
   obtain rfl := sm hy250
   replace hB := (hB.st S182).st S260
   exact ⟨(), _, ⟨rfl, trivial⟩, hB, h261⟩
  replace hB := hB.st S182
  rintro l264 w265 ⟨x252, O266, hs267, hB, h252⟩
  refine ewp_sub _ hs267 ?_
  refine ewp_ret ?_
  obtain rfl := sm hm
  obtain ⟨O', hS', hz, hl⟩ := hE.leave (fun q => if q = 2 then i0 else 0) rfl hB
  exact ret1v rfl (res_tmp rfl) ⟨O', hS', (Ob.leave h252 hz (hl 2 (by decide) (by decide)) hx0.2), vBool⟩
 replace hm := im hm c248
 refine o_z ?_
 refine ewp_false rfl (ewp_skip (ewp_seq ?_))
 obtain ⟨y268, hy269, hm⟩ := bs hm
 refine ewp_join (fun l' w' => ∃ (x271 : Unit) (O' : Lab), subs l' [(6, (.bool y268))] ∧ Bm w O0 w' O' ∧ Ob 2 w' O' (.pointer (some ⟨p0, 0, none⟩)) x0) ?_ ?_
 ·
  refine ewp_draw (· = w177) [(0, true), (1, true), (2, true), (3, true), (4, true), (5, true), (6, true), (7, true), (8, true), (9, true), (10, true), (11, true), (12, true), (13, true), (14, true), (15, true), (16, true), (17, true), (18, true), (19, true), (20, true), (21, true), (22, true), (23, true), (24, true), (25, true), (26, true), (27, true), (28, true), (29, true), (30, true)] (by kernel_rfl) rfl (by kernel_rfl) rfl ?_
  refine h_mv rfl rfl rfl (h_nc rfl rfl rfl (h_fa rfl rfl rfl (h_ldA (hc := Blk.cell (i := 10) (h183.1) rfl) rfl rfl rfl ?_)))
  refine h_fa rfl rfl rfl ?_
  replace h19 := h19.st S182
  refine h_ldA (hc := Blk.cell (i := 0) (h19.1) rfl) rfl rfl rfl ?_
  obtain ⟨a272, e273, hy269⟩ := bs hy269
  obtain ⟨p275, x274⟩ := atI_some' e273
  obtain ⟨b276, o277, ce278, hA279, hl280, hd281, rfl⟩ := h230.elem x274
  refine h_iaE (hA := hA279) (hj := (Int.toNat_of_nonneg p275).symm) (hlt := hl280) rfl rfl rfl rfl ?_
  refine h_ldA (hc := cat0 hd281) rfl rfl rfl ?_
  refine h_nn rfl rfl rfl (h_mv rfl rfl rfl ?_)
  rcases Bool.eq_false_or_eq_true (!a272) with c283 | c283
  ·
   try rw [c283]
   replace hy269 := ip hy269 c283
   refine hwp_o rfl (hwq_yes rfl rfl (g_mv rfl rfl (hwp_o rfl (hwq_yes rfl rfl (g_nc rfl rfl (hwp_o rfl (hwq_yes rfl rfl (g_fa rfl rfl (hwp_o rfl (hwq_yes rfl rfl (g_fa rfl rfl (hwp_o rfl (hwq_yes rfl rfl (g_ldA (hc := Blk.cell (i := 0) (h183.1) rfl) rfl rfl ?_))))))))))))))
   refine hwp_o rfl (hwq_yes rfl rfl (g_fa rfl rfl (hwp_o rfl (hwq_yes rfl rfl (g_ldA (hc := Blk.cell (i := 0) (h14.1) rfl) rfl rfl ?_)))))
   refine hwp_o rfl (hwq_yes rfl rfl ?_)
   obtain ⟨a284, e285, hy269⟩ := bs hy269
   obtain ⟨p287, x286⟩ := atI_some' e285
   obtain ⟨b288, o289, ce290, hA291, hl292, hd293, rfl, r295⟩ := h186.elem' x286
   refine g_iaE (hA := hA291) (hj := (Int.toNat_of_nonneg p287).symm) (hlt := hl292) rfl rfl rfl ?_
   refine hwp_o rfl (hwq_yes rfl rfl (g_ldA (hc := cat0 hd293) rfl rfl ?_))
   refine hwp_o rfl (hwq_yes rfl rfl (g_mv rfl rfl (hwp_o rfl (hwq_yes rfl rfl (g_nc rfl rfl (hwp_o rfl (hwq_yes rfl rfl (g_fa rfl rfl (hwp_o rfl (hwq_yes rfl rfl (g_fa rfl rfl (hwp_o rfl (hwq_yes rfl rfl (g_ldA (hc := Blk.cell (i := 0) (h183.1) rfl) rfl rfl ?_))))))))))))))
   refine hwp_o rfl (hwq_yes rfl rfl (g_fa rfl rfl (hwp_o rfl (hwq_yes rfl rfl (g_ldA (hc := Blk.cell (i := 0) (h19.1) rfl) rfl rfl ?_)))))
   refine hwp_o rfl (hwq_yes rfl rfl ?_)
   obtain ⟨a296, e297, hy269⟩ := bs hy269
   obtain ⟨p299, x298⟩ := atI_some' e297
   obtain ⟨b300, o301, ce302, hA303, hl304, hd305, rfl, r307⟩ := h186.elem' x298
   refine g_iaE (hA := hA303) (hj := (Int.toNat_of_nonneg p299).symm) (hlt := hl304) rfl rfl rfl ?_
   refine hwp_o rfl (hwq_yes rfl rfl (g_ldA (hc := cat0 hd305) rfl rfl ?_))
   refine hwp_o rfl (hwq_yes rfl rfl (hwq_split (fun _ _ => ev_eql rfl rfl) rfl (fun c308 => ?_) (fun c308 => ?_)))
   ·
    replace hy269 := ip hy269 c308
    refine h_pt rfl rfl rfl rfl (h_as rfl rfl rfl (h_z ?_))
    obtain ⟨O309, S310, hz312, ha313, h311⟩ := Fnd.shut (x := x0) (l0 := 2) (l1 := 5) (l2 := 6) (l3 := 7) (l4 := 8) (l5 := 9) (by decide) h183 h186 h190 h194 h198 h202 h206 h211 h216 h221 h225 h230 r234 r235
    obtain rfl := sm hy269
    replace hB := (hB.st S182).st S310
    exact ⟨(), _, ⟨rfl, trivial⟩, hB, h311⟩
   replace hy269 := im hy269 c308
   refine h_pt rfl rfl rfl rfl (h_as rfl rfl rfl (h_z ?_))
   obtain ⟨O314, S315, hz317, ha318, h316⟩ := Fnd.shut (x := x0) (l0 := 2) (l1 := 5) (l2 := 6) (l3 := 7) (l4 := 8) (l5 := 9) (by decide) h183 h186 h190 h194 h198 h202 h206 h211 h216 h221 h225 h230 r234 r235
   obtain rfl := sm hy269
   replace hB := (hB.st S182).st S315
   exact ⟨(), _, ⟨rfl, trivial⟩, hB, h316⟩
  try rw [c283]
  replace hy269 := im' hy269 c283
  refine h_no rfl rfl rfl rfl rfl (h_no rfl rfl rfl rfl rfl (h_no rfl rfl rfl rfl rfl (h_no rfl rfl rfl rfl rfl (h_no rfl rfl rfl rfl rfl (h_no rfl rfl rfl rfl rfl (h_no rfl rfl rfl rfl rfl (h_no rfl rfl rfl rfl rfl (h_no rfl rfl rfl rfl rfl (h_no rfl rfl rfl rfl rfl (h_no rfl rfl rfl rfl rfl (h_no rfl rfl rfl rfl rfl (h_no rfl rfl rfl rfl rfl (h_no rfl rfl rfl rfl rfl (h_no rfl rfl rfl rfl rfl ?_))))))))))))))
  refine h_no rfl rfl rfl rfl rfl (h_no rfl rfl rfl rfl rfl (h_no rfl rfl rfl rfl rfl (h_no rfl rfl rfl rfl rfl (h_pf rfl rfl rfl rfl (h_as rfl rfl rfl (h_z ?_))))))
  obtain ⟨O319, S320, hz322, ha323, h321⟩ := Fnd.shut (x := x0) (l0 := 2) (l1 := 5) (l2 := 6) (l3 := 7) (l4 := 8) (l5 := 9) (by decide) h183 h186 h190 h194 h198 h202 h206 h211 h216 h221 h225 h230 r234 r235
  obtain rfl := sm hy269
  replace hB := (hB.st S182).st S320
  exact ⟨(), _, ⟨rfl, trivial⟩, hB, h321⟩
 replace hB := hB.st S182
 rintro l324 w325 ⟨x271, O326, hs327, hB, h307⟩
 refine ewp_sub _ hs327 ?_
 refine ewp_ret ?_
 obtain rfl := sm hm
 obtain ⟨O', hS', hz, hl⟩ := hE.leave (fun q => if q = 2 then i0 else 0) rfl hB
 exact ret1v rfl (res_tmp rfl) ⟨O', hS', (Ob.leave h307 hz (hl 2 (by decide) (by decide)) hx0.2), vBool⟩
end
section
open Go.Shelf
def Tryz.laysS_f71_ren : Go.Shelf.Ren := ⟨fun | 6 => 71 | 15 => 83 | 14 => 87 | 28 => 100 | 29 => 101 | 20 => 103 | 21 => 104 | 22 => 105 | 23 => 106 | 24 => 107 | 25 => 108 | 26 => 109 | 27 => 110 | 46 => 122 | 47 => 117 | 48 => 118 | 49 => 123 | 50 => 124 | 57 => 131 | n => n, fun | 22 => 27 | 24 => 26 | 25 => 117 | 3 => 3 | 39 => 100 | 0 => 0 | 53 => 122 | 55 => 125 | 4 => 4 | 46 => 142 | 45 => 141 | 50 => 147 | 5 => 5 | 9 => 9 | 66 => 162 | 70 => 166 | 76 => 174 | 77 => 175 | n => n, fun | n => n⟩
theorem Tryz.laysS_f71 : Go.Proofs.SlLaysF0.n6 Tryz.prog Tryz.laysS_f71_ren := {
  mixed := by kernel_rfl
  f6 := ⟨Tryz.f71.name, by decide, Tryz.func71.trans (congrArg some (by kernel_rfl))⟩
  f14 := ⟨Tryz.f87.name, by decide, Tryz.func87.trans (congrArg some (by kernel_rfl))⟩
  f15 := Tryz.func83.trans (congrArg some (by kernel_rfl))
  f20 := ⟨Tryz.f103.name, by decide, Tryz.func103.trans (congrArg some (by kernel_rfl))⟩
  f21 := ⟨Tryz.f104.name, by decide, Tryz.func104.trans (congrArg some (by kernel_rfl))⟩
  f22 := ⟨Tryz.f105.name, by decide, Tryz.func105.trans (congrArg some (by kernel_rfl))⟩
  f23 := ⟨Tryz.f106.name, by decide, Tryz.func106.trans (congrArg some (by kernel_rfl))⟩
  f24 := ⟨Tryz.f107.name, by decide, Tryz.func107.trans (congrArg some (by kernel_rfl))⟩
  f25 := ⟨Tryz.f108.name, by decide, Tryz.func108.trans (congrArg some (by kernel_rfl))⟩
  f26 := ⟨Tryz.f109.name, by decide, Tryz.func109.trans (congrArg some (by kernel_rfl))⟩
  f27 := ⟨Tryz.f110.name, by decide, Tryz.func110.trans (congrArg some (by kernel_rfl))⟩
  f28 := Tryz.func100.trans (congrArg some (by kernel_rfl))
  f29 := Tryz.func101.trans (congrArg some (by kernel_rfl))
  f46 := ⟨Tryz.f122.name, by decide, Tryz.func122.trans (congrArg some (by kernel_rfl))⟩
  f47 := Tryz.func117.trans (congrArg some (by kernel_rfl))
  f48 := Tryz.func118.trans (congrArg some (by kernel_rfl))
  f49 := ⟨Tryz.f123.name, by decide, Tryz.func123.trans (congrArg some (by kernel_rfl))⟩
  f50 := ⟨Tryz.f124.name, by decide, Tryz.func124.trans (congrArg some (by kernel_rfl))⟩
  f57 := ⟨Tryz.f131.name, by decide, Tryz.func131.trans (congrArg some (by kernel_rfl))⟩
  t0 := Tryz.underlying0
  a0 := Tryz.isAgg0
  z0 := Tryz.sizeOf0
  v0 := Tryz.zeroValue0
  t3 := Tryz.underlying3
  a3 := Tryz.isAgg3
  z3 := Tryz.sizeOf3
  v3 := Tryz.zeroValue3
  t4 := Tryz.underlying4
  a4 := Tryz.isAgg4
  z4 := Tryz.sizeOf4
  v4 := Tryz.zeroValue4
  t5 := Tryz.underlying5
  a5 := Tryz.isAgg5
  z5 := Tryz.sizeOf5
  v5 := Tryz.zeroValue5
  t9 := Tryz.underlying9
  a9 := Tryz.isAgg9
  z9 := Tryz.sizeOf9
  v9 := Tryz.zeroValue9
  t22 := Tryz.underlying27
  a22 := Tryz.isAgg27
  z22 := Tryz.sizeOf27
  v22 := Tryz.zeroValue27
  t25 := Tryz.underlying117
  a25 := Tryz.isAgg117
  z25 := Tryz.sizeOf117
  v25 := Tryz.zeroValue117
  t39 := Tryz.underlying100
  a39 := Tryz.isAgg100
  z39 := Tryz.sizeOf100
  v39 := Tryz.zeroValue100
  t45 := Tryz.underlying141
  a45 := Tryz.isAgg141
  z45 := Tryz.sizeOf141
  v45 := Tryz.zeroValue141
  t46 := Tryz.underlying142
  a46 := Tryz.isAgg142
  z46 := Tryz.sizeOf142
  v46 := Tryz.zeroValue142
  t50 := Tryz.underlying147
  a50 := Tryz.isAgg147
  z50 := Tryz.sizeOf147
  v50 := Tryz.zeroValue147
  t53 := Tryz.underlying122
  a53 := Tryz.isAgg122
  z53 := Tryz.sizeOf122
  v53 := Tryz.zeroValue122
  t55 := Tryz.underlying125
  a55 := Tryz.isAgg125
  z55 := Tryz.sizeOf125
  v55 := Tryz.zeroValue125
  t66 := Tryz.underlying162
  a66 := Tryz.isAgg162
  z66 := Tryz.sizeOf162
  v66 := Tryz.zeroValue162
  t70 := Tryz.underlying166
  a70 := Tryz.isAgg166
  z70 := Tryz.sizeOf166
  v70 := Tryz.zeroValue166
  t76 := Tryz.underlying174
  a76 := Tryz.isAgg174
  z76 := Tryz.sizeOf174
  v76 := Tryz.zeroValue174
  t77 := Tryz.underlying175
  a77 := Tryz.isAgg175
  z77 := Tryz.sizeOf175
  v77 := Tryz.zeroValue175 }
open Go.RowKit Go.Lib Go.Sort in
theorem Tryz.sortF_eq {α : Type} [Inhabited α] (k : Nat) (aE : ∀ w, (isAgg 26).run Tryz.prog w = .ok true w) (zE : ∀ w, (Go.sizeOf 26).run Tryz.prog w = .ok k w) (enc : α → List Value) (hk : ∀ x, (enc x).length = k) (h1 : ∀ x, ∀ v ∈ enc x, v.oneCell' = true) (cf : α → α → Int) (hO : SWO (ltOf cf)) (g : Nat) (cb : Array Value) (blk off cap : Nat) (d : Array α) (w : World) (eg : ∀ args w, (callFunc g args).run Tryz.prog w = .ok (.enter g args) w) (hcmp : CmpLays Tryz.prog g cb enc k cf blk off d.size w) (hH : HoldsK enc k w blk off d) (hblk : blk < w.heap.size) (hsz : d.size < 4611686018427387904) :
    Calls Tryz.prog 71 #[.slice (some ⟨blk, off, none⟩) d.size cap, .func (.func g) #[] cb] w fun e w' =>
      e = .returned (.tuple #[]) ∧ ∃ n os, w' = sortWorldK enc k w blk off n (pdq (ltOf cf) d 0 d.size (Lib.bitLen d.size) true true) os := AnyQ.slices_SortFunc_eq Tryz.laysS_f71 k aE zE enc hk h1 cf hO g cb blk off cap d w eg hcmp hH hblk hsz
open Go.RowKit Go.Lib Go.Sort in
theorem Tryz.sortF_none {α : Type} [Inhabited α] (p : Option Addr) (cap : Nat) (fv : Value) (w : World) :
    Calls Tryz.prog 71 #[.slice p 0 cap, fv] w fun e w' => e = .returned (.tuple #[]) ∧ w' = w := AnyF.slices_SortFunc_none Tryz.laysS_f71 p cap fv w
end
section
open Go Go.RowKit Go.Lib Go.Sort
instance : Inhabited Fct := ⟨⟨0, 0⟩⟩
def encF (x : Fct) : List Value := [.int .i64 x.var, .int .i64 x.val]
def cfF (x y : Fct) : Int := Lib.compareInt x.var y.var
theorem ltF (x y : Fct) : ltOf cfF x y = decide (x.var < y.var) := by
  unfold ltOf cfF Lib.compareInt
  by_cases h : x.var < y.var
  · simp [h]
  · by_cases h2 : y.var < x.var <;> simp [h, h2]
theorem swoF : SWO (ltOf cfF) where
  irrefl x := by rw [ltF]; simp
  trans x y z h1 h2 := by rw [ltF] at *; simp at *; omega
  ntrans x y z h1 h2 := by rw [ltF] at *; simp at *; omega
theorem compareI (a b : Int) (W : World) : Calls Tryz.prog 64 #[.int .i64 a, .int .i64 b] W fun e w' => e = .returned (.int .i64 (Lib.compareInt a b)) ∧ w' = W := by
  go_enter Tryz.func64, Tryz.ntmps64
  go_wp2
  · go_ret
    have h : a < b := by assumption
    exact ⟨by simp [Lib.compareInt, h], rfl⟩
  · go_ret
    have h : b < a := by assumption
    have h2 : ¬ a < b := by omega
    exact ⟨by simp [Lib.compareInt, h, h2], rfl⟩
  · go_ret
    have h1 : b ≤ a := by assumption
    have h2 : a ≤ b := by assumption
    have h3 : ¬ a < b := by omega
    have h4 : ¬ b < a := by omega
    exact ⟨by simp [Lib.compareInt, h3, h4], rfl⟩
theorem closureF (x y : Fct) (W : World) : Calls Tryz.prog 72 #[.agg #[.int .i64 x.var, .int .i64 x.val], .agg #[.int .i64 y.var, .int .i64 y.val]] W fun e w' => e = .returned (.int .i64 (cfF x y)) ∧ ∃ q os', w' = grow (W.drewN q) os' := by
  have hcon := fun W' => compareI x.var y.var W'
  unfold cfF
  generalize Lib.compareInt x.var y.var = r at hcon ⊢
  go_enter Tryz.func72, Tryz.ntmps72
  go_wp2_with (go_at_call 64; refine (hcon _).mono ?_; rintro e w' ⟨rfl, rfl⟩)
  go_ret
  exact ⟨rfl, 0, _, by rw [alloc_eq_grow, alloc_eq_grow, grow_grow]; rfl⟩
theorem cmpLaysF (blk off size : Nat) (w : World) : CmpLays Tryz.prog 72 #[] encF 2 cfF blk off size w := fun _ _ _ _ x y => closureF x y _
/-- Facts, sorted by the variable, as the library does it. -/
def srt_symmetry_mapped_l1 (xs : List Fct) : List Fct := (pdq (ltOf cfF) xs.toArray 0 xs.length (Lib.bitLen xs.length) true true).toList
theorem srtF_in (xs : List Fct) : PermIn 0 xs.toArray.size xs.toArray (srt_symmetry_mapped_l1 xs).toArray ∧ SortedIn (ltOf cfF) 0 xs.toArray.size (srt_symmetry_mapped_l1 xs).toArray := by
  have := pdq_sorts (ltOf cfF) swoF xs.toArray 0 xs.toArray.size (Lib.bitLen xs.length) true true (Nat.zero_le _) (Nat.le_refl _) (Or.inl rfl)
  simpa [srt_symmetry_mapped_l1] using this
theorem srtF_perm (xs : List Fct) : (srt_symmetry_mapped_l1 xs).Perm xs := by
  obtain ⟨⟨hsz, _, hperm⟩, _⟩ := srtF_in xs
  have e1 : (srt_symmetry_mapped_l1 xs).toArray.extract 0 xs.toArray.size = (srt_symmetry_mapped_l1 xs).toArray := by rw [← hsz]; exact Array.extract_size
  rw [e1, Array.extract_size] at hperm
  simpa using hperm
theorem srt_symmetry_mapped_l1_len (xs : List Fct) : (srt_symmetry_mapped_l1 xs).length = xs.length := (srtF_perm xs).length_eq
theorem srtF_sorted (xs : List Fct) : (srt_symmetry_mapped_l1 xs).Pairwise fun x y => x.var ≤ y.var := by
  obtain ⟨_, hs⟩ := srtF_in xs
  have hl := srt_symmetry_mapped_l1_len xs
  rw [List.pairwise_iff_getElem]
  intro i j hi hj hij
  have := hs i j (Nat.zero_le _) hij (by simp; omega)
  rw [getElem!_pos _ j (by simpa using hj), getElem!_pos _ i (by simpa using hi), ltF] at this
  simpa using this
theorem flatF : ∀ (xs : List Fct), (flatK encF 2 xs.toArray).toList = xs.flatMap encF := fun xs => by
  apply List.ext_getElem?
  intro t
  have key : ∀ (l : List Fct) (t : Nat), (l.flatMap encF)[t]? = (l[t / 2]?).bind fun x => (encF x)[t % 2]? := by
    intro l
    induction l with
    | nil => intro t; simp
    | cons x l ih =>
      intro t
      rw [List.flatMap_cons]
      match t with
      | 0 => rfl
      | 1 => rfl
      | t + 2 =>
        rw [List.getElem?_append_right (by simp [encF]), show t + 2 - (encF x).length = t from by simp [encF], ih]
        rw [show (t + 2) / 2 = t / 2 + 1 from by omega, show (t + 2) % 2 = t % 2 from by omega]
        simp
  rw [key]
  by_cases ht : t < xs.length * 2
  · have h1 : t / 2 < xs.length := by omega
    have hsz : t < (flatK encF 2 xs.toArray).size := by simpa using ht
    rw [Array.getElem?_toList, Array.getElem?_eq_getElem hsz, List.getElem?_eq_getElem h1, Option.bind_some]
    have := get_flatK encF 2 xs.toArray t (by simpa using ht)
    rw [getElem!_pos (flatK encF 2 xs.toArray) t hsz, getElem!_pos xs.toArray (t / 2) (by simpa using h1)] at this
    rw [this]
    have h2 : t % 2 < (encF xs[t / 2]).length := by simp [encF]; omega
    rw [List.getElem?_eq_getElem h2, List.getElem_toArray, getElem!_pos (encF xs[t / 2]) (t % 2) h2]
  · have h1 : (flatK encF 2 xs.toArray).size ≤ t := by rw [size_flatK]; simpa using (by omega : xs.length * 2 ≤ t)
    have h2 : xs[t / 2]? = none := List.getElem?_eq_none (by omega)
    rw [Array.getElem?_toList, Array.getElem?_eq_none h1, h2]
    rfl
theorem chunksF_eq {w : World} {F : Nat → Prop} : ∀ {xs : List Fct} {cells : List Value}, Chunks w F cells xs → cells = xs.flatMap encF ∧ ∀ x ∈ xs, inI64 x.var ∧ inI64 x.val
  | [], _, h => ⟨h, fun _ hx => by simp at hx⟩
  | x :: xs, cells, ⟨cs, rest, he, hr, hc⟩ => by
    obtain ⟨h1, h2⟩ := chunksF_eq hc
    obtain ⟨h3, h4⟩ := hr
    refine ⟨by rw [he, h3, h1]; rfl, fun y hy => ?_⟩
    rcases List.mem_cons.1 hy with rfl | hy
    · exact h4
    · exact h2 y hy
theorem chunksF_mk {w : World} {F : Nat → Prop} : ∀ {xs : List Fct}, (∀ x ∈ xs, inI64 x.var ∧ inI64 x.val) → Chunks w F (xs.flatMap encF) xs
  | [], _ => rfl
  | x :: xs, h => ⟨encF x, xs.flatMap encF, rfl, ⟨rfl, h x (by simp)⟩, chunksF_mk fun y hy => h y (by simp [hy])⟩
theorem flatF_len (xs : List Fct) : (xs.flatMap encF).length = xs.length * 2 := by rw [← flatF, Array.length_toList, size_flatK]; simp
theorem s_symmetry_mapped_l1 {i : Nat} {w : World} {O : Lab} {v : Value} {xs : List Fct} (hR : Rw i w O 26 v xs) (hl : xs.length < 4611686018427387904) :
    Fn Tryz.prog 71 [v, .func (.func 72) #[] #[]] w fun _ w' => ∃ O', St (eT i) w O w' O' ∧ Rw i w' O' 26 v (srt_symmetry_mapped_l1 xs) := by
  intro d
  rcases Nat.eq_zero_or_pos xs.length with h0 | h0
  · have hx : xs = [] := List.eq_nil_of_length_eq_zero h0
    subst hx
    obtain ⟨p, c, rfl⟩ := hR.form
    have hs : srt_symmetry_mapped_l1 [] = [] := List.eq_nil_of_length_eq_zero (srt_symmetry_mapped_l1_len [])
    exact (Tryz.sortF_none (α := Fct) p c _ (dr w d)).mono fun e w' ⟨he, hw⟩ => ⟨_, w, d, he, hw, O, St.refl _ _ _, by rw [hs]; exact hR⟩
  · obtain ⟨g, cap, cells, sp, rfl, hg, hFg, hb, hc, hlen, hnc, hcm, htot⟩ := hR.1.open h0
    obtain ⟨rfl, hin⟩ := chunksF_eq hc
    have hfl := flatF xs
    have hH : HoldsK encF 2 (dr w d) g 0 xs.toArray := fun j hj => by
      have hj' : j < xs.length * 2 := by simpa using hj
      refine ⟨?_, by rw [Nat.zero_add]; exact hb.frozen j⟩
      rw [Nat.zero_add]
      refine hb.cell ?_
      rw [List.getElem?_append_left (by rw [flatF_len]; exact hj'), ← hfl, Array.getElem?_toList, Array.getElem?_eq_getElem hj, getElem!_pos _ j hj]
      rfl
    have aE : ∀ w, (isAgg 26).run Tryz.prog w = .ok true w := fun w => run_isAgg_yes w
    have zE : ∀ w, (Go.sizeOf 26).run Tryz.prog w = .ok 2 w := fun w => run_sizeOf w
    have eg : ∀ args w, (callFunc 72 args).run Tryz.prog w = .ok (.enter 72 args) w := enters_of Tryz.func72 (by kernel_rfl) rfl
    have hcall := Tryz.sortF_eq 2 aE zE encF (fun _ => rfl) (fun x v hv => by simp [encF] at hv; rcases hv with rfl | rfl <;> rfl) cfF swoF 72 #[] g 0 cap xs.toArray (dr w d) eg (cmpLaysF g 0 _ _) hH hb.lt (by simpa using hl)
    have e1 : xs.toArray.size = xs.length := by simp
    rw [e1] at hcall
    refine hcall.mono fun e w' ⟨he, n, os, hw⟩ => ⟨_, w', w'.drawn, he, rfl, upO O w.heap.size (fun _ => 0), ?_, ?_⟩
    · subst hw
      refine ⟨rfl, rfl, rfl, ?_, fun k hk hne => ⟨?_, upO_old hk⟩⟩
      · show w.heap.size ≤ ((w.heap.modify g _) ++ os).size
        simp
      · have hkg : g ≠ k := fun e => hne (by rw [← e]; exact hR.2.1 g rfl)
        show ((w.heap.modify g _) ++ os)[k]? = _
        rw [Array.getElem?_append_left (by simpa using hk), Array.getElem?_modify, if_neg hkg]
    · have hpd : pdq (ltOf cfF) xs.toArray 0 xs.length (Lib.bitLen xs.length) true true = (srt_symmetry_mapped_l1 xs).toArray := by simp [srt_symmetry_mapped_l1]
      rw [hpd] at hw
      have hsl := srt_symmetry_mapped_l1_len xs
      have hf2 := flatF (srt_symmetry_mapped_l1 xs)
      have hblk : Blk w' g 26 ((srt_symmetry_mapped_l1 xs).flatMap encF ++ sp) := by
        subst hw
        unfold Blk at hb ⊢
        have hsz : g < w.heap.size := Blk.lt hb
        show ((w.heap.modify g _) ++ os)[g]? = _
        rw [Array.getElem?_append_left (by simpa using hsz), Array.getElem?_modify, if_pos rfl, hb]
        simp only [Option.map_some, Go.Sort.onCells]
        congr 2
        apply Array.ext
        · simp only [Go.Sort.putCells, Array.size_mapIdx, List.size_toArray, List.length_append, flatF_len, hsl]
        · intro i h1 h2
          simp only [Go.Sort.putCells, Array.getElem_mapIdx, Nat.zero_add, Nat.sub_zero, Nat.zero_le, true_and]
          have e2 : (flatK encF 2 (srt_symmetry_mapped_l1 xs).toArray).size = xs.length * 2 := by rw [size_flatK]; simp [hsl]
          by_cases hi : i < xs.length * 2
          · rw [if_pos (by rw [e2]; exact hi)]
            simp only [List.getElem_toArray]
            rw [List.getElem_append_left (by rw [flatF_len, hsl]; exact hi)]
            rw [getElem!_pos _ _ (by rw [e2]; exact hi)]
            have := congrArg (·[i]?) hf2
            simp only [Array.getElem?_toList] at this
            rw [Array.getElem?_eq_getElem (by rw [e2]; exact hi), List.getElem?_eq_getElem (by rw [flatF_len, hsl]; exact hi)] at this
            exact Option.some.inj this
          · rw [if_neg (by rw [e2]; exact hi)]
            simp only [List.getElem_toArray]
            rw [List.getElem_append_right (by rw [flatF_len]; omega), List.getElem_append_right (by rw [flatF_len, hsl]; omega)]
            simp only [flatF_len, hsl]
      have hS : ∀ k, Fr 0 w O k → Fr 0 w' (upO O w.heap.size fun _ => 0) k := fun k hk => ⟨by subst hw; show k < ((w.heap.modify g _) ++ os).size; have := hk.1; simp; omega, (upO_old hk.1).trans hk.2⟩
      have := Own.close (w := w') (base := 0) (F := Fr 0 w O) (cap := cap) (Nat.zero_le _) hFg hblk (chunksF_mk (F := Fr 0 w O) (w := w') fun x hx => hin x ((srtF_perm xs).mem_iff.1 hx)) (by rw [hsl]; exact hnc) hcm (by rw [List.length_append, flatF_len] at htot ⊢; rw [hsl]; exact htot)
      rw [hsl] at this
      exact this.rw hS (fun g' hg' => by
        have : g = g' := by simpa [Value.ownBlock] using hg'
        subst this
        exact (upO_old hb.lt).trans (hR.2.1 g rfl)) hR.2.2
end
end Go.Proofs.YtdhaelekmjgbmaaGreatDoor

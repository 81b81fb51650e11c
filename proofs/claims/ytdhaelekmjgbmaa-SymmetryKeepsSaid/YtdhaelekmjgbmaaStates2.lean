/- Own text: the states of a small task, counted, and each of them proper. Plain, no program in sight. -/
import Derived.Test.YtdhaelekmjgbmaaStates
import Derived.Test.YtdhaelekmjgbmaaPlain0
namespace Go.Proofs.Ytdhaelekmjgbmaa
open Go Go.RowKit
def prodV : List Int → Nat → Nat
  | [], n => n
  | k :: r, n => prodV r (n * k.toNat)
theorem foldl_grows_len : ∀ (vars : List Int) (out : List (List Int)), (vars.foldl grows out).length = prodV vars out.length
  | [], _ => rfl
  | k :: r, out => by
    simp only [List.foldl_cons, prodV]
    rw [foldl_grows_len r, grows, grows_len]
theorem statesL_len (vars : List Int) : (statesL vars).length = prodV vars 1 := foldl_grows_len vars [[]]
theorem many_prod {most : Nat} : ∀ (vars : List Int) (n : Nat), (∀ x ∈ vars, 1 ≤ x) → 1 ≤ n → manyF most vars (n : Int) ≤ most → ∀ k, prodV (vars.take k) n ≤ most
  | [], n, _, _, h, k => by simp only [List.take_nil, prodV]; simp only [manyF] at h; omega
  | x :: r, n, hx, hn, h, k => by
    have h1 : 1 ≤ x := hx x List.mem_cons_self
    simp only [manyF] at h
    have hmax : max x 0 = x := by omega
    rw [hmax] at h
    obtain ⟨m, rfl⟩ : ∃ m : Nat, x = (m : Int) := ⟨x.toNat, by omega⟩
    by_cases hm : (m : Int) ≤ most
    · rw [show min (m : Int) (most + 1) = (m : Int) from by omega, ← Int.natCast_mul] at h
      have hnm : n ≤ n * m := Nat.le_mul_of_pos_right n (by omega)
      by_cases hc : (most : Int) < ((n * m : Nat) : Int)
      · rw [if_pos hc] at h; omega
      · rw [if_neg hc] at h
        cases k with
        | zero => simp only [List.take_zero, prodV]; omega
        | succ k =>
          simp only [List.take_succ_cons, prodV, Int.toNat_natCast]
          exact many_prod r (n * m) (fun y hy => hx y (List.mem_cons_of_mem _ hy)) (by omega) h k
    · exfalso
      rw [show min (m : Int) (most + 1) = ((most + 1 : Nat) : Int) from by omega, ← Int.natCast_mul] at h
      have : most + 1 ≤ n * (most + 1) := Nat.le_mul_of_pos_left _ hn
      rw [if_pos (by omega)] at h
      omega
theorem stateOk_cons {y x : Int} {vs s : List Int} : StateOk (y :: vs) (x :: s) ↔ (0 ≤ x ∧ x < y) ∧ StateOk vs s := by
  constructor
  · intro h
    exact ⟨h.2 0 x y rfl rfl, by have := h.1; simpa using this, fun i a b ha hb => h.2 (i + 1) a b (by simpa using ha) (by simpa using hb)⟩
  · rintro ⟨h1, h2, h3⟩
    refine ⟨by simpa using h2, fun i a b ha hb => ?_⟩
    cases i with
    | zero => simp at ha hb; subst ha; subst hb; exact h1
    | succ i => exact h3 i a b (by simpa using ha) (by simpa using hb)
theorem stateOk_nil : StateOk [] [] := ⟨rfl, fun i a b ha => by simp at ha⟩
theorem mem_exts {n : Nat} {s t : List Int} : t ∈ exts n s ↔ ∃ x : Nat, x < n ∧ t = s ++ [(x : Int)] := by
  unfold exts
  rw [List.mem_map]
  constructor
  · rintro ⟨x, hx, rfl⟩; exact ⟨x, List.mem_range.1 hx, rfl⟩
  · rintro ⟨x, hx, rfl⟩; exact ⟨x, List.mem_range.2 hx, rfl⟩
theorem mem_foldl_grows : ∀ (vars : List Int) (out : List (List Int)) (s : List Int), s ∈ vars.foldl grows out ↔ ∃ s0 ∈ out, ∃ r, s = s0 ++ r ∧ StateOk vars r
  | [], out, s => by
    constructor
    · intro h; exact ⟨s, h, [], by simp, stateOk_nil⟩
    · rintro ⟨s0, h, r, rfl, hr⟩
      have : r = [] := List.eq_nil_of_length_eq_zero hr.1
      subst this; simpa using h
  | k :: vs, out, s => by
    simp only [List.foldl_cons]
    rw [mem_foldl_grows vs (grows out k) s]
    constructor
    · rintro ⟨s1, h1, r, rfl, hr⟩
      obtain ⟨s0, h0, h2⟩ := List.mem_flatMap.1 h1
      obtain ⟨x, hx, rfl⟩ := mem_exts.1 h2
      exact ⟨s0, h0, (x : Int) :: r, by simp, stateOk_cons.2 ⟨⟨by omega, by omega⟩, hr⟩⟩
    · rintro ⟨s0, h0, r, rfl, hr⟩
      cases r with
      | nil => have := hr.1; simp at this
      | cons x r =>
        obtain ⟨⟨h1, h2⟩, h3⟩ := stateOk_cons.1 hr
        exact ⟨s0 ++ [x], List.mem_flatMap.2 ⟨s0, h0, mem_exts.2 ⟨x.toNat, by omega, by rw [show ((x.toNat : Nat) : Int) = x from by omega]⟩⟩, r, by simp, h3⟩
theorem mem_statesL {vars s : List Int} : s ∈ statesL vars ↔ StateOk vars s := by
  unfold statesL
  rw [mem_foldl_grows]
  constructor
  · rintro ⟨s0, h0, r, rfl, hr⟩
    have : s0 = [] := by simpa using h0
    subst this; exact hr
  · intro h; exact ⟨[], by simp, s, rfl, h⟩
theorem SmallOk.ok {t : Tsk} (h : SmallOk t) : TaskOk t := h.2.2.2.1
theorem SmallOk.states {t : Tsk} (h : SmallOk t) : ∀ k, (statesL (t.vars.take k)).length ≤ 512 := fun k => by
  rw [statesL_len]
  refine many_prod (most := 512) t.vars 1 (fun x hx => ?_) (Nat.le_refl _) h.2.2.2.2 k
  obtain ⟨i, hi, rfl⟩ := List.getElem_of_mem hx
  exact (h.ok.vars i _ (List.getElem?_eq_getElem hi)).1
theorem SmallOk.many {t : Tsk} (h : SmallOk t) : (statesL t.vars).length ≤ 512 := by
  have := h.states t.vars.length
  rwa [List.take_length] at this
theorem statesSmall {w : World} {vv : Value} {t : Tsk} (hv : V w vv t.vars) (h : SmallOk t) : Fn Try.prog 26 [vv] w fun v w' => V w' v (statesL t.vars) ∧ Ext w w' :=
  baseStates hv (fun i n hn => by have := h.ok.vars i n hn; omega) (fun k => by have := h.states k; omega) (by have := h.1; omega)
end Go.Proofs.Ytdhaelekmjgbmaa

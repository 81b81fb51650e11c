/- Own text: what the models of chapter 51 compute: permutations, images, symmetries. Plain, no program in sight. -/
import Derived.Test.YtdhaelekmjgbmaaSym2
import Derived.Test.YtdhaelekmjgbmaaLoops
namespace Go.Proofs.Ytdhaelekmjgbmaa
open Go Go.RowKit
def rangeI (n : Nat) : List Int := (List.range n).map fun i : Nat => (i : Int)
theorem mem_rangeI {n : Nat} {x : Int} : x ∈ rangeI n ↔ 0 ≤ x ∧ x < n := by
  unfold rangeI
  rw [List.mem_map]
  constructor
  · rintro ⟨i, hi, rfl⟩; have := List.mem_range.1 hi; omega
  · rintro ⟨h1, h2⟩; exact ⟨x.toNat, List.mem_range.2 (by omega), by omega⟩
theorem rangeI_len (n : Nat) : (rangeI n).length = n := by simp [rangeI]
theorem rangeI_nodup (n : Nat) : (rangeI n).Nodup := by
  unfold rangeI
  rw [List.nodup_iff_pairwise_ne, List.pairwise_map]
  exact (List.nodup_iff_pairwise_ne.1 List.nodup_range).imp fun h => by omega
theorem count_one {l : List Int} {x : Int} (hn : l.Nodup) (h : x ∈ l) : l.count x = 1 := by
  have h1 := List.nodup_iff_count.1 hn x
  have h2 := List.count_pos_iff.2 h
  omega
/-- A list is a permutation of 0 .. n - 1. -/
def PermR (l : List Int) (n : Nat) : Prop := l.Perm (rangeI n)
theorem perm_of_subset : ∀ {l₁ l₂ : List Int}, l₁.Nodup → (∀ x ∈ l₁, x ∈ l₂) → l₂.length ≤ l₁.length → l₁.Perm l₂
  | [], l₂, _, _, hl => by
    have : l₂ = [] := List.eq_nil_of_length_eq_zero (by simpa using hl)
    rw [this]
  | x :: l₁, l₂, hn, hs, hl => by
    have hx := hs x List.mem_cons_self
    have hp := List.perm_cons_erase hx
    obtain ⟨h1, h2⟩ := List.nodup_cons.1 hn
    refine (List.Perm.cons x (perm_of_subset h2 (fun y hy => ?_) ?_)).trans hp.symm
    · have : y ≠ x := fun e => h1 (e ▸ hy)
      exact (List.mem_erase_of_ne this).2 (hs y (List.mem_cons_of_mem _ hy))
    · rw [List.length_erase_of_mem hx]
      simp at hl; omega
theorem PermR.len {l : List Int} {n : Nat} (h : PermR l n) : l.length = n := by rw [h.length_eq, rangeI_len]
theorem PermR.mem {l : List Int} {n : Nat} (h : PermR l n) {x : Int} (hx : x ∈ l) : 0 ≤ x ∧ x < n := mem_rangeI.1 (h.mem_iff.1 hx)
theorem PermR.nodup {l : List Int} {n : Nat} (h : PermR l n) : l.Nodup := h.symm.nodup (rangeI_nodup n)
theorem permR_of {l : List Int} {n : Nat} (h1 : l.Nodup) (h2 : ∀ x ∈ l, 0 ≤ x ∧ x < n) (h3 : l.length = n) : PermR l n := perm_of_subset h1 (fun x hx => mem_rangeI.2 (h2 x hx)) (by rw [rangeI_len]; omega)
theorem bof_if {p q : Prop} (h : p ↔ q) : some (bof p) = some (bof q) := by rw [bof_eq h]
theorem take_succ_mem {α : Type} {l : List α} {k : Nat} {x y : α} (h : l[k]? = some x) : y ∈ l.take (k + 1) ↔ y ∈ l.take k ∨ y = x := by
  rw [List.take_add_one, h, List.mem_append]; simp
theorem perm_eq {l : List Int} {n : Int} (hl : l.length ≤ 1000000 ∨ (l.length : Int) ≠ n) : m_symmetry_permutation l n = some (bof ((l.length : Int) = n ∧ PermR l l.length)) := by
  unfold m_symmetry_permutation
  by_cases hn : (l.length : Int) = n
  case neg => rw [if_pos hn, bof_f (fun h => hn h.1)]
  have hl' : l.length ≤ 1000000 := hl.resolve_right fun h => h hn
  subst hn
  rw [if_neg (by simp), mkI_eq (by omega) (by omega), bnd_some]
  rcases rng_inv (ρ := Bool) (f := fun (_ : Nat) (a26 : Int) (s23 : (List Bool)) => bnd (if a26 < 0 then (some true) else (if (l.length : Int) ≤ a26 then (some true) else (bnd (atI s23 a26) fun a54 => some a54)) : Option Bool) fun y48 => if y48 = true then (some (.ret false)) else (bnd (atI s23 a26) fun _ => some (.next (s23.set (a26).toNat true)))) (xs := l) (s₀ := List.replicate l.length false)
    (fun k s => s.length = l.length ∧ (∀ j : Nat, j < l.length → s[j]? = some (bof ((j : Int) ∈ l.take k))) ∧ (l.take k).Nodup ∧ ∀ x ∈ l.take k, 0 ≤ x ∧ x < l.length) (fun r => r = false ∧ ¬ PermR l l.length)
    ⟨by simp, fun j hj => by rw [List.getElem?_replicate, if_pos hj, List.take_zero, bof_f (List.not_mem_nil)], by simp, by simp⟩ (fun k x s hx hI => by
      obtain ⟨i1, i2, i3, i4⟩ := hI
      by_cases h1 : x < 0
      · rw [if_pos h1, bnd_some, if_t]
        exact .inr ⟨_, rfl, rfl, fun hp => by have := hp.mem (List.mem_of_getElem? hx); omega⟩
      · rw [if_neg h1]
        by_cases h2 : (l.length : Int) ≤ x
        · rw [if_pos h2, bnd_some, if_t]
          exact .inr ⟨_, rfl, rfl, fun hp => by have := hp.mem (List.mem_of_getElem? hx); omega⟩
        · rw [if_neg h2]
          obtain ⟨j, rfl⟩ := Int.eq_ofNat_of_zero_le (by omega : 0 ≤ x)
          rw [atI_eq, i2 j (by omega), bnd_some, bnd_some]
          by_cases hm : (j : Int) ∈ l.take k
          · rw [bof_t hm, if_t]
            refine .inr ⟨_, rfl, rfl, fun hp => ?_⟩
            have hnd := hp.nodup
            rw [← List.take_append_drop k l, List.nodup_append] at hnd
            have hd : (j : Int) ∈ l.drop k := List.mem_of_getElem? (i := 0) (by rw [List.getElem?_drop, Nat.add_zero]; exact hx)
            exact hnd.2.2 _ hm _ hd rfl
          · rw [bof_f hm, if_f, bnd_some]
            refine .inl ⟨_, rfl, by simpa using i1, fun q hq => ?_, ?_, fun y hy => ?_⟩
            · rw [show ((j : Int)).toNat = j from by omega, List.getElem?_set]
              by_cases hjq : j = q
              · subst hjq
                rw [if_pos rfl, if_pos (by omega), bof_t ((take_succ_mem hx).2 (.inr rfl))]
              · rw [if_neg hjq, i2 q hq]
                refine bof_if ⟨fun h => (take_succ_mem hx).2 (.inl h), fun h => ((take_succ_mem hx).1 h).resolve_right (by omega)⟩
            · rw [List.take_add_one, hx]
              refine List.nodup_append.2 ⟨i3, by simp, fun a ha b hb => ?_⟩
              have : b = (j : Int) := by simpa using hb
              rw [this]; exact fun e => hm (e ▸ ha)
            · rcases (take_succ_mem hx).1 hy with hy | rfl
              · exact i4 y hy
              · omega) with ⟨s, hr, _, _, hnd, hrg⟩ | ⟨r, hr, rfl, hno⟩
  · rw [hr, bnd_some, fin_d]
    rw [List.take_length] at hnd hrg
    rw [bof_t ⟨rfl, permR_of hnd hrg rfl⟩]
  · rw [hr, bnd_some, fin_r, bof_f (fun h => hno h.2)]
theorem count_loop {l : List Int} {v : Int} {ρ : Type} (hl : l.length ≤ 1000000) : rng (ρ := ρ) (fun (_ : Nat) (a28 : Int) (s25 : Int) => if a28 = v then (bnd (chkI (s25 + 1)) fun n49 => some (.next n49)) else (some (.next s25))) l 0 0 = some (.done ((l.count v : Nat) : Int)) := by
  rw [rng_from (fun k => (((l.take k).count v : Nat) : Int)) ?ha ?hb, List.take_length]
  case ha => rfl
  case hb =>
    intro k x hx
    have hk := lt_of_get hx
    have hc := List.count_le_length (a := v) (l := l.take k)
    rw [List.length_take] at hc
    rw [List.take_add_one, hx, List.count_append]
    by_cases h : x = v
    · rw [if_pos h, chkI_eq (by unfold inI64; omega), bnd_some]
      subst h; simp
    · rw [if_neg h]; simp [h]
theorem refperm_eq {l : List Int} {n : Int} (hl : l.length ≤ 1000000 ∨ (l.length : Int) ≠ n) : m_ref51_permutation l n = some (bof ((l.length : Int) = n ∧ PermR l l.length)) := by
  unfold m_ref51_permutation
  by_cases hn : (l.length : Int) = n
  case neg => rw [if_pos hn, bof_f (fun h => hn h.1)]
  have hl' : l.length ≤ 1000000 := hl.resolve_right fun h => h hn
  subst hn
  rw [if_neg (by simp), natI_eq, bnd_some]
  have key := rng_inv (ρ := Bool) (f := fun (_ : Nat) (k10 : Nat) (_ : Unit) => bnd (rng (ρ := Ctl Unit Bool) (fun (_ : Nat) (a28 : Int) (s25 : Int) => if a28 = (k10 : Int) then (bnd (chkI (s25 + 1)) fun n49 => some (.next n49)) else (some (.next s25))) l 0 0) fun res23 => fin res23 fun (s56 : Int) => if s56 ≠ 1 then (some (.ret false)) else (some (.next ()))) (xs := List.range l.length) (s₀ := ())
    (fun k _ => ∀ j : Nat, j < k → l.count (j : Int) = 1) (fun r => r = false ∧ ¬ PermR l l.length) (fun j hj => by omega) (fun k x _ hx hI => by
      obtain ⟨hlt, rfl⟩ := List.getElem?_eq_some_iff.1 hx
      have hk : k < l.length := by simpa using hlt
      rw [List.getElem_range, count_loop hl', bnd_some, fin_d]
      by_cases h1 : l.count (k : Int) = 1
      · rw [if_neg (by rw [h1]; simp)]
        exact .inl ⟨_, rfl, fun j hj => by
          by_cases hjk : j = k
          · rw [hjk]; exact h1
          · exact hI j (by omega)⟩
      · rw [if_pos (by omega)]
        refine .inr ⟨_, rfl, rfl, fun hp => h1 ?_⟩
        rw [hp.count_eq, count_one (rangeI_nodup _) (mem_rangeI.2 ⟨by omega, by omega⟩)])
  rcases key with ⟨_, hr, hc⟩ | ⟨r, hr, rfl, hno⟩
  · rw [show rngN _ _ _ = _ from hr, bnd_some, fin_d]
    rw [List.length_range] at hc
    have hp : PermR l l.length := (perm_of_subset (rangeI_nodup l.length) (fun x hx => by
      obtain ⟨h1, h2⟩ := mem_rangeI.1 hx
      have := hc x.toNat (by omega)
      rw [show ((x.toNat : Nat) : Int) = x from by omega] at this
      exact List.count_pos_iff.1 (by omega)) (by rw [rangeI_len]; omega)).symm
    rw [bof_t ⟨rfl, hp⟩]
  · rw [show rngN _ _ _ = _ from hr, bnd_some, fin_r, bof_f (fun h => hno h.2)]
end Go.Proofs.Ytdhaelekmjgbmaa

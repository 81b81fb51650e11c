/- Own text: slices.SortFunc at []api.Fact by the variable, over an owned row, out of the library's contract. -/
import Derived.Test.YtdhaelekmjgbmaaShort2
import Derived.Test.YtdhaelekmjgbmaaShelfF
import Derived.Sort.AssemblyPlain
namespace Go.Proofs.Ytdhaelekmjgbmaa
open Go Go.RowKit Go.Lib Go.Sort
instance : Inhabited Fct := ⟨⟨0, 0⟩⟩
def encF (x : Fct) : List Value := [.int .i64 x.var, .int .i64 x.val]
def cfF (x y : Fct) : Int := Lib.compareInt x.var y.var
theorem ltF (x y : Fct) : ltOf cfF x y = decide (x.var < y.var) := by
  unfold ltOf cfF Lib.compareInt
  by_cases h : x.var < y.var
  · simp [h]
  · by_cases h2 : y.var < x.var <;> simp [h, h2]
theorem swoF : SWO (ltOf cfF) where
  irrefl x := by rw [ltF]; simp
  trans x y z h1 h2 := by rw [ltF] at *; simp at *; omega
  ntrans x y z h1 h2 := by rw [ltF] at *; simp at *; omega
theorem compareI (a b : Int) (W : World) : Calls Try.prog 80 #[.int .i64 a, .int .i64 b] W fun e w' => e = .returned (.int .i64 (Lib.compareInt a b)) ∧ w' = W := by
  go_enter Try.func80, Try.ntmps80
  go_wp2
  · go_ret
    have h : a < b := by assumption
    exact ⟨by simp [Lib.compareInt, h], rfl⟩
  · go_ret
    have h : b < a := by assumption
    have h2 : ¬ a < b := by omega
    exact ⟨by simp [Lib.compareInt, h, h2], rfl⟩
  · go_ret
    have h1 : b ≤ a := by assumption
    have h2 : a ≤ b := by assumption
    have h3 : ¬ a < b := by omega
    have h4 : ¬ b < a := by omega
    exact ⟨by simp [Lib.compareInt, h3, h4], rfl⟩
theorem closureF (x y : Fct) (W : World) : Calls Try.prog 87 #[.agg #[.int .i64 x.var, .int .i64 x.val], .agg #[.int .i64 y.var, .int .i64 y.val]] W fun e w' => e = .returned (.int .i64 (cfF x y)) ∧ ∃ q os', w' = grow (W.drewN q) os' := by
  have hcon := fun W' => compareI x.var y.var W'
  unfold cfF
  generalize Lib.compareInt x.var y.var = r at hcon ⊢
  go_enter Try.func87, Try.ntmps87
  go_wp2_with (go_at_call 80; refine (hcon _).mono ?_; rintro e w' ⟨rfl, rfl⟩)
  go_ret
  exact ⟨rfl, 0, _, by rw [alloc_eq_grow, alloc_eq_grow, grow_grow]; rfl⟩
theorem cmpLaysF (blk off size : Nat) (w : World) : CmpLays Try.prog 87 #[] encF 2 cfF blk off size w := fun _ _ _ _ x y => closureF x y _
/-- Facts, sorted by the variable, as the library does it. -/
def srt_symmetry_mapped_l1 (xs : List Fct) : List Fct := (pdq (ltOf cfF) xs.toArray 0 xs.length (Lib.bitLen xs.length) true true).toList
theorem srtF_in (xs : List Fct) : PermIn 0 xs.toArray.size xs.toArray (srt_symmetry_mapped_l1 xs).toArray ∧ SortedIn (ltOf cfF) 0 xs.toArray.size (srt_symmetry_mapped_l1 xs).toArray := by
  have := pdq_sorts (ltOf cfF) swoF xs.toArray 0 xs.toArray.size (Lib.bitLen xs.length) true true (Nat.zero_le _) (Nat.le_refl _) (Or.inl rfl)
  simpa [srt_symmetry_mapped_l1] using this
theorem srtF_perm (xs : List Fct) : (srt_symmetry_mapped_l1 xs).Perm xs := by
  obtain ⟨⟨hsz, _, hperm⟩, _⟩ := srtF_in xs
  have e1 : (srt_symmetry_mapped_l1 xs).toArray.extract 0 xs.toArray.size = (srt_symmetry_mapped_l1 xs).toArray := by rw [← hsz]; exact Array.extract_size
  rw [e1, Array.extract_size] at hperm
  simpa using hperm
theorem srt_symmetry_mapped_l1_len (xs : List Fct) : (srt_symmetry_mapped_l1 xs).length = xs.length := (srtF_perm xs).length_eq
theorem srtF_sorted (xs : List Fct) : (srt_symmetry_mapped_l1 xs).Pairwise fun x y => x.var ≤ y.var := by
  obtain ⟨_, hs⟩ := srtF_in xs
  have hl := srt_symmetry_mapped_l1_len xs
  rw [List.pairwise_iff_getElem]
  intro i j hi hj hij
  have := hs i j (Nat.zero_le _) hij (by simp; omega)
  rw [getElem!_pos _ j (by simpa using hj), getElem!_pos _ i (by simpa using hi), ltF] at this
  simpa using this
theorem flatF : ∀ (xs : List Fct), (flatK encF 2 xs.toArray).toList = xs.flatMap encF := fun xs => by
  apply List.ext_getElem?
  intro t
  have key : ∀ (l : List Fct) (t : Nat), (l.flatMap encF)[t]? = (l[t / 2]?).bind fun x => (encF x)[t % 2]? := by
    intro l
    induction l with
    | nil => intro t; simp
    | cons x l ih =>
      intro t
      rw [List.flatMap_cons]
      match t with
      | 0 => rfl
      | 1 => rfl
      | t + 2 =>
        rw [List.getElem?_append_right (by simp [encF]), show t + 2 - (encF x).length = t from by simp [encF], ih]
        rw [show (t + 2) / 2 = t / 2 + 1 from by omega, show (t + 2) % 2 = t % 2 from by omega]
        simp
  rw [key]
  by_cases ht : t < xs.length * 2
  · have h1 : t / 2 < xs.length := by omega
    have hsz : t < (flatK encF 2 xs.toArray).size := by simpa using ht
    rw [Array.getElem?_toList, Array.getElem?_eq_getElem hsz, List.getElem?_eq_getElem h1, Option.bind_some]
    have := get_flatK encF 2 xs.toArray t (by simpa using ht)
    rw [getElem!_pos (flatK encF 2 xs.toArray) t hsz, getElem!_pos xs.toArray (t / 2) (by simpa using h1)] at this
    rw [this]
    have h2 : t % 2 < (encF xs[t / 2]).length := by simp [encF]; omega
    rw [List.getElem?_eq_getElem h2, List.getElem_toArray, getElem!_pos (encF xs[t / 2]) (t % 2) h2]
  · have h1 : (flatK encF 2 xs.toArray).size ≤ t := by rw [size_flatK]; simpa using (by omega : xs.length * 2 ≤ t)
    have h2 : xs[t / 2]? = none := List.getElem?_eq_none (by omega)
    rw [Array.getElem?_toList, Array.getElem?_eq_none h1, h2]
    rfl
theorem chunksF_eq {w : World} {F : Nat → Prop} : ∀ {xs : List Fct} {cells : List Value}, Chunks w F cells xs → cells = xs.flatMap encF ∧ ∀ x ∈ xs, inI64 x.var ∧ inI64 x.val
  | [], _, h => ⟨h, fun _ hx => by simp at hx⟩
  | x :: xs, cells, ⟨cs, rest, he, hr, hc⟩ => by
    obtain ⟨h1, h2⟩ := chunksF_eq hc
    obtain ⟨h3, h4⟩ := hr
    refine ⟨by rw [he, h3, h1]; rfl, fun y hy => ?_⟩
    rcases List.mem_cons.1 hy with rfl | hy
    · exact h4
    · exact h2 y hy
theorem chunksF_mk {w : World} {F : Nat → Prop} : ∀ {xs : List Fct}, (∀ x ∈ xs, inI64 x.var ∧ inI64 x.val) → Chunks w F (xs.flatMap encF) xs
  | [], _ => rfl
  | x :: xs, h => ⟨encF x, xs.flatMap encF, rfl, ⟨rfl, h x (by simp)⟩, chunksF_mk fun y hy => h y (by simp [hy])⟩
theorem flatF_len (xs : List Fct) : (xs.flatMap encF).length = xs.length * 2 := by rw [← flatF, Array.length_toList, size_flatK]; simp
theorem s_symmetry_mapped_l1 {i : Nat} {w : World} {O : Lab} {v : Value} {xs : List Fct} (hR : Rw i w O 103 v xs) (hl : xs.length < 4611686018427387904) :
    Fn Try.prog 86 [v, .func (.func 87) #[] #[]] w fun _ w' => ∃ O', St (eT i) w O w' O' ∧ Rw i w' O' 103 v (srt_symmetry_mapped_l1 xs) := by
  intro d
  rcases Nat.eq_zero_or_pos xs.length with h0 | h0
  · have hx : xs = [] := List.eq_nil_of_length_eq_zero h0
    subst hx
    obtain ⟨p, c, rfl⟩ := hR.form
    have hs : srt_symmetry_mapped_l1 [] = [] := List.eq_nil_of_length_eq_zero (srt_symmetry_mapped_l1_len [])
    exact (Try.sortF_none (α := Fct) p c _ (dr w d)).mono fun e w' ⟨he, hw⟩ => ⟨_, w, d, he, hw, O, St.refl _ _ _, by rw [hs]; exact hR⟩
  · obtain ⟨g, cap, cells, sp, rfl, hg, hFg, hb, hc, hlen, hnc, hcm, htot⟩ := hR.1.open h0
    obtain ⟨rfl, hin⟩ := chunksF_eq hc
    have hfl := flatF xs
    have hH : HoldsK encF 2 (dr w d) g 0 xs.toArray := fun j hj => by
      have hj' : j < xs.length * 2 := by simpa using hj
      refine ⟨?_, by rw [Nat.zero_add]; exact hb.frozen j⟩
      rw [Nat.zero_add]
      refine hb.cell ?_
      rw [List.getElem?_append_left (by rw [flatF_len]; exact hj'), ← hfl, Array.getElem?_toList, Array.getElem?_eq_getElem hj, getElem!_pos _ j hj]
      rfl
    have aE : ∀ w, (isAgg 103).run Try.prog w = .ok true w := fun w => run_isAgg_yes w
    have zE : ∀ w, (Go.sizeOf 103).run Try.prog w = .ok 2 w := fun w => run_sizeOf w
    have eg : ∀ args w, (callFunc 87 args).run Try.prog w = .ok (.enter 87 args) w := enters_of Try.func87 (by kernel_rfl) rfl
    have hcall := Try.sortF_eq 2 aE zE encF (fun _ => rfl) (fun x v hv => by simp [encF] at hv; rcases hv with rfl | rfl <;> rfl) cfF swoF 87 #[] g 0 cap xs.toArray (dr w d) eg (cmpLaysF g 0 _ _) hH hb.lt (by simpa using hl)
    have e1 : xs.toArray.size = xs.length := by simp
    rw [e1] at hcall
    refine hcall.mono fun e w' ⟨he, n, os, hw⟩ => ⟨_, w', w'.drawn, he, rfl, upO O w.heap.size (fun _ => 0), ?_, ?_⟩
    · subst hw
      refine ⟨rfl, rfl, rfl, ?_, fun k hk hne => ⟨?_, upO_old hk⟩⟩
      · show w.heap.size ≤ ((w.heap.modify g _) ++ os).size
        simp
      · have hkg : g ≠ k := fun e => hne (by rw [← e]; exact hR.2.1 g rfl)
        show ((w.heap.modify g _) ++ os)[k]? = _
        rw [Array.getElem?_append_left (by simpa using hk), Array.getElem?_modify, if_neg hkg]
    · have hpd : pdq (ltOf cfF) xs.toArray 0 xs.length (Lib.bitLen xs.length) true true = (srt_symmetry_mapped_l1 xs).toArray := by simp [srt_symmetry_mapped_l1]
      rw [hpd] at hw
      have hsl := srt_symmetry_mapped_l1_len xs
      have hf2 := flatF (srt_symmetry_mapped_l1 xs)
      have hblk : Blk w' g 103 ((srt_symmetry_mapped_l1 xs).flatMap encF ++ sp) := by
        subst hw
        unfold Blk at hb ⊢
        have hsz : g < w.heap.size := Blk.lt hb
        show ((w.heap.modify g _) ++ os)[g]? = _
        rw [Array.getElem?_append_left (by simpa using hsz), Array.getElem?_modify, if_pos rfl, hb]
        simp only [Option.map_some, Go.Sort.onCells]
        congr 2
        apply Array.ext
        · simp only [Go.Sort.putCells, Array.size_mapIdx, List.size_toArray, List.length_append, flatF_len, hsl]
        · intro i h1 h2
          simp only [Go.Sort.putCells, Array.getElem_mapIdx, Nat.zero_add, Nat.sub_zero, Nat.zero_le, true_and]
          have e2 : (flatK encF 2 (srt_symmetry_mapped_l1 xs).toArray).size = xs.length * 2 := by rw [size_flatK]; simp [hsl]
          by_cases hi : i < xs.length * 2
          · rw [if_pos (by rw [e2]; exact hi)]
            simp only [List.getElem_toArray]
            rw [List.getElem_append_left (by rw [flatF_len, hsl]; exact hi)]
            rw [getElem!_pos _ _ (by rw [e2]; exact hi)]
            have := congrArg (·[i]?) hf2
            simp only [Array.getElem?_toList] at this
            rw [Array.getElem?_eq_getElem (by rw [e2]; exact hi), List.getElem?_eq_getElem (by rw [flatF_len, hsl]; exact hi)] at this
            exact Option.some.inj this
          · rw [if_neg (by rw [e2]; exact hi)]
            simp only [List.getElem_toArray]
            rw [List.getElem_append_right (by rw [flatF_len]; omega), List.getElem_append_right (by rw [flatF_len, hsl]; omega)]
            simp only [flatF_len, hsl]
      have hS : ∀ k, Fr 0 w O k → Fr 0 w' (upO O w.heap.size fun _ => 0) k := fun k hk => ⟨by subst hw; show k < ((w.heap.modify g _) ++ os).size; have := hk.1; simp; omega, (upO_old hk.1).trans hk.2⟩
      have := Own.close (w := w') (base := 0) (F := Fr 0 w O) (cap := cap) (Nat.zero_le _) hFg hblk (chunksF_mk (F := Fr 0 w O) (w := w') fun x hx => hin x ((srtF_perm xs).mem_iff.1 hx)) (by rw [hsl]; exact hnc) hcm (by rw [List.length_append, flatF_len] at htot ⊢; rw [hsl]; exact htot)
      rw [hsl] at this
      exact this.rw hS (fun g' hg' => by
        have : g = g' := by simpa [Value.ownBlock] using hg'
        subst this
        exact (upO_old hb.lt).trans (hR.2.1 g rfl)) hR.2.2
end Go.Proofs.Ytdhaelekmjgbmaa

/- Own text: what the proof of stubbornLimits_holds uses, part 2: rules, models and their proofs, plain laws. -/
import Derived.Test.YtgnmjmcjadpmhaaPLimA
namespace Go.Proofs.Ytgnmjmcjadpmhaa
open Go Go.RowKit
section
open Go.Shelf
def Try.lays189_ren : Go.Shelf.Ren := ⟨fun | 189 => 56 | 125 => 73 | 257 => 72 | 128 => 94 | 129 => 95 | 294 => 85 | 295 => 86 | 296 => 87 | 297 => 88 | 298 => 89 | 299 => 90 | 216 => 91 | 300 => 92 | 301 => 93 | 328 => 104 | 329 => 105 | 330 => 106 | 331 => 107 | 332 => 108 | 215 => 109 | 343 => 111 | n => n, fun | 28 => 22 | 3 => 3 | 46 => 125 | 0 => 0 | 51 => 156 | 53 => 158 | 4 => 4 | 183 => 149 | 182 => 148 | 131 => 88 | 5 => 5 | 9 => 9 | 218 => 166 | 222 => 169 | 228 => 172 | 229 => 173 | n => n, fun | n => n⟩
theorem Try.lays189 : Go.Proofs.Lays.n189 Try.prog Try.lays189_ren := {
  mixed := by kernel_rfl
  f125 := Try.func73.trans (congrArg some (by kernel_rfl))
  f128 := Try.func94.trans (congrArg some (by kernel_rfl))
  f129 := Try.func95.trans (congrArg some (by kernel_rfl))
  f189 := Try.func56.trans (congrArg some (by kernel_rfl))
  f215 := Try.func109.trans (congrArg some (by kernel_rfl))
  f216 := Try.func91.trans (congrArg some (by kernel_rfl))
  f257 := Try.func72.trans (congrArg some (by kernel_rfl))
  f294 := Try.func85.trans (congrArg some (by kernel_rfl))
  f295 := Try.func86.trans (congrArg some (by kernel_rfl))
  f296 := Try.func87.trans (congrArg some (by kernel_rfl))
  f297 := Try.func88.trans (congrArg some (by kernel_rfl))
  f298 := Try.func89.trans (congrArg some (by kernel_rfl))
  f299 := Try.func90.trans (congrArg some (by kernel_rfl))
  f300 := Try.func92.trans (congrArg some (by kernel_rfl))
  f301 := Try.func93.trans (congrArg some (by kernel_rfl))
  f328 := Try.func104.trans (congrArg some (by kernel_rfl))
  f329 := Try.func105.trans (congrArg some (by kernel_rfl))
  f330 := Try.func106.trans (congrArg some (by kernel_rfl))
  f331 := Try.func107.trans (congrArg some (by kernel_rfl))
  f332 := Try.func108.trans (congrArg some (by kernel_rfl))
  f343 := Try.func111.trans (congrArg some (by kernel_rfl))
  t0 := Try.underlying0
  a0 := Try.isAgg0
  z0 := Try.sizeOf0
  v0 := Try.zeroValue0
  t3 := Try.underlying3
  a3 := Try.isAgg3
  z3 := Try.sizeOf3
  v3 := Try.zeroValue3
  t4 := Try.underlying4
  a4 := Try.isAgg4
  z4 := Try.sizeOf4
  v4 := Try.zeroValue4
  t5 := Try.underlying5
  a5 := Try.isAgg5
  z5 := Try.sizeOf5
  v5 := Try.zeroValue5
  t9 := Try.underlying9
  a9 := Try.isAgg9
  z9 := Try.sizeOf9
  v9 := Try.zeroValue9
  t28 := Try.underlying22
  a28 := Try.isAgg22
  z28 := Try.sizeOf22
  v28 := Try.zeroValue22
  t46 := Try.underlying125
  a46 := Try.isAgg125
  z46 := Try.sizeOf125
  v46 := Try.zeroValue125
  t51 := Try.underlying156
  a51 := Try.isAgg156
  z51 := Try.sizeOf156
  v51 := Try.zeroValue156
  t53 := Try.underlying158
  a53 := Try.isAgg158
  z53 := Try.sizeOf158
  v53 := Try.zeroValue158
  t131 := Try.underlying88
  a131 := Try.isAgg88
  z131 := Try.sizeOf88
  v131 := Try.zeroValue88
  t182 := Try.underlying148
  a182 := Try.isAgg148
  z182 := Try.sizeOf148
  v182 := Try.zeroValue148
  t183 := Try.underlying149
  a183 := Try.isAgg149
  z183 := Try.sizeOf149
  v183 := Try.zeroValue149
  t218 := Try.underlying166
  a218 := Try.isAgg166
  z218 := Try.sizeOf166
  v218 := Try.zeroValue166
  t222 := Try.underlying169
  a222 := Try.isAgg169
  z222 := Try.sizeOf169
  v222 := Try.zeroValue169
  t228 := Try.underlying172
  a228 := Try.isAgg172
  z228 := Try.sizeOf172
  v228 := Try.zeroValue172
  t229 := Try.underlying173
  a229 := Try.isAgg173
  z229 := Try.sizeOf173
  v229 := Try.zeroValue173 }
open Go.Sort Go.RowKit in
theorem Try.slices_Sort_int (blk off cap : Nat) (zs : List Int) (w : World) (hH : Holds (Value.int .i64) w blk off zs.toArray) (hblk : blk < w.heap.size) (hsz : zs.length < 4611686018427387904) :
    Calls Try.prog 56 #[.slice (some ⟨blk, off, none⟩) zs.length cap] w fun e w' =>
      e = .returned (.tuple #[]) ∧ ∃ n os, w' = grow (putRow (Value.int .i64) (Sort.ahead w n) blk off (zs.mergeSort fun x y => decide (x ≤ y)).toArray) os := Any.slices_Sort_int Try.lays189 blk off cap zs w hH hblk hsz
open Go.RowKit Go.Sort in
/-- .. and plain. (LAID: no walk: one application.) -/
theorem Try.slices_Sort_int_none (p : Option Addr) (cap : Nat) (w : World) :
    Calls Try.prog 56 #[.slice p 0 cap] w fun e w' => e = .returned (.tuple #[]) ∧ w' = w := Any.slices_Sort_int_none Try.lays189 p cap w
end
section
open Go Go.RowKit
def sortL (xs : List Int) : List Int := xs.mergeSort fun x y => decide (x ≤ y)
theorem sortL_length (xs : List Int) : (sortL xs).length = xs.length := List.length_mergeSort xs
theorem chunks_int_eq {w : World} {F : Nat → Prop} : ∀ {xs : List Int} {cells : List Value}, Chunks w F cells xs → cells = xs.map (Value.int .i64) ∧ ∀ x ∈ xs, inI64 x
  | [], _, h => ⟨h, fun _ hx => by simp at hx⟩
  | x :: xs, cells, ⟨cs, rest, he, hr, hc⟩ => by
    obtain ⟨h1, h2⟩ := chunks_int_eq hc
    obtain ⟨h3, h4⟩ := hr
    refine ⟨by rw [he, h3, h1]; rfl, fun y hy => ?_⟩
    rcases List.mem_cons.1 hy with rfl | hy
    · exact h4
    · exact h2 y hy
theorem chunks_int_mk {w : World} {F : Nat → Prop} : ∀ {xs : List Int}, (∀ x ∈ xs, inI64 x) → Chunks w F (xs.map (Value.int .i64)) xs
  | [], _ => rfl
  | x :: xs, h => ⟨[.int .i64 x], xs.map (Value.int .i64), rfl, ⟨rfl, h x (by simp)⟩, chunks_int_mk fun y hy => h y (by simp [hy])⟩
theorem sortInts {w : World} {base : Nat} {F : Nat → Prop} {v : Value} {xs : List Int} (h : Own w base F 3 v xs) (hl : xs.length ≤ 1000000) :
    Fn Try.prog 56 [v] w fun r w' => r = .tuple #[] ∧ Own w' base F 3 v (sortL xs) ∧ Kept w w' v := by
  intro d
  rcases Nat.eq_zero_or_pos xs.length with h0 | h0
  · have hx : xs = [] := List.eq_nil_of_length_eq_zero h0
    subst hx
    have hv : ∃ p c, v = .slice p 0 c := by
      obtain ⟨cells, h1, _⟩ := h
      rcases h1.2 with ⟨rfl, _⟩ | ⟨g, cap, cur, rfl, _⟩
      · exact ⟨_, _, rfl⟩
      · exact ⟨_, _, rfl⟩
    obtain ⟨p, c, rfl⟩ := hv
    refine (Try.slices_Sort_int_none p c (dr w d)).mono fun e w' ⟨he, hw⟩ => ⟨_, w, d, he, hw, rfl, by simpa [sortL] using h, ⟨rfl, rfl, rfl, Nat.le_refl _, fun _ _ _ => rfl⟩⟩
  · obtain ⟨g, cap, cells, sp, rfl, hg, hFg, hb, hc, hlen, hnc, hcm, htot⟩ := h.open h0
    obtain ⟨rfl, hin⟩ := chunks_int_eq hc
    have hH : Go.Sort.Holds (Value.int .i64) (dr w d) g 0 xs.toArray := fun j hj => by
      have hj' : j < xs.length := by simpa using hj
      refine ⟨?_, by rw [Nat.zero_add]; exact hb.frozen j⟩
      rw [Nat.zero_add]
      refine hb.cell ?_
      rw [List.getElem?_append_left (by simpa using hj'), List.getElem?_map, List.getElem?_eq_getElem hj']
      simp [hj']
    refine (Try.slices_Sort_int g 0 cap xs (dr w d) hH hb.lt (by omega)).mono fun e w' ⟨he, n, os, hw⟩ => ⟨_, w', w'.drawn, he, rfl, rfl, ?_, ?_⟩
    · have hblk : Blk w' g 3 ((sortL xs).map (Value.int .i64) ++ sp) := by
        subst hw
        unfold Blk at hb ⊢
        have hsz : g < w.heap.size := Blk.lt hb
        show ((w.heap.modify g _) ++ os)[g]? = _
        rw [Array.getElem?_append_left (by simpa using hsz), Array.getElem?_modify, if_pos rfl, hb]
        simp only [Option.map_some, Go.Sort.onCells]
        congr 2
        apply Array.ext
        · simp [Go.Sort.putCells, sortL_length]
        · intro i h1 h2
          simp only [Go.Sort.putCells, Array.getElem_mapIdx, Nat.zero_add, Nat.sub_zero, Nat.zero_le, true_and]
          have e1 : (List.mergeSort xs fun x y => decide (x ≤ y)).length = xs.length := List.length_mergeSort xs
          by_cases hi : i < xs.length
          · rw [if_pos (by simpa [e1] using hi)]
            simp only [List.getElem_toArray]
            rw [List.getElem_append_left (by simpa [sortL_length] using hi), List.getElem_map]
            congr 1
            rw [getElem!_pos _ _ (by simpa [e1] using hi)]
            simp [sortL]
          · rw [if_neg (by simpa [e1] using hi)]
            simp only [List.getElem_toArray]
            rw [List.getElem_append_right (by simp; omega), List.getElem_append_right (by simp [sortL_length]; omega)]
            simp [sortL_length]
      have := Own.close (w := w') (base := base) (cap := cap) hg hFg hblk (chunks_int_mk (F := F) (w := w') fun x hx => hin x (by
        have := (List.mergeSort_perm xs fun x y => decide (x ≤ y)).mem_iff.1 hx
        exact this)) (by rw [sortL_length]; exact hnc) hcm (by simpa [sortL_length] using htot)
      rwa [sortL_length] at this
    · subst hw
      refine ⟨rfl, rfl, rfl, ?_, fun k hk hne => ?_⟩
      · show w.heap.size ≤ ((w.heap.modify g _) ++ os).size
        simp
      · have hkg : g ≠ k := fun e => hne (by simp [Value.ownBlock, e])
        show ((w.heap.modify g _) ++ os)[k]? = _
        rw [Array.getElem?_append_left (by simpa using hk), Array.getElem?_modify, if_neg hkg]
/-- The same by insertion. -/
def ins1 (a : Int) : List Int → List Int
  | [] => [a]
  | b :: r => if a ≤ b then a :: b :: r else b :: ins1 a r
def insS : List Int → List Int
  | [] => []
  | a :: r => ins1 a (insS r)
theorem ins1_perm (a : Int) : ∀ r, (ins1 a r).Perm (a :: r)
  | [] => .refl _
  | b :: r => by
    simp only [ins1]
    split
    · exact .refl _
    · exact ((ins1_perm a r).cons b).trans (.swap a b r)
theorem insS_perm : ∀ l, (insS l).Perm l
  | [] => .refl _
  | a :: r => (ins1_perm a _).trans ((insS_perm r).cons a)
theorem ins1_sorted (a : Int) : ∀ r, r.Pairwise (· ≤ ·) → (ins1 a r).Pairwise (· ≤ ·)
  | [], _ => by simp [ins1]
  | b :: r, h => by
    simp only [ins1]
    have hb := List.pairwise_cons.1 h
    split
    · rename_i hab
      refine List.pairwise_cons.2 ⟨fun c hc => ?_, h⟩
      rcases List.mem_cons.1 hc with rfl | hc
      · exact hab
      · exact Int.le_trans hab (hb.1 c hc)
    · rename_i hab
      refine List.pairwise_cons.2 ⟨fun c hc => ?_, ins1_sorted a r hb.2⟩
      rcases List.mem_cons.1 ((ins1_perm a r).mem_iff.1 hc) with rfl | hc
      · omega
      · exact hb.1 c hc
theorem insS_sorted : ∀ l, (insS l).Pairwise (· ≤ ·)
  | [] => .nil
  | a :: r => ins1_sorted a _ (insS_sorted r)
theorem sortL_sorted (l : List Int) : (sortL l).Pairwise (· ≤ ·) := by
  have := List.pairwise_mergeSort (le := fun x y : Int => decide (x ≤ y)) (fun a b c h1 h2 => by simp at *; omega) (fun a b => by simp; omega) l
  exact this.imp fun h => by simpa using h
theorem sortL_perm (l : List Int) : (sortL l).Perm l := List.mergeSort_perm l _
theorem sorted_uniq : ∀ {a b : List Int}, a.Pairwise (· ≤ ·) → b.Pairwise (· ≤ ·) → a.Perm b → a = b
  | [], b, _, _, h => by rw [h.nil_eq]
  | x :: a, [], _, _, h => by have := h.length_eq; simp at this
  | x :: a, y :: b, h1, h2, h => by
    have hx := List.pairwise_cons.1 h1
    have hy := List.pairwise_cons.1 h2
    have e : x = y := by
      have hm := h.mem_iff.1 (List.mem_cons_self (a := x) (l := a))
      have hn := h.symm.mem_iff.1 (List.mem_cons_self (a := y) (l := b))
      rcases List.mem_cons.1 hm with e | hm
      · exact e
      · rcases List.mem_cons.1 hn with e | hn
        · exact e.symm
        · have := hx.1 y hn; have := hy.1 x hm; omega
    subst e
    rw [sorted_uniq hx.2 hy.2 (List.perm_cons x |>.1 h)]
theorem sortL_ins (l : List Int) : sortL l = insS l := sorted_uniq (sortL_sorted l) (insS_sorted l) ((sortL_perm l).trans (insS_perm l).symm)
def m_slices_Sort_Lint_int (xs : List Int) : Option (List Int) := if xs.length ≤ 1000000 then some (sortL xs) else none
theorem c_slices_Sort_Lint_int {w : World} {O : Lab} {A0 : Option Addr} {m0 c0 i0 : Nat} {x0 : List Int} (hx0 : Rw i0 w O 3 (.slice A0 m0 c0) x0) {r : List Int} (hm : m_slices_Sort_Lint_int x0 = some r) :
    Fn Try.prog 56 [.slice A0 m0 c0] w fun _ w' => ∃ O', St (eT i0) w O w' O' ∧ Rw i0 w' O' 3 (.slice A0 m0 c0) r := by
  obtain ⟨hl, rfl⟩ := ite_some hm
  refine (sortInts hx0.1 hl).mono fun v w' ⟨_, ho, hK⟩ => ⟨O, ?_, ?_⟩
  · exact ⟨hK.os, hK.tape, hK.output, hK.size, fun k hk hT => ⟨hK.block k hk fun he => hT (hx0.2.1 k he), rfl⟩⟩
  · exact ho.rw (fun k hk => ⟨Nat.lt_of_lt_of_le hk.1 hK.size, hk.2⟩) hx0.2.1 hx0.2.2
end
section
open Go Go.RowKit
/-- An error by its number; 0 is nil. -/
def errV (n : Int) : Value := if n = 0 then .nilIface else .iface 35 (.int .i64 n)
theorem errV_zero : errV 0 = .nilIface := by unfold errV; rfl
theorem errV_pos {n : Int} (h : n ≠ 0) : errV n = .iface 35 (.int .i64 n) := by unfold errV; rw [if_neg h]
theorem errV_one (n : Int) : (errV n).oneCell' = true := by unfold errV; split <;> rfl
structure Err where
  n : Int
instance : Rp Err where
  isAgg := false
  size := 1
  R _ _ cs x := cs = [errV x.n] ∧ inI64 x.n
  len := by rintro w F cs x ⟨rfl, _⟩; rfl
  one := by
    rintro w F cs x ⟨rfl, _⟩ u hu
    have : u = errV x.n := by simpa using hu
    subst this; exact errV_one _
  agree := fun h _ => h
  mono := fun h _ => h
theorem Vb.err {w : World} {F : Nat → Prop} {v : Value} {x : Err} (h : Vb w F v x) : v = errV x.n ∧ inI64 x.n := by
  obtain ⟨h1, h2⟩ := h
  exact ⟨by simpa using h1, h2⟩
theorem vErr {w : World} {F : Nat → Prop} {n : Int} (h : inI64 n) : Vb w F (errV n) (⟨n⟩ : Err) := ⟨rfl, h⟩
end
section
open Go Go.RowKit
section
variable {P : Program} {l : Env} {w : World} {dst : Option Tmp} {ty : TypeId} {pos : String} {aft : Array Edge}
theorem ev_chk_add {t u : TypeId} {x y : Operand} {a b c : Int} (hx : opv l x = some (.int .i64 a)) (hy : opv l y = some (.int .i64 b)) (he : chkI (a + b) = some c) : Ev P ⟨dst, .binOp .add t x y u, ty, pos, aft, none⟩ l w (.int .i64 c) := by
  obtain ⟨rfl, h⟩ := chkI_some he
  exact ev_add hx hy h
theorem ev_chk_sub {t u : TypeId} {x y : Operand} {a b c : Int} (hx : opv l x = some (.int .i64 a)) (hy : opv l y = some (.int .i64 b)) (he : chkI (a - b) = some c) : Ev P ⟨dst, .binOp .sub t x y u, ty, pos, aft, none⟩ l w (.int .i64 c) := by
  obtain ⟨rfl, h⟩ := chkI_some he
  exact ev_sub hx hy h
theorem ev_chk_mul {t u : TypeId} {x y : Operand} {a b c : Int} (hx : opv l x = some (.int .i64 a)) (hy : opv l y = some (.int .i64 b)) (he : chkI (a * b) = some c) : Ev P ⟨dst, .binOp .mul t x y u, ty, pos, aft, none⟩ l w (.int .i64 c) := by
  obtain ⟨rfl, h⟩ := chkI_some he
  exact ev_mul hx hy h
theorem ev_quoE {t u : TypeId} {x y : Operand} {a b c : Int} (hx : opv l x = some (.int .i64 a)) (hy : opv l y = some (.int .i64 b)) (he : quoI a b = some c) (hr : inI64 a) : Ev P ⟨dst, .binOp .quo t x y u, ty, pos, aft, none⟩ l w (.int .i64 c) := by
  obtain ⟨h1, h2, rfl⟩ := quoI_some he
  exact ev_quo hx hy h1 h2 hr.2
theorem ev_iaE {t e : TypeId} [TSlice P t e] {z : Value} {size bytes : Nat} [TInfo P e z size bytes] {x i : Operand} {k : IntKind} {A : Option Addr} {b o m c j : Nat} {q : Int} (hx : opv l x = some (.slice A m c)) (hq : opv l i = some (.int k q)) (hA : A = some ⟨b, o, none⟩) (hj : q = (j : Int)) (hlt : j < m) :
    Ev P ⟨dst, .indexAddr t x i, ty, pos, aft, none⟩ l w (.pointer (some ⟨b, o + j * size, none⟩)) := by
  subst hA
  exact ev_indexAddr hx hq hj hlt
theorem ev_miE {x : Operand} {n : Int} [TInt P 35 .i64] (hx : opv l x = some (.int .i64 n)) (hn : n ≠ 0) : Ev P ⟨dst, .makeInterface 35 x, ty, pos, aft, none⟩ l w (errV n) := by
  rw [errV_pos hn]
  exact ev_mkiface hx
theorem ev_errE {t u : TypeId} [TIface P t] {x : Operand} {n : Int} (hx : opv l x = some (errV n)) : Ev P ⟨dst, .binOp .eql t x (.const .nilIface) u, ty, pos, aft, none⟩ l w (.bool (decide (n = 0))) := by
  by_cases h : n = 0
  · subst h
    rw [errV_zero] at hx
    exact ev_errnil hx
  · rw [errV_pos h] at hx
    simpa [h] using ev_errnil' (P := P) (w := w) (dst := dst) (ty := ty) (pos := pos) (aft := aft) (t := t) (u := u) hx
theorem ev_errN {t u : TypeId} [TIface P t] {x : Operand} {n : Int} (hx : opv l x = some (errV n)) : Ev P ⟨dst, .binOp .neq t x (.const .nilIface) u, ty, pos, aft, none⟩ l w (.bool (decide (n ≠ 0))) := by
  by_cases h : n = 0
  · subst h
    rw [errV_zero] at hx
    exact ev_errnnil hx
  · rw [errV_pos h] at hx
    simpa [h] using ev_errnnil' (P := P) (w := w) (dst := dst) (ty := ty) (pos := pos) (aft := aft) (t := t) (u := u) hx
end
section
variable {P : Program} {n : Nat} {ops : Array Oper} {Q : Post} {rest : List Oper} {l : Env} {w : World} {d : Tmp} {ty : TypeId} {pos : String} {aft : Array Edge}
theorem o_adE {t u : TypeId} {x y : Operand} {a b c : Int} (hx : opv l x = some (.int .i64 a)) (hy : opv l y = some (.int .i64 b)) (hd : Nat.blt d n = true) (h : owp P n ops Q rest ((d, .int .i64 c) :: l) w) (he : chkI (a + b) = some c := by assumption) : owp P n ops Q (⟨some d, .binOp .add t x y u, ty, pos, aft, none⟩ :: rest) l w := owp_ev (ev_chk_add hx hy he) hd h
theorem o_sbE {t u : TypeId} {x y : Operand} {a b c : Int} (hx : opv l x = some (.int .i64 a)) (hy : opv l y = some (.int .i64 b)) (hd : Nat.blt d n = true) (h : owp P n ops Q rest ((d, .int .i64 c) :: l) w) (he : chkI (a - b) = some c := by assumption) : owp P n ops Q (⟨some d, .binOp .sub t x y u, ty, pos, aft, none⟩ :: rest) l w := owp_ev (ev_chk_sub hx hy he) hd h
theorem o_mlE {t u : TypeId} {x y : Operand} {a b c : Int} (hx : opv l x = some (.int .i64 a)) (hy : opv l y = some (.int .i64 b)) (hd : Nat.blt d n = true) (h : owp P n ops Q rest ((d, .int .i64 c) :: l) w) (he : chkI (a * b) = some c := by assumption) : owp P n ops Q (⟨some d, .binOp .mul t x y u, ty, pos, aft, none⟩ :: rest) l w := owp_ev (ev_chk_mul hx hy he) hd h
theorem o_quE {t u : TypeId} {x y : Operand} {a b c : Int} (hx : opv l x = some (.int .i64 a)) (hy : opv l y = some (.int .i64 b)) (hd : Nat.blt d n = true) (h : owp P n ops Q rest ((d, .int .i64 c) :: l) w) (he : quoI a b = some c := by assumption) (hr : inI64 a := by assumption) : owp P n ops Q (⟨some d, .binOp .quo t x y u, ty, pos, aft, none⟩ :: rest) l w := owp_ev (ev_quoE hx hy he hr) hd h
theorem o_iaE {t e : TypeId} [TSlice P t e] {z : Value} {size bytes : Nat} [TInfo P e z size bytes] {x i : Operand} {k : IntKind} {A : Option Addr} {b o m c j : Nat} {q : Int} (hx : opv l x = some (.slice A m c)) (hq : opv l i = some (.int k q)) (hd : Nat.blt d n = true) (h : owp P n ops Q rest ((d, .pointer (some ⟨b, o + j * size, none⟩)) :: l) w) (hA : A = some ⟨b, o, none⟩ := by assumption) (hj : q = (j : Int) := by rfl) (hlt : j < m := by assumption) : owp P n ops Q (⟨some d, .indexAddr t x i, ty, pos, aft, none⟩ :: rest) l w := owp_ev (ev_iaE hx hq hA hj hlt) hd h
theorem o_cutH {t e : TypeId} [TSlice P t e] {z : Value} {size bytes : Nat} [TInfo P e z size bytes] {A A' : Option Addr} {m c m' c' : Nat} {q : Int} {k : IntKind} {x y : Operand} (hx : opv l x = some (.slice A m c)) (hy : opv l y = some (.int k q)) (hd : Nat.blt d n = true) (h : owp P n ops Q rest ((d, .slice A' m' c') :: l) w) (hc : CutB size A m c 0 q A' m' c' := by assumption) : owp P n ops Q (⟨some d, .slice t x none (some y) none, ty, pos, aft, none⟩ :: rest) l w := owp_ev (ev_cutH hx hy hc) hd h
theorem o_miE [TInt P 35 .i64] {x : Operand} {q : Int} (hx : opv l x = some (.int .i64 q)) (hd : Nat.blt d n = true) (h : owp P n ops Q rest ((d, errV q) :: l) w) (hn : q ≠ 0 := by decide) : owp P n ops Q (⟨some d, .makeInterface 35 x, ty, pos, aft, none⟩ :: rest) l w := owp_ev (ev_miE hx hn) hd h
theorem o_erS {t u : TypeId} [TIface P t] {x : Operand} {k : Int} (hx : opv l x = some (errV k)) (hd : Nat.blt d n = true) (ht : k = 0 → owp P n ops Q rest ((d, .bool true) :: l) w) (hf : ¬ (k = 0) → owp P n ops Q rest ((d, .bool false) :: l) w) : owp P n ops Q (⟨some d, .binOp .eql t x (.const .nilIface) u, ty, pos, aft, none⟩ :: rest) l w := owp_split (ev_errE hx) hd ht hf
theorem o_rnS {t u : TypeId} [TIface P t] {x : Operand} {k : Int} (hx : opv l x = some (errV k)) (hd : Nat.blt d n = true) (ht : k ≠ 0 → owp P n ops Q rest ((d, .bool true) :: l) w) (hf : ¬ (k ≠ 0) → owp P n ops Q rest ((d, .bool false) :: l) w) : owp P n ops Q (⟨some d, .binOp .neq t x (.const .nilIface) u, ty, pos, aft, none⟩ :: rest) l w := owp_split (ev_errN hx) hd ht hf
variable {S : World → Prop} {r : List (Nat × Bool)} {i : Nat}
theorem h_adE {t u : TypeId} {x y : Operand} {a b c : Int} (hi : ops[i]? = some ⟨some d, .binOp .add t x y u, ty, pos, aft, none⟩) (hx : opv l x = some (.int .i64 a)) (hy : opv l y = some (.int .i64 b)) (hd : Nat.blt d n = true) (h : hwp P n ops Q S r ((d, .int .i64 c) :: l) w) (he : chkI (a + b) = some c := by assumption) : hwp P n ops Q S ((i, true) :: r) l w := hwp_o hi (hwq_ev (fun _ _ => ev_chk_add hx hy he) hd h)
theorem g_adE {t u : TypeId} {x y : Operand} {a b c : Int} (hx : opv l x = some (.int .i64 a)) (hy : opv l y = some (.int .i64 b)) (hd : Nat.blt d n = true) (h : hwp P n ops Q S r ((d, .int .i64 c) :: l) w) (he : chkI (a + b) = some c := by assumption) : hwq P n ops Q S ⟨some d, .binOp .add t x y u, ty, pos, aft, none⟩ r l w := hwq_ev (fun _ _ => ev_chk_add hx hy he) hd h
theorem h_sbE {t u : TypeId} {x y : Operand} {a b c : Int} (hi : ops[i]? = some ⟨some d, .binOp .sub t x y u, ty, pos, aft, none⟩) (hx : opv l x = some (.int .i64 a)) (hy : opv l y = some (.int .i64 b)) (hd : Nat.blt d n = true) (h : hwp P n ops Q S r ((d, .int .i64 c) :: l) w) (he : chkI (a - b) = some c := by assumption) : hwp P n ops Q S ((i, true) :: r) l w := hwp_o hi (hwq_ev (fun _ _ => ev_chk_sub hx hy he) hd h)
theorem h_mlE {t u : TypeId} {x y : Operand} {a b c : Int} (hi : ops[i]? = some ⟨some d, .binOp .mul t x y u, ty, pos, aft, none⟩) (hx : opv l x = some (.int .i64 a)) (hy : opv l y = some (.int .i64 b)) (hd : Nat.blt d n = true) (h : hwp P n ops Q S r ((d, .int .i64 c) :: l) w) (he : chkI (a * b) = some c := by assumption) : hwp P n ops Q S ((i, true) :: r) l w := hwp_o hi (hwq_ev (fun _ _ => ev_chk_mul hx hy he) hd h)
theorem h_iaE {t e : TypeId} [TSlice P t e] {z : Value} {size bytes : Nat} [TInfo P e z size bytes] {x i' : Operand} {k : IntKind} {A : Option Addr} {b o m c j : Nat} {q : Int} (hi : ops[i]? = some ⟨some d, .indexAddr t x i', ty, pos, aft, none⟩) (hx : opv l x = some (.slice A m c)) (hq : opv l i' = some (.int k q)) (hd : Nat.blt d n = true) (h : hwp P n ops Q S r ((d, .pointer (some ⟨b, o + j * size, none⟩)) :: l) w) (hA : A = some ⟨b, o, none⟩ := by assumption) (hj : q = (j : Int) := by rfl) (hlt : j < m := by assumption) : hwp P n ops Q S ((i, true) :: r) l w := hwp_o hi (hwq_ev (fun _ _ => ev_iaE hx hq hA hj hlt) hd h)
theorem g_iaE {t e : TypeId} [TSlice P t e] {z : Value} {size bytes : Nat} [TInfo P e z size bytes] {x i' : Operand} {k : IntKind} {A : Option Addr} {b o m c j : Nat} {q : Int} (hx : opv l x = some (.slice A m c)) (hq : opv l i' = some (.int k q)) (hd : Nat.blt d n = true) (h : hwp P n ops Q S r ((d, .pointer (some ⟨b, o + j * size, none⟩)) :: l) w) (hA : A = some ⟨b, o, none⟩ := by assumption) (hj : q = (j : Int) := by rfl) (hlt : j < m := by assumption) : hwq P n ops Q S ⟨some d, .indexAddr t x i', ty, pos, aft, none⟩ r l w := hwq_ev (fun _ _ => ev_iaE hx hq hA hj hlt) hd h
end
end
section
open Go Go.RowKit
abbrev U64 := BitVec 64
instance : Rp U64 where
  isAgg := false
  size := 1
  R _ _ cs x := cs = [.int .u64 (x.toNat : Int)]
  len := by rintro w F cs x rfl; rfl
  one := by
    rintro w F cs x rfl u hu
    have : u = .int .u64 (x.toNat : Int) := by simpa using hu
    subst this; rfl
  agree := fun h _ => h
  mono := fun h _ => h
theorem Vb.u64 {w : World} {F : Nat → Prop} {v : Value} {x : U64} (h : Vb w F v x) : v = .int .u64 (x.toNat : Int) := by
  have : [v] = [.int .u64 (x.toNat : Int)] := h
  simpa using this
theorem vU64 {w : World} {F : Nat → Prop} {x : U64} : Vb w F (.int .u64 (x.toNat : Int)) x := rfl
theorem wrapU (a : Int) : IntKind.u64.wrap a = a % 18446744073709551616 := by simp [IntKind.wrap, IntKind.bits, IntKind.signed]
theorem wrapN (x : BitVec 64) : IntKind.u64.wrap (x.toNat : Int) = (x.toNat : Int) := by
  rw [wrapU]
  have := x.isLt
  omega
theorem ofIntU (x : U64) : BitVec.ofInt 64 (x.toNat : Int) = x := by simp
def shlU (a : U64) (q : Int) : Option U64 := if 0 ≤ q then some (a <<< q.toNat) else none
def shrU (a : U64) (q : Int) : Option U64 := if 0 ≤ q then some (a >>> q.toNat) else none
def shlI (a q : Int) : Option Int := if 0 ≤ q then some (wr (a * 2 ^ (min q.toNat 64))) else none
theorem shlI_rng {a q c : Int} (h : shlI a q = some c) : inI64 c := by
  unfold shlI at h
  split at h
  · rw [← sm h]; exact wr_rng _
  · cases h
theorem toIntR (a : U64) : inI64 a.toInt := by
  have h1 := BitVec.toInt_lt (x := a)
  have h2 := BitVec.le_toInt (x := a)
  simp at h1 h2
  exact ⟨by omega, by omega⟩
section
variable {P : Program} {l : Env} {w : World} {dst : Option Tmp} {ty : TypeId} {pos : String} {aft : Array Edge}
theorem ev_uan {t u : TypeId} {x y : Operand} {a b : U64} (hx : opv l x = some (.int .u64 (a.toNat : Int))) (hy : opv l y = some (.int .u64 (b.toNat : Int))) : Ev P ⟨dst, .binOp .and t x y u, ty, pos, aft, none⟩ l w (.int .u64 ((a &&& b).toNat : Int)) := fun _ _ d ha => by
  have h := wrapN (a &&& b)
  have h1 : (BitVec.ofInt IntKind.u64.bits (a.toNat : Int)) = a := ofIntU a
  have h2 : (BitVec.ofInt IntKind.u64.bits (b.toNat : Int)) = b := ofIntU b
  simp only [execOp, ha.eval hx, ha.eval hy, eqGuard, binOp, Op.intBits, h1, h2]
  simp
  exact h.trans (by simp)
theorem ev_uor {t u : TypeId} {x y : Operand} {a b : U64} (hx : opv l x = some (.int .u64 (a.toNat : Int))) (hy : opv l y = some (.int .u64 (b.toNat : Int))) : Ev P ⟨dst, .binOp .or t x y u, ty, pos, aft, none⟩ l w (.int .u64 ((a ||| b).toNat : Int)) := fun _ _ d ha => by
  have h := wrapN (a ||| b)
  have h1 : (BitVec.ofInt IntKind.u64.bits (a.toNat : Int)) = a := ofIntU a
  have h2 : (BitVec.ofInt IntKind.u64.bits (b.toNat : Int)) = b := ofIntU b
  simp only [execOp, ha.eval hx, ha.eval hy, eqGuard, binOp, Op.intBits, h1, h2]
  simp
  exact h.trans (by simp)
theorem ev_uxo {t u : TypeId} {x y : Operand} {a b : U64} (hx : opv l x = some (.int .u64 (a.toNat : Int))) (hy : opv l y = some (.int .u64 (b.toNat : Int))) : Ev P ⟨dst, .binOp .xor t x y u, ty, pos, aft, none⟩ l w (.int .u64 ((a ^^^ b).toNat : Int)) := fun _ _ d ha => by
  have h := wrapN (a ^^^ b)
  have h1 : (BitVec.ofInt IntKind.u64.bits (a.toNat : Int)) = a := ofIntU a
  have h2 : (BitVec.ofInt IntKind.u64.bits (b.toNat : Int)) = b := ofIntU b
  simp only [execOp, ha.eval hx, ha.eval hy, eqGuard, binOp, Op.intBits, h1, h2]
  simp
  exact h.trans (by simp)
theorem ev_uns {t u : TypeId} {x y : Operand} {a b : U64} (hx : opv l x = some (.int .u64 (a.toNat : Int))) (hy : opv l y = some (.int .u64 (b.toNat : Int))) : Ev P ⟨dst, .binOp .andNot t x y u, ty, pos, aft, none⟩ l w (.int .u64 ((a &&& ~~~b).toNat : Int)) := fun _ _ d ha => by
  have h := wrapN (a &&& ~~~b)
  have h1 : (BitVec.ofInt IntKind.u64.bits (a.toNat : Int)) = a := ofIntU a
  have h2 : (BitVec.ofInt IntKind.u64.bits (b.toNat : Int)) = b := ofIntU b
  simp only [execOp, ha.eval hx, ha.eval hy, eqGuard, binOp, Op.intBits, h1, h2]
  simp
  exact h.trans (by simp)
theorem ev_uad {t u : TypeId} {x y : Operand} {a b : U64} (hx : opv l x = some (.int .u64 (a.toNat : Int))) (hy : opv l y = some (.int .u64 (b.toNat : Int))) : Ev P ⟨dst, .binOp .add t x y u, ty, pos, aft, none⟩ l w (.int .u64 ((a + b).toNat : Int)) := fun _ _ d ha => by
  have h : IntKind.u64.wrap ((a.toNat : Int) + (b.toNat : Int)) = ((a + b).toNat : Int) := by
    rw [wrapU]
    have h1 := a.isLt
    have h2 := b.isLt
    rw [BitVec.toNat_add]; omega
  simp [execOp, ha.eval hx, ha.eval hy, eqGuard, binOp, Op.intArith, h]
theorem ev_usb {t u : TypeId} {x y : Operand} {a b : U64} (hx : opv l x = some (.int .u64 (a.toNat : Int))) (hy : opv l y = some (.int .u64 (b.toNat : Int))) : Ev P ⟨dst, .binOp .sub t x y u, ty, pos, aft, none⟩ l w (.int .u64 ((a - b).toNat : Int)) := fun _ _ d ha => by
  have h : IntKind.u64.wrap ((a.toNat : Int) - (b.toNat : Int)) = ((a - b).toNat : Int) := by
    rw [wrapU]
    have h1 := a.isLt
    have h2 := b.isLt
    rw [BitVec.toNat_sub]; omega
  simp [execOp, ha.eval hx, ha.eval hy, eqGuard, binOp, Op.intArith, h]
theorem ev_uml {t u : TypeId} {x y : Operand} {a b : U64} (hx : opv l x = some (.int .u64 (a.toNat : Int))) (hy : opv l y = some (.int .u64 (b.toNat : Int))) : Ev P ⟨dst, .binOp .mul t x y u, ty, pos, aft, none⟩ l w (.int .u64 ((a * b).toNat : Int)) := fun _ _ d ha => by
  have h : IntKind.u64.wrap ((a.toNat : Int) * (b.toNat : Int)) = ((a * b).toNat : Int) := by
    rw [wrapU]
    have h1 := a.isLt
    have h2 := b.isLt
    rw [BitVec.toNat_mul, Int.natCast_emod, Int.natCast_mul]; rfl
  simp [execOp, ha.eval hx, ha.eval hy, eqGuard, binOp, Op.intArith, h]
theorem ev_ush {t u : TypeId} {x y : Operand} {a c : U64} {q : Int} {k : IntKind} (hx : opv l x = some (.int .u64 (a.toNat : Int))) (hy : opv l y = some (.int k q)) (he : shlU a q = some c) : Ev P ⟨dst, .binOp .shl t x y u, ty, pos, aft, none⟩ l w (.int .u64 (c.toNat : Int)) := fun _ _ d ha => by
  unfold shlU at he
  split at he
  · rename_i hq
    have hc := sm he
    subst hc
    have h : IntKind.u64.wrap ((a.toNat : Int) * 2 ^ (min q.toNat IntKind.u64.bits)) = ((a <<< q.toNat).toNat : Int) := by
      rw [wrapU, BitVec.toNat_shiftLeft, Nat.shiftLeft_eq]
      show (a.toNat : Int) * 2 ^ (min q.toNat 64) % 18446744073709551616 = ((a.toNat * 2 ^ q.toNat % 18446744073709551616 : Nat) : Int)
      by_cases hk : q.toNat ≤ 64
      · rw [Nat.min_eq_left hk, Int.natCast_emod, Int.natCast_mul, Int.natCast_pow]; rfl
      · have hb : q.toNat = 64 + (q.toNat - 64) := by omega
        rw [Nat.min_eq_right (by omega), hb, Nat.pow_add]
        have e1 : a.toNat * (2 ^ 64 * 2 ^ (q.toNat - 64)) % 18446744073709551616 = 0 := by
          rw [← Nat.mul_assoc, Nat.mul_right_comm]
          exact Nat.mul_mod_left _ _
        have e2 : (a.toNat : Int) * 2 ^ 64 % 18446744073709551616 = 0 := Int.mul_emod_left _ _
        rw [e1, e2]; rfl
    have hn : ¬ q < 0 := by omega
    simp [execOp, ha.eval hx, ha.eval hy, eqGuard, binOp, Op.shift, hn, h]
  · cases he
theorem ev_usr {t u : TypeId} {x y : Operand} {a c : U64} {q : Int} {k : IntKind} (hx : opv l x = some (.int .u64 (a.toNat : Int))) (hy : opv l y = some (.int k q)) (he : shrU a q = some c) : Ev P ⟨dst, .binOp .shr t x y u, ty, pos, aft, none⟩ l w (.int .u64 (c.toNat : Int)) := fun _ _ d ha => by
  unfold shrU at he
  split at he
  · rename_i hq
    have hc := sm he
    subst hc
    have h : (a.toNat : Int).fdiv (2 ^ (min q.toNat IntKind.u64.bits)) = ((a >>> q.toNat).toNat : Int) := by
      rw [BitVec.toNat_ushiftRight, Nat.shiftRight_eq_div_pow]
      show (a.toNat : Int).fdiv (2 ^ (min q.toNat 64)) = _
      have hl := a.isLt
      rw [Int.fdiv_eq_ediv_of_nonneg _ (by exact_mod_cast Nat.zero_le (2 ^ (min q.toNat 64)))]
      by_cases hk : q.toNat ≤ 64
      · rw [Nat.min_eq_left hk, Int.natCast_ediv, Int.natCast_pow]; rfl
      · rw [Nat.min_eq_right (by omega)]
        have e1 : a.toNat / 2 ^ q.toNat = 0 := Nat.div_eq_of_lt (Nat.lt_of_lt_of_le hl (Nat.pow_le_pow_right (by decide) (by omega)))
        rw [e1]
        omega
    have hn : ¬ q < 0 := by omega
    simp [execOp, ha.eval hx, ha.eval hy, eqGuard, binOp, Op.shift, hn, h]
  · cases he
theorem ev_ish {t u : TypeId} {x y : Operand} {a c q : Int} (hx : opv l x = some (.int .i64 a)) (hy : opv l y = some (.int .i64 q)) (he : shlI a q = some c) : Ev P ⟨dst, .binOp .shl t x y u, ty, pos, aft, none⟩ l w (.int .i64 c) := fun _ _ d ha => by
  unfold shlI at he
  split at he
  · rename_i hq
    have hc := sm he
    subst hc
    have hn : ¬ q < 0 := by omega
    simp [execOp, ha.eval hx, ha.eval hy, eqGuard, binOp, Op.shift, hn, wr, IntKind.bits]
  · cases he
theorem ev_cvU {s t : TypeId} {k : IntKind} [hs : TInt P s k] [ht : TInt P t .u64] {x : Operand} {a : Int} (hx : opv l x = some (.int k a)) : Ev P ⟨dst, .convert s t x, ty, pos, aft, none⟩ l w (.int .u64 ((BitVec.ofInt 64 a).toNat : Int)) := fun _ _ d ha => by
  have h : IntKind.u64.wrap a = ((BitVec.ofInt 64 a).toNat : Int) := by
    rw [wrapU, BitVec.toNat_ofInt]
    have : (0 : Int) ≤ a % 18446744073709551616 := by omega
    simp
    omega
  simp [execOp, ha.eval hx, convert, run_underlying hs.eq, run_underlying ht.eq, Conv.intToInt, h]
theorem ev_cvI {s t : TypeId} [hs : TInt P s .u64] [ht : TInt P t .i64] {x : Operand} {a : U64} (hx : opv l x = some (.int .u64 (a.toNat : Int))) : Ev P ⟨dst, .convert s t x, ty, pos, aft, none⟩ l w (.int .i64 a.toInt) := fun _ _ d ha => by
  have h : IntKind.i64.wrap (a.toNat : Int) = a.toInt := by
    rw [IntKind.wrap_i64, BitVec.toInt_eq_toNat_cond]
    have := a.isLt
    split <;> omega
  simp [execOp, ha.eval hx, convert, run_underlying hs.eq, run_underlying ht.eq, Conv.intToInt, h]
end
section
variable {P : Program} {n : Nat} {ops : Array Oper} {Q : Post} {rest : List Oper} {l : Env} {w : World} {d : Tmp} {ty : TypeId} {pos : String} {aft : Array Edge}
theorem o_uxo {t u : TypeId} {x y : Operand} {a b : U64} (hx : opv l x = some (.int .u64 (a.toNat : Int))) (hy : opv l y = some (.int .u64 (b.toNat : Int))) (hd : Nat.blt d n = true) (h : owp P n ops Q rest ((d, .int .u64 ((a ^^^ b).toNat : Int)) :: l) w)  : owp P n ops Q (⟨some d, .binOp .xor t x y u, ty, pos, aft, none⟩ :: rest) l w := owp_ev (ev_uxo hx hy) hd h
theorem o_uad {t u : TypeId} {x y : Operand} {a b : U64} (hx : opv l x = some (.int .u64 (a.toNat : Int))) (hy : opv l y = some (.int .u64 (b.toNat : Int))) (hd : Nat.blt d n = true) (h : owp P n ops Q rest ((d, .int .u64 ((a + b).toNat : Int)) :: l) w)  : owp P n ops Q (⟨some d, .binOp .add t x y u, ty, pos, aft, none⟩ :: rest) l w := owp_ev (ev_uad hx hy) hd h
theorem o_uml {t u : TypeId} {x y : Operand} {a b : U64} (hx : opv l x = some (.int .u64 (a.toNat : Int))) (hy : opv l y = some (.int .u64 (b.toNat : Int))) (hd : Nat.blt d n = true) (h : owp P n ops Q rest ((d, .int .u64 ((a * b).toNat : Int)) :: l) w)  : owp P n ops Q (⟨some d, .binOp .mul t x y u, ty, pos, aft, none⟩ :: rest) l w := owp_ev (ev_uml hx hy) hd h
theorem o_usr {t u : TypeId} {x y : Operand} {a c : U64} {q : Int} {k : IntKind} (hx : opv l x = some (.int .u64 (a.toNat : Int))) (hy : opv l y = some (.int k q)) (hd : Nat.blt d n = true) (h : owp P n ops Q rest ((d, .int .u64 (c.toNat : Int)) :: l) w) (he : shrU a q = some c := by assumption) : owp P n ops Q (⟨some d, .binOp .shr t x y u, ty, pos, aft, none⟩ :: rest) l w := owp_ev (ev_usr hx hy he) hd h
theorem o_ish {t u : TypeId} {x y : Operand} {a c q : Int} (hx : opv l x = some (.int .i64 a)) (hy : opv l y = some (.int .i64 q)) (hd : Nat.blt d n = true) (h : owp P n ops Q rest ((d, .int .i64 c) :: l) w) (he : shlI a q = some c := by assumption) : owp P n ops Q (⟨some d, .binOp .shl t x y u, ty, pos, aft, none⟩ :: rest) l w := owp_ev (ev_ish hx hy he) hd h
theorem o_cvU {s t : TypeId} {k : IntKind} [TInt P s k] [TInt P t .u64] {x : Operand} {a : Int} (hx : opv l x = some (.int k a)) (hd : Nat.blt d n = true) (h : owp P n ops Q rest ((d, .int .u64 ((BitVec.ofInt 64 a).toNat : Int)) :: l) w)  : owp P n ops Q (⟨some d, .convert s t x, ty, pos, aft, none⟩ :: rest) l w := owp_ev (ev_cvU hx) hd h
theorem o_cvI {s t : TypeId} [TInt P s .u64] [TInt P t .i64] {x : Operand} {a : U64} (hx : opv l x = some (.int .u64 (a.toNat : Int))) (hd : Nat.blt d n = true) (h : owp P n ops Q rest ((d, .int .i64 a.toInt) :: l) w)  : owp P n ops Q (⟨some d, .convert s t x, ty, pos, aft, none⟩ :: rest) l w := owp_ev (ev_cvI hx) hd h
variable {S : World → Prop} {r : List (Nat × Bool)} {i : Nat}
theorem h_uan {t u : TypeId} {x y : Operand} {a b : U64} (hi : ops[i]? = some ⟨some d, .binOp .and t x y u, ty, pos, aft, none⟩) (hx : opv l x = some (.int .u64 (a.toNat : Int))) (hy : opv l y = some (.int .u64 (b.toNat : Int))) (hd : Nat.blt d n = true) (h : hwp P n ops Q S r ((d, .int .u64 ((a &&& b).toNat : Int)) :: l) w)  : hwp P n ops Q S ((i, true) :: r) l w := hwp_o hi (hwq_ev (fun _ _ => ev_uan hx hy) hd h)
theorem h_uor {t u : TypeId} {x y : Operand} {a b : U64} (hi : ops[i]? = some ⟨some d, .binOp .or t x y u, ty, pos, aft, none⟩) (hx : opv l x = some (.int .u64 (a.toNat : Int))) (hy : opv l y = some (.int .u64 (b.toNat : Int))) (hd : Nat.blt d n = true) (h : hwp P n ops Q S r ((d, .int .u64 ((a ||| b).toNat : Int)) :: l) w)  : hwp P n ops Q S ((i, true) :: r) l w := hwp_o hi (hwq_ev (fun _ _ => ev_uor hx hy) hd h)
theorem h_uns {t u : TypeId} {x y : Operand} {a b : U64} (hi : ops[i]? = some ⟨some d, .binOp .andNot t x y u, ty, pos, aft, none⟩) (hx : opv l x = some (.int .u64 (a.toNat : Int))) (hy : opv l y = some (.int .u64 (b.toNat : Int))) (hd : Nat.blt d n = true) (h : hwp P n ops Q S r ((d, .int .u64 ((a &&& ~~~b).toNat : Int)) :: l) w)  : hwp P n ops Q S ((i, true) :: r) l w := hwp_o hi (hwq_ev (fun _ _ => ev_uns hx hy) hd h)
theorem h_usb {t u : TypeId} {x y : Operand} {a b : U64} (hi : ops[i]? = some ⟨some d, .binOp .sub t x y u, ty, pos, aft, none⟩) (hx : opv l x = some (.int .u64 (a.toNat : Int))) (hy : opv l y = some (.int .u64 (b.toNat : Int))) (hd : Nat.blt d n = true) (h : hwp P n ops Q S r ((d, .int .u64 ((a - b).toNat : Int)) :: l) w)  : hwp P n ops Q S ((i, true) :: r) l w := hwp_o hi (hwq_ev (fun _ _ => ev_usb hx hy) hd h)
theorem h_ush {t u : TypeId} {x y : Operand} {a c : U64} {q : Int} {k : IntKind} (hi : ops[i]? = some ⟨some d, .binOp .shl t x y u, ty, pos, aft, none⟩) (hx : opv l x = some (.int .u64 (a.toNat : Int))) (hy : opv l y = some (.int k q)) (hd : Nat.blt d n = true) (h : hwp P n ops Q S r ((d, .int .u64 (c.toNat : Int)) :: l) w) (he : shlU a q = some c := by assumption) : hwp P n ops Q S ((i, true) :: r) l w := hwp_o hi (hwq_ev (fun _ _ => ev_ush hx hy he) hd h)
theorem h_usr {t u : TypeId} {x y : Operand} {a c : U64} {q : Int} {k : IntKind} (hi : ops[i]? = some ⟨some d, .binOp .shr t x y u, ty, pos, aft, none⟩) (hx : opv l x = some (.int .u64 (a.toNat : Int))) (hy : opv l y = some (.int k q)) (hd : Nat.blt d n = true) (h : hwp P n ops Q S r ((d, .int .u64 (c.toNat : Int)) :: l) w) (he : shrU a q = some c := by assumption) : hwp P n ops Q S ((i, true) :: r) l w := hwp_o hi (hwq_ev (fun _ _ => ev_usr hx hy he) hd h)
theorem h_cvU {s t : TypeId} {k : IntKind} [TInt P s k] [TInt P t .u64] {x : Operand} {a : Int} (hi : ops[i]? = some ⟨some d, .convert s t x, ty, pos, aft, none⟩) (hx : opv l x = some (.int k a)) (hd : Nat.blt d n = true) (h : hwp P n ops Q S r ((d, .int .u64 ((BitVec.ofInt 64 a).toNat : Int)) :: l) w)  : hwp P n ops Q S ((i, true) :: r) l w := hwp_o hi (hwq_ev (fun _ _ => ev_cvU hx) hd h)
theorem h_cvI {s t : TypeId} [TInt P s .u64] [TInt P t .i64] {x : Operand} {a : U64} (hi : ops[i]? = some ⟨some d, .convert s t x, ty, pos, aft, none⟩) (hx : opv l x = some (.int .u64 (a.toNat : Int))) (hd : Nat.blt d n = true) (h : hwp P n ops Q S r ((d, .int .i64 a.toInt) :: l) w)  : hwp P n ops Q S ((i, true) :: r) l w := hwp_o hi (hwq_ev (fun _ _ => ev_cvI hx) hd h)
end
end
section
open Go Go.RowKit
attribute [local irreducible] ewp owp hwp hwq Ev Evg Fn retPost Res1
def hasB (s : List Int) (x : Fct) : Bool := decide (0 ≤ x.var) && decide (s[x.var.toNat]? = some x.val)
def holdsB (f : List Fct) (s : List Int) : Bool := f.all (hasB s)
theorem holdsB_no {f : List Fct} {s : List Int} {k : Nat} {x : Fct} (hx : f[k]? = some x) (h : hasB s x = false) : holdsB f s = false := by
  unfold holdsB
  rw [List.all_eq_false]
  exact ⟨x, List.mem_of_getElem? hx, by simp [h]⟩
theorem holdsB_step {f : List Fct} {s : List Int} {k : Nat} {x : Fct} (hx : f[k]? = some x) (h : hasB s x = true) (hh : holdsB (f.take k) s = true) : holdsB (f.take (k + 1)) s = true := by
  unfold holdsB at *
  rw [List.take_add_one, hx, List.all_append, hh]
  simp [h]
theorem hasB_eq {s : List Int} {x : Fct} {j : Nat} {y : Int} (hj : x.var = (j : Int)) (hy : s[j]? = some y) : hasB s x = decide (y = x.val) := by
  unfold hasB
  rw [hj]; simp [hy]
theorem some_of_lt {α : Type} {l : List α} {k : Nat} (h : k < l.length) : ∃ x, l[k]? = some x := ⟨l[k], List.getElem?_eq_getElem h⟩
theorem lt_of_some {α : Type} {l : List α} {k : Nat} {x : α} (h : l[k]? = some x) : k < l.length := (List.getElem?_eq_some_iff.1 h).1
theorem baseHolds {w : World} {fv sv : Value} {f : List Fct} {s : List Int} (hf : V w fv f) (hs : V w sv s) :
    Fn Try.prog 19 [fv, sv] w fun v w' => v = .bool (bof (holdsB f s = true)) ∧ Ext w w' := by
  obtain ⟨Af, cf, rfl⟩ := hf.form
  obtain ⟨As, cs, rfl⟩ := hs.form
  have hfl := hf.len
  refine fn_enter Try.func19 rfl Try.ntmps19 rfl ?_
  ((repeat (first | refine ewp_seq ?_ | refine ewp_block ?_ | refine ewp_region ?_ | refine ewp_skip ?_ | refine ewp_exit ?_ | refine ewp_ret ?_ | refine ewp_true rfl ?_ | refine ewp_false rfl ?_)) <;> (refine o_as rfl rfl ?_ <;> (first | refine owp_nilT ?_ | refine owp_nilB ?_ | refine owp_nilBB ?_ | refine owp_nil ?_)) <;> (repeat (first | refine ewp_seq ?_ | refine ewp_block ?_ | refine ewp_region ?_ | refine ewp_skip ?_ | refine ewp_exit ?_ | refine ewp_ret ?_ | refine ewp_true rfl ?_ | refine ewp_false rfl ?_)) <;> (refine o_mv rfl rfl ?_ <;> refine o_ln rfl rfl ?_ <;> refine o_mv rfl rfl ?_ <;> (first | refine owp_nilT ?_ | refine owp_nilB ?_ | refine owp_nilBB ?_ | refine owp_nil ?_)) <;> (repeat (first | refine ewp_seq ?_ | refine ewp_block ?_ | refine ewp_region ?_ | refine ewp_skip ?_ | refine ewp_exit ?_ | refine ewp_ret ?_ | refine ewp_true rfl ?_ | refine ewp_false rfl ?_)))
  refine ewp_for (fun k : Nat => [(1, .slice As s.length cs), (7, .slice Af f.length cf), (8, .int .i64 (f.length : Int)), (9, .int .i64 (k : Int))])
    (fun k w' => Ext w w' ∧ k ≤ f.length ∧ holdsB (f.take k) s = true) (fun k => f.length - k) 0 ⟨Below.refl _ _, Nat.zero_le _, rfl⟩ ⟨rfl, rfl, rfl, rfl, trivial⟩ ?_
  rintro k w1 ⟨hE, hk, hh⟩
  by_cases hlt : k < f.length
  · obtain ⟨x, hx⟩ := some_of_lt hlt
    obtain ⟨b, o, ce, rfl, hb, _, hd1, rfl, hr1, hr2⟩ := (hf.ext hE).elem hx
    ((repeat (first | refine ewp_seq ?_ | refine ewp_block ?_ | refine ewp_region ?_ | refine ewp_skip ?_ | refine ewp_exit ?_ | refine ewp_ret ?_ | refine ewp_true rfl ?_ | refine ewp_false rfl ?_)) <;> ((first | refine o_ltT rfl rfl rfl ?_ | refine o_ltF rfl rfl rfl ?_) <;> (first | refine owp_nilT ?_ | refine owp_nilB ?_ | refine owp_nilBB ?_ | refine owp_nil ?_)) <;> (repeat (first | refine ewp_seq ?_ | refine ewp_block ?_ | refine ewp_region ?_ | refine ewp_skip ?_ | refine ewp_exit ?_ | refine ewp_ret ?_ | refine ewp_true rfl ?_ | refine ewp_false rfl ?_)) <;> (refine o_ia rfl rfl rfl ?_ <;> refine o_la rfl rfl ?_) <;> (repeat (first | refine ewp_seq ?_ | refine ewp_block ?_ | refine ewp_region ?_ | refine ewp_skip ?_ | refine ewp_exit ?_ | refine ewp_ret ?_ | refine ewp_true rfl ?_ | refine ewp_false rfl ?_)))
    refine owp_local rfl rfl rfl (by simp [Value.cells, Value.oneCell']) fun w3 hN => ?_
    have hb1 := hN.blk
    have hE3 : Ext w w3 := hE.trans' hN.ext
    ((first | refine owp_nilT ?_ | refine owp_nilB ?_ | refine owp_nilBB ?_ | refine owp_nil ?_))
    repeat (first | refine ewp_seq ?_ | refine ewp_block ?_ | refine ewp_region ?_ | refine ewp_skip ?_ | refine ewp_exit ?_ | refine ewp_ret ?_ | refine ewp_true rfl ?_ | refine ewp_false rfl ?_)
    refine ewp_draw (· = w3) [(0, true), (1, true), (2, true), (3, true), (4, true), (5, true), (6, true), (7, true), (8, true), (9, true), (10, true), (11, true), (12, true), (13, true), (14, true), (15, true), (16, true), (17, true), (18, true), (19, true)] (by kernel_rfl) rfl (by kernel_rfl) rfl ?_
    by_cases hv : 0 ≤ x.var ∧ x.var < s.length
    · obtain ⟨j, hj1⟩ := Int.eq_ofNat_of_zero_le hv.1
      obtain ⟨y, hy⟩ := some_of_lt (l := s) (k := j) (by omega)
      obtain ⟨b2, o2, ce2, rfl, _, _, hd2, rfl, _⟩ := (hs.ext hE3).elem hy
      have hq := hasB_eq (s := s) hj1 hy
      (refine h_fa rfl rfl rfl ?_ <;> refine h_ldA rfl rfl rfl ?_ <;> (first | refine h_ltT rfl rfl rfl rfl ?_ | refine h_ltF rfl rfl rfl rfl ?_ | refine h_ltS rfl rfl rfl rfl (fun _ => ?_) fun _ => ?_) <;> refine h_mv rfl rfl rfl ?_ <;> (refine hwp_o rfl ?_; (first | (refine hwq_yes rfl rfl ?_; refine g_fa rfl rfl ?_) | refine hwq_no rfl rfl rfl rfl ?_)) <;> (refine hwp_o rfl ?_; (first | (refine hwq_yes rfl rfl ?_; refine g_ldA rfl rfl ?_) | refine hwq_no rfl rfl rfl rfl ?_)) <;> (refine hwp_o rfl ?_; (first | (refine hwq_yes rfl rfl ?_; refine g_mv rfl rfl ?_) | refine hwq_no rfl rfl rfl rfl ?_)) <;> (refine hwp_o rfl ?_; (first | (refine hwq_yes rfl rfl ?_; refine g_ln rfl rfl ?_) | refine hwq_no rfl rfl rfl rfl ?_)) <;> (refine hwp_o rfl ?_; (first | (refine hwq_yes rfl rfl ?_; (first | refine hwq_dT (fun _ _ => ev_geq rfl rfl) rfl (by omega) ?_ | refine hwq_dF (fun _ _ => ev_geq rfl rfl) rfl (by omega) ?_ | refine hwq_split (fun _ _ => ev_geq rfl rfl) rfl (fun _ => ?_) (fun _ => ?_))) | refine hwq_no rfl rfl rfl rfl ?_)) <;> (first | refine h_pt rfl rfl rfl rfl ?_ | refine h_pf rfl rfl rfl rfl ?_) <;> refine h_mv rfl rfl rfl ?_ <;> (refine hwp_o rfl ?_; (first | (refine hwq_yes rfl rfl ?_; refine g_mv rfl rfl ?_) | refine hwq_no rfl rfl rfl rfl ?_)) <;> (refine hwp_o rfl ?_; (first | (refine hwq_yes rfl rfl ?_; refine g_fa rfl rfl ?_) | refine hwq_no rfl rfl rfl rfl ?_)) <;> (refine hwp_o rfl ?_; (first | (refine hwq_yes rfl rfl ?_; refine g_ldA rfl rfl ?_) | refine hwq_no rfl rfl rfl rfl ?_)) <;> (refine hwp_o rfl ?_; (first | (refine hwq_yes rfl rfl ?_; refine g_ia rfl rfl rfl ?_) | refine hwq_no rfl rfl rfl rfl ?_)) <;> (refine hwp_o rfl ?_; (first | (refine hwq_yes rfl rfl ?_; refine g_ldA rfl rfl ?_) | refine hwq_no rfl rfl rfl rfl ?_)) <;> (refine hwp_o rfl ?_; (first | (refine hwq_yes rfl rfl ?_; refine g_fa rfl rfl ?_) | refine hwq_no rfl rfl rfl rfl ?_)) <;> (refine hwp_o rfl ?_; (first | (refine hwq_yes rfl rfl ?_; refine g_ldA rfl rfl ?_) | refine hwq_no rfl rfl rfl rfl ?_)) <;> (refine hwp_o rfl ?_; (first | (refine hwq_yes rfl rfl ?_; (first | refine hwq_dT (fun _ _ => ev_ne rfl rfl) rfl (by omega) ?_ | refine hwq_dF (fun _ _ => ev_ne rfl rfl) rfl (by omega) ?_ | refine hwq_split (fun _ _ => ev_ne rfl rfl) rfl (fun _ => ?_) (fun _ => ?_))) | refine hwq_no rfl rfl rfl rfl ?_)) <;> (first | refine h_pt rfl rfl rfl rfl ?_ | refine h_pf rfl rfl rfl rfl ?_) <;> (first | refine hwp_nilT ?_ | refine hwp_nilB ?_ | refine hwp_nil ?_)) <;> (repeat (first | refine ewp_seq ?_ | refine ewp_block ?_ | refine ewp_region ?_ | refine ewp_skip ?_ | refine ewp_exit ?_ | refine ewp_ret ?_ | refine ewp_true rfl ?_ | refine ewp_false rfl ?_))
      · ((repeat (first | refine ewp_seq ?_ | refine ewp_block ?_ | refine ewp_region ?_ | refine ewp_skip ?_ | refine ewp_exit ?_ | refine ewp_ret ?_ | refine ewp_true rfl ?_ | refine ewp_false rfl ?_)) <;> (refine o_as rfl rfl ?_ <;> (first | refine owp_nilT ?_ | refine owp_nilB ?_ | refine owp_nilBB ?_ | refine owp_nil ?_)) <;> (repeat (first | refine ewp_seq ?_ | refine ewp_block ?_ | refine ewp_region ?_ | refine ewp_skip ?_ | refine ewp_exit ?_ | refine ewp_ret ?_ | refine ewp_true rfl ?_ | refine ewp_false rfl ?_)))
        refine ret1 rfl rfl ⟨?_, hE3⟩
        rw [holdsB_no hx (by rw [hq]; simpa using ‹_›), bof_b]
      · ((first | refine o_ic rfl rfl ?_ | refine o_ad rfl rfl rfl ?_) <;> refine o_mv rfl rfl ?_ <;> (first | refine owp_nilT ?_ | refine owp_nilB ?_ | refine owp_nilBB ?_ | refine owp_nil ?_))
        exact ⟨k + 1, ⟨rfl, rfl, rfl, rfl, trivial⟩, ⟨hE3, by omega, holdsB_step hx (by rw [hq]; simp; omega) hh⟩, by omega⟩
    · have hq : hasB s x = false := by
        unfold hasB
        by_cases h0 : 0 ≤ x.var
        · have : s.length ≤ x.var.toNat := by omega
          simp [List.getElem?_eq_none this]
        · simp [h0]
      (refine h_fa rfl rfl rfl ?_ <;> refine h_ldA rfl rfl rfl ?_ <;> (first | refine h_ltT rfl rfl rfl rfl ?_ | refine h_ltF rfl rfl rfl rfl ?_ | refine h_ltS rfl rfl rfl rfl (fun _ => ?_) fun _ => ?_) <;> refine h_mv rfl rfl rfl ?_ <;> (refine hwp_o rfl ?_; (first | (refine hwq_yes rfl rfl ?_; refine g_fa rfl rfl ?_) | refine hwq_no rfl rfl rfl rfl ?_)) <;> (refine hwp_o rfl ?_; (first | (refine hwq_yes rfl rfl ?_; refine g_ldA rfl rfl ?_) | refine hwq_no rfl rfl rfl rfl ?_)) <;> (refine hwp_o rfl ?_; (first | (refine hwq_yes rfl rfl ?_; refine g_mv rfl rfl ?_) | refine hwq_no rfl rfl rfl rfl ?_)) <;> (refine hwp_o rfl ?_; (first | (refine hwq_yes rfl rfl ?_; refine g_ln rfl rfl ?_) | refine hwq_no rfl rfl rfl rfl ?_)) <;> (refine hwp_o rfl ?_; (first | (refine hwq_yes rfl rfl ?_; (first | refine hwq_dT (fun _ _ => ev_geq rfl rfl) rfl (by omega) ?_ | refine hwq_dF (fun _ _ => ev_geq rfl rfl) rfl (by omega) ?_ | refine hwq_split (fun _ _ => ev_geq rfl rfl) rfl (fun _ => ?_) (fun _ => ?_))) | refine hwq_no rfl rfl rfl rfl ?_)) <;> (first | refine h_pt rfl rfl rfl rfl ?_ | refine h_pf rfl rfl rfl rfl ?_) <;> refine h_mv rfl rfl rfl ?_ <;> (refine hwp_o rfl ?_; (first | (refine hwq_yes rfl rfl ?_; refine g_mv rfl rfl ?_) | refine hwq_no rfl rfl rfl rfl ?_)) <;> (refine hwp_o rfl ?_; (first | (refine hwq_yes rfl rfl ?_; refine g_fa rfl rfl ?_) | refine hwq_no rfl rfl rfl rfl ?_)) <;> (refine hwp_o rfl ?_; (first | (refine hwq_yes rfl rfl ?_; refine g_ldA rfl rfl ?_) | refine hwq_no rfl rfl rfl rfl ?_)) <;> (refine hwp_o rfl ?_; (first | (refine hwq_yes rfl rfl ?_; refine g_ia rfl rfl rfl ?_) | refine hwq_no rfl rfl rfl rfl ?_)) <;> (refine hwp_o rfl ?_; (first | (refine hwq_yes rfl rfl ?_; refine g_ldA rfl rfl ?_) | refine hwq_no rfl rfl rfl rfl ?_)) <;> (refine hwp_o rfl ?_; (first | (refine hwq_yes rfl rfl ?_; refine g_fa rfl rfl ?_) | refine hwq_no rfl rfl rfl rfl ?_)) <;> (refine hwp_o rfl ?_; (first | (refine hwq_yes rfl rfl ?_; refine g_ldA rfl rfl ?_) | refine hwq_no rfl rfl rfl rfl ?_)) <;> (refine hwp_o rfl ?_; (first | (refine hwq_yes rfl rfl ?_; (first | refine hwq_dT (fun _ _ => ev_ne rfl rfl) rfl (by omega) ?_ | refine hwq_dF (fun _ _ => ev_ne rfl rfl) rfl (by omega) ?_ | refine hwq_split (fun _ _ => ev_ne rfl rfl) rfl (fun _ => ?_) (fun _ => ?_))) | refine hwq_no rfl rfl rfl rfl ?_)) <;> (first | refine h_pt rfl rfl rfl rfl ?_ | refine h_pf rfl rfl rfl rfl ?_) <;> (first | refine hwp_nilT ?_ | refine hwp_nilB ?_ | refine hwp_nil ?_)) <;> (repeat (first | refine ewp_seq ?_ | refine ewp_block ?_ | refine ewp_region ?_ | refine ewp_skip ?_ | refine ewp_exit ?_ | refine ewp_ret ?_ | refine ewp_true rfl ?_ | refine ewp_false rfl ?_))
      all_goals
        ((repeat (first | refine ewp_seq ?_ | refine ewp_block ?_ | refine ewp_region ?_ | refine ewp_skip ?_ | refine ewp_exit ?_ | refine ewp_ret ?_ | refine ewp_true rfl ?_ | refine ewp_false rfl ?_)) <;> (refine o_as rfl rfl ?_ <;> (first | refine owp_nilT ?_ | refine owp_nilB ?_ | refine owp_nilBB ?_ | refine owp_nil ?_)) <;> (repeat (first | refine ewp_seq ?_ | refine ewp_block ?_ | refine ewp_region ?_ | refine ewp_skip ?_ | refine ewp_exit ?_ | refine ewp_ret ?_ | refine ewp_true rfl ?_ | refine ewp_false rfl ?_)))
        refine ret1 rfl rfl ⟨?_, hE3⟩
        rw [holdsB_no hx hq, bof_b]
  · ((repeat (first | refine ewp_seq ?_ | refine ewp_block ?_ | refine ewp_region ?_ | refine ewp_skip ?_ | refine ewp_exit ?_ | refine ewp_ret ?_ | refine ewp_true rfl ?_ | refine ewp_false rfl ?_)) <;> ((first | refine o_ltT rfl rfl rfl ?_ | refine o_ltF rfl rfl rfl ?_) <;> (first | refine owp_nilT ?_ | refine owp_nilB ?_ | refine owp_nilBB ?_ | refine owp_nil ?_)) <;> (repeat (first | refine ewp_seq ?_ | refine ewp_block ?_ | refine ewp_region ?_ | refine ewp_skip ?_ | refine ewp_exit ?_ | refine ewp_ret ?_ | refine ewp_true rfl ?_ | refine ewp_false rfl ?_)) <;> (refine o_as rfl rfl ?_ <;> (first | refine owp_nilT ?_ | refine owp_nilB ?_ | refine owp_nilBB ?_ | refine owp_nil ?_)) <;> (repeat (first | refine ewp_seq ?_ | refine ewp_block ?_ | refine ewp_region ?_ | refine ewp_skip ?_ | refine ewp_exit ?_ | refine ewp_ret ?_ | refine ewp_true rfl ?_ | refine ewp_false rfl ?_)))
    refine ret1 rfl rfl ⟨?_, hE⟩
    rw [List.take_of_length_le (by omega)] at hh
    rw [hh, bof_b]
theorem taskHolds {w : World} {fv sv : Value} {f : List Fct} {s : List Int} (hf : V w fv f) (hs : V w sv s) :
    Fn Try.prog 64 [fv, sv] w fun v w' => v = .bool (bof (holdsB f s = true)) ∧ Ext w w' := by
  obtain ⟨Af, cf, rfl⟩ := hf.form
  obtain ⟨As, cs, rfl⟩ := hs.form
  have hfl := hf.len
  refine fn_enter Try.func64 rfl Try.ntmps64 rfl ?_
  ((repeat (first | refine ewp_seq ?_ | refine ewp_block ?_ | refine ewp_region ?_ | refine ewp_skip ?_ | refine ewp_exit ?_ | refine ewp_ret ?_ | refine ewp_true rfl ?_ | refine ewp_false rfl ?_)) <;> (refine o_as rfl rfl ?_ <;> (first | refine owp_nilT ?_ | refine owp_nilB ?_ | refine owp_nilBB ?_ | refine owp_nil ?_)) <;> (repeat (first | refine ewp_seq ?_ | refine ewp_block ?_ | refine ewp_region ?_ | refine ewp_skip ?_ | refine ewp_exit ?_ | refine ewp_ret ?_ | refine ewp_true rfl ?_ | refine ewp_false rfl ?_)) <;> (refine o_mv rfl rfl ?_ <;> refine o_ln rfl rfl ?_ <;> refine o_mv rfl rfl ?_ <;> (first | refine owp_nilT ?_ | refine owp_nilB ?_ | refine owp_nilBB ?_ | refine owp_nil ?_)) <;> (repeat (first | refine ewp_seq ?_ | refine ewp_block ?_ | refine ewp_region ?_ | refine ewp_skip ?_ | refine ewp_exit ?_ | refine ewp_ret ?_ | refine ewp_true rfl ?_ | refine ewp_false rfl ?_)))
  refine ewp_for (fun k : Nat => [(1, .slice As s.length cs), (7, .slice Af f.length cf), (8, .int .i64 (f.length : Int)), (9, .int .i64 (k : Int))])
    (fun k w' => Ext w w' ∧ k ≤ f.length ∧ holdsB (f.take k) s = true) (fun k => f.length - k) 0 ⟨Below.refl _ _, Nat.zero_le _, rfl⟩ ⟨rfl, rfl, rfl, rfl, trivial⟩ ?_
  rintro k w1 ⟨hE, hk, hh⟩
  by_cases hlt : k < f.length
  · obtain ⟨x, hx⟩ := some_of_lt hlt
    obtain ⟨b, o, ce, rfl, hb, _, hd1, rfl, hr1, hr2⟩ := (hf.ext hE).elem hx
    ((repeat (first | refine ewp_seq ?_ | refine ewp_block ?_ | refine ewp_region ?_ | refine ewp_skip ?_ | refine ewp_exit ?_ | refine ewp_ret ?_ | refine ewp_true rfl ?_ | refine ewp_false rfl ?_)) <;> ((first | refine o_ltT rfl rfl rfl ?_ | refine o_ltF rfl rfl rfl ?_) <;> (first | refine owp_nilT ?_ | refine owp_nilB ?_ | refine owp_nilBB ?_ | refine owp_nil ?_)) <;> (repeat (first | refine ewp_seq ?_ | refine ewp_block ?_ | refine ewp_region ?_ | refine ewp_skip ?_ | refine ewp_exit ?_ | refine ewp_ret ?_ | refine ewp_true rfl ?_ | refine ewp_false rfl ?_)) <;> (refine o_ia rfl rfl rfl ?_ <;> refine o_la rfl rfl ?_) <;> (repeat (first | refine ewp_seq ?_ | refine ewp_block ?_ | refine ewp_region ?_ | refine ewp_skip ?_ | refine ewp_exit ?_ | refine ewp_ret ?_ | refine ewp_true rfl ?_ | refine ewp_false rfl ?_)))
    refine owp_local rfl rfl rfl (by simp [Value.cells, Value.oneCell']) fun w3 hN => ?_
    have hb1 := hN.blk
    have hE3 : Ext w w3 := hE.trans' hN.ext
    ((first | refine owp_nilT ?_ | refine owp_nilB ?_ | refine owp_nilBB ?_ | refine owp_nil ?_))
    repeat (first | refine ewp_seq ?_ | refine ewp_block ?_ | refine ewp_region ?_ | refine ewp_skip ?_ | refine ewp_exit ?_ | refine ewp_ret ?_ | refine ewp_true rfl ?_ | refine ewp_false rfl ?_)
    refine ewp_draw (· = w3) [(0, true), (1, true), (2, true), (3, true), (4, true), (5, true), (6, true), (7, true), (8, true), (9, true), (10, true), (11, true), (12, true), (13, true), (14, true), (15, true), (16, true), (17, true), (18, true), (19, true)] (by kernel_rfl) rfl (by kernel_rfl) rfl ?_
    by_cases hv : 0 ≤ x.var ∧ x.var < s.length
    · obtain ⟨j, hj1⟩ := Int.eq_ofNat_of_zero_le hv.1
      obtain ⟨y, hy⟩ := some_of_lt (l := s) (k := j) (by omega)
      obtain ⟨b2, o2, ce2, rfl, _, _, hd2, rfl, _⟩ := (hs.ext hE3).elem hy
      have hq := hasB_eq (s := s) hj1 hy
      (refine h_fa rfl rfl rfl ?_ <;> refine h_ldA rfl rfl rfl ?_ <;> (first | refine h_ltT rfl rfl rfl rfl ?_ | refine h_ltF rfl rfl rfl rfl ?_ | refine h_ltS rfl rfl rfl rfl (fun _ => ?_) fun _ => ?_) <;> refine h_mv rfl rfl rfl ?_ <;> (refine hwp_o rfl ?_; (first | (refine hwq_yes rfl rfl ?_; refine g_fa rfl rfl ?_) | refine hwq_no rfl rfl rfl rfl ?_)) <;> (refine hwp_o rfl ?_; (first | (refine hwq_yes rfl rfl ?_; refine g_ldA rfl rfl ?_) | refine hwq_no rfl rfl rfl rfl ?_)) <;> (refine hwp_o rfl ?_; (first | (refine hwq_yes rfl rfl ?_; refine g_mv rfl rfl ?_) | refine hwq_no rfl rfl rfl rfl ?_)) <;> (refine hwp_o rfl ?_; (first | (refine hwq_yes rfl rfl ?_; refine g_ln rfl rfl ?_) | refine hwq_no rfl rfl rfl rfl ?_)) <;> (refine hwp_o rfl ?_; (first | (refine hwq_yes rfl rfl ?_; (first | refine hwq_dT (fun _ _ => ev_geq rfl rfl) rfl (by omega) ?_ | refine hwq_dF (fun _ _ => ev_geq rfl rfl) rfl (by omega) ?_ | refine hwq_split (fun _ _ => ev_geq rfl rfl) rfl (fun _ => ?_) (fun _ => ?_))) | refine hwq_no rfl rfl rfl rfl ?_)) <;> (first | refine h_pt rfl rfl rfl rfl ?_ | refine h_pf rfl rfl rfl rfl ?_) <;> refine h_mv rfl rfl rfl ?_ <;> (refine hwp_o rfl ?_; (first | (refine hwq_yes rfl rfl ?_; refine g_mv rfl rfl ?_) | refine hwq_no rfl rfl rfl rfl ?_)) <;> (refine hwp_o rfl ?_; (first | (refine hwq_yes rfl rfl ?_; refine g_fa rfl rfl ?_) | refine hwq_no rfl rfl rfl rfl ?_)) <;> (refine hwp_o rfl ?_; (first | (refine hwq_yes rfl rfl ?_; refine g_ldA rfl rfl ?_) | refine hwq_no rfl rfl rfl rfl ?_)) <;> (refine hwp_o rfl ?_; (first | (refine hwq_yes rfl rfl ?_; refine g_ia rfl rfl rfl ?_) | refine hwq_no rfl rfl rfl rfl ?_)) <;> (refine hwp_o rfl ?_; (first | (refine hwq_yes rfl rfl ?_; refine g_ldA rfl rfl ?_) | refine hwq_no rfl rfl rfl rfl ?_)) <;> (refine hwp_o rfl ?_; (first | (refine hwq_yes rfl rfl ?_; refine g_fa rfl rfl ?_) | refine hwq_no rfl rfl rfl rfl ?_)) <;> (refine hwp_o rfl ?_; (first | (refine hwq_yes rfl rfl ?_; refine g_ldA rfl rfl ?_) | refine hwq_no rfl rfl rfl rfl ?_)) <;> (refine hwp_o rfl ?_; (first | (refine hwq_yes rfl rfl ?_; (first | refine hwq_dT (fun _ _ => ev_ne rfl rfl) rfl (by omega) ?_ | refine hwq_dF (fun _ _ => ev_ne rfl rfl) rfl (by omega) ?_ | refine hwq_split (fun _ _ => ev_ne rfl rfl) rfl (fun _ => ?_) (fun _ => ?_))) | refine hwq_no rfl rfl rfl rfl ?_)) <;> (first | refine h_pt rfl rfl rfl rfl ?_ | refine h_pf rfl rfl rfl rfl ?_) <;> (first | refine hwp_nilT ?_ | refine hwp_nilB ?_ | refine hwp_nil ?_)) <;> (repeat (first | refine ewp_seq ?_ | refine ewp_block ?_ | refine ewp_region ?_ | refine ewp_skip ?_ | refine ewp_exit ?_ | refine ewp_ret ?_ | refine ewp_true rfl ?_ | refine ewp_false rfl ?_))
      · ((repeat (first | refine ewp_seq ?_ | refine ewp_block ?_ | refine ewp_region ?_ | refine ewp_skip ?_ | refine ewp_exit ?_ | refine ewp_ret ?_ | refine ewp_true rfl ?_ | refine ewp_false rfl ?_)) <;> (refine o_as rfl rfl ?_ <;> (first | refine owp_nilT ?_ | refine owp_nilB ?_ | refine owp_nilBB ?_ | refine owp_nil ?_)) <;> (repeat (first | refine ewp_seq ?_ | refine ewp_block ?_ | refine ewp_region ?_ | refine ewp_skip ?_ | refine ewp_exit ?_ | refine ewp_ret ?_ | refine ewp_true rfl ?_ | refine ewp_false rfl ?_)))
        refine ret1 rfl rfl ⟨?_, hE3⟩
        rw [holdsB_no hx (by rw [hq]; simpa using ‹_›), bof_b]
      · ((first | refine o_ic rfl rfl ?_ | refine o_ad rfl rfl rfl ?_) <;> refine o_mv rfl rfl ?_ <;> (first | refine owp_nilT ?_ | refine owp_nilB ?_ | refine owp_nilBB ?_ | refine owp_nil ?_))
        exact ⟨k + 1, ⟨rfl, rfl, rfl, rfl, trivial⟩, ⟨hE3, by omega, holdsB_step hx (by rw [hq]; simp; omega) hh⟩, by omega⟩
    · have hq : hasB s x = false := by
        unfold hasB
        by_cases h0 : 0 ≤ x.var
        · have : s.length ≤ x.var.toNat := by omega
          simp [List.getElem?_eq_none this]
        · simp [h0]
      (refine h_fa rfl rfl rfl ?_ <;> refine h_ldA rfl rfl rfl ?_ <;> (first | refine h_ltT rfl rfl rfl rfl ?_ | refine h_ltF rfl rfl rfl rfl ?_ | refine h_ltS rfl rfl rfl rfl (fun _ => ?_) fun _ => ?_) <;> refine h_mv rfl rfl rfl ?_ <;> (refine hwp_o rfl ?_; (first | (refine hwq_yes rfl rfl ?_; refine g_fa rfl rfl ?_) | refine hwq_no rfl rfl rfl rfl ?_)) <;> (refine hwp_o rfl ?_; (first | (refine hwq_yes rfl rfl ?_; refine g_ldA rfl rfl ?_) | refine hwq_no rfl rfl rfl rfl ?_)) <;> (refine hwp_o rfl ?_; (first | (refine hwq_yes rfl rfl ?_; refine g_mv rfl rfl ?_) | refine hwq_no rfl rfl rfl rfl ?_)) <;> (refine hwp_o rfl ?_; (first | (refine hwq_yes rfl rfl ?_; refine g_ln rfl rfl ?_) | refine hwq_no rfl rfl rfl rfl ?_)) <;> (refine hwp_o rfl ?_; (first | (refine hwq_yes rfl rfl ?_; (first | refine hwq_dT (fun _ _ => ev_geq rfl rfl) rfl (by omega) ?_ | refine hwq_dF (fun _ _ => ev_geq rfl rfl) rfl (by omega) ?_ | refine hwq_split (fun _ _ => ev_geq rfl rfl) rfl (fun _ => ?_) (fun _ => ?_))) | refine hwq_no rfl rfl rfl rfl ?_)) <;> (first | refine h_pt rfl rfl rfl rfl ?_ | refine h_pf rfl rfl rfl rfl ?_) <;> refine h_mv rfl rfl rfl ?_ <;> (refine hwp_o rfl ?_; (first | (refine hwq_yes rfl rfl ?_; refine g_mv rfl rfl ?_) | refine hwq_no rfl rfl rfl rfl ?_)) <;> (refine hwp_o rfl ?_; (first | (refine hwq_yes rfl rfl ?_; refine g_fa rfl rfl ?_) | refine hwq_no rfl rfl rfl rfl ?_)) <;> (refine hwp_o rfl ?_; (first | (refine hwq_yes rfl rfl ?_; refine g_ldA rfl rfl ?_) | refine hwq_no rfl rfl rfl rfl ?_)) <;> (refine hwp_o rfl ?_; (first | (refine hwq_yes rfl rfl ?_; refine g_ia rfl rfl rfl ?_) | refine hwq_no rfl rfl rfl rfl ?_)) <;> (refine hwp_o rfl ?_; (first | (refine hwq_yes rfl rfl ?_; refine g_ldA rfl rfl ?_) | refine hwq_no rfl rfl rfl rfl ?_)) <;> (refine hwp_o rfl ?_; (first | (refine hwq_yes rfl rfl ?_; refine g_fa rfl rfl ?_) | refine hwq_no rfl rfl rfl rfl ?_)) <;> (refine hwp_o rfl ?_; (first | (refine hwq_yes rfl rfl ?_; refine g_ldA rfl rfl ?_) | refine hwq_no rfl rfl rfl rfl ?_)) <;> (refine hwp_o rfl ?_; (first | (refine hwq_yes rfl rfl ?_; (first | refine hwq_dT (fun _ _ => ev_ne rfl rfl) rfl (by omega) ?_ | refine hwq_dF (fun _ _ => ev_ne rfl rfl) rfl (by omega) ?_ | refine hwq_split (fun _ _ => ev_ne rfl rfl) rfl (fun _ => ?_) (fun _ => ?_))) | refine hwq_no rfl rfl rfl rfl ?_)) <;> (first | refine h_pt rfl rfl rfl rfl ?_ | refine h_pf rfl rfl rfl rfl ?_) <;> (first | refine hwp_nilT ?_ | refine hwp_nilB ?_ | refine hwp_nil ?_)) <;> (repeat (first | refine ewp_seq ?_ | refine ewp_block ?_ | refine ewp_region ?_ | refine ewp_skip ?_ | refine ewp_exit ?_ | refine ewp_ret ?_ | refine ewp_true rfl ?_ | refine ewp_false rfl ?_))
      all_goals
        ((repeat (first | refine ewp_seq ?_ | refine ewp_block ?_ | refine ewp_region ?_ | refine ewp_skip ?_ | refine ewp_exit ?_ | refine ewp_ret ?_ | refine ewp_true rfl ?_ | refine ewp_false rfl ?_)) <;> (refine o_as rfl rfl ?_ <;> (first | refine owp_nilT ?_ | refine owp_nilB ?_ | refine owp_nilBB ?_ | refine owp_nil ?_)) <;> (repeat (first | refine ewp_seq ?_ | refine ewp_block ?_ | refine ewp_region ?_ | refine ewp_skip ?_ | refine ewp_exit ?_ | refine ewp_ret ?_ | refine ewp_true rfl ?_ | refine ewp_false rfl ?_)))
        refine ret1 rfl rfl ⟨?_, hE3⟩
        rw [holdsB_no hx hq, bof_b]
  · ((repeat (first | refine ewp_seq ?_ | refine ewp_block ?_ | refine ewp_region ?_ | refine ewp_skip ?_ | refine ewp_exit ?_ | refine ewp_ret ?_ | refine ewp_true rfl ?_ | refine ewp_false rfl ?_)) <;> ((first | refine o_ltT rfl rfl rfl ?_ | refine o_ltF rfl rfl rfl ?_) <;> (first | refine owp_nilT ?_ | refine owp_nilB ?_ | refine owp_nilBB ?_ | refine owp_nil ?_)) <;> (repeat (first | refine ewp_seq ?_ | refine ewp_block ?_ | refine ewp_region ?_ | refine ewp_skip ?_ | refine ewp_exit ?_ | refine ewp_ret ?_ | refine ewp_true rfl ?_ | refine ewp_false rfl ?_)) <;> (refine o_as rfl rfl ?_ <;> (first | refine owp_nilT ?_ | refine owp_nilB ?_ | refine owp_nilBB ?_ | refine owp_nil ?_)) <;> (repeat (first | refine ewp_seq ?_ | refine ewp_block ?_ | refine ewp_region ?_ | refine ewp_skip ?_ | refine ewp_exit ?_ | refine ewp_ret ?_ | refine ewp_true rfl ?_ | refine ewp_false rfl ?_)))
    refine ret1 rfl rfl ⟨?_, hE⟩
    rw [List.take_of_length_le (by omega)] at hh
    rw [hh, bof_b]
theorem baseInts {w : World} {av bv : Value} {a b : List Int} (ha : V w av a) (hb : V w bv b) :
    Fn Try.prog 15 [av, bv] w fun v w' => v = .bool (bof (a = b)) ∧ Ext w w' := by
  obtain ⟨A, ca, rfl⟩ := ha.form
  obtain ⟨B, cb, rfl⟩ := hb.form
  have hal := ha.len
  refine fn_enter Try.func15 rfl Try.ntmps15 rfl ?_
  by_cases hl : a.length = b.length
  · ((repeat (first | refine ewp_seq ?_ | refine ewp_block ?_ | refine ewp_region ?_ | refine ewp_skip ?_ | refine ewp_exit ?_ | refine ewp_ret ?_ | refine ewp_true rfl ?_ | refine ewp_false rfl ?_)) <;> (refine o_as rfl rfl ?_ <;> (first | refine owp_nilT ?_ | refine owp_nilB ?_ | refine owp_nilBB ?_ | refine owp_nil ?_)) <;> (repeat (first | refine ewp_seq ?_ | refine ewp_block ?_ | refine ewp_region ?_ | refine ewp_skip ?_ | refine ewp_exit ?_ | refine ewp_ret ?_ | refine ewp_true rfl ?_ | refine ewp_false rfl ?_)) <;> (refine o_mv rfl rfl ?_ <;> refine o_ln rfl rfl ?_ <;> refine o_mv rfl rfl ?_ <;> refine o_ln rfl rfl ?_ <;> (first | refine o_neT rfl rfl rfl ?_ | refine o_neF rfl rfl rfl ?_) <;> (first | refine owp_nilT ?_ | refine owp_nilB ?_ | refine owp_nilBB ?_ | refine owp_nil ?_)) <;> (repeat (first | refine ewp_seq ?_ | refine ewp_block ?_ | refine ewp_region ?_ | refine ewp_skip ?_ | refine ewp_exit ?_ | refine ewp_ret ?_ | refine ewp_true rfl ?_ | refine ewp_false rfl ?_)) <;> (refine o_mv rfl rfl ?_ <;> refine o_ln rfl rfl ?_ <;> refine o_mv rfl rfl ?_ <;> (first | refine owp_nilT ?_ | refine owp_nilB ?_ | refine owp_nilBB ?_ | refine owp_nil ?_)) <;> (repeat (first | refine ewp_seq ?_ | refine ewp_block ?_ | refine ewp_region ?_ | refine ewp_skip ?_ | refine ewp_exit ?_ | refine ewp_ret ?_ | refine ewp_true rfl ?_ | refine ewp_false rfl ?_)))
    refine ewp_for (fun k : Nat => [(0, .slice A a.length ca), (1, .slice B b.length cb), (12, .int .i64 (a.length : Int)), (13, .int .i64 (k : Int))])
      (fun k w' => w' = w ∧ k ≤ a.length ∧ a.take k = b.take k) (fun k => a.length - k) 0 ⟨rfl, Nat.zero_le _, rfl⟩ ⟨rfl, rfl, rfl, rfl, trivial⟩ ?_
    rintro k _ ⟨rfl, hk, hh⟩
    by_cases hlt : k < a.length
    · obtain ⟨x, hx⟩ := some_of_lt hlt
      obtain ⟨y, hy⟩ := some_of_lt (l := b) (k := k) (by omega)
      obtain ⟨b1, o1, ce, rfl, _, _, hd1, rfl, _⟩ := ha.elem hx
      obtain ⟨b2, o2, ce, rfl, _, _, hd2, rfl, _⟩ := hb.elem hy
      ((repeat (first | refine ewp_seq ?_ | refine ewp_block ?_ | refine ewp_region ?_ | refine ewp_skip ?_ | refine ewp_exit ?_ | refine ewp_ret ?_ | refine ewp_true rfl ?_ | refine ewp_false rfl ?_)) <;> ((first | refine o_ltT rfl rfl rfl ?_ | refine o_ltF rfl rfl rfl ?_) <;> (first | refine owp_nilT ?_ | refine owp_nilB ?_ | refine owp_nilBB ?_ | refine owp_nil ?_)) <;> (repeat (first | refine ewp_seq ?_ | refine ewp_block ?_ | refine ewp_region ?_ | refine ewp_skip ?_ | refine ewp_exit ?_ | refine ewp_ret ?_ | refine ewp_true rfl ?_ | refine ewp_false rfl ?_)) <;> (refine o_mv rfl rfl ?_ <;> refine o_as rfl rfl ?_ <;> (first | refine owp_nilT ?_ | refine owp_nilB ?_ | refine owp_nilBB ?_ | refine owp_nil ?_)) <;> (repeat (first | refine ewp_seq ?_ | refine ewp_block ?_ | refine ewp_region ?_ | refine ewp_skip ?_ | refine ewp_exit ?_ | refine ewp_ret ?_ | refine ewp_true rfl ?_ | refine ewp_false rfl ?_)))
      refine ewp_draw (· = _) [(0, true), (1, true), (2, true), (3, true), (4, true), (5, true), (6, true), (7, true), (8, true)] (by kernel_rfl) rfl (by kernel_rfl) rfl ?_
      (refine h_mv rfl rfl rfl ?_ <;> refine h_mv rfl rfl rfl ?_ <;> refine h_ia rfl rfl rfl rfl ?_ <;> refine h_ldA rfl rfl rfl ?_ <;> refine h_mv rfl rfl rfl ?_ <;> refine h_mv rfl rfl rfl ?_ <;> refine h_ia rfl rfl rfl rfl ?_ <;> refine h_ldA rfl rfl rfl ?_ <;> (first | refine h_neT rfl rfl rfl rfl ?_ | refine h_neF rfl rfl rfl rfl ?_ | refine h_neS rfl rfl rfl rfl (fun _ => ?_) fun _ => ?_) <;> (first | refine hwp_nilT ?_ | refine hwp_nilB ?_ | refine hwp_nil ?_)) <;> (repeat (first | refine ewp_seq ?_ | refine ewp_block ?_ | refine ewp_region ?_ | refine ewp_skip ?_ | refine ewp_exit ?_ | refine ewp_ret ?_ | refine ewp_true rfl ?_ | refine ewp_false rfl ?_))
      · ((repeat (first | refine ewp_seq ?_ | refine ewp_block ?_ | refine ewp_region ?_ | refine ewp_skip ?_ | refine ewp_exit ?_ | refine ewp_ret ?_ | refine ewp_true rfl ?_ | refine ewp_false rfl ?_)) <;> (refine o_as rfl rfl ?_ <;> (first | refine owp_nilT ?_ | refine owp_nilB ?_ | refine owp_nilBB ?_ | refine owp_nil ?_)) <;> (repeat (first | refine ewp_seq ?_ | refine ewp_block ?_ | refine ewp_region ?_ | refine ewp_skip ?_ | refine ewp_exit ?_ | refine ewp_ret ?_ | refine ewp_true rfl ?_ | refine ewp_false rfl ?_)))
        refine ret1 rfl rfl ⟨?_, Below.refl _ _⟩
        rw [bof_f]
        rintro rfl
        exact absurd (Option.some.inj (hx.symm.trans hy)) (by assumption)
      · ((first | refine o_ic rfl rfl ?_ | refine o_ad rfl rfl rfl ?_) <;> refine o_mv rfl rfl ?_ <;> (first | refine owp_nilT ?_ | refine owp_nilB ?_ | refine owp_nilBB ?_ | refine owp_nil ?_))
        exact ⟨k + 1, ⟨rfl, rfl, rfl, rfl, trivial⟩, ⟨rfl, by omega, by rw [List.take_add_one, List.take_add_one, hx, hy, hh, show x = y from by omega]⟩, by omega⟩
    · ((repeat (first | refine ewp_seq ?_ | refine ewp_block ?_ | refine ewp_region ?_ | refine ewp_skip ?_ | refine ewp_exit ?_ | refine ewp_ret ?_ | refine ewp_true rfl ?_ | refine ewp_false rfl ?_)) <;> ((first | refine o_ltT rfl rfl rfl ?_ | refine o_ltF rfl rfl rfl ?_) <;> (first | refine owp_nilT ?_ | refine owp_nilB ?_ | refine owp_nilBB ?_ | refine owp_nil ?_)) <;> (repeat (first | refine ewp_seq ?_ | refine ewp_block ?_ | refine ewp_region ?_ | refine ewp_skip ?_ | refine ewp_exit ?_ | refine ewp_ret ?_ | refine ewp_true rfl ?_ | refine ewp_false rfl ?_)) <;> (refine o_as rfl rfl ?_ <;> (first | refine owp_nilT ?_ | refine owp_nilB ?_ | refine owp_nilBB ?_ | refine owp_nil ?_)) <;> (repeat (first | refine ewp_seq ?_ | refine ewp_block ?_ | refine ewp_region ?_ | refine ewp_skip ?_ | refine ewp_exit ?_ | refine ewp_ret ?_ | refine ewp_true rfl ?_ | refine ewp_false rfl ?_)))
      refine ret1 rfl rfl ⟨?_, Below.refl _ _⟩
      rw [List.take_of_length_le (by omega), List.take_of_length_le (by omega)] at hh
      rw [bof_t hh]
  · ((repeat (first | refine ewp_seq ?_ | refine ewp_block ?_ | refine ewp_region ?_ | refine ewp_skip ?_ | refine ewp_exit ?_ | refine ewp_ret ?_ | refine ewp_true rfl ?_ | refine ewp_false rfl ?_)) <;> (refine o_as rfl rfl ?_ <;> (first | refine owp_nilT ?_ | refine owp_nilB ?_ | refine owp_nilBB ?_ | refine owp_nil ?_)) <;> (repeat (first | refine ewp_seq ?_ | refine ewp_block ?_ | refine ewp_region ?_ | refine ewp_skip ?_ | refine ewp_exit ?_ | refine ewp_ret ?_ | refine ewp_true rfl ?_ | refine ewp_false rfl ?_)) <;> (refine o_mv rfl rfl ?_ <;> refine o_ln rfl rfl ?_ <;> refine o_mv rfl rfl ?_ <;> refine o_ln rfl rfl ?_ <;> (first | refine o_neT rfl rfl rfl ?_ | refine o_neF rfl rfl rfl ?_) <;> (first | refine owp_nilT ?_ | refine owp_nilB ?_ | refine owp_nilBB ?_ | refine owp_nil ?_)) <;> (repeat (first | refine ewp_seq ?_ | refine ewp_block ?_ | refine ewp_region ?_ | refine ewp_skip ?_ | refine ewp_exit ?_ | refine ewp_ret ?_ | refine ewp_true rfl ?_ | refine ewp_false rfl ?_)) <;> (refine o_as rfl rfl ?_ <;> (first | refine owp_nilT ?_ | refine owp_nilB ?_ | refine owp_nilBB ?_ | refine owp_nil ?_)) <;> (repeat (first | refine ewp_seq ?_ | refine ewp_block ?_ | refine ewp_region ?_ | refine ewp_skip ?_ | refine ewp_exit ?_ | refine ewp_ret ?_ | refine ewp_true rfl ?_ | refine ewp_false rfl ?_)))
    refine ret1 rfl rfl ⟨?_, Below.refl _ _⟩
    rw [bof_f (fun h => hl (by rw [h]))]
/-- A state is proper. -/
def StateOk (vars s : List Int) : Prop := s.length = vars.length ∧ ∀ (i : Nat) x y, s[i]? = some x → vars[i]? = some y → 0 ≤ x ∧ x < y
theorem baseState {w : World} {vv sv : Value} {vars s : List Int} (ha : V w vv vars) (hb : V w sv s) :
    Fn Try.prog 13 [vv, sv] w fun v w' => v = .bool (bof (StateOk vars s)) ∧ Ext w w' := by
  obtain ⟨A, ca, rfl⟩ := ha.form
  obtain ⟨B, cb, rfl⟩ := hb.form
  have hal := hb.len
  refine fn_enter Try.func13 rfl Try.ntmps13 rfl ?_
  by_cases hl : s.length = vars.length
  · ((repeat (first | refine ewp_seq ?_ | refine ewp_block ?_ | refine ewp_region ?_ | refine ewp_skip ?_ | refine ewp_exit ?_ | refine ewp_ret ?_ | refine ewp_true rfl ?_ | refine ewp_false rfl ?_)) <;> (refine o_as rfl rfl ?_ <;> (first | refine owp_nilT ?_ | refine owp_nilB ?_ | refine owp_nilBB ?_ | refine owp_nil ?_)) <;> (repeat (first | refine ewp_seq ?_ | refine ewp_block ?_ | refine ewp_region ?_ | refine ewp_skip ?_ | refine ewp_exit ?_ | refine ewp_ret ?_ | refine ewp_true rfl ?_ | refine ewp_false rfl ?_)) <;> (refine o_mv rfl rfl ?_ <;> refine o_ln rfl rfl ?_ <;> refine o_mv rfl rfl ?_ <;> refine o_ln rfl rfl ?_ <;> (first | refine o_neT rfl rfl rfl ?_ | refine o_neF rfl rfl rfl ?_) <;> (first | refine owp_nilT ?_ | refine owp_nilB ?_ | refine owp_nilBB ?_ | refine owp_nil ?_)) <;> (repeat (first | refine ewp_seq ?_ | refine ewp_block ?_ | refine ewp_region ?_ | refine ewp_skip ?_ | refine ewp_exit ?_ | refine ewp_ret ?_ | refine ewp_true rfl ?_ | refine ewp_false rfl ?_)) <;> (refine o_mv rfl rfl ?_ <;> refine o_ln rfl rfl ?_ <;> refine o_mv rfl rfl ?_ <;> (first | refine owp_nilT ?_ | refine owp_nilB ?_ | refine owp_nilBB ?_ | refine owp_nil ?_)) <;> (repeat (first | refine ewp_seq ?_ | refine ewp_block ?_ | refine ewp_region ?_ | refine ewp_skip ?_ | refine ewp_exit ?_ | refine ewp_ret ?_ | refine ewp_true rfl ?_ | refine ewp_false rfl ?_)))
    refine ewp_for (fun k : Nat => [(0, .slice A vars.length ca), (1, .slice B s.length cb), (12, .int .i64 (s.length : Int)), (13, .int .i64 (k : Int))])
      (fun k w' => w' = w ∧ k ≤ s.length ∧ ∀ (i : Nat) x y, i < k → s[i]? = some x → vars[i]? = some y → 0 ≤ x ∧ x < y) (fun k => s.length - k) 0 ⟨rfl, Nat.zero_le _, fun i _ _ h => by omega⟩ ⟨rfl, rfl, rfl, rfl, trivial⟩ ?_
    rintro k _ ⟨rfl, hk, hh⟩
    by_cases hlt : k < s.length
    · obtain ⟨x, hx⟩ := some_of_lt hlt
      obtain ⟨y, hy⟩ := some_of_lt (l := vars) (k := k) (by omega)
      obtain ⟨b1, o1, ce, rfl, _, _, hd1, rfl, _⟩ := ha.elem hy
      obtain ⟨b2, o2, ce, rfl, _, _, hd2, rfl, _⟩ := hb.elem hx
      ((repeat (first | refine ewp_seq ?_ | refine ewp_block ?_ | refine ewp_region ?_ | refine ewp_skip ?_ | refine ewp_exit ?_ | refine ewp_ret ?_ | refine ewp_true rfl ?_ | refine ewp_false rfl ?_)) <;> ((first | refine o_ltT rfl rfl rfl ?_ | refine o_ltF rfl rfl rfl ?_) <;> (first | refine owp_nilT ?_ | refine owp_nilB ?_ | refine owp_nilBB ?_ | refine owp_nil ?_)) <;> (repeat (first | refine ewp_seq ?_ | refine ewp_block ?_ | refine ewp_region ?_ | refine ewp_skip ?_ | refine ewp_exit ?_ | refine ewp_ret ?_ | refine ewp_true rfl ?_ | refine ewp_false rfl ?_)) <;> (refine o_mv rfl rfl ?_ <;> refine o_as rfl rfl ?_ <;> (first | refine owp_nilT ?_ | refine owp_nilB ?_ | refine owp_nilBB ?_ | refine owp_nil ?_)) <;> (repeat (first | refine ewp_seq ?_ | refine ewp_block ?_ | refine ewp_region ?_ | refine ewp_skip ?_ | refine ewp_exit ?_ | refine ewp_ret ?_ | refine ewp_true rfl ?_ | refine ewp_false rfl ?_)))
      refine ewp_draw (· = _) [(0, true), (1, true), (2, true), (3, true), (4, true), (5, true), (6, true), (7, true), (8, true), (9, true), (10, true), (11, true), (12, true), (13, true), (14, true), (15, true)] (by kernel_rfl) rfl (by kernel_rfl) rfl ?_
      (refine h_mv rfl rfl rfl ?_ <;> refine h_mv rfl rfl rfl ?_ <;> refine h_ia rfl rfl rfl rfl ?_ <;> refine h_ldA rfl rfl rfl ?_ <;> (first | refine h_ltT rfl rfl rfl rfl ?_ | refine h_ltF rfl rfl rfl rfl ?_ | refine h_ltS rfl rfl rfl rfl (fun _ => ?_) fun _ => ?_) <;> refine h_mv rfl rfl rfl ?_ <;> (refine hwp_o rfl ?_; (first | (refine hwq_yes rfl rfl ?_; refine g_mv rfl rfl ?_) | refine hwq_no rfl rfl rfl rfl ?_)) <;> (refine hwp_o rfl ?_; (first | (refine hwq_yes rfl rfl ?_; refine g_mv rfl rfl ?_) | refine hwq_no rfl rfl rfl rfl ?_)) <;> (refine hwp_o rfl ?_; (first | (refine hwq_yes rfl rfl ?_; refine g_ia rfl rfl rfl ?_) | refine hwq_no rfl rfl rfl rfl ?_)) <;> (refine hwp_o rfl ?_; (first | (refine hwq_yes rfl rfl ?_; refine g_ldA rfl rfl ?_) | refine hwq_no rfl rfl rfl rfl ?_)) <;> (refine hwp_o rfl ?_; (first | (refine hwq_yes rfl rfl ?_; refine g_mv rfl rfl ?_) | refine hwq_no rfl rfl rfl rfl ?_)) <;> (refine hwp_o rfl ?_; (first | (refine hwq_yes rfl rfl ?_; refine g_mv rfl rfl ?_) | refine hwq_no rfl rfl rfl rfl ?_)) <;> (refine hwp_o rfl ?_; (first | (refine hwq_yes rfl rfl ?_; refine g_ia rfl rfl rfl ?_) | refine hwq_no rfl rfl rfl rfl ?_)) <;> (refine hwp_o rfl ?_; (first | (refine hwq_yes rfl rfl ?_; refine g_ldA rfl rfl ?_) | refine hwq_no rfl rfl rfl rfl ?_)) <;> (refine hwp_o rfl ?_; (first | (refine hwq_yes rfl rfl ?_; (first | refine hwq_dT (fun _ _ => ev_geq rfl rfl) rfl (by omega) ?_ | refine hwq_dF (fun _ _ => ev_geq rfl rfl) rfl (by omega) ?_ | refine hwq_split (fun _ _ => ev_geq rfl rfl) rfl (fun _ => ?_) (fun _ => ?_))) | refine hwq_no rfl rfl rfl rfl ?_)) <;> (first | refine h_pt rfl rfl rfl rfl ?_ | refine h_pf rfl rfl rfl rfl ?_) <;> (first | refine hwp_nilT ?_ | refine hwp_nilB ?_ | refine hwp_nil ?_)) <;> (repeat (first | refine ewp_seq ?_ | refine ewp_block ?_ | refine ewp_region ?_ | refine ewp_skip ?_ | refine ewp_exit ?_ | refine ewp_ret ?_ | refine ewp_true rfl ?_ | refine ewp_false rfl ?_))
      case refine_2.refine_2 =>
        ((first | refine o_ic rfl rfl ?_ | refine o_ad rfl rfl rfl ?_) <;> refine o_mv rfl rfl ?_ <;> (first | refine owp_nilT ?_ | refine owp_nilB ?_ | refine owp_nilBB ?_ | refine owp_nil ?_))
        refine ⟨k + 1, ⟨rfl, rfl, rfl, rfl, trivial⟩, ⟨rfl, by omega, fun i x' y' hi h1 h2 => ?_⟩, by omega⟩
        by_cases he : i = k
        · subst he
          rw [hx] at h1; rw [hy] at h2
          injection h1 with h1; injection h2 with h2
          omega
        · exact hh i x' y' (by omega) h1 h2
      all_goals
        ((repeat (first | refine ewp_seq ?_ | refine ewp_block ?_ | refine ewp_region ?_ | refine ewp_skip ?_ | refine ewp_exit ?_ | refine ewp_ret ?_ | refine ewp_true rfl ?_ | refine ewp_false rfl ?_)) <;> (refine o_as rfl rfl ?_ <;> (first | refine owp_nilT ?_ | refine owp_nilB ?_ | refine owp_nilBB ?_ | refine owp_nil ?_)) <;> (repeat (first | refine ewp_seq ?_ | refine ewp_block ?_ | refine ewp_region ?_ | refine ewp_skip ?_ | refine ewp_exit ?_ | refine ewp_ret ?_ | refine ewp_true rfl ?_ | refine ewp_false rfl ?_)))
        refine ret1 rfl rfl ⟨?_, Below.refl _ _⟩
        rw [bof_f (fun h => by have := h.2 k x y hx hy; omega)]
    · ((repeat (first | refine ewp_seq ?_ | refine ewp_block ?_ | refine ewp_region ?_ | refine ewp_skip ?_ | refine ewp_exit ?_ | refine ewp_ret ?_ | refine ewp_true rfl ?_ | refine ewp_false rfl ?_)) <;> ((first | refine o_ltT rfl rfl rfl ?_ | refine o_ltF rfl rfl rfl ?_) <;> (first | refine owp_nilT ?_ | refine owp_nilB ?_ | refine owp_nilBB ?_ | refine owp_nil ?_)) <;> (repeat (first | refine ewp_seq ?_ | refine ewp_block ?_ | refine ewp_region ?_ | refine ewp_skip ?_ | refine ewp_exit ?_ | refine ewp_ret ?_ | refine ewp_true rfl ?_ | refine ewp_false rfl ?_)) <;> (refine o_as rfl rfl ?_ <;> (first | refine owp_nilT ?_ | refine owp_nilB ?_ | refine owp_nilBB ?_ | refine owp_nil ?_)) <;> (repeat (first | refine ewp_seq ?_ | refine ewp_block ?_ | refine ewp_region ?_ | refine ewp_skip ?_ | refine ewp_exit ?_ | refine ewp_ret ?_ | refine ewp_true rfl ?_ | refine ewp_false rfl ?_)))
      refine ret1 rfl rfl ⟨?_, Below.refl _ _⟩
      rw [bof_t ⟨hl, fun i x y h1 h2 => hh i x y (by have := lt_of_some h1; omega) h1 h2⟩]
  · ((repeat (first | refine ewp_seq ?_ | refine ewp_block ?_ | refine ewp_region ?_ | refine ewp_skip ?_ | refine ewp_exit ?_ | refine ewp_ret ?_ | refine ewp_true rfl ?_ | refine ewp_false rfl ?_)) <;> (refine o_as rfl rfl ?_ <;> (first | refine owp_nilT ?_ | refine owp_nilB ?_ | refine owp_nilBB ?_ | refine owp_nil ?_)) <;> (repeat (first | refine ewp_seq ?_ | refine ewp_block ?_ | refine ewp_region ?_ | refine ewp_skip ?_ | refine ewp_exit ?_ | refine ewp_ret ?_ | refine ewp_true rfl ?_ | refine ewp_false rfl ?_)) <;> (refine o_mv rfl rfl ?_ <;> refine o_ln rfl rfl ?_ <;> refine o_mv rfl rfl ?_ <;> refine o_ln rfl rfl ?_ <;> (first | refine o_neT rfl rfl rfl ?_ | refine o_neF rfl rfl rfl ?_) <;> (first | refine owp_nilT ?_ | refine owp_nilB ?_ | refine owp_nilBB ?_ | refine owp_nil ?_)) <;> (repeat (first | refine ewp_seq ?_ | refine ewp_block ?_ | refine ewp_region ?_ | refine ewp_skip ?_ | refine ewp_exit ?_ | refine ewp_ret ?_ | refine ewp_true rfl ?_ | refine ewp_false rfl ?_)) <;> (refine o_as rfl rfl ?_ <;> (first | refine owp_nilT ?_ | refine owp_nilB ?_ | refine owp_nilBB ?_ | refine owp_nil ?_)) <;> (repeat (first | refine ewp_seq ?_ | refine ewp_block ?_ | refine ewp_region ?_ | refine ewp_skip ?_ | refine ewp_exit ?_ | refine ewp_ret ?_ | refine ewp_true rfl ?_ | refine ewp_false rfl ?_)))
    refine ret1 rfl rfl ⟨?_, Below.refl _ _⟩
    rw [bof_f (fun h => hl h.1)]
end
section
open Go Go.RowKit
attribute [local irreducible] ewp owp hwp hwq Ev Evg Fn retPost Res1
theorem taskProper {w : World} {vv sv : Value} {vars s : List Int} (ha : V w vv vars) (hb : V w sv s) :
    Fn Try.prog 33 [vv, sv] w fun v w' => v = .bool (bof (StateOk vars s)) ∧ Ext w w' := by
  obtain ⟨A, ca, rfl⟩ := ha.form
  obtain ⟨B, cb, rfl⟩ := hb.form
  have hal := hb.len
  refine fn_enter Try.func33 rfl Try.ntmps33 rfl ?_
  by_cases hl : s.length = vars.length
  · ((repeat (first | refine ewp_seq ?_ | refine ewp_block ?_ | refine ewp_region ?_ | refine ewp_skip ?_ | refine ewp_exit ?_ | refine ewp_ret ?_ | refine ewp_true rfl ?_ | refine ewp_false rfl ?_)) <;> (refine o_as rfl rfl ?_ <;> (first | refine owp_nilT ?_ | refine owp_nilB ?_ | refine owp_nilBB ?_ | refine owp_nil ?_)) <;> (repeat (first | refine ewp_seq ?_ | refine ewp_block ?_ | refine ewp_region ?_ | refine ewp_skip ?_ | refine ewp_exit ?_ | refine ewp_ret ?_ | refine ewp_true rfl ?_ | refine ewp_false rfl ?_)) <;> (refine o_mv rfl rfl ?_ <;> refine o_ln rfl rfl ?_ <;> refine o_mv rfl rfl ?_ <;> refine o_ln rfl rfl ?_ <;> (first | refine o_neT rfl rfl rfl ?_ | refine o_neF rfl rfl rfl ?_) <;> (first | refine owp_nilT ?_ | refine owp_nilB ?_ | refine owp_nilBB ?_ | refine owp_nil ?_)) <;> (repeat (first | refine ewp_seq ?_ | refine ewp_block ?_ | refine ewp_region ?_ | refine ewp_skip ?_ | refine ewp_exit ?_ | refine ewp_ret ?_ | refine ewp_true rfl ?_ | refine ewp_false rfl ?_)) <;> (refine o_mv rfl rfl ?_ <;> refine o_ln rfl rfl ?_ <;> refine o_mv rfl rfl ?_ <;> (first | refine owp_nilT ?_ | refine owp_nilB ?_ | refine owp_nilBB ?_ | refine owp_nil ?_)) <;> (repeat (first | refine ewp_seq ?_ | refine ewp_block ?_ | refine ewp_region ?_ | refine ewp_skip ?_ | refine ewp_exit ?_ | refine ewp_ret ?_ | refine ewp_true rfl ?_ | refine ewp_false rfl ?_)))
    refine ewp_for (fun k : Nat => [(0, .slice A vars.length ca), (12, .slice B s.length cb), (13, .int .i64 (s.length : Int)), (14, .int .i64 (k : Int))])
      (fun k w' => w' = w ∧ k ≤ s.length ∧ ∀ (i : Nat) x y, i < k → s[i]? = some x → vars[i]? = some y → 0 ≤ x ∧ x < y) (fun k => s.length - k) 0 ⟨rfl, Nat.zero_le _, fun i _ _ h => by omega⟩ ⟨rfl, rfl, rfl, rfl, trivial⟩ ?_
    rintro k _ ⟨rfl, hk, hh⟩
    by_cases hlt : k < s.length
    · obtain ⟨x, hx⟩ := some_of_lt hlt
      obtain ⟨y, hy⟩ := some_of_lt (l := vars) (k := k) (by omega)
      obtain ⟨b1, o1, ce, rfl, _, _, hd1, rfl, _⟩ := ha.elem hy
      obtain ⟨b2, o2, ce, rfl, _, _, hd2, rfl, _⟩ := hb.elem hx
      ((repeat (first | refine ewp_seq ?_ | refine ewp_block ?_ | refine ewp_region ?_ | refine ewp_skip ?_ | refine ewp_exit ?_ | refine ewp_ret ?_ | refine ewp_true rfl ?_ | refine ewp_false rfl ?_)) <;> ((first | refine o_ltT rfl rfl rfl ?_ | refine o_ltF rfl rfl rfl ?_) <;> (first | refine owp_nilT ?_ | refine owp_nilB ?_ | refine owp_nilBB ?_ | refine owp_nil ?_)) <;> (repeat (first | refine ewp_seq ?_ | refine ewp_block ?_ | refine ewp_region ?_ | refine ewp_skip ?_ | refine ewp_exit ?_ | refine ewp_ret ?_ | refine ewp_true rfl ?_ | refine ewp_false rfl ?_)) <;> (refine o_mv rfl rfl ?_ <;> refine o_ia rfl rfl rfl ?_ <;> refine o_ld rfl rfl ?_ <;> refine o_as rfl rfl ?_ <;> refine o_as rfl rfl ?_ <;> (first | refine owp_nilT ?_ | refine owp_nilB ?_ | refine owp_nilBB ?_ | refine owp_nil ?_)) <;> (repeat (first | refine ewp_seq ?_ | refine ewp_block ?_ | refine ewp_region ?_ | refine ewp_skip ?_ | refine ewp_exit ?_ | refine ewp_ret ?_ | refine ewp_true rfl ?_ | refine ewp_false rfl ?_)) <;> (refine o_mv rfl rfl ?_ <;> (first | refine o_ltT rfl rfl rfl ?_ | refine o_ltF rfl rfl rfl ?_ | refine o_ltS rfl rfl rfl (fun _ => ?_) fun _ => ?_) <;> refine o_mv rfl rfl ?_ <;> (first | (refine owp_yes rfl rfl ?_; refine o_mv rfl rfl ?_) | refine owp_no rfl rfl rfl rfl ?_) <;> (first | (refine owp_yes rfl rfl ?_; refine o_mv rfl rfl ?_) | refine owp_no rfl rfl rfl rfl ?_) <;> (first | (refine owp_yes rfl rfl ?_; refine o_mv rfl rfl ?_) | refine owp_no rfl rfl rfl rfl ?_) <;> (first | (refine owp_yes rfl rfl ?_; refine o_ia rfl rfl rfl ?_) | refine owp_no rfl rfl rfl rfl ?_) <;> (first | (refine owp_yes rfl rfl ?_; refine o_ld rfl rfl ?_) | refine owp_no rfl rfl rfl rfl ?_) <;> (first | (refine owp_yes rfl rfl ?_; (first | refine o_geT rfl rfl rfl ?_ | refine o_geF rfl rfl rfl ?_ | refine o_geS rfl rfl rfl (fun _ => ?_) fun _ => ?_)) | refine owp_no rfl rfl rfl rfl ?_) <;> (first | refine o_pt rfl rfl rfl ?_ | refine o_pf rfl rfl rfl ?_) <;> (first | refine owp_nilT ?_ | refine owp_nilB ?_ | refine owp_nilBB ?_ | refine owp_nil ?_)) <;> (repeat (first | refine ewp_seq ?_ | refine ewp_block ?_ | refine ewp_region ?_ | refine ewp_skip ?_ | refine ewp_exit ?_ | refine ewp_ret ?_ | refine ewp_true rfl ?_ | refine ewp_false rfl ?_)))
      case refine_2.refine_2 =>
        ((first | refine o_ic rfl rfl ?_ | refine o_ad rfl rfl rfl ?_) <;> refine o_mv rfl rfl ?_ <;> (first | refine owp_nilT ?_ | refine owp_nilB ?_ | refine owp_nilBB ?_ | refine owp_nil ?_))
        refine ⟨k + 1, ⟨rfl, rfl, rfl, rfl, trivial⟩, ⟨rfl, by omega, fun i x' y' hi h1 h2 => ?_⟩, by omega⟩
        by_cases he : i = k
        · subst he
          rw [hx] at h1; rw [hy] at h2
          injection h1 with h1; injection h2 with h2
          omega
        · exact hh i x' y' (by omega) h1 h2
      all_goals
        ((repeat (first | refine ewp_seq ?_ | refine ewp_block ?_ | refine ewp_region ?_ | refine ewp_skip ?_ | refine ewp_exit ?_ | refine ewp_ret ?_ | refine ewp_true rfl ?_ | refine ewp_false rfl ?_)) <;> (refine o_as rfl rfl ?_ <;> (first | refine owp_nilT ?_ | refine owp_nilB ?_ | refine owp_nilBB ?_ | refine owp_nil ?_)) <;> (repeat (first | refine ewp_seq ?_ | refine ewp_block ?_ | refine ewp_region ?_ | refine ewp_skip ?_ | refine ewp_exit ?_ | refine ewp_ret ?_ | refine ewp_true rfl ?_ | refine ewp_false rfl ?_)))
        refine ret1 rfl rfl ⟨?_, Below.refl _ _⟩
        rw [bof_f (fun h => by have := h.2 k x y hx hy; omega)]
    · ((repeat (first | refine ewp_seq ?_ | refine ewp_block ?_ | refine ewp_region ?_ | refine ewp_skip ?_ | refine ewp_exit ?_ | refine ewp_ret ?_ | refine ewp_true rfl ?_ | refine ewp_false rfl ?_)) <;> ((first | refine o_ltT rfl rfl rfl ?_ | refine o_ltF rfl rfl rfl ?_) <;> (first | refine owp_nilT ?_ | refine owp_nilB ?_ | refine owp_nilBB ?_ | refine owp_nil ?_)) <;> (repeat (first | refine ewp_seq ?_ | refine ewp_block ?_ | refine ewp_region ?_ | refine ewp_skip ?_ | refine ewp_exit ?_ | refine ewp_ret ?_ | refine ewp_true rfl ?_ | refine ewp_false rfl ?_)) <;> (refine o_as rfl rfl ?_ <;> (first | refine owp_nilT ?_ | refine owp_nilB ?_ | refine owp_nilBB ?_ | refine owp_nil ?_)) <;> (repeat (first | refine ewp_seq ?_ | refine ewp_block ?_ | refine ewp_region ?_ | refine ewp_skip ?_ | refine ewp_exit ?_ | refine ewp_ret ?_ | refine ewp_true rfl ?_ | refine ewp_false rfl ?_)))
      refine ret1 rfl rfl ⟨?_, Below.refl _ _⟩
      rw [bof_t ⟨hl, fun i x y h1 h2 => hh i x y (by have := lt_of_some h1; omega) h1 h2⟩]
  · ((repeat (first | refine ewp_seq ?_ | refine ewp_block ?_ | refine ewp_region ?_ | refine ewp_skip ?_ | refine ewp_exit ?_ | refine ewp_ret ?_ | refine ewp_true rfl ?_ | refine ewp_false rfl ?_)) <;> (refine o_as rfl rfl ?_ <;> (first | refine owp_nilT ?_ | refine owp_nilB ?_ | refine owp_nilBB ?_ | refine owp_nil ?_)) <;> (repeat (first | refine ewp_seq ?_ | refine ewp_block ?_ | refine ewp_region ?_ | refine ewp_skip ?_ | refine ewp_exit ?_ | refine ewp_ret ?_ | refine ewp_true rfl ?_ | refine ewp_false rfl ?_)) <;> (refine o_mv rfl rfl ?_ <;> refine o_ln rfl rfl ?_ <;> refine o_mv rfl rfl ?_ <;> refine o_ln rfl rfl ?_ <;> (first | refine o_neT rfl rfl rfl ?_ | refine o_neF rfl rfl rfl ?_) <;> (first | refine owp_nilT ?_ | refine owp_nilB ?_ | refine owp_nilBB ?_ | refine owp_nil ?_)) <;> (repeat (first | refine ewp_seq ?_ | refine ewp_block ?_ | refine ewp_region ?_ | refine ewp_skip ?_ | refine ewp_exit ?_ | refine ewp_ret ?_ | refine ewp_true rfl ?_ | refine ewp_false rfl ?_)) <;> (refine o_as rfl rfl ?_ <;> (first | refine owp_nilT ?_ | refine owp_nilB ?_ | refine owp_nilBB ?_ | refine owp_nil ?_)) <;> (repeat (first | refine ewp_seq ?_ | refine ewp_block ?_ | refine ewp_region ?_ | refine ewp_skip ?_ | refine ewp_exit ?_ | refine ewp_ret ?_ | refine ewp_true rfl ?_ | refine ewp_false rfl ?_)))
    refine ret1 rfl rfl ⟨?_, Below.refl _ _⟩
    rw [bof_f (fun h => hl h.1)]
/-- A fact is in range. -/
def FactOk (vars : List Int) (x : Fct) : Prop := 0 ≤ x.var ∧ 0 ≤ x.val ∧ ∃ y, vars[x.var.toNat]? = some y ∧ x.val < y
/-- A list of facts is proper: in range, and strictly ascending by variable. -/
def FactsOk (vars : List Int) (f : List Fct) : Prop := (∀ (i : Nat) x, f[i]? = some x → FactOk vars x) ∧ ∀ (i : Nat) x y, f[i]? = some x → f[i + 1]? = some y → x.var < y.var
def FactsTo (vars : List Int) (f : List Fct) (k : Nat) : Prop := (∀ (i : Nat) x, i < k → f[i]? = some x → FactOk vars x) ∧ ∀ (i : Nat) x y, i + 1 < k → f[i]? = some x → f[i + 1]? = some y → x.var < y.var
theorem FactsTo.step {vars : List Int} {f : List Fct} {k : Nat} {x : Fct} (h : FactsTo vars f k) (hx : f[k]? = some x) (ho : FactOk vars x) (hp : ∀ y, 0 < k → f[k - 1]? = some y → y.var < x.var) : FactsTo vars f (k + 1) := by
  refine ⟨fun i y hi hy => ?_, fun i y z hi hy hz => ?_⟩
  · by_cases he : i = k
    · subst he; rw [hx] at hy; injection hy with hy; exact hy ▸ ho
    · exact h.1 i y (by omega) hy
  · by_cases he : i + 1 = k
    · rw [he, hx] at hz; injection hz with hz; subst hz
      exact hp y (by omega) (by rw [show k - 1 = i from by omega]; exact hy)
    · exact h.2 i y z (by omega) hy hz
theorem FactsTo.done {vars : List Int} {f : List Fct} {k : Nat} (h : FactsTo vars f k) (hk : f.length ≤ k) : FactsOk vars f :=
  ⟨fun i x hx => h.1 i x (by have := lt_of_some hx; omega) hx, fun i x y hx hy => h.2 i x y (by have := lt_of_some hy; omega) hx hy⟩
theorem baseProper {w : World} {vv fv : Value} {vars : List Int} {f : List Fct} (hv : V w vv vars) (hf : V w fv f) :
    Fn Try.prog 44 [vv, fv] w fun v w' => v = .bool (bof (FactsOk vars f)) ∧ Ext w w' := by
  obtain ⟨A, ca, rfl⟩ := hv.form
  obtain ⟨B, cb, rfl⟩ := hf.form
  have hfl := hf.len
  refine fn_enter Try.func44 rfl Try.ntmps44 rfl ?_
  ((repeat (first | refine ewp_seq ?_ | refine ewp_block ?_ | refine ewp_region ?_ | refine ewp_skip ?_ | refine ewp_exit ?_ | refine ewp_ret ?_ | refine ewp_true rfl ?_ | refine ewp_false rfl ?_)) <;> (refine o_as rfl rfl ?_ <;> (first | refine owp_nilT ?_ | refine owp_nilB ?_ | refine owp_nilBB ?_ | refine owp_nil ?_)) <;> (repeat (first | refine ewp_seq ?_ | refine ewp_block ?_ | refine ewp_region ?_ | refine ewp_skip ?_ | refine ewp_exit ?_ | refine ewp_ret ?_ | refine ewp_true rfl ?_ | refine ewp_false rfl ?_)) <;> (refine o_mv rfl rfl ?_ <;> refine o_ln rfl rfl ?_ <;> refine o_mv rfl rfl ?_ <;> (first | refine owp_nilT ?_ | refine owp_nilB ?_ | refine owp_nilBB ?_ | refine owp_nil ?_)) <;> (repeat (first | refine ewp_seq ?_ | refine ewp_block ?_ | refine ewp_region ?_ | refine ewp_skip ?_ | refine ewp_exit ?_ | refine ewp_ret ?_ | refine ewp_true rfl ?_ | refine ewp_false rfl ?_)))
  refine ewp_for (fun k : Nat => [(0, .slice A vars.length ca), (1, .slice B f.length cb), (7, .slice B f.length cb), (8, .int .i64 (f.length : Int)), (9, .int .i64 (k : Int))])
    (fun k w' => Ext w w' ∧ k ≤ f.length ∧ FactsTo vars f k) (fun k => f.length - k) 0 ⟨Below.refl _ _, Nat.zero_le _, ⟨fun i _ h => by omega, fun i _ _ h => by omega⟩⟩ ⟨rfl, rfl, rfl, rfl, rfl, trivial⟩ ?_
  rintro k w1 ⟨hE, hk, hh⟩
  by_cases hlt : k < f.length
  · obtain ⟨x, hx⟩ := some_of_lt hlt
    obtain ⟨b, o, ce, rfl, hb, _, hd1, rfl, hr1, hr2⟩ := (hf.ext hE).elem hx
    ((repeat (first | refine ewp_seq ?_ | refine ewp_block ?_ | refine ewp_region ?_ | refine ewp_skip ?_ | refine ewp_exit ?_ | refine ewp_ret ?_ | refine ewp_true rfl ?_ | refine ewp_false rfl ?_)) <;> ((first | refine o_ltT rfl rfl rfl ?_ | refine o_ltF rfl rfl rfl ?_) <;> (first | refine owp_nilT ?_ | refine owp_nilB ?_ | refine owp_nilBB ?_ | refine owp_nil ?_)) <;> (repeat (first | refine ewp_seq ?_ | refine ewp_block ?_ | refine ewp_region ?_ | refine ewp_skip ?_ | refine ewp_exit ?_ | refine ewp_ret ?_ | refine ewp_true rfl ?_ | refine ewp_false rfl ?_)) <;> (refine o_mv rfl rfl ?_ <;> refine o_ia rfl rfl rfl ?_ <;> refine o_la rfl rfl ?_) <;> (repeat (first | refine ewp_seq ?_ | refine ewp_block ?_ | refine ewp_region ?_ | refine ewp_skip ?_ | refine ewp_exit ?_ | refine ewp_ret ?_ | refine ewp_true rfl ?_ | refine ewp_false rfl ?_)))
    refine owp_alloc rfl fun w2 hN => ?_
    (refine o_as rfl rfl ?_)
    refine owp_store rfl rfl hN.blk rfl (Nat.le_refl _) (by simp [Value.cells, Value.oneCell']) fun w3 hU => ?_
    replace hN := hN.upd hU
    have hb1 := hN.blk
    have hE3 : Ext w w3 := hE.trans' hN.ext
    ((first | refine owp_nilT ?_ | refine owp_nilB ?_ | refine owp_nilBB ?_ | refine owp_nil ?_))
    repeat (first | refine ewp_seq ?_ | refine ewp_block ?_ | refine ewp_region ?_ | refine ewp_skip ?_ | refine ewp_exit ?_ | refine ewp_ret ?_ | refine ewp_true rfl ?_ | refine ewp_false rfl ?_)
    refine ewp_draw (· = w3) [(0, true), (1, true), (2, true), (3, true), (4, true), (5, true), (6, true), (7, true), (8, true), (9, true), (10, true), (11, true), (12, true), (13, true), (14, true), (15, true), (16, true), (17, true), (18, true), (19, true), (20, true), (21, true), (22, true), (23, true), (24, true), (25, true), (26, true), (27, true), (28, true), (29, true), (30, true), (31, true), (32, true), (33, true), (34, true), (35, true), (36, true), (37, true), (38, true), (39, true)] (by kernel_rfl) rfl (by kernel_rfl) rfl ?_
    by_cases hvr : 0 ≤ x.var ∧ x.var < vars.length
    · obtain ⟨j, hj1⟩ := Int.eq_ofNat_of_zero_le hvr.1
      obtain ⟨y, hy⟩ := some_of_lt (l := vars) (k := j) (by omega)
      obtain ⟨b2, o2, ce2, rfl, _, _, hd2, rfl, _⟩ := (hv.ext hE3).elem hy
      have hjy : vars[x.var.toNat]? = some y := by rw [hj1]; simpa using hy
      have hok : 0 ≤ x.val → x.val < y → FactOk vars x := fun h1 h2 => ⟨hvr.1, h1, y, hjy, h2⟩
      have hno : ¬ (0 ≤ x.val ∧ x.val < y) → ¬ FactsOk vars f := fun h1 h2 => h1 (by
        obtain ⟨_, h3, y', h4, h5⟩ := h2.1 k x hx
        rw [hjy] at h4; injection h4 with h4; subst h4; exact ⟨h3, h5⟩)
      by_cases h0 : 0 < k
      · obtain ⟨z, hz⟩ := some_of_lt (l := f) (k := k - 1) (by omega)
        obtain ⟨b3, o3, ce3, he3, _, _, hd3, rfl, _⟩ := (hf.ext hE3).elem hz
        injection he3 with he3
        injection he3 with he3 he4
        subst he3; subst he4
        have hj2 : (k : Int) - 1 = ((k - 1 : Nat) : Int) := by omega
        have hno2 : ¬ z.var < x.var → ¬ FactsOk vars f := fun h1 h2 => h1 (h2.2 (k - 1) z x hz (by rw [show k - 1 + 1 = k from by omega]; exact hx))
        (refine h_fa rfl rfl rfl ?_ <;> refine h_ldA rfl rfl rfl ?_ <;> (first | refine h_ltT rfl rfl rfl rfl ?_ | refine h_ltF rfl rfl rfl rfl ?_ | refine h_ltS rfl rfl rfl rfl (fun _ => ?_) fun _ => ?_) <;> refine h_mv rfl rfl rfl ?_ <;> (refine hwp_o rfl ?_; (first | (refine hwq_yes rfl rfl ?_; refine g_fa rfl rfl ?_) | refine hwq_no rfl rfl rfl rfl ?_)) <;> (refine hwp_o rfl ?_; (first | (refine hwq_yes rfl rfl ?_; refine g_ldA rfl rfl ?_) | refine hwq_no rfl rfl rfl rfl ?_)) <;> (refine hwp_o rfl ?_; (first | (refine hwq_yes rfl rfl ?_; refine g_mv rfl rfl ?_) | refine hwq_no rfl rfl rfl rfl ?_)) <;> (refine hwp_o rfl ?_; (first | (refine hwq_yes rfl rfl ?_; refine g_ln rfl rfl ?_) | refine hwq_no rfl rfl rfl rfl ?_)) <;> (refine hwp_o rfl ?_; (first | (refine hwq_yes rfl rfl ?_; (first | refine hwq_dT (fun _ _ => ev_geq rfl rfl) rfl (by omega) ?_ | refine hwq_dF (fun _ _ => ev_geq rfl rfl) rfl (by omega) ?_ | refine hwq_split (fun _ _ => ev_geq rfl rfl) rfl (fun _ => ?_) (fun _ => ?_))) | refine hwq_no rfl rfl rfl rfl ?_)) <;> (first | refine h_pt rfl rfl rfl rfl ?_ | refine h_pf rfl rfl rfl rfl ?_) <;> refine h_mv rfl rfl rfl ?_ <;> (refine hwp_o rfl ?_; (first | (refine hwq_yes rfl rfl ?_; refine g_fa rfl rfl ?_) | refine hwq_no rfl rfl rfl rfl ?_)) <;> (refine hwp_o rfl ?_; (first | (refine hwq_yes rfl rfl ?_; refine g_ldA rfl rfl ?_) | refine hwq_no rfl rfl rfl rfl ?_)) <;> (refine hwp_o rfl ?_; (first | (refine hwq_yes rfl rfl ?_; (first | refine hwq_dT (fun _ _ => ev_lss rfl rfl) rfl (by omega) ?_ | refine hwq_dF (fun _ _ => ev_lss rfl rfl) rfl (by omega) ?_ | refine hwq_split (fun _ _ => ev_lss rfl rfl) rfl (fun _ => ?_) (fun _ => ?_))) | refine hwq_no rfl rfl rfl rfl ?_)) <;> (first | refine h_pt rfl rfl rfl rfl ?_ | refine h_pf rfl rfl rfl rfl ?_) <;> refine h_mv rfl rfl rfl ?_ <;> (refine hwp_o rfl ?_; (first | (refine hwq_yes rfl rfl ?_; refine g_fa rfl rfl ?_) | refine hwq_no rfl rfl rfl rfl ?_)) <;> (refine hwp_o rfl ?_; (first | (refine hwq_yes rfl rfl ?_; refine g_ldA rfl rfl ?_) | refine hwq_no rfl rfl rfl rfl ?_)) <;> (refine hwp_o rfl ?_; (first | (refine hwq_yes rfl rfl ?_; refine g_mv rfl rfl ?_) | refine hwq_no rfl rfl rfl rfl ?_)) <;> (refine hwp_o rfl ?_; (first | (refine hwq_yes rfl rfl ?_; refine g_fa rfl rfl ?_) | refine hwq_no rfl rfl rfl rfl ?_)) <;> (refine hwp_o rfl ?_; (first | (refine hwq_yes rfl rfl ?_; refine g_ldA rfl rfl ?_) | refine hwq_no rfl rfl rfl rfl ?_)) <;> (refine hwp_o rfl ?_; (first | (refine hwq_yes rfl rfl ?_; refine g_ia rfl rfl rfl ?_) | refine hwq_no rfl rfl rfl rfl ?_)) <;> (refine hwp_o rfl ?_; (first | (refine hwq_yes rfl rfl ?_; refine g_ldA rfl rfl ?_) | refine hwq_no rfl rfl rfl rfl ?_)) <;> (refine hwp_o rfl ?_; (first | (refine hwq_yes rfl rfl ?_; (first | refine hwq_dT (fun _ _ => ev_geq rfl rfl) rfl (by omega) ?_ | refine hwq_dF (fun _ _ => ev_geq rfl rfl) rfl (by omega) ?_ | refine hwq_split (fun _ _ => ev_geq rfl rfl) rfl (fun _ => ?_) (fun _ => ?_))) | refine hwq_no rfl rfl rfl rfl ?_)) <;> (first | refine h_pt rfl rfl rfl rfl ?_ | refine h_pf rfl rfl rfl rfl ?_) <;> refine h_mv rfl rfl rfl ?_ <;> (refine hwp_o rfl ?_; (first | (refine hwq_yes rfl rfl ?_; refine g_mv rfl rfl ?_) | refine hwq_no rfl rfl rfl rfl ?_)) <;> (refine hwp_o rfl ?_; (first | (refine hwq_yes rfl rfl ?_; (first | refine hwq_dT (fun _ _ => ev_gtr rfl rfl) rfl (by omega) ?_ | refine hwq_dF (fun _ _ => ev_gtr rfl rfl) rfl (by omega) ?_ | refine hwq_split (fun _ _ => ev_gtr rfl rfl) rfl (fun _ => ?_) (fun _ => ?_))) | refine hwq_no rfl rfl rfl rfl ?_)) <;> (refine hwp_o rfl ?_; (first | (refine hwq_yes rfl rfl ?_; refine g_mv rfl rfl ?_) | refine hwq_no rfl rfl rfl rfl ?_)) <;> (refine hwp_o rfl ?_; (first | (refine hwq_yes rfl rfl ?_; refine g_mv rfl rfl ?_) | refine hwq_no rfl rfl rfl rfl ?_)) <;> (refine hwp_o rfl ?_; (first | (refine hwq_yes rfl rfl ?_; refine g_mv rfl rfl ?_) | refine hwq_no rfl rfl rfl rfl ?_)) <;> (refine hwp_o rfl ?_; (first | (refine hwq_yes rfl rfl ?_; refine g_sb rfl rfl rfl ?_) | refine hwq_no rfl rfl rfl rfl ?_)) <;> (refine hwp_o rfl ?_; (first | (refine hwq_yes rfl rfl ?_; refine g_ia rfl rfl rfl ?_) | refine hwq_no rfl rfl rfl rfl ?_)) <;> (refine hwp_o rfl ?_; (first | (refine hwq_yes rfl rfl ?_; refine g_fa rfl rfl ?_) | refine hwq_no rfl rfl rfl rfl ?_)) <;> (refine hwp_o rfl ?_; (first | (refine hwq_yes rfl rfl ?_; refine g_ldA rfl rfl ?_) | refine hwq_no rfl rfl rfl rfl ?_)) <;> (refine hwp_o rfl ?_; (first | (refine hwq_yes rfl rfl ?_; refine g_fa rfl rfl ?_) | refine hwq_no rfl rfl rfl rfl ?_)) <;> (refine hwp_o rfl ?_; (first | (refine hwq_yes rfl rfl ?_; refine g_ldA rfl rfl ?_) | refine hwq_no rfl rfl rfl rfl ?_)) <;> (refine hwp_o rfl ?_; (first | (refine hwq_yes rfl rfl ?_; (first | refine hwq_dT (fun _ _ => ev_geq rfl rfl) rfl (by omega) ?_ | refine hwq_dF (fun _ _ => ev_geq rfl rfl) rfl (by omega) ?_ | refine hwq_split (fun _ _ => ev_geq rfl rfl) rfl (fun _ => ?_) (fun _ => ?_))) | refine hwq_no rfl rfl rfl rfl ?_)) <;> (refine hwp_o rfl ?_; (first | (refine hwq_yes rfl rfl ?_; (first | refine g_pt rfl rfl rfl ?_ | refine g_pf rfl rfl rfl ?_)) | refine hwq_no rfl rfl rfl rfl ?_)) <;> (first | refine h_pt rfl rfl rfl rfl ?_ | refine h_pf rfl rfl rfl rfl ?_) <;> (first | refine hwp_nilT ?_ | refine hwp_nilB ?_ | refine hwp_nil ?_)) <;> (repeat (first | refine ewp_seq ?_ | refine ewp_block ?_ | refine ewp_region ?_ | refine ewp_skip ?_ | refine ewp_exit ?_ | refine ewp_ret ?_ | refine ewp_true rfl ?_ | refine ewp_false rfl ?_))
        all_goals first
          | (((first | refine o_ic rfl rfl ?_ | refine o_ad rfl rfl rfl ?_) <;> refine o_mv rfl rfl ?_ <;> (first | refine owp_nilT ?_ | refine owp_nilB ?_ | refine owp_nilBB ?_ | refine owp_nil ?_))
             exact ⟨k + 1, ⟨rfl, rfl, rfl, rfl, rfl, trivial⟩, ⟨hE3, by omega, hh.step hx (hok (by omega) (by omega)) (fun y' _ hy' => by rw [hz] at hy'; injection hy' with hy'; subst hy'; omega)⟩, by omega⟩)
          | (((repeat (first | refine ewp_seq ?_ | refine ewp_block ?_ | refine ewp_region ?_ | refine ewp_skip ?_ | refine ewp_exit ?_ | refine ewp_ret ?_ | refine ewp_true rfl ?_ | refine ewp_false rfl ?_)) <;> (refine o_as rfl rfl ?_ <;> (first | refine owp_nilT ?_ | refine owp_nilB ?_ | refine owp_nilBB ?_ | refine owp_nil ?_)) <;> (repeat (first | refine ewp_seq ?_ | refine ewp_block ?_ | refine ewp_region ?_ | refine ewp_skip ?_ | refine ewp_exit ?_ | refine ewp_ret ?_ | refine ewp_true rfl ?_ | refine ewp_false rfl ?_)))
             refine ret1 rfl rfl ⟨?_, hE3⟩
             first | rw [bof_f (hno (by omega))] | rw [bof_f (hno2 (by omega))])
      · (refine h_fa rfl rfl rfl ?_ <;> refine h_ldA rfl rfl rfl ?_ <;> (first | refine h_ltT rfl rfl rfl rfl ?_ | refine h_ltF rfl rfl rfl rfl ?_ | refine h_ltS rfl rfl rfl rfl (fun _ => ?_) fun _ => ?_) <;> refine h_mv rfl rfl rfl ?_ <;> (refine hwp_o rfl ?_; (first | (refine hwq_yes rfl rfl ?_; refine g_fa rfl rfl ?_) | refine hwq_no rfl rfl rfl rfl ?_)) <;> (refine hwp_o rfl ?_; (first | (refine hwq_yes rfl rfl ?_; refine g_ldA rfl rfl ?_) | refine hwq_no rfl rfl rfl rfl ?_)) <;> (refine hwp_o rfl ?_; (first | (refine hwq_yes rfl rfl ?_; refine g_mv rfl rfl ?_) | refine hwq_no rfl rfl rfl rfl ?_)) <;> (refine hwp_o rfl ?_; (first | (refine hwq_yes rfl rfl ?_; refine g_ln rfl rfl ?_) | refine hwq_no rfl rfl rfl rfl ?_)) <;> (refine hwp_o rfl ?_; (first | (refine hwq_yes rfl rfl ?_; (first | refine hwq_dT (fun _ _ => ev_geq rfl rfl) rfl (by omega) ?_ | refine hwq_dF (fun _ _ => ev_geq rfl rfl) rfl (by omega) ?_ | refine hwq_split (fun _ _ => ev_geq rfl rfl) rfl (fun _ => ?_) (fun _ => ?_))) | refine hwq_no rfl rfl rfl rfl ?_)) <;> (first | refine h_pt rfl rfl rfl rfl ?_ | refine h_pf rfl rfl rfl rfl ?_) <;> refine h_mv rfl rfl rfl ?_ <;> (refine hwp_o rfl ?_; (first | (refine hwq_yes rfl rfl ?_; refine g_fa rfl rfl ?_) | refine hwq_no rfl rfl rfl rfl ?_)) <;> (refine hwp_o rfl ?_; (first | (refine hwq_yes rfl rfl ?_; refine g_ldA rfl rfl ?_) | refine hwq_no rfl rfl rfl rfl ?_)) <;> (refine hwp_o rfl ?_; (first | (refine hwq_yes rfl rfl ?_; (first | refine hwq_dT (fun _ _ => ev_lss rfl rfl) rfl (by omega) ?_ | refine hwq_dF (fun _ _ => ev_lss rfl rfl) rfl (by omega) ?_ | refine hwq_split (fun _ _ => ev_lss rfl rfl) rfl (fun _ => ?_) (fun _ => ?_))) | refine hwq_no rfl rfl rfl rfl ?_)) <;> (first | refine h_pt rfl rfl rfl rfl ?_ | refine h_pf rfl rfl rfl rfl ?_) <;> refine h_mv rfl rfl rfl ?_ <;> (refine hwp_o rfl ?_; (first | (refine hwq_yes rfl rfl ?_; refine g_fa rfl rfl ?_) | refine hwq_no rfl rfl rfl rfl ?_)) <;> (refine hwp_o rfl ?_; (first | (refine hwq_yes rfl rfl ?_; refine g_ldA rfl rfl ?_) | refine hwq_no rfl rfl rfl rfl ?_)) <;> (refine hwp_o rfl ?_; (first | (refine hwq_yes rfl rfl ?_; refine g_mv rfl rfl ?_) | refine hwq_no rfl rfl rfl rfl ?_)) <;> (refine hwp_o rfl ?_; (first | (refine hwq_yes rfl rfl ?_; refine g_fa rfl rfl ?_) | refine hwq_no rfl rfl rfl rfl ?_)) <;> (refine hwp_o rfl ?_; (first | (refine hwq_yes rfl rfl ?_; refine g_ldA rfl rfl ?_) | refine hwq_no rfl rfl rfl rfl ?_)) <;> (refine hwp_o rfl ?_; (first | (refine hwq_yes rfl rfl ?_; refine g_ia rfl rfl rfl ?_) | refine hwq_no rfl rfl rfl rfl ?_)) <;> (refine hwp_o rfl ?_; (first | (refine hwq_yes rfl rfl ?_; refine g_ldA rfl rfl ?_) | refine hwq_no rfl rfl rfl rfl ?_)) <;> (refine hwp_o rfl ?_; (first | (refine hwq_yes rfl rfl ?_; (first | refine hwq_dT (fun _ _ => ev_geq rfl rfl) rfl (by omega) ?_ | refine hwq_dF (fun _ _ => ev_geq rfl rfl) rfl (by omega) ?_ | refine hwq_split (fun _ _ => ev_geq rfl rfl) rfl (fun _ => ?_) (fun _ => ?_))) | refine hwq_no rfl rfl rfl rfl ?_)) <;> (first | refine h_pt rfl rfl rfl rfl ?_ | refine h_pf rfl rfl rfl rfl ?_) <;> refine h_mv rfl rfl rfl ?_ <;> (refine hwp_o rfl ?_; (first | (refine hwq_yes rfl rfl ?_; refine g_mv rfl rfl ?_) | refine hwq_no rfl rfl rfl rfl ?_)) <;> (refine hwp_o rfl ?_; (first | (refine hwq_yes rfl rfl ?_; (first | refine hwq_dT (fun _ _ => ev_gtr rfl rfl) rfl (by omega) ?_ | refine hwq_dF (fun _ _ => ev_gtr rfl rfl) rfl (by omega) ?_ | refine hwq_split (fun _ _ => ev_gtr rfl rfl) rfl (fun _ => ?_) (fun _ => ?_))) | refine hwq_no rfl rfl rfl rfl ?_)) <;> (refine hwp_o rfl ?_; (first | (refine hwq_yes rfl rfl ?_; refine g_mv rfl rfl ?_) | refine hwq_no rfl rfl rfl rfl ?_)) <;> (refine hwp_o rfl ?_; (first | (refine hwq_yes rfl rfl ?_; refine g_mv rfl rfl ?_) | refine hwq_no rfl rfl rfl rfl ?_)) <;> (refine hwp_o rfl ?_; (first | (refine hwq_yes rfl rfl ?_; refine g_mv rfl rfl ?_) | refine hwq_no rfl rfl rfl rfl ?_)) <;> (refine hwp_o rfl ?_; (first | (refine hwq_yes rfl rfl ?_; refine g_sb rfl rfl rfl ?_) | refine hwq_no rfl rfl rfl rfl ?_)) <;> (refine hwp_o rfl ?_; (first | (refine hwq_yes rfl rfl ?_; refine g_ia rfl rfl rfl ?_) | refine hwq_no rfl rfl rfl rfl ?_)) <;> (refine hwp_o rfl ?_; (first | (refine hwq_yes rfl rfl ?_; refine g_fa rfl rfl ?_) | refine hwq_no rfl rfl rfl rfl ?_)) <;> (refine hwp_o rfl ?_; (first | (refine hwq_yes rfl rfl ?_; refine g_ldA rfl rfl ?_) | refine hwq_no rfl rfl rfl rfl ?_)) <;> (refine hwp_o rfl ?_; (first | (refine hwq_yes rfl rfl ?_; refine g_fa rfl rfl ?_) | refine hwq_no rfl rfl rfl rfl ?_)) <;> (refine hwp_o rfl ?_; (first | (refine hwq_yes rfl rfl ?_; refine g_ldA rfl rfl ?_) | refine hwq_no rfl rfl rfl rfl ?_)) <;> (refine hwp_o rfl ?_; (first | (refine hwq_yes rfl rfl ?_; (first | refine hwq_dT (fun _ _ => ev_geq rfl rfl) rfl (by omega) ?_ | refine hwq_dF (fun _ _ => ev_geq rfl rfl) rfl (by omega) ?_ | refine hwq_split (fun _ _ => ev_geq rfl rfl) rfl (fun _ => ?_) (fun _ => ?_))) | refine hwq_no rfl rfl rfl rfl ?_)) <;> (refine hwp_o rfl ?_; (first | (refine hwq_yes rfl rfl ?_; (first | refine g_pt rfl rfl rfl ?_ | refine g_pf rfl rfl rfl ?_)) | refine hwq_no rfl rfl rfl rfl ?_)) <;> (first | refine h_pt rfl rfl rfl rfl ?_ | refine h_pf rfl rfl rfl rfl ?_) <;> (first | refine hwp_nilT ?_ | refine hwp_nilB ?_ | refine hwp_nil ?_)) <;> (repeat (first | refine ewp_seq ?_ | refine ewp_block ?_ | refine ewp_region ?_ | refine ewp_skip ?_ | refine ewp_exit ?_ | refine ewp_ret ?_ | refine ewp_true rfl ?_ | refine ewp_false rfl ?_))
        all_goals first
          | (((first | refine o_ic rfl rfl ?_ | refine o_ad rfl rfl rfl ?_) <;> refine o_mv rfl rfl ?_ <;> (first | refine owp_nilT ?_ | refine owp_nilB ?_ | refine owp_nilBB ?_ | refine owp_nil ?_))
             exact ⟨k + 1, ⟨rfl, rfl, rfl, rfl, rfl, trivial⟩, ⟨hE3, by omega, hh.step hx (hok (by omega) (by omega)) (fun y' _ hy' => by omega)⟩, by omega⟩)
          | (((repeat (first | refine ewp_seq ?_ | refine ewp_block ?_ | refine ewp_region ?_ | refine ewp_skip ?_ | refine ewp_exit ?_ | refine ewp_ret ?_ | refine ewp_true rfl ?_ | refine ewp_false rfl ?_)) <;> (refine o_as rfl rfl ?_ <;> (first | refine owp_nilT ?_ | refine owp_nilB ?_ | refine owp_nilBB ?_ | refine owp_nil ?_)) <;> (repeat (first | refine ewp_seq ?_ | refine ewp_block ?_ | refine ewp_region ?_ | refine ewp_skip ?_ | refine ewp_exit ?_ | refine ewp_ret ?_ | refine ewp_true rfl ?_ | refine ewp_false rfl ?_)))
             refine ret1 rfl rfl ⟨?_, hE3⟩
             rw [bof_f (hno (by omega))])
    · have hno : ¬ FactsOk vars f := fun h => by
        obtain ⟨h1, h2, y, h3, _⟩ := h.1 k x hx
        have := lt_of_some h3
        omega
      (refine h_fa rfl rfl rfl ?_ <;> refine h_ldA rfl rfl rfl ?_ <;> (first | refine h_ltT rfl rfl rfl rfl ?_ | refine h_ltF rfl rfl rfl rfl ?_ | refine h_ltS rfl rfl rfl rfl (fun _ => ?_) fun _ => ?_) <;> refine h_mv rfl rfl rfl ?_ <;> (refine hwp_o rfl ?_; (first | (refine hwq_yes rfl rfl ?_; refine g_fa rfl rfl ?_) | refine hwq_no rfl rfl rfl rfl ?_)) <;> (refine hwp_o rfl ?_; (first | (refine hwq_yes rfl rfl ?_; refine g_ldA rfl rfl ?_) | refine hwq_no rfl rfl rfl rfl ?_)) <;> (refine hwp_o rfl ?_; (first | (refine hwq_yes rfl rfl ?_; refine g_mv rfl rfl ?_) | refine hwq_no rfl rfl rfl rfl ?_)) <;> (refine hwp_o rfl ?_; (first | (refine hwq_yes rfl rfl ?_; refine g_ln rfl rfl ?_) | refine hwq_no rfl rfl rfl rfl ?_)) <;> (refine hwp_o rfl ?_; (first | (refine hwq_yes rfl rfl ?_; (first | refine hwq_dT (fun _ _ => ev_geq rfl rfl) rfl (by omega) ?_ | refine hwq_dF (fun _ _ => ev_geq rfl rfl) rfl (by omega) ?_ | refine hwq_split (fun _ _ => ev_geq rfl rfl) rfl (fun _ => ?_) (fun _ => ?_))) | refine hwq_no rfl rfl rfl rfl ?_)) <;> (first | refine h_pt rfl rfl rfl rfl ?_ | refine h_pf rfl rfl rfl rfl ?_) <;> refine h_mv rfl rfl rfl ?_ <;> (refine hwp_o rfl ?_; (first | (refine hwq_yes rfl rfl ?_; refine g_fa rfl rfl ?_) | refine hwq_no rfl rfl rfl rfl ?_)) <;> (refine hwp_o rfl ?_; (first | (refine hwq_yes rfl rfl ?_; refine g_ldA rfl rfl ?_) | refine hwq_no rfl rfl rfl rfl ?_)) <;> (refine hwp_o rfl ?_; (first | (refine hwq_yes rfl rfl ?_; (first | refine hwq_dT (fun _ _ => ev_lss rfl rfl) rfl (by omega) ?_ | refine hwq_dF (fun _ _ => ev_lss rfl rfl) rfl (by omega) ?_ | refine hwq_split (fun _ _ => ev_lss rfl rfl) rfl (fun _ => ?_) (fun _ => ?_))) | refine hwq_no rfl rfl rfl rfl ?_)) <;> (first | refine h_pt rfl rfl rfl rfl ?_ | refine h_pf rfl rfl rfl rfl ?_) <;> refine h_mv rfl rfl rfl ?_ <;> (refine hwp_o rfl ?_; (first | (refine hwq_yes rfl rfl ?_; refine g_fa rfl rfl ?_) | refine hwq_no rfl rfl rfl rfl ?_)) <;> (refine hwp_o rfl ?_; (first | (refine hwq_yes rfl rfl ?_; refine g_ldA rfl rfl ?_) | refine hwq_no rfl rfl rfl rfl ?_)) <;> (refine hwp_o rfl ?_; (first | (refine hwq_yes rfl rfl ?_; refine g_mv rfl rfl ?_) | refine hwq_no rfl rfl rfl rfl ?_)) <;> (refine hwp_o rfl ?_; (first | (refine hwq_yes rfl rfl ?_; refine g_fa rfl rfl ?_) | refine hwq_no rfl rfl rfl rfl ?_)) <;> (refine hwp_o rfl ?_; (first | (refine hwq_yes rfl rfl ?_; refine g_ldA rfl rfl ?_) | refine hwq_no rfl rfl rfl rfl ?_)) <;> (refine hwp_o rfl ?_; (first | (refine hwq_yes rfl rfl ?_; refine g_ia rfl rfl rfl ?_) | refine hwq_no rfl rfl rfl rfl ?_)) <;> (refine hwp_o rfl ?_; (first | (refine hwq_yes rfl rfl ?_; refine g_ldA rfl rfl ?_) | refine hwq_no rfl rfl rfl rfl ?_)) <;> (refine hwp_o rfl ?_; (first | (refine hwq_yes rfl rfl ?_; (first | refine hwq_dT (fun _ _ => ev_geq rfl rfl) rfl (by omega) ?_ | refine hwq_dF (fun _ _ => ev_geq rfl rfl) rfl (by omega) ?_ | refine hwq_split (fun _ _ => ev_geq rfl rfl) rfl (fun _ => ?_) (fun _ => ?_))) | refine hwq_no rfl rfl rfl rfl ?_)) <;> (first | refine h_pt rfl rfl rfl rfl ?_ | refine h_pf rfl rfl rfl rfl ?_) <;> refine h_mv rfl rfl rfl ?_ <;> (refine hwp_o rfl ?_; (first | (refine hwq_yes rfl rfl ?_; refine g_mv rfl rfl ?_) | refine hwq_no rfl rfl rfl rfl ?_)) <;> (refine hwp_o rfl ?_; (first | (refine hwq_yes rfl rfl ?_; (first | refine hwq_dT (fun _ _ => ev_gtr rfl rfl) rfl (by omega) ?_ | refine hwq_dF (fun _ _ => ev_gtr rfl rfl) rfl (by omega) ?_ | refine hwq_split (fun _ _ => ev_gtr rfl rfl) rfl (fun _ => ?_) (fun _ => ?_))) | refine hwq_no rfl rfl rfl rfl ?_)) <;> (refine hwp_o rfl ?_; (first | (refine hwq_yes rfl rfl ?_; refine g_mv rfl rfl ?_) | refine hwq_no rfl rfl rfl rfl ?_)) <;> (refine hwp_o rfl ?_; (first | (refine hwq_yes rfl rfl ?_; refine g_mv rfl rfl ?_) | refine hwq_no rfl rfl rfl rfl ?_)) <;> (refine hwp_o rfl ?_; (first | (refine hwq_yes rfl rfl ?_; refine g_mv rfl rfl ?_) | refine hwq_no rfl rfl rfl rfl ?_)) <;> (refine hwp_o rfl ?_; (first | (refine hwq_yes rfl rfl ?_; refine g_sb rfl rfl rfl ?_) | refine hwq_no rfl rfl rfl rfl ?_)) <;> (refine hwp_o rfl ?_; (first | (refine hwq_yes rfl rfl ?_; refine g_ia rfl rfl rfl ?_) | refine hwq_no rfl rfl rfl rfl ?_)) <;> (refine hwp_o rfl ?_; (first | (refine hwq_yes rfl rfl ?_; refine g_fa rfl rfl ?_) | refine hwq_no rfl rfl rfl rfl ?_)) <;> (refine hwp_o rfl ?_; (first | (refine hwq_yes rfl rfl ?_; refine g_ldA rfl rfl ?_) | refine hwq_no rfl rfl rfl rfl ?_)) <;> (refine hwp_o rfl ?_; (first | (refine hwq_yes rfl rfl ?_; refine g_fa rfl rfl ?_) | refine hwq_no rfl rfl rfl rfl ?_)) <;> (refine hwp_o rfl ?_; (first | (refine hwq_yes rfl rfl ?_; refine g_ldA rfl rfl ?_) | refine hwq_no rfl rfl rfl rfl ?_)) <;> (refine hwp_o rfl ?_; (first | (refine hwq_yes rfl rfl ?_; (first | refine hwq_dT (fun _ _ => ev_geq rfl rfl) rfl (by omega) ?_ | refine hwq_dF (fun _ _ => ev_geq rfl rfl) rfl (by omega) ?_ | refine hwq_split (fun _ _ => ev_geq rfl rfl) rfl (fun _ => ?_) (fun _ => ?_))) | refine hwq_no rfl rfl rfl rfl ?_)) <;> (refine hwp_o rfl ?_; (first | (refine hwq_yes rfl rfl ?_; (first | refine g_pt rfl rfl rfl ?_ | refine g_pf rfl rfl rfl ?_)) | refine hwq_no rfl rfl rfl rfl ?_)) <;> (first | refine h_pt rfl rfl rfl rfl ?_ | refine h_pf rfl rfl rfl rfl ?_) <;> (first | refine hwp_nilT ?_ | refine hwp_nilB ?_ | refine hwp_nil ?_)) <;> (repeat (first | refine ewp_seq ?_ | refine ewp_block ?_ | refine ewp_region ?_ | refine ewp_skip ?_ | refine ewp_exit ?_ | refine ewp_ret ?_ | refine ewp_true rfl ?_ | refine ewp_false rfl ?_))
      all_goals
        ((repeat (first | refine ewp_seq ?_ | refine ewp_block ?_ | refine ewp_region ?_ | refine ewp_skip ?_ | refine ewp_exit ?_ | refine ewp_ret ?_ | refine ewp_true rfl ?_ | refine ewp_false rfl ?_)) <;> (refine o_as rfl rfl ?_ <;> (first | refine owp_nilT ?_ | refine owp_nilB ?_ | refine owp_nilBB ?_ | refine owp_nil ?_)) <;> (repeat (first | refine ewp_seq ?_ | refine ewp_block ?_ | refine ewp_region ?_ | refine ewp_skip ?_ | refine ewp_exit ?_ | refine ewp_ret ?_ | refine ewp_true rfl ?_ | refine ewp_false rfl ?_)))
        refine ret1 rfl rfl ⟨?_, hE3⟩
        rw [bof_f hno]
  · ((repeat (first | refine ewp_seq ?_ | refine ewp_block ?_ | refine ewp_region ?_ | refine ewp_skip ?_ | refine ewp_exit ?_ | refine ewp_ret ?_ | refine ewp_true rfl ?_ | refine ewp_false rfl ?_)) <;> ((first | refine o_ltT rfl rfl rfl ?_ | refine o_ltF rfl rfl rfl ?_) <;> (first | refine owp_nilT ?_ | refine owp_nilB ?_ | refine owp_nilBB ?_ | refine owp_nil ?_)) <;> (repeat (first | refine ewp_seq ?_ | refine ewp_block ?_ | refine ewp_region ?_ | refine ewp_skip ?_ | refine ewp_exit ?_ | refine ewp_ret ?_ | refine ewp_true rfl ?_ | refine ewp_false rfl ?_)) <;> (refine o_as rfl rfl ?_ <;> (first | refine owp_nilT ?_ | refine owp_nilB ?_ | refine owp_nilBB ?_ | refine owp_nil ?_)) <;> (repeat (first | refine ewp_seq ?_ | refine ewp_block ?_ | refine ewp_region ?_ | refine ewp_skip ?_ | refine ewp_exit ?_ | refine ewp_ret ?_ | refine ewp_true rfl ?_ | refine ewp_false rfl ?_)))
    refine ret1 rfl rfl ⟨?_, hE⟩
    rw [bof_t (hh.done (by omega))]
theorem taskFacts {w : World} {vv fv : Value} {vars : List Int} {f : List Fct} (hv : V w vv vars) (hf : V w fv f) :
    Fn Try.prog 50 [vv, fv] w fun v w' => v = .bool (bof (FactsOk vars f)) ∧ Ext w w' := by
  obtain ⟨A, ca, rfl⟩ := hv.form
  obtain ⟨B, cb, rfl⟩ := hf.form
  have hfl := hf.len
  refine fn_enter Try.func50 rfl Try.ntmps50 rfl ?_
  ((repeat (first | refine ewp_seq ?_ | refine ewp_block ?_ | refine ewp_region ?_ | refine ewp_skip ?_ | refine ewp_exit ?_ | refine ewp_ret ?_ | refine ewp_true rfl ?_ | refine ewp_false rfl ?_)) <;> (refine o_as rfl rfl ?_ <;> (first | refine owp_nilT ?_ | refine owp_nilB ?_ | refine owp_nilBB ?_ | refine owp_nil ?_)) <;> (repeat (first | refine ewp_seq ?_ | refine ewp_block ?_ | refine ewp_region ?_ | refine ewp_skip ?_ | refine ewp_exit ?_ | refine ewp_ret ?_ | refine ewp_true rfl ?_ | refine ewp_false rfl ?_)) <;> (refine o_as rfl rfl ?_ <;> (first | refine owp_nilT ?_ | refine owp_nilB ?_ | refine owp_nilBB ?_ | refine owp_nil ?_)) <;> (repeat (first | refine ewp_seq ?_ | refine ewp_block ?_ | refine ewp_region ?_ | refine ewp_skip ?_ | refine ewp_exit ?_ | refine ewp_ret ?_ | refine ewp_true rfl ?_ | refine ewp_false rfl ?_)) <;> (refine o_mv rfl rfl ?_ <;> refine o_ln rfl rfl ?_ <;> refine o_mv rfl rfl ?_ <;> (first | refine owp_nilT ?_ | refine owp_nilB ?_ | refine owp_nilBB ?_ | refine owp_nil ?_)) <;> (repeat (first | refine ewp_seq ?_ | refine ewp_block ?_ | refine ewp_region ?_ | refine ewp_skip ?_ | refine ewp_exit ?_ | refine ewp_ret ?_ | refine ewp_true rfl ?_ | refine ewp_false rfl ?_)))
  refine ewp_for (X := Nat × Int) (fun k => [(0, .slice A vars.length ca), (5, .int .i64 k.2), (8, .slice B f.length cb), (9, .int .i64 (f.length : Int)), (10, .int .i64 (k.1 : Int))])
    (fun k w' => Ext w w' ∧ k.1 ≤ f.length ∧ FactsTo vars f k.1 ∧ (k.1 = 0 → k.2 = -1) ∧ ∀ y, 0 < k.1 → f[k.1 - 1]? = some y → y.var = k.2) (fun k => f.length - k.1) (0, -1) ⟨Below.refl _ _, Nat.zero_le _, ⟨fun i _ h => by simp at h, fun i _ _ h => by simp at h⟩, fun _ => rfl, fun y h => by simp at h⟩ ⟨rfl, rfl, rfl, rfl, rfl, trivial⟩ ?_
  rintro ⟨k, m⟩ w1 ⟨hE, hk, hh, hm0, hm⟩
  dsimp only at hk hh hm0 hm ⊢
  by_cases hlt : k < f.length
  · obtain ⟨x, hx⟩ := some_of_lt hlt
    obtain ⟨b, o, ce, rfl, hb, _, hd1, rfl, hr1, hr2⟩ := (hf.ext hE).elem hx
    ((repeat (first | refine ewp_seq ?_ | refine ewp_block ?_ | refine ewp_region ?_ | refine ewp_skip ?_ | refine ewp_exit ?_ | refine ewp_ret ?_ | refine ewp_true rfl ?_ | refine ewp_false rfl ?_)) <;> ((first | refine o_ltT rfl rfl rfl ?_ | refine o_ltF rfl rfl rfl ?_) <;> (first | refine owp_nilT ?_ | refine owp_nilB ?_ | refine owp_nilBB ?_ | refine owp_nil ?_)) <;> (repeat (first | refine ewp_seq ?_ | refine ewp_block ?_ | refine ewp_region ?_ | refine ewp_skip ?_ | refine ewp_exit ?_ | refine ewp_ret ?_ | refine ewp_true rfl ?_ | refine ewp_false rfl ?_)) <;> (refine o_ia rfl rfl rfl ?_ <;> refine o_la rfl rfl ?_) <;> (repeat (first | refine ewp_seq ?_ | refine ewp_block ?_ | refine ewp_region ?_ | refine ewp_skip ?_ | refine ewp_exit ?_ | refine ewp_ret ?_ | refine ewp_true rfl ?_ | refine ewp_false rfl ?_)))
    refine owp_local rfl rfl rfl (by simp [Value.cells, Value.oneCell']) fun w3 hN => ?_
    have hb1 := hN.blk
    have hE3 : Ext w w3 := hE.trans' hN.ext
    ((first | refine owp_nilT ?_ | refine owp_nilB ?_ | refine owp_nilBB ?_ | refine owp_nil ?_))
    repeat (first | refine ewp_seq ?_ | refine ewp_block ?_ | refine ewp_region ?_ | refine ewp_skip ?_ | refine ewp_exit ?_ | refine ewp_ret ?_ | refine ewp_true rfl ?_ | refine ewp_false rfl ?_)
    refine ewp_draw (· = w3) [(0, true), (1, true), (2, true), (3, true), (4, true), (5, true), (6, true), (7, true), (8, true), (9, true), (10, true), (11, true), (12, true), (13, true), (14, true), (15, true), (16, true), (17, true), (18, true), (19, true), (20, true), (21, true), (22, true), (23, true), (24, true), (25, true)] (by kernel_rfl) rfl (by kernel_rfl) rfl ?_
    have hm1 : 0 < k → ∃ z, f[k - 1]? = some z ∧ z.var = m := fun h0 => by
      obtain ⟨z, hz⟩ := some_of_lt (l := f) (k := k - 1) (by omega)
      exact ⟨z, hz, hm z h0 hz⟩
    have hge : 0 < k → 0 ≤ m := fun h0 => by
      obtain ⟨z, hz, he⟩ := hm1 h0
      have := (hh.1 (k - 1) z (by omega) hz).1
      omega
    have hge' : -1 ≤ m := by
      by_cases h0 : 0 < k
      · have := hge h0; omega
      · have := hm0 (by omega); omega
    have hno0 : ¬ m < x.var → ¬ FactsOk vars f := fun h1 h2 => by
      by_cases h0 : 0 < k
      · obtain ⟨z, hz, he⟩ := hm1 h0
        have := h2.2 (k - 1) z x hz (by rw [show k - 1 + 1 = k from by omega]; exact hx)
        omega
      · have := hm0 (by omega)
        have := (h2.1 k x hx).1
        omega
    by_cases hvr : 0 ≤ x.var ∧ x.var < vars.length
    · obtain ⟨j, hj1⟩ := Int.eq_ofNat_of_zero_le hvr.1
      obtain ⟨y, hy⟩ := some_of_lt (l := vars) (k := j) (by omega)
      obtain ⟨b2, o2, ce2, rfl, _, _, hd2, rfl, _⟩ := (hv.ext hE3).elem hy
      have hjy : vars[x.var.toNat]? = some y := by rw [hj1]; simpa using hy
      have hok : 0 ≤ x.val → x.val < y → FactOk vars x := fun h1 h2 => ⟨hvr.1, h1, y, hjy, h2⟩
      have hno : ¬ (0 ≤ x.val ∧ x.val < y) → ¬ FactsOk vars f := fun h1 h2 => h1 (by
        obtain ⟨_, h3, y', h4, h5⟩ := h2.1 k x hx
        rw [hjy] at h4; injection h4 with h4; subst h4; exact ⟨h3, h5⟩)
      (refine h_fa rfl rfl rfl ?_ <;> refine h_ldA rfl rfl rfl ?_ <;> refine h_mv rfl rfl rfl ?_ <;> (first | refine h_leT rfl rfl rfl rfl ?_ | refine h_leF rfl rfl rfl rfl ?_ | refine h_leS rfl rfl rfl rfl (fun _ => ?_) fun _ => ?_) <;> refine h_mv rfl rfl rfl ?_ <;> (refine hwp_o rfl ?_; (first | (refine hwq_yes rfl rfl ?_; refine g_fa rfl rfl ?_) | refine hwq_no rfl rfl rfl rfl ?_)) <;> (refine hwp_o rfl ?_; (first | (refine hwq_yes rfl rfl ?_; refine g_ldA rfl rfl ?_) | refine hwq_no rfl rfl rfl rfl ?_)) <;> (refine hwp_o rfl ?_; (first | (refine hwq_yes rfl rfl ?_; refine g_mv rfl rfl ?_) | refine hwq_no rfl rfl rfl rfl ?_)) <;> (refine hwp_o rfl ?_; (first | (refine hwq_yes rfl rfl ?_; refine g_ln rfl rfl ?_) | refine hwq_no rfl rfl rfl rfl ?_)) <;> (refine hwp_o rfl ?_; (first | (refine hwq_yes rfl rfl ?_; (first | refine hwq_dT (fun _ _ => ev_geq rfl rfl) rfl (by omega) ?_ | refine hwq_dF (fun _ _ => ev_geq rfl rfl) rfl (by omega) ?_ | refine hwq_split (fun _ _ => ev_geq rfl rfl) rfl (fun _ => ?_) (fun _ => ?_))) | refine hwq_no rfl rfl rfl rfl ?_)) <;> (first | refine h_pt rfl rfl rfl rfl ?_ | refine h_pf rfl rfl rfl rfl ?_) <;> refine h_mv rfl rfl rfl ?_ <;> (refine hwp_o rfl ?_; (first | (refine hwq_yes rfl rfl ?_; refine g_fa rfl rfl ?_) | refine hwq_no rfl rfl rfl rfl ?_)) <;> (refine hwp_o rfl ?_; (first | (refine hwq_yes rfl rfl ?_; refine g_ldA rfl rfl ?_) | refine hwq_no rfl rfl rfl rfl ?_)) <;> (refine hwp_o rfl ?_; (first | (refine hwq_yes rfl rfl ?_; (first | refine hwq_dT (fun _ _ => ev_lss rfl rfl) rfl (by omega) ?_ | refine hwq_dF (fun _ _ => ev_lss rfl rfl) rfl (by omega) ?_ | refine hwq_split (fun _ _ => ev_lss rfl rfl) rfl (fun _ => ?_) (fun _ => ?_))) | refine hwq_no rfl rfl rfl rfl ?_)) <;> (first | refine h_pt rfl rfl rfl rfl ?_ | refine h_pf rfl rfl rfl rfl ?_) <;> refine h_mv rfl rfl rfl ?_ <;> (refine hwp_o rfl ?_; (first | (refine hwq_yes rfl rfl ?_; refine g_fa rfl rfl ?_) | refine hwq_no rfl rfl rfl rfl ?_)) <;> (refine hwp_o rfl ?_; (first | (refine hwq_yes rfl rfl ?_; refine g_ldA rfl rfl ?_) | refine hwq_no rfl rfl rfl rfl ?_)) <;> (refine hwp_o rfl ?_; (first | (refine hwq_yes rfl rfl ?_; refine g_mv rfl rfl ?_) | refine hwq_no rfl rfl rfl rfl ?_)) <;> (refine hwp_o rfl ?_; (first | (refine hwq_yes rfl rfl ?_; refine g_fa rfl rfl ?_) | refine hwq_no rfl rfl rfl rfl ?_)) <;> (refine hwp_o rfl ?_; (first | (refine hwq_yes rfl rfl ?_; refine g_ldA rfl rfl ?_) | refine hwq_no rfl rfl rfl rfl ?_)) <;> (refine hwp_o rfl ?_; (first | (refine hwq_yes rfl rfl ?_; refine g_ia rfl rfl rfl ?_) | refine hwq_no rfl rfl rfl rfl ?_)) <;> (refine hwp_o rfl ?_; (first | (refine hwq_yes rfl rfl ?_; refine g_ldA rfl rfl ?_) | refine hwq_no rfl rfl rfl rfl ?_)) <;> (refine hwp_o rfl ?_; (first | (refine hwq_yes rfl rfl ?_; (first | refine hwq_dT (fun _ _ => ev_geq rfl rfl) rfl (by omega) ?_ | refine hwq_dF (fun _ _ => ev_geq rfl rfl) rfl (by omega) ?_ | refine hwq_split (fun _ _ => ev_geq rfl rfl) rfl (fun _ => ?_) (fun _ => ?_))) | refine hwq_no rfl rfl rfl rfl ?_)) <;> (first | refine h_pt rfl rfl rfl rfl ?_ | refine h_pf rfl rfl rfl rfl ?_) <;> (first | refine hwp_nilT ?_ | refine hwp_nilB ?_ | refine hwp_nil ?_)) <;> (repeat (first | refine ewp_seq ?_ | refine ewp_block ?_ | refine ewp_region ?_ | refine ewp_skip ?_ | refine ewp_exit ?_ | refine ewp_ret ?_ | refine ewp_true rfl ?_ | refine ewp_false rfl ?_))
      all_goals try (
        ((repeat (first | refine ewp_seq ?_ | refine ewp_block ?_ | refine ewp_region ?_ | refine ewp_skip ?_ | refine ewp_exit ?_ | refine ewp_ret ?_ | refine ewp_true rfl ?_ | refine ewp_false rfl ?_)) <;> (refine o_as rfl rfl ?_ <;> (first | refine owp_nilT ?_ | refine owp_nilB ?_ | refine owp_nilBB ?_ | refine owp_nil ?_)) <;> (repeat (first | refine ewp_seq ?_ | refine ewp_block ?_ | refine ewp_region ?_ | refine ewp_skip ?_ | refine ewp_exit ?_ | refine ewp_ret ?_ | refine ewp_true rfl ?_ | refine ewp_false rfl ?_)))
        refine ret1 rfl rfl ⟨?_, hE3⟩
        first | rw [bof_f (hno (by omega))] | rw [bof_f (hno0 (by omega))])
      ((repeat (first | refine ewp_seq ?_ | refine ewp_block ?_ | refine ewp_region ?_ | refine ewp_skip ?_ | refine ewp_exit ?_ | refine ewp_ret ?_ | refine ewp_true rfl ?_ | refine ewp_false rfl ?_)) <;> (refine o_fa rfl rfl ?_ <;> refine o_ld rfl rfl ?_ <;> refine o_as rfl rfl ?_ <;> (first | refine owp_nilT ?_ | refine owp_nilB ?_ | refine owp_nilBB ?_ | refine owp_nil ?_)) <;> (repeat (first | refine ewp_seq ?_ | refine ewp_block ?_ | refine ewp_region ?_ | refine ewp_skip ?_ | refine ewp_exit ?_ | refine ewp_ret ?_ | refine ewp_true rfl ?_ | refine ewp_false rfl ?_)))
      ((first | refine o_ic rfl rfl ?_ | refine o_ad rfl rfl rfl ?_) <;> refine o_mv rfl rfl ?_ <;> (first | refine owp_nilT ?_ | refine owp_nilB ?_ | refine owp_nilBB ?_ | refine owp_nil ?_))
      refine ⟨(k + 1, x.var), ⟨rfl, rfl, rfl, rfl, rfl, trivial⟩, ⟨hE3, hlt, hh.step hx (hok (by omega) (by omega)) (fun y' h0 hy' => by have := hm y' h0 hy'; omega), fun h => absurd h (Nat.succ_ne_zero k), fun y' _ hy' => ?_⟩, Nat.sub_lt_sub_left hlt (Nat.lt_succ_self k)⟩
      rw [show k + 1 - 1 = k from rfl, hx] at hy'
      exact congrArg Fct.var (Option.some.inj hy').symm
    · have hno : ¬ FactsOk vars f := fun h => by
        obtain ⟨h1, h2, y, h3, _⟩ := h.1 k x hx
        have := lt_of_some h3
        omega
      (refine h_fa rfl rfl rfl ?_ <;> refine h_ldA rfl rfl rfl ?_ <;> refine h_mv rfl rfl rfl ?_ <;> (first | refine h_leT rfl rfl rfl rfl ?_ | refine h_leF rfl rfl rfl rfl ?_ | refine h_leS rfl rfl rfl rfl (fun _ => ?_) fun _ => ?_) <;> refine h_mv rfl rfl rfl ?_ <;> (refine hwp_o rfl ?_; (first | (refine hwq_yes rfl rfl ?_; refine g_fa rfl rfl ?_) | refine hwq_no rfl rfl rfl rfl ?_)) <;> (refine hwp_o rfl ?_; (first | (refine hwq_yes rfl rfl ?_; refine g_ldA rfl rfl ?_) | refine hwq_no rfl rfl rfl rfl ?_)) <;> (refine hwp_o rfl ?_; (first | (refine hwq_yes rfl rfl ?_; refine g_mv rfl rfl ?_) | refine hwq_no rfl rfl rfl rfl ?_)) <;> (refine hwp_o rfl ?_; (first | (refine hwq_yes rfl rfl ?_; refine g_ln rfl rfl ?_) | refine hwq_no rfl rfl rfl rfl ?_)) <;> (refine hwp_o rfl ?_; (first | (refine hwq_yes rfl rfl ?_; (first | refine hwq_dT (fun _ _ => ev_geq rfl rfl) rfl (by omega) ?_ | refine hwq_dF (fun _ _ => ev_geq rfl rfl) rfl (by omega) ?_ | refine hwq_split (fun _ _ => ev_geq rfl rfl) rfl (fun _ => ?_) (fun _ => ?_))) | refine hwq_no rfl rfl rfl rfl ?_)) <;> (first | refine h_pt rfl rfl rfl rfl ?_ | refine h_pf rfl rfl rfl rfl ?_) <;> refine h_mv rfl rfl rfl ?_ <;> (refine hwp_o rfl ?_; (first | (refine hwq_yes rfl rfl ?_; refine g_fa rfl rfl ?_) | refine hwq_no rfl rfl rfl rfl ?_)) <;> (refine hwp_o rfl ?_; (first | (refine hwq_yes rfl rfl ?_; refine g_ldA rfl rfl ?_) | refine hwq_no rfl rfl rfl rfl ?_)) <;> (refine hwp_o rfl ?_; (first | (refine hwq_yes rfl rfl ?_; (first | refine hwq_dT (fun _ _ => ev_lss rfl rfl) rfl (by omega) ?_ | refine hwq_dF (fun _ _ => ev_lss rfl rfl) rfl (by omega) ?_ | refine hwq_split (fun _ _ => ev_lss rfl rfl) rfl (fun _ => ?_) (fun _ => ?_))) | refine hwq_no rfl rfl rfl rfl ?_)) <;> (first | refine h_pt rfl rfl rfl rfl ?_ | refine h_pf rfl rfl rfl rfl ?_) <;> refine h_mv rfl rfl rfl ?_ <;> (refine hwp_o rfl ?_; (first | (refine hwq_yes rfl rfl ?_; refine g_fa rfl rfl ?_) | refine hwq_no rfl rfl rfl rfl ?_)) <;> (refine hwp_o rfl ?_; (first | (refine hwq_yes rfl rfl ?_; refine g_ldA rfl rfl ?_) | refine hwq_no rfl rfl rfl rfl ?_)) <;> (refine hwp_o rfl ?_; (first | (refine hwq_yes rfl rfl ?_; refine g_mv rfl rfl ?_) | refine hwq_no rfl rfl rfl rfl ?_)) <;> (refine hwp_o rfl ?_; (first | (refine hwq_yes rfl rfl ?_; refine g_fa rfl rfl ?_) | refine hwq_no rfl rfl rfl rfl ?_)) <;> (refine hwp_o rfl ?_; (first | (refine hwq_yes rfl rfl ?_; refine g_ldA rfl rfl ?_) | refine hwq_no rfl rfl rfl rfl ?_)) <;> (refine hwp_o rfl ?_; (first | (refine hwq_yes rfl rfl ?_; refine g_ia rfl rfl rfl ?_) | refine hwq_no rfl rfl rfl rfl ?_)) <;> (refine hwp_o rfl ?_; (first | (refine hwq_yes rfl rfl ?_; refine g_ldA rfl rfl ?_) | refine hwq_no rfl rfl rfl rfl ?_)) <;> (refine hwp_o rfl ?_; (first | (refine hwq_yes rfl rfl ?_; (first | refine hwq_dT (fun _ _ => ev_geq rfl rfl) rfl (by omega) ?_ | refine hwq_dF (fun _ _ => ev_geq rfl rfl) rfl (by omega) ?_ | refine hwq_split (fun _ _ => ev_geq rfl rfl) rfl (fun _ => ?_) (fun _ => ?_))) | refine hwq_no rfl rfl rfl rfl ?_)) <;> (first | refine h_pt rfl rfl rfl rfl ?_ | refine h_pf rfl rfl rfl rfl ?_) <;> (first | refine hwp_nilT ?_ | refine hwp_nilB ?_ | refine hwp_nil ?_)) <;> (repeat (first | refine ewp_seq ?_ | refine ewp_block ?_ | refine ewp_region ?_ | refine ewp_skip ?_ | refine ewp_exit ?_ | refine ewp_ret ?_ | refine ewp_true rfl ?_ | refine ewp_false rfl ?_))
      all_goals
        ((repeat (first | refine ewp_seq ?_ | refine ewp_block ?_ | refine ewp_region ?_ | refine ewp_skip ?_ | refine ewp_exit ?_ | refine ewp_ret ?_ | refine ewp_true rfl ?_ | refine ewp_false rfl ?_)) <;> (refine o_as rfl rfl ?_ <;> (first | refine owp_nilT ?_ | refine owp_nilB ?_ | refine owp_nilBB ?_ | refine owp_nil ?_)) <;> (repeat (first | refine ewp_seq ?_ | refine ewp_block ?_ | refine ewp_region ?_ | refine ewp_skip ?_ | refine ewp_exit ?_ | refine ewp_ret ?_ | refine ewp_true rfl ?_ | refine ewp_false rfl ?_)))
        refine ret1 rfl rfl ⟨?_, hE3⟩
        rw [bof_f hno]
  · ((repeat (first | refine ewp_seq ?_ | refine ewp_block ?_ | refine ewp_region ?_ | refine ewp_skip ?_ | refine ewp_exit ?_ | refine ewp_ret ?_ | refine ewp_true rfl ?_ | refine ewp_false rfl ?_)) <;> ((first | refine o_ltT rfl rfl rfl ?_ | refine o_ltF rfl rfl rfl ?_) <;> (first | refine owp_nilT ?_ | refine owp_nilB ?_ | refine owp_nilBB ?_ | refine owp_nil ?_)) <;> (repeat (first | refine ewp_seq ?_ | refine ewp_block ?_ | refine ewp_region ?_ | refine ewp_skip ?_ | refine ewp_exit ?_ | refine ewp_ret ?_ | refine ewp_true rfl ?_ | refine ewp_false rfl ?_)) <;> (refine o_as rfl rfl ?_ <;> (first | refine owp_nilT ?_ | refine owp_nilB ?_ | refine owp_nilBB ?_ | refine owp_nil ?_)) <;> (repeat (first | refine ewp_seq ?_ | refine ewp_block ?_ | refine ewp_region ?_ | refine ewp_skip ?_ | refine ewp_exit ?_ | refine ewp_ret ?_ | refine ewp_true rfl ?_ | refine ewp_false rfl ?_)))
    refine ret1 rfl rfl ⟨?_, hE⟩
    rw [bof_t (hh.done (by omega))]
/-- A name is permitted. -/
def NameOk (s : ByteArray) : Prop := s.size ≤ 256 ∧ ∀ (i : Nat) (h : i < s.size), 32 ≤ (s[i]'h).toNat ∧ (s[i]'h).toNat ≤ 126
theorem taskNamed {w : World} {s : ByteArray} (hs : s.size ≤ 9223372036854775807) :
    Fn Try.prog 51 [.string s] w fun v w' => v = .bool (bof (NameOk s)) ∧ Ext w w' := by
  refine fn_enter Try.func51 rfl Try.ntmps51 rfl ?_
  ((repeat (first | refine ewp_seq ?_ | refine ewp_block ?_ | refine ewp_region ?_ | refine ewp_skip ?_ | refine ewp_exit ?_ | refine ewp_ret ?_ | refine ewp_true rfl ?_ | refine ewp_false rfl ?_)) <;> (refine o_as rfl rfl ?_ <;> (first | refine owp_nilT ?_ | refine owp_nilB ?_ | refine owp_nilBB ?_ | refine owp_nil ?_)) <;> (repeat (first | refine ewp_seq ?_ | refine ewp_block ?_ | refine ewp_region ?_ | refine ewp_skip ?_ | refine ewp_exit ?_ | refine ewp_ret ?_ | refine ewp_true rfl ?_ | refine ewp_false rfl ?_)) <;> (refine o_mv rfl rfl ?_ <;> refine o_ls rfl rfl ?_ <;> refine o_mv rfl rfl ?_ <;> (first | refine owp_nilT ?_ | refine owp_nilB ?_ | refine owp_nilBB ?_ | refine owp_nil ?_)) <;> (repeat (first | refine ewp_seq ?_ | refine ewp_block ?_ | refine ewp_region ?_ | refine ewp_skip ?_ | refine ewp_exit ?_ | refine ewp_ret ?_ | refine ewp_true rfl ?_ | refine ewp_false rfl ?_)))
  refine ewp_for (fun k : Nat => [(0, .string s), (5, .int .i64 (s.size : Int)), (6, .int .i64 (k : Int))])
    (fun k w' => w' = w ∧ k ≤ s.size ∧ ∀ (i : Nat) (h : i < s.size), i < k → 32 ≤ (s[i]'h).toNat ∧ (s[i]'h).toNat ≤ 126) (fun k => s.size - k) 0 ⟨rfl, Nat.zero_le _, fun i _ h => by omega⟩ ⟨rfl, rfl, rfl, trivial⟩ ?_
  rintro k _ ⟨rfl, hk, hh⟩
  by_cases hlt : k < s.size
  · ((repeat (first | refine ewp_seq ?_ | refine ewp_block ?_ | refine ewp_region ?_ | refine ewp_skip ?_ | refine ewp_exit ?_ | refine ewp_ret ?_ | refine ewp_true rfl ?_ | refine ewp_false rfl ?_)) <;> ((first | refine o_ltT rfl rfl rfl ?_ | refine o_ltF rfl rfl rfl ?_) <;> (first | refine owp_nilT ?_ | refine owp_nilB ?_ | refine owp_nilBB ?_ | refine owp_nil ?_)) <;> (repeat (first | refine ewp_seq ?_ | refine ewp_block ?_ | refine ewp_region ?_ | refine ewp_skip ?_ | refine ewp_exit ?_ | refine ewp_ret ?_ | refine ewp_true rfl ?_ | refine ewp_false rfl ?_)) <;> (refine o_mv rfl rfl ?_ <;> refine o_as rfl rfl ?_ <;> (first | refine owp_nilT ?_ | refine owp_nilB ?_ | refine owp_nilBB ?_ | refine owp_nil ?_)) <;> (repeat (first | refine ewp_seq ?_ | refine ewp_block ?_ | refine ewp_region ?_ | refine ewp_skip ?_ | refine ewp_exit ?_ | refine ewp_ret ?_ | refine ewp_true rfl ?_ | refine ewp_false rfl ?_)) <;> (refine o_mv rfl rfl ?_ <;> refine o_mv rfl rfl ?_ <;> refine o_ix rfl rfl rfl (by omega) ?_ <;> (first | refine o_ltT rfl rfl rfl ?_ | refine o_ltF rfl rfl rfl ?_ | refine o_ltS rfl rfl rfl (fun _ => ?_) fun _ => ?_) <;> refine o_mv rfl rfl ?_ <;> (first | (refine owp_yes rfl rfl ?_; refine o_mv rfl rfl ?_) | refine owp_no rfl rfl rfl rfl ?_) <;> (first | (refine owp_yes rfl rfl ?_; refine o_mv rfl rfl ?_) | refine owp_no rfl rfl rfl rfl ?_) <;> (first | (refine owp_yes rfl rfl ?_; refine o_ix rfl rfl rfl (by omega) ?_) | refine owp_no rfl rfl rfl rfl ?_) <;> (first | (refine owp_yes rfl rfl ?_; (first | refine o_gtT rfl rfl rfl ?_ | refine o_gtF rfl rfl rfl ?_ | refine o_gtS rfl rfl rfl (fun _ => ?_) fun _ => ?_)) | refine owp_no rfl rfl rfl rfl ?_) <;> (first | refine o_pt rfl rfl rfl ?_ | refine o_pf rfl rfl rfl ?_) <;> (first | refine owp_nilT ?_ | refine owp_nilB ?_ | refine owp_nilBB ?_ | refine owp_nil ?_)) <;> (repeat (first | refine ewp_seq ?_ | refine ewp_block ?_ | refine ewp_region ?_ | refine ewp_skip ?_ | refine ewp_exit ?_ | refine ewp_ret ?_ | refine ewp_true rfl ?_ | refine ewp_false rfl ?_)))
    all_goals first
      | (((first | refine o_ic rfl rfl ?_ | refine o_ad rfl rfl rfl ?_) <;> refine o_mv rfl rfl ?_ <;> (first | refine owp_nilT ?_ | refine owp_nilB ?_ | refine owp_nilBB ?_ | refine owp_nil ?_))
         refine ⟨k + 1, ⟨rfl, rfl, rfl, trivial⟩, ⟨rfl, by omega, fun i h hi => ?_⟩, by omega⟩
         by_cases he : i = k
         · subst he; omega
         · exact hh i h (by omega))
      | (((repeat (first | refine ewp_seq ?_ | refine ewp_block ?_ | refine ewp_region ?_ | refine ewp_skip ?_ | refine ewp_exit ?_ | refine ewp_ret ?_ | refine ewp_true rfl ?_ | refine ewp_false rfl ?_)) <;> (refine o_as rfl rfl ?_ <;> (first | refine owp_nilT ?_ | refine owp_nilB ?_ | refine owp_nilBB ?_ | refine owp_nil ?_)) <;> (repeat (first | refine ewp_seq ?_ | refine ewp_block ?_ | refine ewp_region ?_ | refine ewp_skip ?_ | refine ewp_exit ?_ | refine ewp_ret ?_ | refine ewp_true rfl ?_ | refine ewp_false rfl ?_)))
         refine ret1 rfl rfl ⟨?_, Below.refl _ _⟩
         rw [bof_f (fun h => by have := h.2 k hlt; omega)])
  · by_cases h256 : s.size ≤ 256
    · ((repeat (first | refine ewp_seq ?_ | refine ewp_block ?_ | refine ewp_region ?_ | refine ewp_skip ?_ | refine ewp_exit ?_ | refine ewp_ret ?_ | refine ewp_true rfl ?_ | refine ewp_false rfl ?_)) <;> ((first | refine o_ltT rfl rfl rfl ?_ | refine o_ltF rfl rfl rfl ?_) <;> (first | refine owp_nilT ?_ | refine owp_nilB ?_ | refine owp_nilBB ?_ | refine owp_nil ?_)) <;> (repeat (first | refine ewp_seq ?_ | refine ewp_block ?_ | refine ewp_region ?_ | refine ewp_skip ?_ | refine ewp_exit ?_ | refine ewp_ret ?_ | refine ewp_true rfl ?_ | refine ewp_false rfl ?_)) <;> (refine o_mv rfl rfl ?_ <;> refine o_ls rfl rfl ?_ <;> (first | refine o_leT rfl rfl rfl ?_ | refine o_leF rfl rfl rfl ?_) <;> refine o_as rfl rfl ?_ <;> (first | refine owp_nilT ?_ | refine owp_nilB ?_ | refine owp_nilBB ?_ | refine owp_nil ?_)) <;> (repeat (first | refine ewp_seq ?_ | refine ewp_block ?_ | refine ewp_region ?_ | refine ewp_skip ?_ | refine ewp_exit ?_ | refine ewp_ret ?_ | refine ewp_true rfl ?_ | refine ewp_false rfl ?_)))
      refine ret1 rfl rfl ⟨?_, Below.refl _ _⟩
      rw [bof_t ⟨h256, fun i h => hh i h (by omega)⟩]
    · ((repeat (first | refine ewp_seq ?_ | refine ewp_block ?_ | refine ewp_region ?_ | refine ewp_skip ?_ | refine ewp_exit ?_ | refine ewp_ret ?_ | refine ewp_true rfl ?_ | refine ewp_false rfl ?_)) <;> ((first | refine o_ltT rfl rfl rfl ?_ | refine o_ltF rfl rfl rfl ?_) <;> (first | refine owp_nilT ?_ | refine owp_nilB ?_ | refine owp_nilBB ?_ | refine owp_nil ?_)) <;> (repeat (first | refine ewp_seq ?_ | refine ewp_block ?_ | refine ewp_region ?_ | refine ewp_skip ?_ | refine ewp_exit ?_ | refine ewp_ret ?_ | refine ewp_true rfl ?_ | refine ewp_false rfl ?_)) <;> (refine o_mv rfl rfl ?_ <;> refine o_ls rfl rfl ?_ <;> (first | refine o_leT rfl rfl rfl ?_ | refine o_leF rfl rfl rfl ?_) <;> refine o_as rfl rfl ?_ <;> (first | refine owp_nilT ?_ | refine owp_nilB ?_ | refine owp_nilBB ?_ | refine owp_nil ?_)) <;> (repeat (first | refine ewp_seq ?_ | refine ewp_block ?_ | refine ewp_region ?_ | refine ewp_skip ?_ | refine ewp_exit ?_ | refine ewp_ret ?_ | refine ewp_true rfl ?_ | refine ewp_false rfl ?_)))
      refine ret1 rfl rfl ⟨?_, Below.refl _ _⟩
      rw [bof_f (fun h => h256 h.1)]
end
section
open Go Go.RowKit
attribute [local irreducible] ewp owp hwp hwq Ev Evg Fn retPost Res1
theorem factsOk_one {vars : List Int} {x : Fct} : FactsOk vars [x] ↔ FactOk vars x := by
  constructor
  · intro h; exact h.1 0 x rfl
  · intro h
    refine ⟨fun i y hy => ?_, fun i y z _ hz => by simp at hz⟩
    cases i with
    | zero => simp at hy; exact hy ▸ h
    | succ i => simp at hy
/-- An effect is right. -/
def EffOk (vars : List Int) (e : Eff) : Prop := FactsOk vars e.cond ∧ FactOk vars ⟨e.var, e.val⟩
/-- An operator is right. -/
def OpOk (vars : List Int) (o : Opr) : Prop := 0 ≤ o.cost ∧ o.cost ≤ 1048576 ∧ o.effs.length ≤ 64 ∧ NameOk o.name ∧ FactsOk vars o.pre ∧ ∀ (i : Nat) e, o.effs[i]? = some e → EffOk vars e
/-- A task is right. -/
def TaskOk (t : Tsk) : Prop := t.vars.length ≤ 64 ∧ t.ops.length ≤ 4096 ∧ (∀ (i : Nat) n, t.vars[i]? = some n → 1 ≤ n ∧ n ≤ 64) ∧ StateOk t.vars t.init ∧ FactsOk t.vars t.goal ∧ ∀ (i : Nat) o, t.ops[i]? = some o → OpOk t.vars o
theorem upto_step {p : Nat → Prop} {k : Nat} (h : ∀ i, i < k → p i) (hk : p k) : ∀ i, i < k + 1 → p i := fun i hi => by
  by_cases he : i = k
  · subst he; exact hk
  · exact h i (by omega)
theorem baseOperator {w : World} {vv ov : Value} {vars : List Int} {o : Opr} (hv : V w vv vars) (ho : V w ov o) :
    Fn Try.prog 45 [vv, ov] w fun v w' => v = .bool (bof (OpOk vars o)) ∧ Ext w w' := by
  obtain ⟨Av, cv, rfl⟩ := hv.form
  obtain ⟨cs, rfl, p, q, rfl, hp, hq, hc, hn⟩ := ho
  obtain ⟨Ap, cp, rfl⟩ := hp.form
  obtain ⟨Aq, cq, rfl⟩ := hq.form
  have hql := hq.len
  refine fn_enter Try.func45 rfl Try.ntmps45 rfl ?_
  repeat (first | refine ewp_seq ?_ | refine ewp_block ?_ | refine ewp_region ?_ | refine ewp_skip ?_ | refine ewp_exit ?_ | refine ewp_ret ?_ | refine ewp_true rfl ?_ | refine ewp_false rfl ?_)
  refine owp_box rfl rfl fun w1 hN => ?_
  have hb1 := hN.blk
  have hE1 : Ext w w1 := hN.ext
  (refine o_as rfl rfl ?_ <;> (first | refine owp_nilT ?_ | refine owp_nilB ?_ | refine owp_nilBB ?_ | refine owp_nil ?_))
  repeat (first | refine ewp_seq ?_ | refine ewp_block ?_ | refine ewp_region ?_ | refine ewp_skip ?_ | refine ewp_exit ?_ | refine ewp_ret ?_ | refine ewp_true rfl ?_ | refine ewp_false rfl ?_)
  (refine o_fa rfl rfl ?_ <;> refine o_ld rfl rfl ?_ <;> (first | refine o_ltT rfl rfl rfl ?_ | refine o_ltF rfl rfl rfl ?_ | refine o_ltS rfl rfl rfl (fun _ => ?_) fun _ => ?_) <;> refine o_mv rfl rfl ?_ <;> (first | (refine owp_yes rfl rfl ?_; refine o_fa rfl rfl ?_) | refine owp_no rfl rfl rfl rfl ?_) <;> (first | (refine owp_yes rfl rfl ?_; refine o_ld rfl rfl ?_) | refine owp_no rfl rfl rfl rfl ?_) <;> (first | (refine owp_yes rfl rfl ?_; (first | refine o_gtT rfl rfl rfl ?_ | refine o_gtF rfl rfl rfl ?_ | refine o_gtS rfl rfl rfl (fun _ => ?_) fun _ => ?_)) | refine owp_no rfl rfl rfl rfl ?_) <;> (first | refine o_pt rfl rfl rfl ?_ | refine o_pf rfl rfl rfl ?_) <;> refine o_mv rfl rfl ?_ <;> (first | (refine owp_yes rfl rfl ?_; refine o_fa rfl rfl ?_) | refine owp_no rfl rfl rfl rfl ?_) <;> (first | (refine owp_yes rfl rfl ?_; refine o_ld rfl rfl ?_) | refine owp_no rfl rfl rfl rfl ?_) <;> (first | (refine owp_yes rfl rfl ?_; refine o_ln rfl rfl ?_) | refine owp_no rfl rfl rfl rfl ?_) <;> (first | (refine owp_yes rfl rfl ?_; (first | refine o_gtT rfl rfl rfl ?_ | refine o_gtF rfl rfl rfl ?_ | refine o_gtS rfl rfl rfl (fun _ => ?_) fun _ => ?_)) | refine owp_no rfl rfl rfl rfl ?_) <;> (first | refine o_pt rfl rfl rfl ?_ | refine o_pf rfl rfl rfl ?_) <;> refine o_mv rfl rfl ?_ <;> (first | (refine owp_yes rfl rfl ?_; refine o_fa rfl rfl ?_) | refine owp_no rfl rfl rfl rfl ?_) <;> (first | (refine owp_yes rfl rfl ?_; refine o_ld rfl rfl ?_) | refine owp_no rfl rfl rfl rfl ?_) <;> (first | (refine owp_yes rfl rfl ?_; refine o_ls rfl rfl ?_) | refine owp_no rfl rfl rfl rfl ?_) <;> (first | (refine owp_yes rfl rfl ?_; (first | refine o_gtT rfl rfl rfl ?_ | refine o_gtF rfl rfl rfl ?_ | refine o_gtS rfl rfl rfl (fun _ => ?_) fun _ => ?_)) | refine owp_no rfl rfl rfl rfl ?_) <;> (first | refine o_pt rfl rfl rfl ?_ | refine o_pf rfl rfl rfl ?_) <;> refine o_mv rfl rfl ?_ <;> (first | (refine owp_yes rfl rfl ?_; refine o_mv rfl rfl ?_) | refine owp_no rfl rfl rfl rfl ?_) <;> (first | (refine owp_yes rfl rfl ?_; refine o_fa rfl rfl ?_) | refine owp_no rfl rfl rfl rfl ?_) <;> (first | (refine owp_yes rfl rfl ?_; refine o_ld rfl rfl ?_) | refine owp_no rfl rfl rfl rfl ?_))
  all_goals try (
    refine owp_no rfl rfl rfl rfl ?_
    ((first | (refine owp_yes rfl rfl ?_; (first | refine o_nt rfl rfl ?_ | refine o_nf rfl rfl ?_ | refine o_nn rfl rfl ?_)) | refine owp_no rfl rfl rfl rfl ?_) <;> (first | refine o_pt rfl rfl rfl ?_ | refine o_pf rfl rfl rfl ?_) <;> (first | refine owp_nilT ?_ | refine owp_nilB ?_ | refine owp_nilBB ?_ | refine owp_nil ?_))
    repeat (first | refine ewp_seq ?_ | refine ewp_block ?_ | refine ewp_region ?_ | refine ewp_skip ?_ | refine ewp_exit ?_ | refine ewp_ret ?_ | refine ewp_true rfl ?_ | refine ewp_false rfl ?_)
    ((repeat (first | refine ewp_seq ?_ | refine ewp_block ?_ | refine ewp_region ?_ | refine ewp_skip ?_ | refine ewp_exit ?_ | refine ewp_ret ?_ | refine ewp_true rfl ?_ | refine ewp_false rfl ?_)) <;> (refine o_as rfl rfl ?_ <;> (first | refine owp_nilT ?_ | refine owp_nilB ?_ | refine owp_nilBB ?_ | refine owp_nil ?_)) <;> (repeat (first | refine ewp_seq ?_ | refine ewp_block ?_ | refine ewp_region ?_ | refine ewp_skip ?_ | refine ewp_exit ?_ | refine ewp_ret ?_ | refine ewp_true rfl ?_ | refine ewp_false rfl ?_)))
    refine ret1 rfl rfl ⟨?_, hE1⟩
    rw [bof_f (fun h => by obtain ⟨h1, h2, h3, ⟨h4, _⟩, _⟩ := h; omega)])
  refine owp_yes rfl rfl ?_
  refine owp_callB rfl rfl (baseProper (hv.ext hE1) (hp.ext hE1)) ?_ ?_
  case refine_2 =>
    intro w2 hP hE2
    ((first | (refine owp_yes rfl rfl ?_; (first | refine o_nt rfl rfl ?_ | refine o_nf rfl rfl ?_ | refine o_nn rfl rfl ?_)) | refine owp_no rfl rfl rfl rfl ?_) <;> (first | refine o_pt rfl rfl rfl ?_ | refine o_pf rfl rfl rfl ?_) <;> (first | refine owp_nilT ?_ | refine owp_nilB ?_ | refine owp_nilBB ?_ | refine owp_nil ?_))
    repeat (first | refine ewp_seq ?_ | refine ewp_block ?_ | refine ewp_region ?_ | refine ewp_skip ?_ | refine ewp_exit ?_ | refine ewp_ret ?_ | refine ewp_true rfl ?_ | refine ewp_false rfl ?_)
    ((repeat (first | refine ewp_seq ?_ | refine ewp_block ?_ | refine ewp_region ?_ | refine ewp_skip ?_ | refine ewp_exit ?_ | refine ewp_ret ?_ | refine ewp_true rfl ?_ | refine ewp_false rfl ?_)) <;> (refine o_as rfl rfl ?_ <;> (first | refine owp_nilT ?_ | refine owp_nilB ?_ | refine owp_nilBB ?_ | refine owp_nil ?_)) <;> (repeat (first | refine ewp_seq ?_ | refine ewp_block ?_ | refine ewp_region ?_ | refine ewp_skip ?_ | refine ewp_exit ?_ | refine ewp_ret ?_ | refine ewp_true rfl ?_ | refine ewp_false rfl ?_)))
    refine ret1 rfl rfl ⟨?_, hE1.trans' hE2⟩
    rw [bof_f (fun h => hP h.2.2.2.2.1)]
  intro w2 hpre hE2
  replace hb1 := hb1.ext hE2
  have hE2 : Ext w w2 := hE1.trans' hE2
  ((first | (refine owp_yes rfl rfl ?_; (first | refine o_nt rfl rfl ?_ | refine o_nf rfl rfl ?_ | refine o_nn rfl rfl ?_)) | refine owp_no rfl rfl rfl rfl ?_) <;> (first | refine o_pt rfl rfl rfl ?_ | refine o_pf rfl rfl rfl ?_) <;> (first | refine owp_nilT ?_ | refine owp_nilB ?_ | refine owp_nilBB ?_ | refine owp_nil ?_))
  repeat (first | refine ewp_seq ?_ | refine ewp_block ?_ | refine ewp_region ?_ | refine ewp_skip ?_ | refine ewp_exit ?_ | refine ewp_ret ?_ | refine ewp_true rfl ?_ | refine ewp_false rfl ?_)
  (refine o_fa rfl rfl ?_ <;> refine o_ld rfl rfl ?_ <;> refine o_ls rfl rfl ?_ <;> refine o_mv rfl rfl ?_ <;> (first | refine owp_nilT ?_ | refine owp_nilB ?_ | refine owp_nilBB ?_ | refine owp_nil ?_))
  repeat (first | refine ewp_seq ?_ | refine ewp_block ?_ | refine ewp_region ?_ | refine ewp_skip ?_ | refine ewp_exit ?_ | refine ewp_ret ?_ | refine ewp_true rfl ?_ | refine ewp_false rfl ?_)
  refine ewp_range o.name.size hn (fun _ : Unit => [(0, .slice Av vars.length cv), (3, .pointer (some ⟨w.heap.size, 0, none⟩))]) (fun k _ w' => w' = w2 ∧ ∀ i, i < k → ∀ h : i < o.name.size, 32 ≤ (o.name[i]'h).toNat ∧ (o.name[i]'h).toNat ≤ 126) ()
    ⟨rfl, fun i hi => by omega⟩ ⟨rfl, rfl, rfl, rfl, trivial⟩ (fun _ => ⟨rfl, rfl⟩) ⟨rfl, rfl, rfl⟩ ⟨rfl, rfl⟩ ?_ ?_
  · rintro k _ _ hk ⟨rfl, hh⟩
    ((repeat (first | refine ewp_seq ?_ | refine ewp_block ?_ | refine ewp_region ?_ | refine ewp_skip ?_ | refine ewp_exit ?_ | refine ewp_ret ?_ | refine ewp_true rfl ?_ | refine ewp_false rfl ?_)) <;> (refine o_mv rfl rfl ?_ <;> refine o_as rfl rfl ?_ <;> (first | refine owp_nilT ?_ | refine owp_nilB ?_ | refine owp_nilBB ?_ | refine owp_nil ?_)) <;> (repeat (first | refine ewp_seq ?_ | refine ewp_block ?_ | refine ewp_region ?_ | refine ewp_skip ?_ | refine ewp_exit ?_ | refine ewp_ret ?_ | refine ewp_true rfl ?_ | refine ewp_false rfl ?_)) <;> (refine o_fa rfl rfl ?_ <;> refine o_ld rfl rfl ?_ <;> refine o_mv rfl rfl ?_ <;> refine o_ix rfl rfl rfl (by omega) ?_ <;> (first | refine o_ltT rfl rfl rfl ?_ | refine o_ltF rfl rfl rfl ?_ | refine o_ltS rfl rfl rfl (fun _ => ?_) fun _ => ?_) <;> refine o_mv rfl rfl ?_ <;> (first | (refine owp_yes rfl rfl ?_; refine o_fa rfl rfl ?_) | refine owp_no rfl rfl rfl rfl ?_) <;> (first | (refine owp_yes rfl rfl ?_; refine o_ld rfl rfl ?_) | refine owp_no rfl rfl rfl rfl ?_) <;> (first | (refine owp_yes rfl rfl ?_; refine o_mv rfl rfl ?_) | refine owp_no rfl rfl rfl rfl ?_) <;> (first | (refine owp_yes rfl rfl ?_; refine o_ix rfl rfl rfl (by omega) ?_) | refine owp_no rfl rfl rfl rfl ?_) <;> (first | (refine owp_yes rfl rfl ?_; (first | refine o_gtT rfl rfl rfl ?_ | refine o_gtF rfl rfl rfl ?_ | refine o_gtS rfl rfl rfl (fun _ => ?_) fun _ => ?_)) | refine owp_no rfl rfl rfl rfl ?_) <;> (first | refine o_pt rfl rfl rfl ?_ | refine o_pf rfl rfl rfl ?_) <;> (first | refine owp_nilT ?_ | refine owp_nilB ?_ | refine owp_nilBB ?_ | refine owp_nil ?_)) <;> (repeat (first | refine ewp_seq ?_ | refine ewp_block ?_ | refine ewp_region ?_ | refine ewp_skip ?_ | refine ewp_exit ?_ | refine ewp_ret ?_ | refine ewp_true rfl ?_ | refine ewp_false rfl ?_)))
    all_goals try (
      ((repeat (first | refine ewp_seq ?_ | refine ewp_block ?_ | refine ewp_region ?_ | refine ewp_skip ?_ | refine ewp_exit ?_ | refine ewp_ret ?_ | refine ewp_true rfl ?_ | refine ewp_false rfl ?_)) <;> (refine o_as rfl rfl ?_ <;> (first | refine owp_nilT ?_ | refine owp_nilB ?_ | refine owp_nilBB ?_ | refine owp_nil ?_)) <;> (repeat (first | refine ewp_seq ?_ | refine ewp_block ?_ | refine ewp_region ?_ | refine ewp_skip ?_ | refine ewp_exit ?_ | refine ewp_ret ?_ | refine ewp_true rfl ?_ | refine ewp_false rfl ?_)))
      refine ret1 rfl rfl ⟨?_, hE2⟩
      rw [bof_f (fun h => by have := h.2.2.2.1.2 k hk; omega)])
    exact ⟨(), ⟨rfl, rfl, rfl, rfl, trivial⟩, rfl, upto_step hh fun _ => by omega⟩
  rintro _ _ ⟨rfl, hname⟩
  have hnok : NameOk o.name := ⟨by omega, fun i h => hname i h h⟩
  repeat (first | refine ewp_seq ?_ | refine ewp_block ?_ | refine ewp_region ?_ | refine ewp_skip ?_ | refine ewp_exit ?_ | refine ewp_ret ?_ | refine ewp_true rfl ?_ | refine ewp_false rfl ?_)
  ((repeat (first | refine ewp_seq ?_ | refine ewp_block ?_ | refine ewp_region ?_ | refine ewp_skip ?_ | refine ewp_exit ?_ | refine ewp_ret ?_ | refine ewp_true rfl ?_ | refine ewp_false rfl ?_)) <;> (refine o_fa rfl rfl ?_ <;> refine o_ld rfl rfl ?_ <;> refine o_ln rfl rfl ?_ <;> refine o_mv rfl rfl ?_ <;> (first | refine owp_nilT ?_ | refine owp_nilB ?_ | refine owp_nilBB ?_ | refine owp_nil ?_)) <;> (repeat (first | refine ewp_seq ?_ | refine ewp_block ?_ | refine ewp_region ?_ | refine ewp_skip ?_ | refine ewp_exit ?_ | refine ewp_ret ?_ | refine ewp_true rfl ?_ | refine ewp_false rfl ?_)))
  refine ewp_range o.effs.length (by omega) (fun _ : Unit => [(0, .slice Av vars.length cv), (3, .pointer (some ⟨w.heap.size, 0, none⟩)), (55, .slice Aq o.effs.length cq)]) (fun k _ w' => Ext w w' ∧ ∀ i, i < k → ∀ e, o.effs[i]? = some e → EffOk vars e) ()
    ⟨hE2, fun i hi => by omega⟩ ⟨rfl, rfl, rfl, rfl, rfl, trivial⟩ (fun _ => ⟨rfl, rfl⟩) ⟨rfl, rfl, rfl⟩ ⟨rfl, rfl⟩ ?_ ?_
  · rintro k _ w3 hk ⟨hE3, hh⟩
    obtain ⟨e, he⟩ := some_of_lt hk
    obtain ⟨b2, o2, ce, rfl, _, _, hd1, cv', rfl, hcond, hr1, hr2⟩ := (hq.ext hE3).elem he
    obtain ⟨Ac, cc, rfl⟩ := hcond.form
    ((repeat (first | refine ewp_seq ?_ | refine ewp_block ?_ | refine ewp_region ?_ | refine ewp_skip ?_ | refine ewp_exit ?_ | refine ewp_ret ?_ | refine ewp_true rfl ?_ | refine ewp_false rfl ?_)) <;> (refine o_ia rfl rfl rfl ?_ <;> refine o_la rfl rfl ?_) <;> (repeat (first | refine ewp_seq ?_ | refine ewp_block ?_ | refine ewp_region ?_ | refine ewp_skip ?_ | refine ewp_exit ?_ | refine ewp_ret ?_ | refine ewp_true rfl ?_ | refine ewp_false rfl ?_)))
    refine owp_local rfl rfl rfl (by simp [Value.cells, Value.oneCell']) fun w4 hN4 => ?_
    have hb2 := hN4.blk
    have hE4 : Ext w w4 := hE3.trans' hN4.ext
    ((first | refine owp_nilT ?_ | refine owp_nilB ?_ | refine owp_nilBB ?_ | refine owp_nil ?_))
    repeat (first | refine ewp_seq ?_ | refine ewp_block ?_ | refine ewp_region ?_ | refine ewp_skip ?_ | refine ewp_exit ?_ | refine ewp_ret ?_ | refine ewp_true rfl ?_ | refine ewp_false rfl ?_)
    (refine o_mv rfl rfl ?_ <;> refine o_fa rfl rfl ?_ <;> refine o_ld rfl rfl ?_)
    refine owp_callB rfl rfl (baseProper (hv.ext hE4) (hcond.ext hN4.ext)) ?_ ?_
    case refine_2 =>
      intro w5 hP hE5
      ((first | refine o_nt rfl rfl ?_ | refine o_nf rfl rfl ?_ | refine o_nn rfl rfl ?_) <;> refine o_mv rfl rfl ?_ <;> (first | (refine owp_yes rfl rfl ?_; refine o_mv rfl rfl ?_) | refine owp_no rfl rfl rfl rfl ?_) <;> (first | (refine owp_yes rfl rfl ?_; refine o_fa rfl rfl ?_) | refine owp_no rfl rfl rfl rfl ?_) <;> (first | (refine owp_yes rfl rfl ?_; refine o_ld rfl rfl ?_) | refine owp_no rfl rfl rfl rfl ?_) <;> (first | (refine owp_yes rfl rfl ?_; refine o_fa rfl rfl ?_) | refine owp_no rfl rfl rfl rfl ?_) <;> (first | (refine owp_yes rfl rfl ?_; refine o_ld rfl rfl ?_) | refine owp_no rfl rfl rfl rfl ?_) <;> (first | (refine owp_yes rfl rfl ?_; refine o_bd rfl rfl rfl ?_) | refine owp_no rfl rfl rfl rfl ?_))
      refine owp_no rfl rfl rfl rfl ?_
      refine owp_no rfl rfl rfl rfl ?_
      ((first | (refine owp_yes rfl rfl ?_; (first | refine o_nt rfl rfl ?_ | refine o_nf rfl rfl ?_ | refine o_nn rfl rfl ?_)) | refine owp_no rfl rfl rfl rfl ?_) <;> (first | refine o_pt rfl rfl rfl ?_ | refine o_pf rfl rfl rfl ?_) <;> (first | refine owp_nilT ?_ | refine owp_nilB ?_ | refine owp_nilBB ?_ | refine owp_nil ?_))
      repeat (first | refine ewp_seq ?_ | refine ewp_block ?_ | refine ewp_region ?_ | refine ewp_skip ?_ | refine ewp_exit ?_ | refine ewp_ret ?_ | refine ewp_true rfl ?_ | refine ewp_false rfl ?_)
      ((repeat (first | refine ewp_seq ?_ | refine ewp_block ?_ | refine ewp_region ?_ | refine ewp_skip ?_ | refine ewp_exit ?_ | refine ewp_ret ?_ | refine ewp_true rfl ?_ | refine ewp_false rfl ?_)) <;> (refine o_as rfl rfl ?_ <;> (first | refine owp_nilT ?_ | refine owp_nilB ?_ | refine owp_nilBB ?_ | refine owp_nil ?_)) <;> (repeat (first | refine ewp_seq ?_ | refine ewp_block ?_ | refine ewp_region ?_ | refine ewp_skip ?_ | refine ewp_exit ?_ | refine ewp_ret ?_ | refine ewp_true rfl ?_ | refine ewp_false rfl ?_)))
      refine ret1 rfl rfl ⟨?_, hE4.trans' hE5⟩
      rw [bof_f (fun h => hP (h.2.2.2.2.2 k e he).1)]
    intro w5 hcok hE5
    replace hb2 := hb2.ext hE5
    ((first | refine o_nt rfl rfl ?_ | refine o_nf rfl rfl ?_ | refine o_nn rfl rfl ?_) <;> refine o_mv rfl rfl ?_ <;> (first | (refine owp_yes rfl rfl ?_; refine o_mv rfl rfl ?_) | refine owp_no rfl rfl rfl rfl ?_) <;> (first | (refine owp_yes rfl rfl ?_; refine o_fa rfl rfl ?_) | refine owp_no rfl rfl rfl rfl ?_) <;> (first | (refine owp_yes rfl rfl ?_; refine o_ld rfl rfl ?_) | refine owp_no rfl rfl rfl rfl ?_) <;> (first | (refine owp_yes rfl rfl ?_; refine o_fa rfl rfl ?_) | refine owp_no rfl rfl rfl rfl ?_) <;> (first | (refine owp_yes rfl rfl ?_; refine o_ld rfl rfl ?_) | refine owp_no rfl rfl rfl rfl ?_) <;> (first | (refine owp_yes rfl rfl ?_; refine o_bd rfl rfl rfl ?_) | refine owp_no rfl rfl rfl rfl ?_))
    refine owp_yes rfl rfl ?_
    refine owp_slice rfl rfl rfl (by simp [Value.cells]; rfl) (by decide) rfl fun w6 hN6 => ?_
    have hE6 : Ext w w6 := hE4.trans' (hE5.trans' hN6.ext)
    refine owp_yes rfl rfl ?_
    have hone : V w6 (.slice (some ⟨w5.heap.size, 0, none⟩) 1 1) [(⟨e.var, e.val⟩ : Fct)] :=
      .of_slice ⟨_, 1, [.int .i64 e.var, .int .i64 e.val], rfl, Nat.le_refl _, by omega, .single ⟨rfl, hr1, hr2⟩, fun _ => ⟨_, _, rfl, hN6.blk.lt, hN6.blk.cellsAt⟩⟩
    refine owp_callB rfl rfl (baseProper (hv.ext hE6) hone) ?_ ?_
    case refine_2 =>
      intro w7 hP hE7
      ((first | (refine owp_yes rfl rfl ?_; (first | refine o_nt rfl rfl ?_ | refine o_nf rfl rfl ?_ | refine o_nn rfl rfl ?_)) | refine owp_no rfl rfl rfl rfl ?_) <;> (first | refine o_pt rfl rfl rfl ?_ | refine o_pf rfl rfl rfl ?_) <;> (first | refine owp_nilT ?_ | refine owp_nilB ?_ | refine owp_nilBB ?_ | refine owp_nil ?_))
      repeat (first | refine ewp_seq ?_ | refine ewp_block ?_ | refine ewp_region ?_ | refine ewp_skip ?_ | refine ewp_exit ?_ | refine ewp_ret ?_ | refine ewp_true rfl ?_ | refine ewp_false rfl ?_)
      ((repeat (first | refine ewp_seq ?_ | refine ewp_block ?_ | refine ewp_region ?_ | refine ewp_skip ?_ | refine ewp_exit ?_ | refine ewp_ret ?_ | refine ewp_true rfl ?_ | refine ewp_false rfl ?_)) <;> (refine o_as rfl rfl ?_ <;> (first | refine owp_nilT ?_ | refine owp_nilB ?_ | refine owp_nilBB ?_ | refine owp_nil ?_)) <;> (repeat (first | refine ewp_seq ?_ | refine ewp_block ?_ | refine ewp_region ?_ | refine ewp_skip ?_ | refine ewp_exit ?_ | refine ewp_ret ?_ | refine ewp_true rfl ?_ | refine ewp_false rfl ?_)))
      refine ret1 rfl rfl ⟨?_, hE6.trans' hE7⟩
      rw [bof_f (fun h => hP (factsOk_one.2 (h.2.2.2.2.2 k e he).2))]
    intro w7 hfok hE7
    ((first | (refine owp_yes rfl rfl ?_; (first | refine o_nt rfl rfl ?_ | refine o_nf rfl rfl ?_ | refine o_nn rfl rfl ?_)) | refine owp_no rfl rfl rfl rfl ?_) <;> (first | refine o_pt rfl rfl rfl ?_ | refine o_pf rfl rfl rfl ?_) <;> (first | refine owp_nilT ?_ | refine owp_nilB ?_ | refine owp_nilBB ?_ | refine owp_nil ?_))
    repeat (first | refine ewp_seq ?_ | refine ewp_block ?_ | refine ewp_region ?_ | refine ewp_skip ?_ | refine ewp_exit ?_ | refine ewp_ret ?_ | refine ewp_true rfl ?_ | refine ewp_false rfl ?_)
    exact ⟨(), ⟨rfl, rfl, rfl, rfl, rfl, trivial⟩, hE6.trans' hE7, upto_step hh fun e' he' => by
      rw [he] at he'; injection he' with he'; subst he'; exact ⟨hcok, factsOk_one.1 hfok⟩⟩
  rintro _ w3 ⟨hE3, hh⟩
  repeat (first | refine ewp_seq ?_ | refine ewp_block ?_ | refine ewp_region ?_ | refine ewp_skip ?_ | refine ewp_exit ?_ | refine ewp_ret ?_ | refine ewp_true rfl ?_ | refine ewp_false rfl ?_)
  ((repeat (first | refine ewp_seq ?_ | refine ewp_block ?_ | refine ewp_region ?_ | refine ewp_skip ?_ | refine ewp_exit ?_ | refine ewp_ret ?_ | refine ewp_true rfl ?_ | refine ewp_false rfl ?_)) <;> (refine o_as rfl rfl ?_ <;> (first | refine owp_nilT ?_ | refine owp_nilB ?_ | refine owp_nilBB ?_ | refine owp_nil ?_)) <;> (repeat (first | refine ewp_seq ?_ | refine ewp_block ?_ | refine ewp_region ?_ | refine ewp_skip ?_ | refine ewp_exit ?_ | refine ewp_ret ?_ | refine ewp_true rfl ?_ | refine ewp_false rfl ?_)))
  refine ret1 rfl rfl ⟨?_, hE3⟩
  rw [bof_t ⟨by omega, by omega, by omega, hnok, hpre, fun i e he => hh i (lt_of_some he) e he⟩]
theorem baseGood {w : World} {tv : Value} {t : Tsk} (ht : V w tv t) :
    Fn Try.prog 26 [tv] w fun v w' => v = .bool (bof (TaskOk t)) ∧ Ext w w' := by
  obtain ⟨cs, rfl, a, b, c, d, rfl, hvars, hinit, hgoal, hops⟩ := ht
  obtain ⟨Av, cv, rfl⟩ := hvars.form
  obtain ⟨Ai, ci, rfl⟩ := hinit.form
  obtain ⟨Ag, cg, rfl⟩ := hgoal.form
  obtain ⟨Ao, co, rfl⟩ := hops.form
  have hvl := hvars.len
  have hol := hops.len
  refine fn_enter Try.func26 rfl Try.ntmps26 rfl ?_
  repeat (first | refine ewp_seq ?_ | refine ewp_block ?_ | refine ewp_region ?_ | refine ewp_skip ?_ | refine ewp_exit ?_ | refine ewp_ret ?_ | refine ewp_true rfl ?_ | refine ewp_false rfl ?_)
  refine owp_box rfl rfl fun w1 hN => ?_
  have hb1 := hN.blk
  have hE1 : Ext w w1 := hN.ext
  (refine o_as rfl rfl ?_ <;> (first | refine owp_nilT ?_ | refine owp_nilB ?_ | refine owp_nilBB ?_ | refine owp_nil ?_))
  repeat (first | refine ewp_seq ?_ | refine ewp_block ?_ | refine ewp_region ?_ | refine ewp_skip ?_ | refine ewp_exit ?_ | refine ewp_ret ?_ | refine ewp_true rfl ?_ | refine ewp_false rfl ?_)
  ((repeat (first | refine ewp_seq ?_ | refine ewp_block ?_ | refine ewp_region ?_ | refine ewp_skip ?_ | refine ewp_exit ?_ | refine ewp_ret ?_ | refine ewp_true rfl ?_ | refine ewp_false rfl ?_)) <;> (refine o_fa rfl rfl ?_ <;> refine o_ld rfl rfl ?_ <;> refine o_ln rfl rfl ?_ <;> (first | refine o_gtT rfl rfl rfl ?_ | refine o_gtF rfl rfl rfl ?_ | refine o_gtS rfl rfl rfl (fun _ => ?_) fun _ => ?_) <;> refine o_mv rfl rfl ?_ <;> (first | (refine owp_yes rfl rfl ?_; refine o_fa rfl rfl ?_) | refine owp_no rfl rfl rfl rfl ?_) <;> (first | (refine owp_yes rfl rfl ?_; refine o_ld rfl rfl ?_) | refine owp_no rfl rfl rfl rfl ?_) <;> (first | (refine owp_yes rfl rfl ?_; refine o_ln rfl rfl ?_) | refine owp_no rfl rfl rfl rfl ?_) <;> (first | (refine owp_yes rfl rfl ?_; (first | refine o_gtT rfl rfl rfl ?_ | refine o_gtF rfl rfl rfl ?_ | refine o_gtS rfl rfl rfl (fun _ => ?_) fun _ => ?_)) | refine owp_no rfl rfl rfl rfl ?_) <;> (first | refine o_pt rfl rfl rfl ?_ | refine o_pf rfl rfl rfl ?_) <;> (first | refine owp_nilT ?_ | refine owp_nilB ?_ | refine owp_nilBB ?_ | refine owp_nil ?_)) <;> (repeat (first | refine ewp_seq ?_ | refine ewp_block ?_ | refine ewp_region ?_ | refine ewp_skip ?_ | refine ewp_exit ?_ | refine ewp_ret ?_ | refine ewp_true rfl ?_ | refine ewp_false rfl ?_)))
  all_goals try (
    ((repeat (first | refine ewp_seq ?_ | refine ewp_block ?_ | refine ewp_region ?_ | refine ewp_skip ?_ | refine ewp_exit ?_ | refine ewp_ret ?_ | refine ewp_true rfl ?_ | refine ewp_false rfl ?_)) <;> (refine o_as rfl rfl ?_ <;> (first | refine owp_nilT ?_ | refine owp_nilB ?_ | refine owp_nilBB ?_ | refine owp_nil ?_)) <;> (repeat (first | refine ewp_seq ?_ | refine ewp_block ?_ | refine ewp_region ?_ | refine ewp_skip ?_ | refine ewp_exit ?_ | refine ewp_ret ?_ | refine ewp_true rfl ?_ | refine ewp_false rfl ?_)))
    refine ret1 rfl rfl ⟨?_, hE1⟩
    rw [bof_f (fun h => by obtain ⟨h1, h2, _⟩ := h; omega)])
  (refine o_fa rfl rfl ?_ <;> refine o_ld rfl rfl ?_ <;> refine o_ln rfl rfl ?_ <;> refine o_mv rfl rfl ?_ <;> (first | refine owp_nilT ?_ | refine owp_nilB ?_ | refine owp_nilBB ?_ | refine owp_nil ?_))
  repeat (first | refine ewp_seq ?_ | refine ewp_block ?_ | refine ewp_region ?_ | refine ewp_skip ?_ | refine ewp_exit ?_ | refine ewp_ret ?_ | refine ewp_true rfl ?_ | refine ewp_false rfl ?_)
  refine ewp_range t.vars.length (by omega) (fun _ : Unit => [(1, .pointer (some ⟨w.heap.size, 0, none⟩)), (18, .slice Av t.vars.length cv)]) (fun k _ w' => w' = w1 ∧ ∀ i, i < k → ∀ n, t.vars[i]? = some n → 1 ≤ n ∧ n ≤ 64) ()
    ⟨rfl, fun i hi => by omega⟩ ⟨rfl, rfl, rfl, rfl, trivial⟩ (fun _ => ⟨rfl, rfl⟩) ⟨rfl, rfl, rfl⟩ ⟨rfl, rfl⟩ ?_ ?_
  · rintro k _ _ hk ⟨rfl, hh⟩
    obtain ⟨n, hn⟩ := some_of_lt hk
    obtain ⟨b2, o2, ce, rfl, _, _, hd1, rfl, _⟩ := (hvars.ext hE1).elem hn
    ((repeat (first | refine ewp_seq ?_ | refine ewp_block ?_ | refine ewp_region ?_ | refine ewp_skip ?_ | refine ewp_exit ?_ | refine ewp_ret ?_ | refine ewp_true rfl ?_ | refine ewp_false rfl ?_)) <;> (refine o_ia rfl rfl rfl ?_ <;> refine o_ld rfl rfl ?_ <;> refine o_as rfl rfl ?_ <;> (first | refine owp_nilT ?_ | refine owp_nilB ?_ | refine owp_nilBB ?_ | refine owp_nil ?_)) <;> (repeat (first | refine ewp_seq ?_ | refine ewp_block ?_ | refine ewp_region ?_ | refine ewp_skip ?_ | refine ewp_exit ?_ | refine ewp_ret ?_ | refine ewp_true rfl ?_ | refine ewp_false rfl ?_)) <;> (refine o_mv rfl rfl ?_ <;> (first | refine o_ltT rfl rfl rfl ?_ | refine o_ltF rfl rfl rfl ?_ | refine o_ltS rfl rfl rfl (fun _ => ?_) fun _ => ?_) <;> refine o_mv rfl rfl ?_ <;> (first | (refine owp_yes rfl rfl ?_; refine o_mv rfl rfl ?_) | refine owp_no rfl rfl rfl rfl ?_) <;> (first | (refine owp_yes rfl rfl ?_; (first | refine o_gtT rfl rfl rfl ?_ | refine o_gtF rfl rfl rfl ?_ | refine o_gtS rfl rfl rfl (fun _ => ?_) fun _ => ?_)) | refine owp_no rfl rfl rfl rfl ?_) <;> (first | refine o_pt rfl rfl rfl ?_ | refine o_pf rfl rfl rfl ?_) <;> (first | refine owp_nilT ?_ | refine owp_nilB ?_ | refine owp_nilBB ?_ | refine owp_nil ?_)) <;> (repeat (first | refine ewp_seq ?_ | refine ewp_block ?_ | refine ewp_region ?_ | refine ewp_skip ?_ | refine ewp_exit ?_ | refine ewp_ret ?_ | refine ewp_true rfl ?_ | refine ewp_false rfl ?_)))
    all_goals try (
      ((repeat (first | refine ewp_seq ?_ | refine ewp_block ?_ | refine ewp_region ?_ | refine ewp_skip ?_ | refine ewp_exit ?_ | refine ewp_ret ?_ | refine ewp_true rfl ?_ | refine ewp_false rfl ?_)) <;> (refine o_as rfl rfl ?_ <;> (first | refine owp_nilT ?_ | refine owp_nilB ?_ | refine owp_nilBB ?_ | refine owp_nil ?_)) <;> (repeat (first | refine ewp_seq ?_ | refine ewp_block ?_ | refine ewp_region ?_ | refine ewp_skip ?_ | refine ewp_exit ?_ | refine ewp_ret ?_ | refine ewp_true rfl ?_ | refine ewp_false rfl ?_)))
      refine ret1 rfl rfl ⟨?_, hE1⟩
      rw [bof_f (fun h => by have := h.2.2.1 k n hn; omega)])
    exact ⟨(), ⟨rfl, rfl, rfl, rfl, trivial⟩, rfl, upto_step hh fun n' hn' => by rw [hn] at hn'; injection hn' with hn'; omega⟩
  rintro _ _ ⟨rfl, hdom⟩
  repeat (first | refine ewp_seq ?_ | refine ewp_block ?_ | refine ewp_region ?_ | refine ewp_skip ?_ | refine ewp_exit ?_ | refine ewp_ret ?_ | refine ewp_true rfl ?_ | refine ewp_false rfl ?_)
  (refine o_fa rfl rfl ?_ <;> refine o_ld rfl rfl ?_ <;> refine o_fa rfl rfl ?_ <;> refine o_ld rfl rfl ?_)
  refine owp_callB rfl rfl (baseState (hvars.ext hE1) (hinit.ext hE1)) ?_ ?_
  case refine_2 =>
    intro w2 hP hE2
    ((first | refine o_nt rfl rfl ?_ | refine o_nf rfl rfl ?_ | refine o_nn rfl rfl ?_) <;> refine o_mv rfl rfl ?_ <;> (first | (refine owp_yes rfl rfl ?_; refine o_fa rfl rfl ?_) | refine owp_no rfl rfl rfl rfl ?_) <;> (first | (refine owp_yes rfl rfl ?_; refine o_ld rfl rfl ?_) | refine owp_no rfl rfl rfl rfl ?_) <;> (first | (refine owp_yes rfl rfl ?_; refine o_fa rfl rfl ?_) | refine owp_no rfl rfl rfl rfl ?_) <;> (first | (refine owp_yes rfl rfl ?_; refine o_ld rfl rfl ?_) | refine owp_no rfl rfl rfl rfl ?_))
    refine owp_no rfl rfl rfl rfl ?_
    ((first | (refine owp_yes rfl rfl ?_; (first | refine o_nt rfl rfl ?_ | refine o_nf rfl rfl ?_ | refine o_nn rfl rfl ?_)) | refine owp_no rfl rfl rfl rfl ?_) <;> (first | refine o_pt rfl rfl rfl ?_ | refine o_pf rfl rfl rfl ?_) <;> (first | refine owp_nilT ?_ | refine owp_nilB ?_ | refine owp_nilBB ?_ | refine owp_nil ?_))
    repeat (first | refine ewp_seq ?_ | refine ewp_block ?_ | refine ewp_region ?_ | refine ewp_skip ?_ | refine ewp_exit ?_ | refine ewp_ret ?_ | refine ewp_true rfl ?_ | refine ewp_false rfl ?_)
    ((repeat (first | refine ewp_seq ?_ | refine ewp_block ?_ | refine ewp_region ?_ | refine ewp_skip ?_ | refine ewp_exit ?_ | refine ewp_ret ?_ | refine ewp_true rfl ?_ | refine ewp_false rfl ?_)) <;> (refine o_as rfl rfl ?_ <;> (first | refine owp_nilT ?_ | refine owp_nilB ?_ | refine owp_nilBB ?_ | refine owp_nil ?_)) <;> (repeat (first | refine ewp_seq ?_ | refine ewp_block ?_ | refine ewp_region ?_ | refine ewp_skip ?_ | refine ewp_exit ?_ | refine ewp_ret ?_ | refine ewp_true rfl ?_ | refine ewp_false rfl ?_)))
    refine ret1 rfl rfl ⟨?_, hE1.trans' hE2⟩
    rw [bof_f (fun h => hP h.2.2.2.1)]
  intro w2 hst hE2
  replace hb1 := hb1.ext hE2
  replace hE2 : Ext w w2 := hE1.trans' hE2
  ((first | refine o_nt rfl rfl ?_ | refine o_nf rfl rfl ?_ | refine o_nn rfl rfl ?_) <;> refine o_mv rfl rfl ?_ <;> (first | (refine owp_yes rfl rfl ?_; refine o_fa rfl rfl ?_) | refine owp_no rfl rfl rfl rfl ?_) <;> (first | (refine owp_yes rfl rfl ?_; refine o_ld rfl rfl ?_) | refine owp_no rfl rfl rfl rfl ?_) <;> (first | (refine owp_yes rfl rfl ?_; refine o_fa rfl rfl ?_) | refine owp_no rfl rfl rfl rfl ?_) <;> (first | (refine owp_yes rfl rfl ?_; refine o_ld rfl rfl ?_) | refine owp_no rfl rfl rfl rfl ?_))
  refine owp_yes rfl rfl ?_
  refine owp_callB rfl rfl (baseProper (hvars.ext hE2) (hgoal.ext hE2)) ?_ ?_
  case refine_2 =>
    intro w3 hP hE3
    ((first | (refine owp_yes rfl rfl ?_; (first | refine o_nt rfl rfl ?_ | refine o_nf rfl rfl ?_ | refine o_nn rfl rfl ?_)) | refine owp_no rfl rfl rfl rfl ?_) <;> (first | refine o_pt rfl rfl rfl ?_ | refine o_pf rfl rfl rfl ?_) <;> (first | refine owp_nilT ?_ | refine owp_nilB ?_ | refine owp_nilBB ?_ | refine owp_nil ?_))
    repeat (first | refine ewp_seq ?_ | refine ewp_block ?_ | refine ewp_region ?_ | refine ewp_skip ?_ | refine ewp_exit ?_ | refine ewp_ret ?_ | refine ewp_true rfl ?_ | refine ewp_false rfl ?_)
    ((repeat (first | refine ewp_seq ?_ | refine ewp_block ?_ | refine ewp_region ?_ | refine ewp_skip ?_ | refine ewp_exit ?_ | refine ewp_ret ?_ | refine ewp_true rfl ?_ | refine ewp_false rfl ?_)) <;> (refine o_as rfl rfl ?_ <;> (first | refine owp_nilT ?_ | refine owp_nilB ?_ | refine owp_nilBB ?_ | refine owp_nil ?_)) <;> (repeat (first | refine ewp_seq ?_ | refine ewp_block ?_ | refine ewp_region ?_ | refine ewp_skip ?_ | refine ewp_exit ?_ | refine ewp_ret ?_ | refine ewp_true rfl ?_ | refine ewp_false rfl ?_)))
    refine ret1 rfl rfl ⟨?_, hE2.trans' hE3⟩
    rw [bof_f (fun h => hP h.2.2.2.2.1)]
  intro w3 hgo hE3
  replace hb1 := hb1.ext hE3
  replace hE3 : Ext w w3 := hE2.trans' hE3
  ((first | (refine owp_yes rfl rfl ?_; (first | refine o_nt rfl rfl ?_ | refine o_nf rfl rfl ?_ | refine o_nn rfl rfl ?_)) | refine owp_no rfl rfl rfl rfl ?_) <;> (first | refine o_pt rfl rfl rfl ?_ | refine o_pf rfl rfl rfl ?_) <;> (first | refine owp_nilT ?_ | refine owp_nilB ?_ | refine owp_nilBB ?_ | refine owp_nil ?_))
  repeat (first | refine ewp_seq ?_ | refine ewp_block ?_ | refine ewp_region ?_ | refine ewp_skip ?_ | refine ewp_exit ?_ | refine ewp_ret ?_ | refine ewp_true rfl ?_ | refine ewp_false rfl ?_)
  ((repeat (first | refine ewp_seq ?_ | refine ewp_block ?_ | refine ewp_region ?_ | refine ewp_skip ?_ | refine ewp_exit ?_ | refine ewp_ret ?_ | refine ewp_true rfl ?_ | refine ewp_false rfl ?_)) <;> (refine o_fa rfl rfl ?_ <;> refine o_ld rfl rfl ?_ <;> refine o_ln rfl rfl ?_ <;> refine o_mv rfl rfl ?_ <;> (first | refine owp_nilT ?_ | refine owp_nilB ?_ | refine owp_nilBB ?_ | refine owp_nil ?_)) <;> (repeat (first | refine ewp_seq ?_ | refine ewp_block ?_ | refine ewp_region ?_ | refine ewp_skip ?_ | refine ewp_exit ?_ | refine ewp_ret ?_ | refine ewp_true rfl ?_ | refine ewp_false rfl ?_)))
  refine ewp_range t.ops.length (by omega) (fun _ : Unit => [(1, .pointer (some ⟨w.heap.size, 0, none⟩)), (46, .slice Ao t.ops.length co)]) (fun k _ w' => Ext w3 w' ∧ ∀ i, i < k → ∀ o, t.ops[i]? = some o → OpOk t.vars o) ()
    ⟨Below.refl _ _, fun i hi => by omega⟩ ⟨rfl, rfl, rfl, rfl, trivial⟩ (fun _ => ⟨rfl, rfl⟩) ⟨rfl, rfl, rfl⟩ ⟨rfl, rfl⟩ ?_ ?_
  · rintro k _ w4 hk ⟨hE4, hh⟩
    obtain ⟨o, ho⟩ := some_of_lt hk
    replace hb1 := hb1.ext hE4
    have hE34 := hE4
    replace hE4 : Ext w w4 := hE3.trans' hE4
    obtain ⟨b2, o2, ce, rfl, _, _, hd1, hRo⟩ := (hops.ext hE4).elem ho
    obtain ⟨p, q, rfl, hp, hq, hc, hn⟩ := id hRo
    obtain ⟨Ap, cp, rfl⟩ := hp.form
    obtain ⟨Aq, cq, rfl⟩ := hq.form
    ((repeat (first | refine ewp_seq ?_ | refine ewp_block ?_ | refine ewp_region ?_ | refine ewp_skip ?_ | refine ewp_exit ?_ | refine ewp_ret ?_ | refine ewp_true rfl ?_ | refine ewp_false rfl ?_)) <;> (refine o_ia rfl rfl rfl ?_ <;> refine o_la rfl rfl ?_) <;> (repeat (first | refine ewp_seq ?_ | refine ewp_block ?_ | refine ewp_region ?_ | refine ewp_skip ?_ | refine ewp_exit ?_ | refine ewp_ret ?_ | refine ewp_true rfl ?_ | refine ewp_false rfl ?_)))
    refine owp_local rfl rfl rfl (by simp [Value.cells, Value.oneCell']) fun w5 hN5 => ?_
    have hb2 := hN5.blk
    replace hb1 := hb1.ext hN5.ext
    have hE5 : Ext w w5 := hE4.trans' hN5.ext
    ((first | refine owp_nilT ?_ | refine owp_nilB ?_ | refine owp_nilBB ?_ | refine owp_nil ?_))
    repeat (first | refine ewp_seq ?_ | refine ewp_block ?_ | refine ewp_region ?_ | refine ewp_skip ?_ | refine ewp_exit ?_ | refine ewp_ret ?_ | refine ewp_true rfl ?_ | refine ewp_false rfl ?_)
    (refine o_fa rfl rfl ?_ <;> refine o_ld rfl rfl ?_ <;> refine o_la rfl rfl ?_)
    have hVo : V w4 (.agg #[.string o.name, .int .i64 o.cost, .slice Ap o.pre.length cp, .slice Aq o.effs.length cq]) o := ⟨_, rfl, hRo⟩
    refine owp_callB rfl rfl (baseOperator (hvars.ext hE5) (hVo.ext hN5.ext)) ?_ ?_
    · intro w6 hP hE6
      ((first | refine o_nt rfl rfl ?_ | refine o_nf rfl rfl ?_ | refine o_nn rfl rfl ?_) <;> (first | refine owp_nilT ?_ | refine owp_nilB ?_ | refine owp_nilBB ?_ | refine owp_nil ?_))
      repeat (first | refine ewp_seq ?_ | refine ewp_block ?_ | refine ewp_region ?_ | refine ewp_skip ?_ | refine ewp_exit ?_ | refine ewp_ret ?_ | refine ewp_true rfl ?_ | refine ewp_false rfl ?_)
      refine ⟨(), ⟨rfl, rfl, rfl, rfl, trivial⟩, ?_, upto_step hh fun o' ho' => by rw [ho] at ho'; injection ho' with ho'; exact ho' ▸ hP⟩
      exact hE34.trans' (hN5.ext.trans' hE6)
    · intro w6 hP hE6
      ((first | refine o_nt rfl rfl ?_ | refine o_nf rfl rfl ?_ | refine o_nn rfl rfl ?_) <;> (first | refine owp_nilT ?_ | refine owp_nilB ?_ | refine owp_nilBB ?_ | refine owp_nil ?_))
      repeat (first | refine ewp_seq ?_ | refine ewp_block ?_ | refine ewp_region ?_ | refine ewp_skip ?_ | refine ewp_exit ?_ | refine ewp_ret ?_ | refine ewp_true rfl ?_ | refine ewp_false rfl ?_)
      ((repeat (first | refine ewp_seq ?_ | refine ewp_block ?_ | refine ewp_region ?_ | refine ewp_skip ?_ | refine ewp_exit ?_ | refine ewp_ret ?_ | refine ewp_true rfl ?_ | refine ewp_false rfl ?_)) <;> (refine o_as rfl rfl ?_ <;> (first | refine owp_nilT ?_ | refine owp_nilB ?_ | refine owp_nilBB ?_ | refine owp_nil ?_)) <;> (repeat (first | refine ewp_seq ?_ | refine ewp_block ?_ | refine ewp_region ?_ | refine ewp_skip ?_ | refine ewp_exit ?_ | refine ewp_ret ?_ | refine ewp_true rfl ?_ | refine ewp_false rfl ?_)))
      refine ret1 rfl rfl ⟨?_, hE5.trans' hE6⟩
      rw [bof_f (fun h => hP (h.2.2.2.2.2 k o ho))]
  rintro _ w4 ⟨hE4, hh⟩
  repeat (first | refine ewp_seq ?_ | refine ewp_block ?_ | refine ewp_region ?_ | refine ewp_skip ?_ | refine ewp_exit ?_ | refine ewp_ret ?_ | refine ewp_true rfl ?_ | refine ewp_false rfl ?_)
  ((repeat (first | refine ewp_seq ?_ | refine ewp_block ?_ | refine ewp_region ?_ | refine ewp_skip ?_ | refine ewp_exit ?_ | refine ewp_ret ?_ | refine ewp_true rfl ?_ | refine ewp_false rfl ?_)) <;> (refine o_as rfl rfl ?_ <;> (first | refine owp_nilT ?_ | refine owp_nilB ?_ | refine owp_nilBB ?_ | refine owp_nil ?_)) <;> (repeat (first | refine ewp_seq ?_ | refine ewp_block ?_ | refine ewp_region ?_ | refine ewp_skip ?_ | refine ewp_exit ?_ | refine ewp_ret ?_ | refine ewp_true rfl ?_ | refine ewp_false rfl ?_)))
  refine ret1 rfl rfl ⟨?_, hE3.trans' hE4⟩
  rw [bof_t ⟨by omega, by omega, fun i n hn => hdom i (lt_of_some hn) n hn, hst, hgo, fun i o ho => hh i (lt_of_some ho) o ho⟩]
/-- The number of states, at most one more than most. -/
def manyF (most : Int) : List Int → Int → Int
  | [], n => n
  | k :: r, n => if most < n * min (max k 0) (most + 1) then most + 1 else manyF most r (n * min (max k 0) (most + 1))
theorem baseMany {w : World} {vv : Value} {vars : List Int} {most : Int} (hv : V w vv vars) (h1 : 1 ≤ most) (h2 : most ≤ 1048576) :
    Fn Try.prog 31 [vv, .int .i64 most] w fun v w' => v = .int .i64 (manyF most vars 1) ∧ Ext w w' := by
  obtain ⟨A, ca, rfl⟩ := hv.form
  have hvl := hv.len
  refine fn_enter Try.func31 rfl Try.ntmps31 rfl ?_
  ((repeat (first | refine ewp_seq ?_ | refine ewp_block ?_ | refine ewp_region ?_ | refine ewp_skip ?_ | refine ewp_exit ?_ | refine ewp_ret ?_ | refine ewp_true rfl ?_ | refine ewp_false rfl ?_)) <;> (refine o_as rfl rfl ?_ <;> (first | refine owp_nilT ?_ | refine owp_nilB ?_ | refine owp_nilBB ?_ | refine owp_nil ?_)) <;> (repeat (first | refine ewp_seq ?_ | refine ewp_block ?_ | refine ewp_region ?_ | refine ewp_skip ?_ | refine ewp_exit ?_ | refine ewp_ret ?_ | refine ewp_true rfl ?_ | refine ewp_false rfl ?_)) <;> (refine o_as rfl rfl ?_ <;> (first | refine owp_nilT ?_ | refine owp_nilB ?_ | refine owp_nilBB ?_ | refine owp_nil ?_)) <;> (repeat (first | refine ewp_seq ?_ | refine ewp_block ?_ | refine ewp_region ?_ | refine ewp_skip ?_ | refine ewp_exit ?_ | refine ewp_ret ?_ | refine ewp_true rfl ?_ | refine ewp_false rfl ?_)) <;> (refine o_mv rfl rfl ?_ <;> refine o_ln rfl rfl ?_ <;> refine o_mv rfl rfl ?_ <;> (first | refine owp_nilT ?_ | refine owp_nilB ?_ | refine owp_nilBB ?_ | refine owp_nil ?_)) <;> (repeat (first | refine ewp_seq ?_ | refine ewp_block ?_ | refine ewp_region ?_ | refine ewp_skip ?_ | refine ewp_exit ?_ | refine ewp_ret ?_ | refine ewp_true rfl ?_ | refine ewp_false rfl ?_)))
  refine ewp_range vars.length (by omega) (fun n : Int => [(1, .int .i64 most), (5, .int .i64 n), (8, .slice A vars.length ca)]) (fun k n w' => w' = w ∧ 0 ≤ n ∧ n ≤ most ∧ manyF most (vars.drop k) n = manyF most vars 1) 1
    ⟨rfl, by omega, h1, rfl⟩ ⟨rfl, rfl, rfl, rfl, rfl, trivial⟩ (fun _ => ⟨rfl, rfl⟩) ⟨rfl, rfl, rfl⟩ ⟨rfl, rfl⟩ ?_ ?_
  · rintro k n _ hk ⟨rfl, hn0, hn1, hh⟩
    obtain ⟨x, hx⟩ := some_of_lt hk
    obtain ⟨b2, o2, ce, rfl, _, _, hd1, rfl, _⟩ := hv.elem hx
    have hd : vars.drop k = x :: vars.drop (k + 1) := by
      rw [List.drop_eq_getElem_cons hk]; congr 1
      rw [List.getElem?_eq_getElem hk] at hx; exact Option.some.inj hx
    rw [hd] at hh
    simp only [manyF] at hh
    have hm0 : 0 ≤ min (max x 0) (most + 1) := by omega
    have hm1 : min (max x 0) (most + 1) ≤ most + 1 := by omega
    have hp0 : 0 ≤ n * min (max x 0) (most + 1) := Int.mul_nonneg hn0 hm0
    have hp1 : n * min (max x 0) (most + 1) ≤ 1048576 * 1048577 := Int.le_trans (Int.mul_le_mul_of_nonneg_right (Int.le_trans hn1 h2) hm0) (Int.mul_le_mul_of_nonneg_left (by omega) (by omega))
    ((repeat (first | refine ewp_seq ?_ | refine ewp_block ?_ | refine ewp_region ?_ | refine ewp_skip ?_ | refine ewp_exit ?_ | refine ewp_ret ?_ | refine ewp_true rfl ?_ | refine ewp_false rfl ?_)) <;> (refine o_ia rfl rfl rfl ?_ <;> refine o_ld rfl rfl ?_ <;> refine o_as rfl rfl ?_ <;> (first | refine owp_nilT ?_ | refine owp_nilB ?_ | refine owp_nilBB ?_ | refine owp_nil ?_)) <;> (repeat (first | refine ewp_seq ?_ | refine ewp_block ?_ | refine ewp_region ?_ | refine ewp_skip ?_ | refine ewp_exit ?_ | refine ewp_ret ?_ | refine ewp_true rfl ?_ | refine ewp_false rfl ?_)) <;> (refine o_mv rfl rfl ?_ <;> refine o_mv rfl rfl ?_ <;> refine o_max rfl rfl rfl ?_ <;> refine o_mv rfl rfl ?_ <;> (first | refine o_ic rfl rfl ?_ | refine o_ad rfl rfl rfl ?_) <;> refine o_min rfl rfl rfl ?_ <;> refine o_ml rfl rfl rfl ?_ <;> refine o_as rfl rfl ?_ <;> (first | refine owp_nilT ?_ | refine owp_nilB ?_ | refine owp_nilBB ?_ | refine owp_nil ?_)) <;> (repeat (first | refine ewp_seq ?_ | refine ewp_block ?_ | refine ewp_region ?_ | refine ewp_skip ?_ | refine ewp_exit ?_ | refine ewp_ret ?_ | refine ewp_true rfl ?_ | refine ewp_false rfl ?_)) <;> (refine o_mv rfl rfl ?_ <;> refine o_mv rfl rfl ?_ <;> (first | refine o_gtT rfl rfl rfl ?_ | refine o_gtF rfl rfl rfl ?_ | refine o_gtS rfl rfl rfl (fun _ => ?_) fun _ => ?_) <;> (first | refine owp_nilT ?_ | refine owp_nilB ?_ | refine owp_nilBB ?_ | refine owp_nil ?_)) <;> (repeat (first | refine ewp_seq ?_ | refine ewp_block ?_ | refine ewp_region ?_ | refine ewp_skip ?_ | refine ewp_exit ?_ | refine ewp_ret ?_ | refine ewp_true rfl ?_ | refine ewp_false rfl ?_)))
    · ((repeat (first | refine ewp_seq ?_ | refine ewp_block ?_ | refine ewp_region ?_ | refine ewp_skip ?_ | refine ewp_exit ?_ | refine ewp_ret ?_ | refine ewp_true rfl ?_ | refine ewp_false rfl ?_)) <;> (refine o_mv rfl rfl ?_ <;> (first | refine o_ic rfl rfl ?_ | refine o_ad rfl rfl rfl ?_) <;> refine o_as rfl rfl ?_ <;> (first | refine owp_nilT ?_ | refine owp_nilB ?_ | refine owp_nilBB ?_ | refine owp_nil ?_)) <;> (repeat (first | refine ewp_seq ?_ | refine ewp_block ?_ | refine ewp_region ?_ | refine ewp_skip ?_ | refine ewp_exit ?_ | refine ewp_ret ?_ | refine ewp_true rfl ?_ | refine ewp_false rfl ?_)))
      refine ret1 rfl rfl ⟨?_, Below.refl _ _⟩
      rw [if_pos (by assumption)] at hh
      rw [← hh]
    · rw [if_neg (by assumption)] at hh
      exact ⟨n * min (max x 0) (most + 1), ⟨rfl, rfl, rfl, rfl, rfl, trivial⟩, rfl, hp0, by omega, hh⟩
  rintro n _ ⟨rfl, _, _, hh⟩
  repeat (first | refine ewp_seq ?_ | refine ewp_block ?_ | refine ewp_region ?_ | refine ewp_skip ?_ | refine ewp_exit ?_ | refine ewp_ret ?_ | refine ewp_true rfl ?_ | refine ewp_false rfl ?_)
  ((repeat (first | refine ewp_seq ?_ | refine ewp_block ?_ | refine ewp_region ?_ | refine ewp_skip ?_ | refine ewp_exit ?_ | refine ewp_ret ?_ | refine ewp_true rfl ?_ | refine ewp_false rfl ?_)) <;> (refine o_mv rfl rfl ?_ <;> refine o_as rfl rfl ?_ <;> (first | refine owp_nilT ?_ | refine owp_nilB ?_ | refine owp_nilBB ?_ | refine owp_nil ?_)) <;> (repeat (first | refine ewp_seq ?_ | refine ewp_block ?_ | refine ewp_region ?_ | refine ewp_skip ?_ | refine ewp_exit ?_ | refine ewp_ret ?_ | refine ewp_true rfl ?_ | refine ewp_false rfl ?_)))
  refine ret1 rfl rfl ⟨?_, Below.refl _ _⟩
  rw [← hh, List.drop_length]; rfl
/-- A task is small. -/
def SmallOk (t : Tsk) : Prop := t.vars.length ≤ 12 ∧ t.ops.length ≤ 20 ∧ (∀ (i : Nat) o, t.ops[i]? = some o → o.effs.length ≤ 8) ∧ TaskOk t ∧ manyF 512 t.vars 1 ≤ 512
theorem baseSmall {w : World} {tv : Value} {t : Tsk} (ht : V w tv t) :
    Fn Try.prog 11 [tv] w fun v w' => v = .bool (bof (SmallOk t)) ∧ Ext w w' := by
  have ht0 := ht
  obtain ⟨cs, rfl, a, b, c, d, rfl, hvars, hinit, hgoal, hops⟩ := ht
  obtain ⟨Av, cv, rfl⟩ := hvars.form
  obtain ⟨Ai, ci, rfl⟩ := hinit.form
  obtain ⟨Ag, cg, rfl⟩ := hgoal.form
  obtain ⟨Ao, co, rfl⟩ := hops.form
  have hvl := hvars.len
  have hol := hops.len
  refine fn_enter Try.func11 rfl Try.ntmps11 rfl ?_
  repeat (first | refine ewp_seq ?_ | refine ewp_block ?_ | refine ewp_region ?_ | refine ewp_skip ?_ | refine ewp_exit ?_ | refine ewp_ret ?_ | refine ewp_true rfl ?_ | refine ewp_false rfl ?_)
  refine owp_box rfl rfl fun w1 hN => ?_
  have hb1 := hN.blk
  have hE1 : Ext w w1 := hN.ext
  (refine o_as rfl rfl ?_ <;> (first | refine owp_nilT ?_ | refine owp_nilB ?_ | refine owp_nilBB ?_ | refine owp_nil ?_))
  repeat (first | refine ewp_seq ?_ | refine ewp_block ?_ | refine ewp_region ?_ | refine ewp_skip ?_ | refine ewp_exit ?_ | refine ewp_ret ?_ | refine ewp_true rfl ?_ | refine ewp_false rfl ?_)
  ((repeat (first | refine ewp_seq ?_ | refine ewp_block ?_ | refine ewp_region ?_ | refine ewp_skip ?_ | refine ewp_exit ?_ | refine ewp_ret ?_ | refine ewp_true rfl ?_ | refine ewp_false rfl ?_)) <;> (refine o_fa rfl rfl ?_ <;> refine o_ld rfl rfl ?_ <;> refine o_ln rfl rfl ?_ <;> (first | refine o_gtT rfl rfl rfl ?_ | refine o_gtF rfl rfl rfl ?_ | refine o_gtS rfl rfl rfl (fun _ => ?_) fun _ => ?_) <;> refine o_mv rfl rfl ?_ <;> (first | (refine owp_yes rfl rfl ?_; refine o_fa rfl rfl ?_) | refine owp_no rfl rfl rfl rfl ?_) <;> (first | (refine owp_yes rfl rfl ?_; refine o_ld rfl rfl ?_) | refine owp_no rfl rfl rfl rfl ?_) <;> (first | (refine owp_yes rfl rfl ?_; refine o_ln rfl rfl ?_) | refine owp_no rfl rfl rfl rfl ?_) <;> (first | (refine owp_yes rfl rfl ?_; (first | refine o_gtT rfl rfl rfl ?_ | refine o_gtF rfl rfl rfl ?_ | refine o_gtS rfl rfl rfl (fun _ => ?_) fun _ => ?_)) | refine owp_no rfl rfl rfl rfl ?_) <;> (first | refine o_pt rfl rfl rfl ?_ | refine o_pf rfl rfl rfl ?_) <;> (first | refine owp_nilT ?_ | refine owp_nilB ?_ | refine owp_nilBB ?_ | refine owp_nil ?_)) <;> (repeat (first | refine ewp_seq ?_ | refine ewp_block ?_ | refine ewp_region ?_ | refine ewp_skip ?_ | refine ewp_exit ?_ | refine ewp_ret ?_ | refine ewp_true rfl ?_ | refine ewp_false rfl ?_)))
  all_goals try (
    ((repeat (first | refine ewp_seq ?_ | refine ewp_block ?_ | refine ewp_region ?_ | refine ewp_skip ?_ | refine ewp_exit ?_ | refine ewp_ret ?_ | refine ewp_true rfl ?_ | refine ewp_false rfl ?_)) <;> (refine o_as rfl rfl ?_ <;> (first | refine owp_nilT ?_ | refine owp_nilB ?_ | refine owp_nilBB ?_ | refine owp_nil ?_)) <;> (repeat (first | refine ewp_seq ?_ | refine ewp_block ?_ | refine ewp_region ?_ | refine ewp_skip ?_ | refine ewp_exit ?_ | refine ewp_ret ?_ | refine ewp_true rfl ?_ | refine ewp_false rfl ?_)))
    refine ret1 rfl rfl ⟨?_, hE1⟩
    rw [bof_f (fun h => by obtain ⟨h1, h2, _⟩ := h; omega)])
  ((repeat (first | refine ewp_seq ?_ | refine ewp_block ?_ | refine ewp_region ?_ | refine ewp_skip ?_ | refine ewp_exit ?_ | refine ewp_ret ?_ | refine ewp_true rfl ?_ | refine ewp_false rfl ?_)) <;> (refine o_fa rfl rfl ?_ <;> refine o_ld rfl rfl ?_ <;> refine o_ln rfl rfl ?_ <;> refine o_mv rfl rfl ?_ <;> (first | refine owp_nilT ?_ | refine owp_nilB ?_ | refine owp_nilBB ?_ | refine owp_nil ?_)) <;> (repeat (first | refine ewp_seq ?_ | refine ewp_block ?_ | refine ewp_region ?_ | refine ewp_skip ?_ | refine ewp_exit ?_ | refine ewp_ret ?_ | refine ewp_true rfl ?_ | refine ewp_false rfl ?_)))
  refine ewp_range t.ops.length (by omega) (fun _ : Unit => [(1, .pointer (some ⟨w.heap.size, 0, none⟩)), (16, .slice Ao t.ops.length co)]) (fun k _ w' => Ext w1 w' ∧ ∀ i, i < k → ∀ o, t.ops[i]? = some o → o.effs.length ≤ 8) ()
    ⟨Below.refl _ _, fun i hi => by omega⟩ ⟨rfl, rfl, rfl, rfl, trivial⟩ (fun _ => ⟨rfl, rfl⟩) ⟨rfl, rfl, rfl⟩ ⟨rfl, rfl⟩ ?_ ?_
  · rintro k _ w4 hk ⟨hE4, hh⟩
    obtain ⟨o, ho⟩ := some_of_lt hk
    obtain ⟨b2, o2, ce, rfl, _, _, hd1, p, q, rfl, hp, hq, hc, hn⟩ := (hops.ext (hE1.trans' hE4)).elem ho
    obtain ⟨Ap, cp, rfl⟩ := hp.form
    obtain ⟨Aq, cq, rfl⟩ := hq.form
    ((repeat (first | refine ewp_seq ?_ | refine ewp_block ?_ | refine ewp_region ?_ | refine ewp_skip ?_ | refine ewp_exit ?_ | refine ewp_ret ?_ | refine ewp_true rfl ?_ | refine ewp_false rfl ?_)) <;> (refine o_ia rfl rfl rfl ?_ <;> refine o_la rfl rfl ?_) <;> (repeat (first | refine ewp_seq ?_ | refine ewp_block ?_ | refine ewp_region ?_ | refine ewp_skip ?_ | refine ewp_exit ?_ | refine ewp_ret ?_ | refine ewp_true rfl ?_ | refine ewp_false rfl ?_)))
    refine owp_local rfl rfl rfl (by simp [Value.cells, Value.oneCell']) fun w5 hN5 => ?_
    have hb2 := hN5.blk
    have hE5 : Ext w1 w5 := hE4.trans' hN5.ext
    ((first | refine owp_nilT ?_ | refine owp_nilB ?_ | refine owp_nilBB ?_ | refine owp_nil ?_))
    repeat (first | refine ewp_seq ?_ | refine ewp_block ?_ | refine ewp_region ?_ | refine ewp_skip ?_ | refine ewp_exit ?_ | refine ewp_ret ?_ | refine ewp_true rfl ?_ | refine ewp_false rfl ?_)
    ((repeat (first | refine ewp_seq ?_ | refine ewp_block ?_ | refine ewp_region ?_ | refine ewp_skip ?_ | refine ewp_exit ?_ | refine ewp_ret ?_ | refine ewp_true rfl ?_ | refine ewp_false rfl ?_)) <;> (refine o_fa rfl rfl ?_ <;> refine o_ld rfl rfl ?_ <;> refine o_ln rfl rfl ?_ <;> (first | refine o_gtT rfl rfl rfl ?_ | refine o_gtF rfl rfl rfl ?_ | refine o_gtS rfl rfl rfl (fun _ => ?_) fun _ => ?_) <;> (first | refine owp_nilT ?_ | refine owp_nilB ?_ | refine owp_nilBB ?_ | refine owp_nil ?_)) <;> (repeat (first | refine ewp_seq ?_ | refine ewp_block ?_ | refine ewp_region ?_ | refine ewp_skip ?_ | refine ewp_exit ?_ | refine ewp_ret ?_ | refine ewp_true rfl ?_ | refine ewp_false rfl ?_)))
    · ((repeat (first | refine ewp_seq ?_ | refine ewp_block ?_ | refine ewp_region ?_ | refine ewp_skip ?_ | refine ewp_exit ?_ | refine ewp_ret ?_ | refine ewp_true rfl ?_ | refine ewp_false rfl ?_)) <;> (refine o_as rfl rfl ?_ <;> (first | refine owp_nilT ?_ | refine owp_nilB ?_ | refine owp_nilBB ?_ | refine owp_nil ?_)) <;> (repeat (first | refine ewp_seq ?_ | refine ewp_block ?_ | refine ewp_region ?_ | refine ewp_skip ?_ | refine ewp_exit ?_ | refine ewp_ret ?_ | refine ewp_true rfl ?_ | refine ewp_false rfl ?_)))
      refine ret1 rfl rfl ⟨?_, hE1.trans' hE5⟩
      rw [bof_f (fun h => by have := h.2.2.1 k o ho; omega)]
    · exact ⟨(), ⟨rfl, rfl, rfl, rfl, trivial⟩, hE5, upto_step hh fun o' ho' => by rw [ho] at ho'; injection ho' with ho'; subst ho'; omega⟩
  rintro _ w4 ⟨hE4, hh⟩
  replace hb1 := hb1.ext hE4
  replace hE4 : Ext w w4 := hE1.trans' hE4
  repeat (first | refine ewp_seq ?_ | refine ewp_block ?_ | refine ewp_region ?_ | refine ewp_skip ?_ | refine ewp_exit ?_ | refine ewp_ret ?_ | refine ewp_true rfl ?_ | refine ewp_false rfl ?_)
  (refine o_la rfl rfl ?_)
  refine owp_callB rfl rfl (baseGood (ht0.ext hE4)) ?_ ?_
  · intro w5 hgood hE5
    replace hb1 := hb1.ext hE5
    replace hE5 : Ext w w5 := hE4.trans' hE5
    (refine o_mv rfl rfl ?_ <;> (first | (refine owp_yes rfl rfl ?_; refine o_fa rfl rfl ?_) | refine owp_no rfl rfl rfl rfl ?_) <;> (first | (refine owp_yes rfl rfl ?_; refine o_ld rfl rfl ?_) | refine owp_no rfl rfl rfl rfl ?_))
    refine owp_yes rfl rfl ?_
    refine owp_call rfl rfl (baseMany (hvars.ext hE5) (by decide) (by decide)) ?_
    rintro _ w6 ⟨rfl, hE6⟩
    ((first | (refine owp_yes rfl rfl ?_; (first | refine o_leT rfl rfl rfl ?_ | refine o_leF rfl rfl rfl ?_ | refine o_leS rfl rfl rfl (fun _ => ?_) fun _ => ?_)) | refine owp_no rfl rfl rfl rfl ?_) <;> (first | refine o_pt rfl rfl rfl ?_ | refine o_pf rfl rfl rfl ?_) <;> refine o_as rfl rfl ?_ <;> (first | refine owp_nilT ?_ | refine owp_nilB ?_ | refine owp_nilBB ?_ | refine owp_nil ?_))
    all_goals
      repeat (first | refine ewp_seq ?_ | refine ewp_block ?_ | refine ewp_region ?_ | refine ewp_skip ?_ | refine ewp_exit ?_ | refine ewp_ret ?_ | refine ewp_true rfl ?_ | refine ewp_false rfl ?_)
      refine ret1 rfl rfl ⟨?_, hE5.trans' hE6⟩
    · rw [bof_t ⟨by omega, by omega, fun i o ho => hh i (lt_of_some ho) o ho, hgood, by assumption⟩]
    · rw [bof_f (fun h => absurd h.2.2.2.2 (by assumption))]
  · intro w5 hgood hE5
    (refine o_mv rfl rfl ?_ <;> (first | (refine owp_yes rfl rfl ?_; refine o_fa rfl rfl ?_) | refine owp_no rfl rfl rfl rfl ?_) <;> (first | (refine owp_yes rfl rfl ?_; refine o_ld rfl rfl ?_) | refine owp_no rfl rfl rfl rfl ?_))
    refine owp_no rfl rfl rfl rfl ?_
    ((first | (refine owp_yes rfl rfl ?_; (first | refine o_leT rfl rfl rfl ?_ | refine o_leF rfl rfl rfl ?_ | refine o_leS rfl rfl rfl (fun _ => ?_) fun _ => ?_)) | refine owp_no rfl rfl rfl rfl ?_) <;> (first | refine o_pt rfl rfl rfl ?_ | refine o_pf rfl rfl rfl ?_) <;> refine o_as rfl rfl ?_ <;> (first | refine owp_nilT ?_ | refine owp_nilB ?_ | refine owp_nilBB ?_ | refine owp_nil ?_))
    repeat (first | refine ewp_seq ?_ | refine ewp_block ?_ | refine ewp_region ?_ | refine ewp_skip ?_ | refine ewp_exit ?_ | refine ewp_ret ?_ | refine ewp_true rfl ?_ | refine ewp_false rfl ?_)
    refine ret1 rfl rfl ⟨?_, hE4.trans' hE5⟩
    rw [bof_f (fun h => hgood h.2.2.2.1)]
end
section
open Go Go.RowKit
attribute [local irreducible] ewp owp hwp hwq Ev Evg Fn retPost Res1
/-- All conditions of a task. -/
def opConds (o : Opr) : List (List Fct) := o.pre :: o.effs.map (·.cond)
def conds (t : Tsk) : List (List Fct) := t.goal :: t.ops.flatMap opConds
theorem take_flat {α β : Type} (f : α → List β) {l : List α} {k : Nat} {x : α} (h : l[k]? = some x) : (l.take (k + 1)).flatMap f = (l.take k).flatMap f ++ f x := by
  rw [List.take_add_one, h]; simp
theorem take_map {α β : Type} (f : α → β) {l : List α} {k : Nat} {x : α} (h : l[k]? = some x) : (l.take (k + 1)).map f = (l.take k).map f ++ [f x] := by
  rw [List.take_add_one, h]; simp
theorem flat_le {t : Tsk} (h : ∀ (i : Nat) o, t.ops[i]? = some o → o.effs.length ≤ 64) (k : Nat) : ((t.ops.take k).flatMap opConds).length ≤ k * 65 := by
  induction k with
  | zero => simp
  | succ k ih =>
    cases hx : t.ops[k]? with
    | none =>
      have hl := List.getElem?_eq_none_iff.1 hx
      rw [List.take_of_length_le hl] at ih
      rw [List.take_of_length_le (by omega)]
      omega
    | some o =>
      rw [take_flat opConds hx, List.length_append]
      have := h k o hx
      simp only [opConds, List.length_cons, List.length_map] at *
      omega
theorem taskConditions {w : World} {tv : Value} {t : Tsk} (ht : V w tv t) (hn : t.ops.length ≤ 4096) (hm : ∀ (i : Nat) o, t.ops[i]? = some o → o.effs.length ≤ 64) :
    Fn Try.prog 49 [tv] w fun v w' => V w' v (conds t) ∧ Ext w w' := by
  obtain ⟨cs, rfl, a, b, c, d, rfl, hvars, hinit, hgoal, hops⟩ := ht
  obtain ⟨Av, cv, rfl⟩ := hvars.form
  obtain ⟨Ai, ci, rfl⟩ := hinit.form
  obtain ⟨Ag, cg, rfl⟩ := hgoal.form
  obtain ⟨Ao, co, rfl⟩ := hops.form
  have hF : ∀ {w'}, Ext w w' → ∀ k, All w k → k < w'.heap.size := fun hE k hk => Nat.lt_of_lt_of_le hk hE.size
  refine fn_enter Try.func49 rfl Try.ntmps49 rfl ?_
  repeat (first | refine ewp_seq ?_ | refine ewp_block ?_ | refine ewp_region ?_ | refine ewp_skip ?_ | refine ewp_exit ?_ | refine ewp_ret ?_ | refine ewp_true rfl ?_ | refine ewp_false rfl ?_)
  refine owp_box rfl rfl fun w1 hN => ?_
  have hb1 := hN.blk
  have hE1 : Ext w w1 := hN.ext
  (refine o_as rfl rfl ?_ <;> (first | refine owp_nilT ?_ | refine owp_nilB ?_ | refine owp_nilBB ?_ | refine owp_nil ?_))
  repeat (first | refine ewp_seq ?_ | refine ewp_block ?_ | refine ewp_region ?_ | refine ewp_skip ?_ | refine ewp_exit ?_ | refine ewp_ret ?_ | refine ewp_true rfl ?_ | refine ewp_false rfl ?_)
  (refine o_fa rfl rfl ?_ <;> refine o_ld rfl rfl ?_)
  refine owp_slice rfl rfl rfl (by simp [Value.cells]) (by decide) rfl fun w2 hN2 => ?_
  replace hb1 := hb1.ext hN2.ext
  have hE2 : Ext w w2 := hE1.trans' hN2.ext
  have hown : Own w2 w.heap.size (All w) 23 (.slice (some ⟨w1.heap.size, 0, none⟩) 1 1) [t.goal] :=
    (Own.made hN2 (xs := [t.goal]) (.single (Vb.agree hgoal (hE2.agree fun _ h => h))) rfl (fun h => by have : w1.heap.size < w.heap.size := h; have := hE1.size; omega) (by simp)).lower hE1.size
  (refine o_as rfl rfl ?_ <;> (first | refine owp_nilT ?_ | refine owp_nilB ?_ | refine owp_nilBB ?_ | refine owp_nil ?_))
  repeat (first | refine ewp_seq ?_ | refine ewp_block ?_ | refine ewp_region ?_ | refine ewp_skip ?_ | refine ewp_exit ?_ | refine ewp_ret ?_ | refine ewp_true rfl ?_ | refine ewp_false rfl ?_)
  ((repeat (first | refine ewp_seq ?_ | refine ewp_block ?_ | refine ewp_region ?_ | refine ewp_skip ?_ | refine ewp_exit ?_ | refine ewp_ret ?_ | refine ewp_true rfl ?_ | refine ewp_false rfl ?_)) <;> (refine o_fa rfl rfl ?_ <;> refine o_ld rfl rfl ?_ <;> refine o_ln rfl rfl ?_ <;> refine o_mv rfl rfl ?_ <;> (first | refine owp_nilT ?_ | refine owp_nilB ?_ | refine owp_nilBB ?_ | refine owp_nil ?_)) <;> (repeat (first | refine ewp_seq ?_ | refine ewp_block ?_ | refine ewp_region ?_ | refine ewp_skip ?_ | refine ewp_exit ?_ | refine ewp_ret ?_ | refine ewp_true rfl ?_ | refine ewp_false rfl ?_)))
  refine ewp_range t.ops.length (by omega) (fun v : Value => [(1, .pointer (some ⟨w.heap.size, 0, none⟩)), (3, v), (12, .slice Ao t.ops.length co)]) (fun k v w' => Ext w w' ∧ Blk w' w.heap.size 26 [.slice Av t.vars.length cv, .slice Ai t.init.length ci, .slice Ag t.goal.length cg, .slice Ao t.ops.length co] ∧ Own w' w.heap.size (All w) 23 v (t.goal :: (t.ops.take k).flatMap opConds)) _
    ⟨hE2, hb1, hown⟩ ⟨rfl, rfl, rfl, rfl, rfl, trivial⟩ (fun _ => ⟨rfl, rfl⟩) ⟨rfl, rfl, rfl⟩ ⟨rfl, rfl⟩ ?_ ?_
  · rintro k v w3 hk ⟨hE3, hb1, hown⟩
    have hlk := flat_le hm k
    obtain ⟨o, ho⟩ := some_of_lt hk
    obtain ⟨b2, o2, ce, rfl, _, _, hd1, p, q, rfl, hp, hq, hc, hnm⟩ := Vb.elem (Vb.agree hops (hE3.agree fun _ h => h)) ho
    obtain ⟨Ap, cp, rfl⟩ := hp.form
    obtain ⟨Aq, cq, rfl⟩ := hq.form
    have hql := hm k o ho
    ((repeat (first | refine ewp_seq ?_ | refine ewp_block ?_ | refine ewp_region ?_ | refine ewp_skip ?_ | refine ewp_exit ?_ | refine ewp_ret ?_ | refine ewp_true rfl ?_ | refine ewp_false rfl ?_)) <;> (refine o_ia rfl rfl rfl ?_ <;> refine o_la rfl rfl ?_) <;> (repeat (first | refine ewp_seq ?_ | refine ewp_block ?_ | refine ewp_region ?_ | refine ewp_skip ?_ | refine ewp_exit ?_ | refine ewp_ret ?_ | refine ewp_true rfl ?_ | refine ewp_false rfl ?_)))
    refine owp_local rfl rfl rfl (by simp [Value.cells, Value.oneCell']) fun w4 hN4 => ?_
    have hb2 := hN4.blk
    replace hb1 := hb1.ext hN4.ext
    have hE4 : Ext w w4 := hE3.trans' hN4.ext
    replace hown := hown.ext hN4.ext (hF hE3)
    replace hp := hp.agree (hN4.ext.agree (hF hE3))
    replace hq := hq.agree (hN4.ext.agree (hF hE3))
    ((first | refine owp_nilT ?_ | refine owp_nilB ?_ | refine owp_nilBB ?_ | refine owp_nil ?_))
    repeat (first | refine ewp_seq ?_ | refine ewp_block ?_ | refine ewp_region ?_ | refine ewp_skip ?_ | refine ewp_exit ?_ | refine ewp_ret ?_ | refine ewp_true rfl ?_ | refine ewp_false rfl ?_)
    (refine o_mv rfl rfl ?_ <;> refine o_fa rfl rfl ?_ <;> refine o_ld rfl rfl ?_)
    refine owp_append1 rfl rfl rfl hown (hF hE4) hE4.size hp (by decide) (by decide) (by simp only [List.length_cons, List.length_append, List.length_map, List.length_take]; omega) (by simp only [List.length_cons, List.length_append, List.length_map, List.length_take]; omega) ⟨rfl, rfl⟩ fun v' w5 hown5 hK => ?_
    replace hb1 := hK.blk hb1 (hown.blk_ne hb1 (by decide))
    replace hb2 := hK.blk hb2 (hown.blk_ne hb2 (by decide))
    have hB5 : Below w.heap.size w4 w5 := hown.fits (Nat.le_refl _) hE4.size hK
    have hE5 : Ext w w5 := hE4.trans hB5
    replace hq := hq.below hB5
    (refine o_as rfl rfl ?_ <;> (first | refine owp_nilT ?_ | refine owp_nilB ?_ | refine owp_nilBB ?_ | refine owp_nil ?_))
    repeat (first | refine ewp_seq ?_ | refine ewp_block ?_ | refine ewp_region ?_ | refine ewp_skip ?_ | refine ewp_exit ?_ | refine ewp_ret ?_ | refine ewp_true rfl ?_ | refine ewp_false rfl ?_)
    ((repeat (first | refine ewp_seq ?_ | refine ewp_block ?_ | refine ewp_region ?_ | refine ewp_skip ?_ | refine ewp_exit ?_ | refine ewp_ret ?_ | refine ewp_true rfl ?_ | refine ewp_false rfl ?_)) <;> (refine o_fa rfl rfl ?_ <;> refine o_ld rfl rfl ?_ <;> refine o_ln rfl rfl ?_ <;> refine o_mv rfl rfl ?_ <;> (first | refine owp_nilT ?_ | refine owp_nilB ?_ | refine owp_nilBB ?_ | refine owp_nil ?_)) <;> (repeat (first | refine ewp_seq ?_ | refine ewp_block ?_ | refine ewp_region ?_ | refine ewp_skip ?_ | refine ewp_exit ?_ | refine ewp_ret ?_ | refine ewp_true rfl ?_ | refine ewp_false rfl ?_)))
    refine ewp_range o.effs.length (by omega) (fun v : Value => [(1, .pointer (some ⟨w.heap.size, 0, none⟩)), (3, v), (12, .slice (some ⟨b2, o2, none⟩) t.ops.length co), (13, .int .i64 (t.ops.length : Int)), (14, .int .i64 (k : Int)), (24, .slice Aq o.effs.length cq)]) (fun j v w' => Ext w w' ∧ Blk w' w.heap.size 26 [.slice Av t.vars.length cv, .slice Ai t.init.length ci, .slice Ag t.goal.length cg, .slice (some ⟨b2, o2, none⟩) t.ops.length co] ∧ Vb w' (All w) (.slice Aq o.effs.length cq) o.effs ∧ Own w' w.heap.size (All w) 23 v ((t.goal :: (t.ops.take k).flatMap opConds) ++ o.pre :: (o.effs.take j).map (·.cond))) _
      ⟨hE5, hb1, hq, by simpa using hown5⟩ ⟨rfl, rfl, rfl, rfl, rfl, rfl, rfl, rfl, trivial⟩ (fun _ => ⟨rfl, rfl⟩) ⟨rfl, rfl, rfl⟩ ⟨rfl, rfl⟩ ?_ ?_
    · rintro j v6 w6 hj ⟨hE6, hb1, hq, hown⟩
      obtain ⟨e, he⟩ := some_of_lt hj
      obtain ⟨b3, o3, ce, rfl, _, _, hd1, cv', rfl, hcond, hr1, hr2⟩ := hq.elem he
      obtain ⟨Ac, cc, rfl⟩ := hcond.form
      ((repeat (first | refine ewp_seq ?_ | refine ewp_block ?_ | refine ewp_region ?_ | refine ewp_skip ?_ | refine ewp_exit ?_ | refine ewp_ret ?_ | refine ewp_true rfl ?_ | refine ewp_false rfl ?_)) <;> (refine o_ia rfl rfl rfl ?_ <;> refine o_la rfl rfl ?_) <;> (repeat (first | refine ewp_seq ?_ | refine ewp_block ?_ | refine ewp_region ?_ | refine ewp_skip ?_ | refine ewp_exit ?_ | refine ewp_ret ?_ | refine ewp_true rfl ?_ | refine ewp_false rfl ?_)))
      refine owp_local rfl rfl rfl (by simp [Value.cells, Value.oneCell']) fun w7 hN7 => ?_
      have hb2 := hN7.blk
      replace hb1 := hb1.ext hN7.ext
      have hE7 : Ext w w7 := hE6.trans' hN7.ext
      replace hown := hown.ext hN7.ext (hF hE6)
      replace hcond := hcond.agree (hN7.ext.agree (hF hE6))
      replace hq := hq.agree (hN7.ext.agree (hF hE6))
      ((first | refine owp_nilT ?_ | refine owp_nilB ?_ | refine owp_nilBB ?_ | refine owp_nil ?_))
      repeat (first | refine ewp_seq ?_ | refine ewp_block ?_ | refine ewp_region ?_ | refine ewp_skip ?_ | refine ewp_exit ?_ | refine ewp_ret ?_ | refine ewp_true rfl ?_ | refine ewp_false rfl ?_)
      (refine o_mv rfl rfl ?_ <;> refine o_fa rfl rfl ?_ <;> refine o_ld rfl rfl ?_)
      refine owp_append1 rfl rfl rfl hown (hF hE7) hE7.size hcond (by decide) (by decide) (by simp only [List.length_cons, List.length_append, List.length_map, List.length_take]; omega) (by simp only [List.length_cons, List.length_append, List.length_map, List.length_take]; omega) ⟨rfl, rfl⟩ fun v' w8 hown8 hK => ?_
      have hB8 : Below w.heap.size w7 w8 := hown.fits (Nat.le_refl _) hE7.size hK
      (refine o_as rfl rfl ?_ <;> (first | refine owp_nilT ?_ | refine owp_nilB ?_ | refine owp_nilBB ?_ | refine owp_nil ?_))
      exact ⟨v', ⟨rfl, rfl, rfl, rfl, rfl, rfl, rfl, rfl, trivial⟩, hE7.trans hB8, hK.blk hb1 (hown.blk_ne hb1 (by decide)), hq.below hB8, by rw [take_map _ he]; simpa using hown8⟩
    rintro v6 w6 ⟨hE6, hb1, hq, hown⟩
    repeat (first | refine ewp_seq ?_ | refine ewp_block ?_ | refine ewp_region ?_ | refine ewp_skip ?_ | refine ewp_exit ?_ | refine ewp_ret ?_ | refine ewp_true rfl ?_ | refine ewp_false rfl ?_)
    exact ⟨v6, ⟨rfl, rfl, rfl, rfl, rfl, trivial⟩, hE6, hb1, by rw [take_flat opConds ho]; simpa [opConds] using hown⟩
  rintro v w3 ⟨hE3, hb1, hown⟩
  repeat (first | refine ewp_seq ?_ | refine ewp_block ?_ | refine ewp_region ?_ | refine ewp_skip ?_ | refine ewp_exit ?_ | refine ewp_ret ?_ | refine ewp_true rfl ?_ | refine ewp_false rfl ?_)
  ((repeat (first | refine ewp_seq ?_ | refine ewp_block ?_ | refine ewp_region ?_ | refine ewp_skip ?_ | refine ewp_exit ?_ | refine ewp_ret ?_ | refine ewp_true rfl ?_ | refine ewp_false rfl ?_)) <;> (refine o_mv rfl rfl ?_ <;> refine o_as rfl rfl ?_ <;> (first | refine owp_nilT ?_ | refine owp_nilB ?_ | refine owp_nilBB ?_ | refine owp_nil ?_)) <;> (repeat (first | refine ewp_seq ?_ | refine ewp_block ?_ | refine ewp_region ?_ | refine ewp_skip ?_ | refine ewp_exit ?_ | refine ewp_ret ?_ | refine ewp_true rfl ?_ | refine ewp_false rfl ?_)))
  refine ret1 rfl rfl ⟨?_, hE3⟩
  rw [List.take_length] at hown
  exact hown.vb.mono fun k hk => by
    rcases hk with hk | hk
    · exact hF hE3 k hk
    · exact (hown.lt k hk).2
theorem indexFuncFacts {w : World} {sv : Value} {xs : List (List Fct)} {g : FuncId} [Callable Try.prog g] {caps : List Value} {p : List Fct → Prop} (hs : V w sv xs)
    (hg : ∀ v x w', x ∈ xs → Ext w w' → V w' v x → Fn Try.prog g ([v] ++ caps) w' fun r w'' => r = .bool (bof (p x)) ∧ Ext w' w'') :
    Fn Try.prog 83 [sv, .func (.func g) #[] caps.toArray] w fun v w' => ((∃ k : Nat, v = .int .i64 (k : Int) ∧ ∃ x ∈ xs, p x) ∨ (v = .int .i64 (-1) ∧ ∀ x ∈ xs, ¬ p x)) ∧ Ext w w' := by
  obtain ⟨A, c, rfl⟩ := hs.form
  have hl := hs.len
  refine fn_enter Try.func83 rfl Try.ntmps83 rfl ?_
  ((repeat (first | refine ewp_seq ?_ | refine ewp_block ?_ | refine ewp_region ?_ | refine ewp_skip ?_ | refine ewp_exit ?_ | refine ewp_ret ?_ | refine ewp_true rfl ?_ | refine ewp_false rfl ?_)) <;> (refine o_as rfl rfl ?_ <;> (first | refine owp_nilT ?_ | refine owp_nilB ?_ | refine owp_nilBB ?_ | refine owp_nil ?_)) <;> (repeat (first | refine ewp_seq ?_ | refine ewp_block ?_ | refine ewp_region ?_ | refine ewp_skip ?_ | refine ewp_exit ?_ | refine ewp_ret ?_ | refine ewp_true rfl ?_ | refine ewp_false rfl ?_)) <;> (refine o_mv rfl rfl ?_ <;> refine o_ln rfl rfl ?_ <;> refine o_mv rfl rfl ?_ <;> (first | refine owp_nilT ?_ | refine owp_nilB ?_ | refine owp_nilBB ?_ | refine owp_nil ?_)) <;> (repeat (first | refine ewp_seq ?_ | refine ewp_block ?_ | refine ewp_region ?_ | refine ewp_skip ?_ | refine ewp_exit ?_ | refine ewp_ret ?_ | refine ewp_true rfl ?_ | refine ewp_false rfl ?_)))
  refine ewp_range xs.length (by omega) (fun _ : Unit => [(0, .slice A xs.length c), (1, .func (.func g) #[] caps.toArray)]) (fun k _ w' => Ext w w' ∧ ∀ i, i < k → ∀ x, xs[i]? = some x → ¬ p x) ()
    ⟨Below.refl _ _, fun i hi => by omega⟩ ⟨rfl, rfl, rfl, rfl, trivial⟩ (fun _ => ⟨rfl, rfl⟩) ⟨rfl, rfl, rfl⟩ ⟨rfl, rfl⟩ ?_ ?_
  · rintro k _ w1 hk ⟨hE, hh⟩
    obtain ⟨x, hx⟩ := some_of_lt hk
    obtain ⟨b, o, ce, rfl, _, _, hd1, hR⟩ := (hs.ext hE).elem hx
    obtain ⟨v, rfl⟩ := List.length_eq_one_iff.1 (Rp.len hR)
    ((repeat (first | refine ewp_seq ?_ | refine ewp_block ?_ | refine ewp_region ?_ | refine ewp_skip ?_ | refine ewp_exit ?_ | refine ewp_ret ?_ | refine ewp_true rfl ?_ | refine ewp_false rfl ?_)) <;> (refine o_mv rfl rfl ?_ <;> refine o_as rfl rfl ?_ <;> (first | refine owp_nilT ?_ | refine owp_nilB ?_ | refine owp_nilBB ?_ | refine owp_nil ?_)) <;> (repeat (first | refine ewp_seq ?_ | refine ewp_block ?_ | refine ewp_region ?_ | refine ewp_skip ?_ | refine ewp_exit ?_ | refine ewp_ret ?_ | refine ewp_true rfl ?_ | refine ewp_false rfl ?_)) <;> (refine o_mv rfl rfl ?_ <;> refine o_mv rfl rfl ?_ <;> refine o_mv rfl rfl ?_ <;> refine o_ia rfl rfl rfl ?_ <;> refine o_ld rfl rfl ?_) <;> (repeat (first | refine ewp_seq ?_ | refine ewp_block ?_ | refine ewp_region ?_ | refine ewp_skip ?_ | refine ewp_exit ?_ | refine ewp_ret ?_ | refine ewp_true rfl ?_ | refine ewp_false rfl ?_)))
    refine owp_callv rfl rfl rfl (hg v x w1 (List.mem_of_getElem? hx) hE hR) ?_
    rintro _ w2 ⟨rfl, hE2⟩
    by_cases hp : p x
    · rw [bof_t hp]
      ((first | refine owp_nilT ?_ | refine owp_nilB ?_ | refine owp_nilBB ?_ | refine owp_nil ?_))
      repeat (first | refine ewp_seq ?_ | refine ewp_block ?_ | refine ewp_region ?_ | refine ewp_skip ?_ | refine ewp_exit ?_ | refine ewp_ret ?_ | refine ewp_true rfl ?_ | refine ewp_false rfl ?_)
      ((repeat (first | refine ewp_seq ?_ | refine ewp_block ?_ | refine ewp_region ?_ | refine ewp_skip ?_ | refine ewp_exit ?_ | refine ewp_ret ?_ | refine ewp_true rfl ?_ | refine ewp_false rfl ?_)) <;> (refine o_mv rfl rfl ?_ <;> refine o_as rfl rfl ?_ <;> (first | refine owp_nilT ?_ | refine owp_nilB ?_ | refine owp_nilBB ?_ | refine owp_nil ?_)) <;> (repeat (first | refine ewp_seq ?_ | refine ewp_block ?_ | refine ewp_region ?_ | refine ewp_skip ?_ | refine ewp_exit ?_ | refine ewp_ret ?_ | refine ewp_true rfl ?_ | refine ewp_false rfl ?_)))
      exact ret1 rfl rfl ⟨.inl ⟨k, rfl, x, List.mem_of_getElem? hx, hp⟩, hE.trans' hE2⟩
    · rw [bof_f hp]
      ((first | refine owp_nilT ?_ | refine owp_nilB ?_ | refine owp_nilBB ?_ | refine owp_nil ?_))
      repeat (first | refine ewp_seq ?_ | refine ewp_block ?_ | refine ewp_region ?_ | refine ewp_skip ?_ | refine ewp_exit ?_ | refine ewp_ret ?_ | refine ewp_true rfl ?_ | refine ewp_false rfl ?_)
      exact ⟨(), ⟨rfl, rfl, rfl, rfl, trivial⟩, hE.trans' hE2, upto_step hh fun x' hx' => by rw [hx] at hx'; injection hx' with hx'; exact hx' ▸ hp⟩
  rintro _ w1 ⟨hE, hh⟩
  repeat (first | refine ewp_seq ?_ | refine ewp_block ?_ | refine ewp_region ?_ | refine ewp_skip ?_ | refine ewp_exit ?_ | refine ewp_ret ?_ | refine ewp_true rfl ?_ | refine ewp_false rfl ?_)
  ((repeat (first | refine ewp_seq ?_ | refine ewp_block ?_ | refine ewp_region ?_ | refine ewp_skip ?_ | refine ewp_exit ?_ | refine ewp_ret ?_ | refine ewp_true rfl ?_ | refine ewp_false rfl ?_)) <;> (refine o_as rfl rfl ?_ <;> (first | refine owp_nilT ?_ | refine owp_nilB ?_ | refine owp_nilBB ?_ | refine owp_nil ?_)) <;> (repeat (first | refine ewp_seq ?_ | refine ewp_block ?_ | refine ewp_region ?_ | refine ewp_skip ?_ | refine ewp_exit ?_ | refine ewp_ret ?_ | refine ewp_true rfl ?_ | refine ewp_false rfl ?_)))
  refine ret1 rfl rfl ⟨.inr ⟨rfl, fun x hx => ?_⟩, hE⟩
  obtain ⟨i, hi⟩ := List.getElem?_of_mem hx
  exact hh i (lt_of_some hi) x hi
theorem containsFuncFacts {w : World} {sv : Value} {xs : List (List Fct)} {g : FuncId} [Callable Try.prog g] {caps : List Value} {p : List Fct → Prop} (hs : V w sv xs)
    (hg : ∀ v x w', x ∈ xs → Ext w w' → V w' v x → Fn Try.prog g ([v] ++ caps) w' fun r w'' => r = .bool (bof (p x)) ∧ Ext w' w'') :
    Fn Try.prog 68 [sv, .func (.func g) #[] caps.toArray] w fun v w' => v = .bool (bof (∃ x ∈ xs, p x)) ∧ Ext w w' := by
  refine fn_enter Try.func68 rfl Try.ntmps68 rfl ?_
  ((repeat (first | refine ewp_seq ?_ | refine ewp_block ?_ | refine ewp_region ?_ | refine ewp_skip ?_ | refine ewp_exit ?_ | refine ewp_ret ?_ | refine ewp_true rfl ?_ | refine ewp_false rfl ?_)) <;> (refine o_as rfl rfl ?_ <;> (first | refine owp_nilT ?_ | refine owp_nilB ?_ | refine owp_nilBB ?_ | refine owp_nil ?_)) <;> (repeat (first | refine ewp_seq ?_ | refine ewp_block ?_ | refine ewp_region ?_ | refine ewp_skip ?_ | refine ewp_exit ?_ | refine ewp_ret ?_ | refine ewp_true rfl ?_ | refine ewp_false rfl ?_)) <;> (refine o_mv rfl rfl ?_ <;> refine o_mv rfl rfl ?_) <;> (repeat (first | refine ewp_seq ?_ | refine ewp_block ?_ | refine ewp_region ?_ | refine ewp_skip ?_ | refine ewp_exit ?_ | refine ewp_ret ?_ | refine ewp_true rfl ?_ | refine ewp_false rfl ?_)))
  refine owp_call rfl rfl (indexFuncFacts hs hg) ?_
  rintro v w1 ⟨h, hE⟩
  rcases h with ⟨k, rfl, h⟩ | ⟨rfl, h⟩
  · ((first | refine o_geT rfl rfl rfl ?_ | refine o_geF rfl rfl rfl ?_) <;> refine o_as rfl rfl ?_ <;> (first | refine owp_nilT ?_ | refine owp_nilB ?_ | refine owp_nilBB ?_ | refine owp_nil ?_))
    repeat (first | refine ewp_seq ?_ | refine ewp_block ?_ | refine ewp_region ?_ | refine ewp_skip ?_ | refine ewp_exit ?_ | refine ewp_ret ?_ | refine ewp_true rfl ?_ | refine ewp_false rfl ?_)
    exact ret1 rfl rfl ⟨by rw [bof_t h], hE⟩
  · ((first | refine o_geT rfl rfl rfl ?_ | refine o_geF rfl rfl rfl ?_) <;> refine o_as rfl rfl ?_ <;> (first | refine owp_nilT ?_ | refine owp_nilB ?_ | refine owp_nilBB ?_ | refine owp_nil ?_))
    repeat (first | refine ewp_seq ?_ | refine ewp_block ?_ | refine ewp_region ?_ | refine ewp_skip ?_ | refine ewp_exit ?_ | refine ewp_ret ?_ | refine ewp_true rfl ?_ | refine ewp_false rfl ?_)
    exact ret1 rfl rfl ⟨by rw [bof_f (fun ⟨x, hx, hp⟩ => h x hx hp)], hE⟩
theorem taskLarge1 {w : World} {v : Value} {f : List Fct} (hf : V w v f) : Fn Try.prog 69 ([v] ++ []) w fun r w' => r = .bool (bof (64 < f.length)) ∧ Ext w w' := by
  obtain ⟨A, c, rfl⟩ := hf.form
  refine fn_enter Try.func69 rfl Try.ntmps69 rfl ?_
  by_cases h : 64 < f.length
  · ((repeat (first | refine ewp_seq ?_ | refine ewp_block ?_ | refine ewp_region ?_ | refine ewp_skip ?_ | refine ewp_exit ?_ | refine ewp_ret ?_ | refine ewp_true rfl ?_ | refine ewp_false rfl ?_)) <;> (refine o_as rfl rfl ?_ <;> (first | refine owp_nilT ?_ | refine owp_nilB ?_ | refine owp_nilBB ?_ | refine owp_nil ?_)) <;> (repeat (first | refine ewp_seq ?_ | refine ewp_block ?_ | refine ewp_region ?_ | refine ewp_skip ?_ | refine ewp_exit ?_ | refine ewp_ret ?_ | refine ewp_true rfl ?_ | refine ewp_false rfl ?_)) <;> (refine o_mv rfl rfl ?_ <;> refine o_ln rfl rfl ?_ <;> (first | refine o_gtT rfl rfl rfl ?_ | refine o_gtF rfl rfl rfl ?_) <;> refine o_as rfl rfl ?_ <;> (first | refine owp_nilT ?_ | refine owp_nilB ?_ | refine owp_nilBB ?_ | refine owp_nil ?_)) <;> (repeat (first | refine ewp_seq ?_ | refine ewp_block ?_ | refine ewp_region ?_ | refine ewp_skip ?_ | refine ewp_exit ?_ | refine ewp_ret ?_ | refine ewp_true rfl ?_ | refine ewp_false rfl ?_)))
    exact ret1 rfl rfl ⟨by rw [bof_t h], Below.refl _ _⟩
  · ((repeat (first | refine ewp_seq ?_ | refine ewp_block ?_ | refine ewp_region ?_ | refine ewp_skip ?_ | refine ewp_exit ?_ | refine ewp_ret ?_ | refine ewp_true rfl ?_ | refine ewp_false rfl ?_)) <;> (refine o_as rfl rfl ?_ <;> (first | refine owp_nilT ?_ | refine owp_nilB ?_ | refine owp_nilBB ?_ | refine owp_nil ?_)) <;> (repeat (first | refine ewp_seq ?_ | refine ewp_block ?_ | refine ewp_region ?_ | refine ewp_skip ?_ | refine ewp_exit ?_ | refine ewp_ret ?_ | refine ewp_true rfl ?_ | refine ewp_false rfl ?_)) <;> (refine o_mv rfl rfl ?_ <;> refine o_ln rfl rfl ?_ <;> (first | refine o_gtT rfl rfl rfl ?_ | refine o_gtF rfl rfl rfl ?_) <;> refine o_as rfl rfl ?_ <;> (first | refine owp_nilT ?_ | refine owp_nilB ?_ | refine owp_nilBB ?_ | refine owp_nil ?_)) <;> (repeat (first | refine ewp_seq ?_ | refine ewp_block ?_ | refine ewp_region ?_ | refine ewp_skip ?_ | refine ewp_exit ?_ | refine ewp_ret ?_ | refine ewp_true rfl ?_ | refine ewp_false rfl ?_)))
    exact ret1 rfl rfl ⟨by rw [bof_f h], Below.refl _ _⟩
/-- A task is beyond the limits. -/
def Large (t : Tsk) : Prop := 64 < t.vars.length ∨ 4096 < t.ops.length ∨ (∃ (i : Nat) (o : Opr), t.ops[i]? = some o ∧ 64 < o.effs.length) ∨ ∃ f ∈ conds t, 64 < f.length
theorem taskLarge {w : World} {tv : Value} {t : Tsk} (ht : V w tv t) : Fn Try.prog 48 [tv] w fun v w' => v = .bool (bof (Large t)) ∧ Ext w w' := by
  have ht0 := ht
  obtain ⟨cs, rfl, a, b, c, d, rfl, hvars, hinit, hgoal, hops⟩ := ht
  obtain ⟨Av, cv, rfl⟩ := hvars.form
  obtain ⟨Ai, ci, rfl⟩ := hinit.form
  obtain ⟨Ag, cg, rfl⟩ := hgoal.form
  obtain ⟨Ao, co, rfl⟩ := hops.form
  have hol := hops.len
  refine fn_enter Try.func48 rfl Try.ntmps48 rfl ?_
  repeat (first | refine ewp_seq ?_ | refine ewp_block ?_ | refine ewp_region ?_ | refine ewp_skip ?_ | refine ewp_exit ?_ | refine ewp_ret ?_ | refine ewp_true rfl ?_ | refine ewp_false rfl ?_)
  refine owp_box rfl rfl fun w1 hN => ?_
  have hb1 := hN.blk
  have hE1 : Ext w w1 := hN.ext
  (refine o_as rfl rfl ?_ <;> (first | refine owp_nilT ?_ | refine owp_nilB ?_ | refine owp_nilBB ?_ | refine owp_nil ?_))
  repeat (first | refine ewp_seq ?_ | refine ewp_block ?_ | refine ewp_region ?_ | refine ewp_skip ?_ | refine ewp_exit ?_ | refine ewp_ret ?_ | refine ewp_true rfl ?_ | refine ewp_false rfl ?_)
  ((repeat (first | refine ewp_seq ?_ | refine ewp_block ?_ | refine ewp_region ?_ | refine ewp_skip ?_ | refine ewp_exit ?_ | refine ewp_ret ?_ | refine ewp_true rfl ?_ | refine ewp_false rfl ?_)) <;> (refine o_fa rfl rfl ?_ <;> refine o_ld rfl rfl ?_ <;> refine o_ln rfl rfl ?_ <;> (first | refine o_gtT rfl rfl rfl ?_ | refine o_gtF rfl rfl rfl ?_ | refine o_gtS rfl rfl rfl (fun _ => ?_) fun _ => ?_) <;> refine o_mv rfl rfl ?_ <;> (first | (refine owp_yes rfl rfl ?_; refine o_fa rfl rfl ?_) | refine owp_no rfl rfl rfl rfl ?_) <;> (first | (refine owp_yes rfl rfl ?_; refine o_ld rfl rfl ?_) | refine owp_no rfl rfl rfl rfl ?_) <;> (first | (refine owp_yes rfl rfl ?_; refine o_ln rfl rfl ?_) | refine owp_no rfl rfl rfl rfl ?_) <;> (first | (refine owp_yes rfl rfl ?_; (first | refine o_gtT rfl rfl rfl ?_ | refine o_gtF rfl rfl rfl ?_ | refine o_gtS rfl rfl rfl (fun _ => ?_) fun _ => ?_)) | refine owp_no rfl rfl rfl rfl ?_) <;> (first | refine o_pt rfl rfl rfl ?_ | refine o_pf rfl rfl rfl ?_) <;> (first | refine owp_nilT ?_ | refine owp_nilB ?_ | refine owp_nilBB ?_ | refine owp_nil ?_)) <;> (repeat (first | refine ewp_seq ?_ | refine ewp_block ?_ | refine ewp_region ?_ | refine ewp_skip ?_ | refine ewp_exit ?_ | refine ewp_ret ?_ | refine ewp_true rfl ?_ | refine ewp_false rfl ?_)))
  all_goals try (
    ((repeat (first | refine ewp_seq ?_ | refine ewp_block ?_ | refine ewp_region ?_ | refine ewp_skip ?_ | refine ewp_exit ?_ | refine ewp_ret ?_ | refine ewp_true rfl ?_ | refine ewp_false rfl ?_)) <;> (refine o_as rfl rfl ?_ <;> (first | refine owp_nilT ?_ | refine owp_nilB ?_ | refine owp_nilBB ?_ | refine owp_nil ?_)) <;> (repeat (first | refine ewp_seq ?_ | refine ewp_block ?_ | refine ewp_region ?_ | refine ewp_skip ?_ | refine ewp_exit ?_ | refine ewp_ret ?_ | refine ewp_true rfl ?_ | refine ewp_false rfl ?_)))
    refine ret1 rfl rfl ⟨?_, hE1⟩
    rw [bof_t (by first | exact .inl (by omega) | exact .inr (.inl (by omega)))])
  ((repeat (first | refine ewp_seq ?_ | refine ewp_block ?_ | refine ewp_region ?_ | refine ewp_skip ?_ | refine ewp_exit ?_ | refine ewp_ret ?_ | refine ewp_true rfl ?_ | refine ewp_false rfl ?_)) <;> (refine o_fa rfl rfl ?_ <;> refine o_ld rfl rfl ?_ <;> refine o_ln rfl rfl ?_ <;> refine o_mv rfl rfl ?_ <;> (first | refine owp_nilT ?_ | refine owp_nilB ?_ | refine owp_nilBB ?_ | refine owp_nil ?_)) <;> (repeat (first | refine ewp_seq ?_ | refine ewp_block ?_ | refine ewp_region ?_ | refine ewp_skip ?_ | refine ewp_exit ?_ | refine ewp_ret ?_ | refine ewp_true rfl ?_ | refine ewp_false rfl ?_)))
  refine ewp_range t.ops.length (by omega) (fun _ : Unit => [(1, .pointer (some ⟨w.heap.size, 0, none⟩)), (16, .slice Ao t.ops.length co)]) (fun k _ w' => Ext w1 w' ∧ ∀ i, i < k → ∀ o, t.ops[i]? = some o → o.effs.length ≤ 64) ()
    ⟨Below.refl _ _, fun i hi => by omega⟩ ⟨rfl, rfl, rfl, rfl, trivial⟩ (fun _ => ⟨rfl, rfl⟩) ⟨rfl, rfl, rfl⟩ ⟨rfl, rfl⟩ ?_ ?_
  · rintro k _ w4 hk ⟨hE4, hh⟩
    obtain ⟨o, ho⟩ := some_of_lt hk
    obtain ⟨b2, o2, ce, rfl, _, _, hd1, p, q, rfl, hp, hq, hc, hn⟩ := (hops.ext (hE1.trans' hE4)).elem ho
    obtain ⟨Ap, cp, rfl⟩ := hp.form
    obtain ⟨Aq, cq, rfl⟩ := hq.form
    ((repeat (first | refine ewp_seq ?_ | refine ewp_block ?_ | refine ewp_region ?_ | refine ewp_skip ?_ | refine ewp_exit ?_ | refine ewp_ret ?_ | refine ewp_true rfl ?_ | refine ewp_false rfl ?_)) <;> (refine o_ia rfl rfl rfl ?_ <;> refine o_la rfl rfl ?_) <;> (repeat (first | refine ewp_seq ?_ | refine ewp_block ?_ | refine ewp_region ?_ | refine ewp_skip ?_ | refine ewp_exit ?_ | refine ewp_ret ?_ | refine ewp_true rfl ?_ | refine ewp_false rfl ?_)))
    refine owp_local rfl rfl rfl (by simp [Value.cells, Value.oneCell']) fun w5 hN5 => ?_
    have hb2 := hN5.blk
    have hE5 : Ext w1 w5 := hE4.trans' hN5.ext
    ((first | refine owp_nilT ?_ | refine owp_nilB ?_ | refine owp_nilBB ?_ | refine owp_nil ?_))
    repeat (first | refine ewp_seq ?_ | refine ewp_block ?_ | refine ewp_region ?_ | refine ewp_skip ?_ | refine ewp_exit ?_ | refine ewp_ret ?_ | refine ewp_true rfl ?_ | refine ewp_false rfl ?_)
    ((repeat (first | refine ewp_seq ?_ | refine ewp_block ?_ | refine ewp_region ?_ | refine ewp_skip ?_ | refine ewp_exit ?_ | refine ewp_ret ?_ | refine ewp_true rfl ?_ | refine ewp_false rfl ?_)) <;> (refine o_fa rfl rfl ?_ <;> refine o_ld rfl rfl ?_ <;> refine o_ln rfl rfl ?_ <;> (first | refine o_gtT rfl rfl rfl ?_ | refine o_gtF rfl rfl rfl ?_ | refine o_gtS rfl rfl rfl (fun _ => ?_) fun _ => ?_) <;> (first | refine owp_nilT ?_ | refine owp_nilB ?_ | refine owp_nilBB ?_ | refine owp_nil ?_)) <;> (repeat (first | refine ewp_seq ?_ | refine ewp_block ?_ | refine ewp_region ?_ | refine ewp_skip ?_ | refine ewp_exit ?_ | refine ewp_ret ?_ | refine ewp_true rfl ?_ | refine ewp_false rfl ?_)))
    · ((repeat (first | refine ewp_seq ?_ | refine ewp_block ?_ | refine ewp_region ?_ | refine ewp_skip ?_ | refine ewp_exit ?_ | refine ewp_ret ?_ | refine ewp_true rfl ?_ | refine ewp_false rfl ?_)) <;> (refine o_as rfl rfl ?_ <;> (first | refine owp_nilT ?_ | refine owp_nilB ?_ | refine owp_nilBB ?_ | refine owp_nil ?_)) <;> (repeat (first | refine ewp_seq ?_ | refine ewp_block ?_ | refine ewp_region ?_ | refine ewp_skip ?_ | refine ewp_exit ?_ | refine ewp_ret ?_ | refine ewp_true rfl ?_ | refine ewp_false rfl ?_)))
      refine ret1 rfl rfl ⟨?_, hE1.trans' hE5⟩
      rw [bof_t (.inr (.inr (.inl ⟨k, o, ho, by omega⟩)))]
    · exact ⟨(), ⟨rfl, rfl, rfl, rfl, trivial⟩, hE5, upto_step hh fun o' ho' => by rw [ho] at ho'; injection ho' with ho'; subst ho'; omega⟩
  rintro _ w4 ⟨hE4, hh⟩
  replace hb1 := hb1.ext hE4
  replace hE4 : Ext w w4 := hE1.trans' hE4
  have hm : ∀ (i : Nat) o, t.ops[i]? = some o → o.effs.length ≤ 64 := fun i o ho => hh i (lt_of_some ho) o ho
  repeat (first | refine ewp_seq ?_ | refine ewp_block ?_ | refine ewp_region ?_ | refine ewp_skip ?_ | refine ewp_exit ?_ | refine ewp_ret ?_ | refine ewp_true rfl ?_ | refine ewp_false rfl ?_)
  (refine o_la rfl rfl ?_)
  refine owp_call rfl rfl (taskConditions (ht0.ext hE4) (by omega) hm) ?_
  rintro v5 w5 ⟨hv5, hE5⟩
  refine owp_call rfl rfl (containsFuncFacts (p := fun f => 64 < f.length) (caps := []) hv5 (fun v x w' _ _ hx => taskLarge1 hx)) ?_
  rintro v6 w6 ⟨rfl, hE6⟩
  (refine o_as rfl rfl ?_ <;> (first | refine owp_nilT ?_ | refine owp_nilB ?_ | refine owp_nilBB ?_ | refine owp_nil ?_))
  repeat (first | refine ewp_seq ?_ | refine ewp_block ?_ | refine ewp_region ?_ | refine ewp_skip ?_ | refine ewp_exit ?_ | refine ewp_ret ?_ | refine ewp_true rfl ?_ | refine ewp_false rfl ?_)
  refine ret1 rfl rfl ⟨?_, hE4.trans' (hE5.trans' hE6)⟩
  congr 1
  refine bof_eq ⟨fun h => .inr (.inr (.inr h)), fun h => ?_⟩
  rcases h with h | h | ⟨i, o, ho, h⟩ | h
  · omega
  · omega
  · have := hm i o ho; omega
  · exact h
end
section
open Go Go.RowKit
attribute [local irreducible] ewp owp hwp hwq Ev Evg Fn retPost Res1
/-- An error by its number. -/
def VarsOk (t : Tsk) : Prop := ∀ (i : Nat) n, t.vars[i]? = some n → 1 ≤ n ∧ n ≤ 64
def CostsOk (t : Tsk) : Prop := ∀ (i : Nat) o, t.ops[i]? = some o → 0 ≤ o.cost ∧ o.cost ≤ 1048576
def CondsOk (t : Tsk) : Prop := ∀ (i : Nat) f, (conds t)[i]? = some f → FactsOk t.vars f
def EffsOk (t : Tsk) : Prop := ∀ (i : Nat) o, t.ops[i]? = some o → ∀ (j : Nat) e, o.effs[j]? = some e → FactOk t.vars ⟨e.var, e.val⟩
def NamesOk (t : Tsk) : Prop := ∀ (i : Nat) o, t.ops[i]? = some o → NameOk o.name
/-- The number of a task's first error. -/
noncomputable def checkN (t : Tsk) : Int :=
  if bof (Large t) = true then 5 else if bof (VarsOk t ∧ CostsOk t) = false then 1 else if bof (StateOk t.vars t.init ∧ CondsOk t ∧ EffsOk t) = false then 2 else if bof (NamesOk t) = false then 8 else 0
theorem taskCheck {w : World} {tv : Value} {t : Tsk} (ht : V w tv t) : Fn Try.prog 32 [tv] w fun v w' => v = errV (checkN t) ∧ Ext w w' := by
  have ht0 := ht
  obtain ⟨cs, rfl, a, b, c, d, rfl, hvars, hinit, hgoal, hops⟩ := ht
  obtain ⟨Av, cv, rfl⟩ := hvars.form
  obtain ⟨Ai, ci, rfl⟩ := hinit.form
  obtain ⟨Ag, cg, rfl⟩ := hgoal.form
  obtain ⟨Ao, co, rfl⟩ := hops.form
  have hvl := hvars.len
  have hol := hops.len
  refine fn_enter Try.func32 rfl Try.ntmps32 rfl ?_
  repeat (first | refine ewp_seq ?_ | refine ewp_block ?_ | refine ewp_region ?_ | refine ewp_skip ?_ | refine ewp_exit ?_ | refine ewp_ret ?_ | refine ewp_true rfl ?_ | refine ewp_false rfl ?_)
  refine owp_box rfl rfl fun w1 hN => ?_
  have hb1 := hN.blk
  have hE1 : Ext w w1 := hN.ext
  (refine o_as rfl rfl ?_ <;> (first | refine owp_nilT ?_ | refine owp_nilB ?_ | refine owp_nilBB ?_ | refine owp_nil ?_))
  repeat (first | refine ewp_seq ?_ | refine ewp_block ?_ | refine ewp_region ?_ | refine ewp_skip ?_ | refine ewp_exit ?_ | refine ewp_ret ?_ | refine ewp_true rfl ?_ | refine ewp_false rfl ?_)
  (refine o_la rfl rfl ?_)
  refine owp_callB rfl rfl (taskLarge (ht0.ext hE1)) ?_ ?_
  case refine_1 =>
    intro w2 hP hE2
    ((first | refine owp_nilT ?_ | refine owp_nilB ?_ | refine owp_nilBB ?_ | refine owp_nil ?_))
    repeat (first | refine ewp_seq ?_ | refine ewp_block ?_ | refine ewp_region ?_ | refine ewp_skip ?_ | refine ewp_exit ?_ | refine ewp_ret ?_ | refine ewp_true rfl ?_ | refine ewp_false rfl ?_)
    ((repeat (first | refine ewp_seq ?_ | refine ewp_block ?_ | refine ewp_region ?_ | refine ewp_skip ?_ | refine ewp_exit ?_ | refine ewp_ret ?_ | refine ewp_true rfl ?_ | refine ewp_false rfl ?_)) <;> (refine o_mi rfl rfl ?_ <;> refine o_as rfl rfl ?_ <;> (first | refine owp_nilT ?_ | refine owp_nilB ?_ | refine owp_nilBB ?_ | refine owp_nil ?_)) <;> (repeat (first | refine ewp_seq ?_ | refine ewp_block ?_ | refine ewp_region ?_ | refine ewp_skip ?_ | refine ewp_exit ?_ | refine ewp_ret ?_ | refine ewp_true rfl ?_ | refine ewp_false rfl ?_)))
    refine ret1 rfl rfl ⟨?_, hE1.trans' hE2⟩
    rw [checkN, bof_t hP]; rfl
  intro w2 hlarge hE2
  replace hb1 := hb1.ext hE2
  replace hE2 : Ext w w2 := hE1.trans' hE2
  have hm : ∀ (i : Nat) o, t.ops[i]? = some o → o.effs.length ≤ 64 := fun i o ho => Nat.le_of_not_lt fun h => hlarge (.inr (.inr (.inl ⟨i, o, ho, h⟩)))
  have hn4 : t.ops.length ≤ 4096 := Nat.le_of_not_lt fun h => hlarge (.inr (.inl h))
  have c1 : checkN t = if bof (VarsOk t ∧ CostsOk t) = false then 1 else if bof (StateOk t.vars t.init ∧ CondsOk t ∧ EffsOk t) = false then 2 else if bof (NamesOk t) = false then 8 else 0 := by rw [checkN, bof_f hlarge]; rfl
  ((first | refine owp_nilT ?_ | refine owp_nilB ?_ | refine owp_nilBB ?_ | refine owp_nil ?_))
  repeat (first | refine ewp_seq ?_ | refine ewp_block ?_ | refine ewp_region ?_ | refine ewp_skip ?_ | refine ewp_exit ?_ | refine ewp_ret ?_ | refine ewp_true rfl ?_ | refine ewp_false rfl ?_)
  ((repeat (first | refine ewp_seq ?_ | refine ewp_block ?_ | refine ewp_region ?_ | refine ewp_skip ?_ | refine ewp_exit ?_ | refine ewp_ret ?_ | refine ewp_true rfl ?_ | refine ewp_false rfl ?_)) <;> (refine o_fa rfl rfl ?_ <;> refine o_ld rfl rfl ?_ <;> refine o_ln rfl rfl ?_ <;> refine o_mv rfl rfl ?_ <;> (first | refine owp_nilT ?_ | refine owp_nilB ?_ | refine owp_nilBB ?_ | refine owp_nil ?_)) <;> (repeat (first | refine ewp_seq ?_ | refine ewp_block ?_ | refine ewp_region ?_ | refine ewp_skip ?_ | refine ewp_exit ?_ | refine ewp_ret ?_ | refine ewp_true rfl ?_ | refine ewp_false rfl ?_)))
  refine ewp_range t.vars.length (by omega) (fun _ : Unit => [(1, .pointer (some ⟨w.heap.size, 0, none⟩)), (19, .slice Av t.vars.length cv)]) (fun k _ w' => w' = w2 ∧ ∀ i, i < k → ∀ n, t.vars[i]? = some n → 1 ≤ n ∧ n ≤ 64) ()
    ⟨rfl, fun i hi => by omega⟩ ⟨rfl, rfl, rfl, rfl, trivial⟩ (fun _ => ⟨rfl, rfl⟩) ⟨rfl, rfl, rfl⟩ ⟨rfl, rfl⟩ ?_ ?_
  · rintro k _ _ hk ⟨rfl, hh⟩
    obtain ⟨n, hn⟩ := some_of_lt hk
    obtain ⟨b2, o2, ce, rfl, _, _, hd1, rfl, _⟩ := (hvars.ext hE2).elem hn
    ((repeat (first | refine ewp_seq ?_ | refine ewp_block ?_ | refine ewp_region ?_ | refine ewp_skip ?_ | refine ewp_exit ?_ | refine ewp_ret ?_ | refine ewp_true rfl ?_ | refine ewp_false rfl ?_)) <;> (refine o_ia rfl rfl rfl ?_ <;> refine o_ld rfl rfl ?_ <;> refine o_as rfl rfl ?_ <;> (first | refine owp_nilT ?_ | refine owp_nilB ?_ | refine owp_nilBB ?_ | refine owp_nil ?_)) <;> (repeat (first | refine ewp_seq ?_ | refine ewp_block ?_ | refine ewp_region ?_ | refine ewp_skip ?_ | refine ewp_exit ?_ | refine ewp_ret ?_ | refine ewp_true rfl ?_ | refine ewp_false rfl ?_)) <;> (refine o_mv rfl rfl ?_ <;> (first | refine o_ltT rfl rfl rfl ?_ | refine o_ltF rfl rfl rfl ?_ | refine o_ltS rfl rfl rfl (fun _ => ?_) fun _ => ?_) <;> refine o_mv rfl rfl ?_ <;> (first | (refine owp_yes rfl rfl ?_; refine o_mv rfl rfl ?_) | refine owp_no rfl rfl rfl rfl ?_) <;> (first | (refine owp_yes rfl rfl ?_; (first | refine o_gtT rfl rfl rfl ?_ | refine o_gtF rfl rfl rfl ?_ | refine o_gtS rfl rfl rfl (fun _ => ?_) fun _ => ?_)) | refine owp_no rfl rfl rfl rfl ?_) <;> (first | refine o_pt rfl rfl rfl ?_ | refine o_pf rfl rfl rfl ?_) <;> (first | refine owp_nilT ?_ | refine owp_nilB ?_ | refine owp_nilBB ?_ | refine owp_nil ?_)) <;> (repeat (first | refine ewp_seq ?_ | refine ewp_block ?_ | refine ewp_region ?_ | refine ewp_skip ?_ | refine ewp_exit ?_ | refine ewp_ret ?_ | refine ewp_true rfl ?_ | refine ewp_false rfl ?_)))
    all_goals try (
      ((repeat (first | refine ewp_seq ?_ | refine ewp_block ?_ | refine ewp_region ?_ | refine ewp_skip ?_ | refine ewp_exit ?_ | refine ewp_ret ?_ | refine ewp_true rfl ?_ | refine ewp_false rfl ?_)) <;> (refine o_mi rfl rfl ?_ <;> refine o_as rfl rfl ?_ <;> (first | refine owp_nilT ?_ | refine owp_nilB ?_ | refine owp_nilBB ?_ | refine owp_nil ?_)) <;> (repeat (first | refine ewp_seq ?_ | refine ewp_block ?_ | refine ewp_region ?_ | refine ewp_skip ?_ | refine ewp_exit ?_ | refine ewp_ret ?_ | refine ewp_true rfl ?_ | refine ewp_false rfl ?_)))
      refine ret1 rfl rfl ⟨?_, hE2⟩
      rw [c1, bof_f (fun h => by have := h.1 k n hn; omega)]; rfl)
    exact ⟨(), ⟨rfl, rfl, rfl, rfl, trivial⟩, rfl, upto_step hh fun n' hn' => by rw [hn] at hn'; injection hn' with hn'; omega⟩
  rintro _ _ ⟨rfl, hdom⟩
  replace hdom : VarsOk t := fun i n hn => hdom i (lt_of_some hn) n hn
  repeat (first | refine ewp_seq ?_ | refine ewp_block ?_ | refine ewp_region ?_ | refine ewp_skip ?_ | refine ewp_exit ?_ | refine ewp_ret ?_ | refine ewp_true rfl ?_ | refine ewp_false rfl ?_)
  ((repeat (first | refine ewp_seq ?_ | refine ewp_block ?_ | refine ewp_region ?_ | refine ewp_skip ?_ | refine ewp_exit ?_ | refine ewp_ret ?_ | refine ewp_true rfl ?_ | refine ewp_false rfl ?_)) <;> (refine o_fa rfl rfl ?_ <;> refine o_ld rfl rfl ?_ <;> refine o_ln rfl rfl ?_ <;> refine o_mv rfl rfl ?_ <;> (first | refine owp_nilT ?_ | refine owp_nilB ?_ | refine owp_nilBB ?_ | refine owp_nil ?_)) <;> (repeat (first | refine ewp_seq ?_ | refine ewp_block ?_ | refine ewp_region ?_ | refine ewp_skip ?_ | refine ewp_exit ?_ | refine ewp_ret ?_ | refine ewp_true rfl ?_ | refine ewp_false rfl ?_)))
  refine ewp_range t.ops.length (by omega) (fun _ : Unit => [(1, .pointer (some ⟨w.heap.size, 0, none⟩)), (34, .slice Ao t.ops.length co)]) (fun k _ w' => Ext w w' ∧ Blk w' w.heap.size 26 [.slice Av t.vars.length cv, .slice Ai t.init.length ci, .slice Ag t.goal.length cg, .slice Ao t.ops.length co] ∧ ∀ i, i < k → ∀ o, t.ops[i]? = some o → 0 ≤ o.cost ∧ o.cost ≤ 1048576) ()
    ⟨hE2, hb1, fun i hi => by omega⟩ ⟨rfl, rfl, rfl, rfl, trivial⟩ (fun _ => ⟨rfl, rfl⟩) ⟨rfl, rfl, rfl⟩ ⟨rfl, rfl⟩ ?_ ?_
  · rintro k _ w4 hk ⟨hE4, hb1, hh⟩
    obtain ⟨o, ho⟩ := some_of_lt hk
    obtain ⟨b2, o2, ce, rfl, _, _, hd1, p, q, rfl, hp, hq, hc, hn⟩ := (hops.ext hE4).elem ho
    obtain ⟨Ap, cp, rfl⟩ := hp.form
    obtain ⟨Aq, cq, rfl⟩ := hq.form
    ((repeat (first | refine ewp_seq ?_ | refine ewp_block ?_ | refine ewp_region ?_ | refine ewp_skip ?_ | refine ewp_exit ?_ | refine ewp_ret ?_ | refine ewp_true rfl ?_ | refine ewp_false rfl ?_)) <;> (refine o_ia rfl rfl rfl ?_ <;> refine o_la rfl rfl ?_) <;> (repeat (first | refine ewp_seq ?_ | refine ewp_block ?_ | refine ewp_region ?_ | refine ewp_skip ?_ | refine ewp_exit ?_ | refine ewp_ret ?_ | refine ewp_true rfl ?_ | refine ewp_false rfl ?_)))
    refine owp_local rfl rfl rfl (by simp [Value.cells, Value.oneCell']) fun w5 hN5 => ?_
    replace hb1 := hb1.ext hN5.ext
    have hb2 := hN5.blk
    have hE5 : Ext w w5 := hE4.trans' hN5.ext
    ((first | refine owp_nilT ?_ | refine owp_nilB ?_ | refine owp_nilBB ?_ | refine owp_nil ?_))
    repeat (first | refine ewp_seq ?_ | refine ewp_block ?_ | refine ewp_region ?_ | refine ewp_skip ?_ | refine ewp_exit ?_ | refine ewp_ret ?_ | refine ewp_true rfl ?_ | refine ewp_false rfl ?_)
    ((repeat (first | refine ewp_seq ?_ | refine ewp_block ?_ | refine ewp_region ?_ | refine ewp_skip ?_ | refine ewp_exit ?_ | refine ewp_ret ?_ | refine ewp_true rfl ?_ | refine ewp_false rfl ?_)) <;> (refine o_fa rfl rfl ?_ <;> refine o_ld rfl rfl ?_ <;> (first | refine o_ltT rfl rfl rfl ?_ | refine o_ltF rfl rfl rfl ?_ | refine o_ltS rfl rfl rfl (fun _ => ?_) fun _ => ?_) <;> refine o_mv rfl rfl ?_ <;> (first | (refine owp_yes rfl rfl ?_; refine o_fa rfl rfl ?_) | refine owp_no rfl rfl rfl rfl ?_) <;> (first | (refine owp_yes rfl rfl ?_; refine o_ld rfl rfl ?_) | refine owp_no rfl rfl rfl rfl ?_) <;> (first | (refine owp_yes rfl rfl ?_; (first | refine o_gtT rfl rfl rfl ?_ | refine o_gtF rfl rfl rfl ?_ | refine o_gtS rfl rfl rfl (fun _ => ?_) fun _ => ?_)) | refine owp_no rfl rfl rfl rfl ?_) <;> (first | refine o_pt rfl rfl rfl ?_ | refine o_pf rfl rfl rfl ?_) <;> (first | refine owp_nilT ?_ | refine owp_nilB ?_ | refine owp_nilBB ?_ | refine owp_nil ?_)) <;> (repeat (first | refine ewp_seq ?_ | refine ewp_block ?_ | refine ewp_region ?_ | refine ewp_skip ?_ | refine ewp_exit ?_ | refine ewp_ret ?_ | refine ewp_true rfl ?_ | refine ewp_false rfl ?_)))
    all_goals try (
      ((repeat (first | refine ewp_seq ?_ | refine ewp_block ?_ | refine ewp_region ?_ | refine ewp_skip ?_ | refine ewp_exit ?_ | refine ewp_ret ?_ | refine ewp_true rfl ?_ | refine ewp_false rfl ?_)) <;> (refine o_mi rfl rfl ?_ <;> refine o_as rfl rfl ?_ <;> (first | refine owp_nilT ?_ | refine owp_nilB ?_ | refine owp_nilBB ?_ | refine owp_nil ?_)) <;> (repeat (first | refine ewp_seq ?_ | refine ewp_block ?_ | refine ewp_region ?_ | refine ewp_skip ?_ | refine ewp_exit ?_ | refine ewp_ret ?_ | refine ewp_true rfl ?_ | refine ewp_false rfl ?_)))
      refine ret1 rfl rfl ⟨?_, hE5⟩
      rw [c1, bof_f (fun h => by have := h.2 k o ho; omega)]; rfl)
    exact ⟨(), ⟨rfl, rfl, rfl, rfl, trivial⟩, hE5, hb1, upto_step hh fun o' ho' => by rw [ho] at ho'; injection ho' with ho'; subst ho'; omega⟩
  rintro _ w3 ⟨hE3, hb1, hcost⟩
  replace hcost : CostsOk t := fun i o ho => hcost i (lt_of_some ho) o ho
  have c2 : checkN t = if bof (StateOk t.vars t.init ∧ CondsOk t ∧ EffsOk t) = false then 2 else if bof (NamesOk t) = false then 8 else 0 := by rw [c1, bof_t ⟨hdom, hcost⟩]; rfl
  repeat (first | refine ewp_seq ?_ | refine ewp_block ?_ | refine ewp_region ?_ | refine ewp_skip ?_ | refine ewp_exit ?_ | refine ewp_ret ?_ | refine ewp_true rfl ?_ | refine ewp_false rfl ?_)
  (refine o_fa rfl rfl ?_ <;> refine o_ld rfl rfl ?_ <;> refine o_fa rfl rfl ?_ <;> refine o_ld rfl rfl ?_)
  refine owp_callB rfl rfl (taskProper (hvars.ext hE3) (hinit.ext hE3)) ?_ ?_
  case refine_2 =>
    intro w4 hP hE4
    ((first | refine o_nt rfl rfl ?_ | refine o_nf rfl rfl ?_ | refine o_nn rfl rfl ?_) <;> (first | refine owp_nilT ?_ | refine owp_nilB ?_ | refine owp_nilBB ?_ | refine owp_nil ?_))
    repeat (first | refine ewp_seq ?_ | refine ewp_block ?_ | refine ewp_region ?_ | refine ewp_skip ?_ | refine ewp_exit ?_ | refine ewp_ret ?_ | refine ewp_true rfl ?_ | refine ewp_false rfl ?_)
    ((repeat (first | refine ewp_seq ?_ | refine ewp_block ?_ | refine ewp_region ?_ | refine ewp_skip ?_ | refine ewp_exit ?_ | refine ewp_ret ?_ | refine ewp_true rfl ?_ | refine ewp_false rfl ?_)) <;> (refine o_mi rfl rfl ?_ <;> refine o_as rfl rfl ?_ <;> (first | refine owp_nilT ?_ | refine owp_nilB ?_ | refine owp_nilBB ?_ | refine owp_nil ?_)) <;> (repeat (first | refine ewp_seq ?_ | refine ewp_block ?_ | refine ewp_region ?_ | refine ewp_skip ?_ | refine ewp_exit ?_ | refine ewp_ret ?_ | refine ewp_true rfl ?_ | refine ewp_false rfl ?_)))
    refine ret1 rfl rfl ⟨?_, hE3.trans' hE4⟩
    rw [c2, bof_f (fun h => hP h.1)]; rfl
  intro w4 hst hE4
  replace hb1 := hb1.ext hE4
  replace hE4 : Ext w w4 := hE3.trans' hE4
  ((first | refine o_nt rfl rfl ?_ | refine o_nf rfl rfl ?_ | refine o_nn rfl rfl ?_) <;> (first | refine owp_nilT ?_ | refine owp_nilB ?_ | refine owp_nilBB ?_ | refine owp_nil ?_))
  repeat (first | refine ewp_seq ?_ | refine ewp_block ?_ | refine ewp_region ?_ | refine ewp_skip ?_ | refine ewp_exit ?_ | refine ewp_ret ?_ | refine ewp_true rfl ?_ | refine ewp_false rfl ?_)
  (refine o_la rfl rfl ?_)
  refine owp_call rfl rfl (taskConditions (ht0.ext hE4) hn4 hm) ?_
  rintro v5 w5 ⟨hv5, hE5⟩
  obtain ⟨Ac, cc, rfl⟩ := hv5.form
  have hcl := hv5.len
  replace hb1 := hb1.ext hE5
  replace hE5 : Ext w w5 := hE4.trans' hE5
  (refine o_ln rfl rfl ?_ <;> refine o_mv rfl rfl ?_ <;> (first | refine owp_nilT ?_ | refine owp_nilB ?_ | refine owp_nilBB ?_ | refine owp_nil ?_))
  repeat (first | refine ewp_seq ?_ | refine ewp_block ?_ | refine ewp_region ?_ | refine ewp_skip ?_ | refine ewp_exit ?_ | refine ewp_ret ?_ | refine ewp_true rfl ?_ | refine ewp_false rfl ?_)
  refine ewp_range (conds t).length (by omega) (fun _ : Unit => [(1, .pointer (some ⟨w.heap.size, 0, none⟩)), (58, .slice Ac (conds t).length cc)]) (fun k _ w' => Ext w5 w' ∧ ∀ i, i < k → ∀ f, (conds t)[i]? = some f → FactsOk t.vars f) ()
    ⟨Below.refl _ _, fun i hi => by omega⟩ ⟨rfl, rfl, rfl, rfl, trivial⟩ (fun _ => ⟨rfl, rfl⟩) ⟨rfl, rfl, rfl⟩ ⟨rfl, rfl⟩ ?_ ?_
  · rintro k _ w6 hk ⟨hE6, hh⟩
    obtain ⟨f, hf⟩ := some_of_lt hk
    have hb1 := hb1.ext hE6
    obtain ⟨b2, o2, ce, rfl, _, _, hd1, v, rfl, hR⟩ := (hv5.ext hE6).elem hf
    ((repeat (first | refine ewp_seq ?_ | refine ewp_block ?_ | refine ewp_region ?_ | refine ewp_skip ?_ | refine ewp_exit ?_ | refine ewp_ret ?_ | refine ewp_true rfl ?_ | refine ewp_false rfl ?_)) <;> (refine o_ia rfl rfl rfl ?_ <;> refine o_ld rfl rfl ?_ <;> refine o_as rfl rfl ?_ <;> (first | refine owp_nilT ?_ | refine owp_nilB ?_ | refine owp_nilBB ?_ | refine owp_nil ?_)) <;> (repeat (first | refine ewp_seq ?_ | refine ewp_block ?_ | refine ewp_region ?_ | refine ewp_skip ?_ | refine ewp_exit ?_ | refine ewp_ret ?_ | refine ewp_true rfl ?_ | refine ewp_false rfl ?_)) <;> (refine o_fa rfl rfl ?_ <;> refine o_ld rfl rfl ?_ <;> refine o_mv rfl rfl ?_) <;> (repeat (first | refine ewp_seq ?_ | refine ewp_block ?_ | refine ewp_region ?_ | refine ewp_skip ?_ | refine ewp_exit ?_ | refine ewp_ret ?_ | refine ewp_true rfl ?_ | refine ewp_false rfl ?_)))
    refine owp_callB rfl rfl (taskFacts (hvars.ext (hE5.trans' hE6)) (Vb.of_slice hR)) ?_ ?_
    · intro w7 hP hE7
      ((first | refine o_nt rfl rfl ?_ | refine o_nf rfl rfl ?_ | refine o_nn rfl rfl ?_) <;> (first | refine owp_nilT ?_ | refine owp_nilB ?_ | refine owp_nilBB ?_ | refine owp_nil ?_))
      repeat (first | refine ewp_seq ?_ | refine ewp_block ?_ | refine ewp_region ?_ | refine ewp_skip ?_ | refine ewp_exit ?_ | refine ewp_ret ?_ | refine ewp_true rfl ?_ | refine ewp_false rfl ?_)
      exact ⟨(), ⟨rfl, rfl, rfl, rfl, trivial⟩, hE6.trans' hE7, upto_step hh fun f' hf' => by rw [hf] at hf'; injection hf' with hf'; exact hf' ▸ hP⟩
    · intro w7 hP hE7
      ((first | refine o_nt rfl rfl ?_ | refine o_nf rfl rfl ?_ | refine o_nn rfl rfl ?_) <;> (first | refine owp_nilT ?_ | refine owp_nilB ?_ | refine owp_nilBB ?_ | refine owp_nil ?_))
      repeat (first | refine ewp_seq ?_ | refine ewp_block ?_ | refine ewp_region ?_ | refine ewp_skip ?_ | refine ewp_exit ?_ | refine ewp_ret ?_ | refine ewp_true rfl ?_ | refine ewp_false rfl ?_)
      ((repeat (first | refine ewp_seq ?_ | refine ewp_block ?_ | refine ewp_region ?_ | refine ewp_skip ?_ | refine ewp_exit ?_ | refine ewp_ret ?_ | refine ewp_true rfl ?_ | refine ewp_false rfl ?_)) <;> (refine o_mi rfl rfl ?_ <;> refine o_as rfl rfl ?_ <;> (first | refine owp_nilT ?_ | refine owp_nilB ?_ | refine owp_nilBB ?_ | refine owp_nil ?_)) <;> (repeat (first | refine ewp_seq ?_ | refine ewp_block ?_ | refine ewp_region ?_ | refine ewp_skip ?_ | refine ewp_exit ?_ | refine ewp_ret ?_ | refine ewp_true rfl ?_ | refine ewp_false rfl ?_)))
      refine ret1 rfl rfl ⟨?_, hE5.trans' (hE6.trans' hE7)⟩
      rw [c2, bof_f (fun h => hP (h.2.1 k f hf))]; rfl
  rintro _ w6 ⟨hE6, hcond⟩
  replace hcond : CondsOk t := fun i f hf => hcond i (lt_of_some hf) f hf
  replace hb1 := hb1.ext hE6
  replace hE6 : Ext w w6 := hE5.trans' hE6
  repeat (first | refine ewp_seq ?_ | refine ewp_block ?_ | refine ewp_region ?_ | refine ewp_skip ?_ | refine ewp_exit ?_ | refine ewp_ret ?_ | refine ewp_true rfl ?_ | refine ewp_false rfl ?_)
  ((repeat (first | refine ewp_seq ?_ | refine ewp_block ?_ | refine ewp_region ?_ | refine ewp_skip ?_ | refine ewp_exit ?_ | refine ewp_ret ?_ | refine ewp_true rfl ?_ | refine ewp_false rfl ?_)) <;> (refine o_fa rfl rfl ?_ <;> refine o_ld rfl rfl ?_ <;> refine o_ln rfl rfl ?_ <;> refine o_mv rfl rfl ?_ <;> (first | refine owp_nilT ?_ | refine owp_nilB ?_ | refine owp_nilBB ?_ | refine owp_nil ?_)) <;> (repeat (first | refine ewp_seq ?_ | refine ewp_block ?_ | refine ewp_region ?_ | refine ewp_skip ?_ | refine ewp_exit ?_ | refine ewp_ret ?_ | refine ewp_true rfl ?_ | refine ewp_false rfl ?_)))
  refine ewp_range t.ops.length (by omega) (fun _ : Unit => [(1, .pointer (some ⟨w.heap.size, 0, none⟩)), (72, .slice Ao t.ops.length co)]) (fun k _ w' => Ext w6 w' ∧ ∀ i, i < k → ∀ o, t.ops[i]? = some o → ∀ (j : Nat) e, o.effs[j]? = some e → FactOk t.vars ⟨e.var, e.val⟩) ()
    ⟨Below.refl _ _, fun i hi => by omega⟩ ⟨rfl, rfl, rfl, rfl, trivial⟩ (fun _ => ⟨rfl, rfl⟩) ⟨rfl, rfl, rfl⟩ ⟨rfl, rfl⟩ ?_ ?_
  · rintro k _ w7 hk ⟨hE7, hh⟩
    obtain ⟨o, ho⟩ := some_of_lt hk
    have hb1 := hb1.ext hE7
    obtain ⟨b2, o2, ce, rfl, _, _, hd1, p, q, rfl, hp, hq, hc, hn⟩ := (hops.ext (hE6.trans' hE7)).elem ho
    obtain ⟨Ap, cp, rfl⟩ := hp.form
    obtain ⟨Aq, cq, rfl⟩ := hq.form
    have hql := hq.len
    ((repeat (first | refine ewp_seq ?_ | refine ewp_block ?_ | refine ewp_region ?_ | refine ewp_skip ?_ | refine ewp_exit ?_ | refine ewp_ret ?_ | refine ewp_true rfl ?_ | refine ewp_false rfl ?_)) <;> (refine o_ia rfl rfl rfl ?_ <;> refine o_la rfl rfl ?_) <;> (repeat (first | refine ewp_seq ?_ | refine ewp_block ?_ | refine ewp_region ?_ | refine ewp_skip ?_ | refine ewp_exit ?_ | refine ewp_ret ?_ | refine ewp_true rfl ?_ | refine ewp_false rfl ?_)))
    refine owp_local rfl rfl rfl (by simp [Value.cells, Value.oneCell']) fun w8 hN8 => ?_
    replace hb1 := hb1.ext hN8.ext
    have hb2 := hN8.blk
    have hE8 : Ext w6 w8 := hE7.trans' hN8.ext
    replace hq := hq.ext hN8.ext
    ((first | refine owp_nilT ?_ | refine owp_nilB ?_ | refine owp_nilBB ?_ | refine owp_nil ?_))
    repeat (first | refine ewp_seq ?_ | refine ewp_block ?_ | refine ewp_region ?_ | refine ewp_skip ?_ | refine ewp_exit ?_ | refine ewp_ret ?_ | refine ewp_true rfl ?_ | refine ewp_false rfl ?_)
    ((repeat (first | refine ewp_seq ?_ | refine ewp_block ?_ | refine ewp_region ?_ | refine ewp_skip ?_ | refine ewp_exit ?_ | refine ewp_ret ?_ | refine ewp_true rfl ?_ | refine ewp_false rfl ?_)) <;> (refine o_fa rfl rfl ?_ <;> refine o_ld rfl rfl ?_ <;> refine o_ln rfl rfl ?_ <;> refine o_mv rfl rfl ?_ <;> (first | refine owp_nilT ?_ | refine owp_nilB ?_ | refine owp_nilBB ?_ | refine owp_nil ?_)) <;> (repeat (first | refine ewp_seq ?_ | refine ewp_block ?_ | refine ewp_region ?_ | refine ewp_skip ?_ | refine ewp_exit ?_ | refine ewp_ret ?_ | refine ewp_true rfl ?_ | refine ewp_false rfl ?_)))
    refine ewp_range o.effs.length (by omega) (fun _ : Unit => [(1, .pointer (some ⟨w.heap.size, 0, none⟩)), (72, .slice (some ⟨b2, o2, none⟩) t.ops.length co), (73, .int .i64 (t.ops.length : Int)), (74, .int .i64 (k : Int)), (79, .slice Aq o.effs.length cq)]) (fun j _ w' => Ext w8 w' ∧ ∀ i, i < j → ∀ e, o.effs[i]? = some e → FactOk t.vars ⟨e.var, e.val⟩) ()
      ⟨Below.refl _ _, fun i hi => by omega⟩ ⟨rfl, rfl, rfl, rfl, rfl, rfl, rfl, trivial⟩ (fun _ => ⟨rfl, rfl⟩) ⟨rfl, rfl, rfl⟩ ⟨rfl, rfl⟩ ?_ ?_
    · rintro j _ w9 hj ⟨hE9, hh9⟩
      obtain ⟨e, he⟩ := some_of_lt hj
      have hb1 := hb1.ext hE9
      obtain ⟨b3, o3, ce, rfl, _, _, hd1, cv', rfl, hcn, hr1, hr2⟩ := (hq.ext hE9).elem he
      obtain ⟨Acn, ccn, rfl⟩ := hcn.form
      ((repeat (first | refine ewp_seq ?_ | refine ewp_block ?_ | refine ewp_region ?_ | refine ewp_skip ?_ | refine ewp_exit ?_ | refine ewp_ret ?_ | refine ewp_true rfl ?_ | refine ewp_false rfl ?_)) <;> (refine o_ia rfl rfl rfl ?_ <;> refine o_la rfl rfl ?_) <;> (repeat (first | refine ewp_seq ?_ | refine ewp_block ?_ | refine ewp_region ?_ | refine ewp_skip ?_ | refine ewp_exit ?_ | refine ewp_ret ?_ | refine ewp_true rfl ?_ | refine ewp_false rfl ?_)))
      refine owp_local rfl rfl rfl (by simp [Value.cells, Value.oneCell']) fun w10 hN10 => ?_
      have hb3 := hN10.blk
      replace hb1 := hb1.ext hN10.ext
      have hE10 : Ext w w10 := hE6.trans' (hE8.trans' (hE9.trans' hN10.ext))
      ((first | refine owp_nilT ?_ | refine owp_nilB ?_ | refine owp_nilBB ?_ | refine owp_nil ?_))
      repeat (first | refine ewp_seq ?_ | refine ewp_block ?_ | refine ewp_region ?_ | refine ewp_skip ?_ | refine ewp_exit ?_ | refine ewp_ret ?_ | refine ewp_true rfl ?_ | refine ewp_false rfl ?_)
      (refine o_fa rfl rfl ?_ <;> refine o_ld rfl rfl ?_ <;> refine o_fa rfl rfl ?_ <;> refine o_ld rfl rfl ?_ <;> refine o_fa rfl rfl ?_ <;> refine o_ld rfl rfl ?_ <;> refine o_bd rfl rfl rfl ?_)
      refine owp_slice rfl rfl rfl (by simp [Value.cells]; rfl) (by decide) rfl fun w11 hN11 => ?_
      have hE11 : Ext w w11 := hE10.trans' hN11.ext
      have hone : V w11 (.slice (some ⟨w10.heap.size, 0, none⟩) 1 1) [(⟨e.var, e.val⟩ : Fct)] := Vb.made hN11 (.single ⟨rfl, hr1, hr2⟩) rfl hN11.blk.lt (by decide)
      refine owp_callB rfl rfl (taskFacts (hvars.ext hE11) hone) ?_ ?_
      · intro w12 hP hE12
        ((first | refine o_nt rfl rfl ?_ | refine o_nf rfl rfl ?_ | refine o_nn rfl rfl ?_) <;> (first | refine owp_nilT ?_ | refine owp_nilB ?_ | refine owp_nilBB ?_ | refine owp_nil ?_))
        repeat (first | refine ewp_seq ?_ | refine ewp_block ?_ | refine ewp_region ?_ | refine ewp_skip ?_ | refine ewp_exit ?_ | refine ewp_ret ?_ | refine ewp_true rfl ?_ | refine ewp_false rfl ?_)
        exact ⟨(), ⟨rfl, rfl, rfl, rfl, rfl, rfl, rfl, trivial⟩, hE9.trans' (hN10.ext.trans' (hN11.ext.trans' hE12)), upto_step hh9 fun e' he' => by rw [he] at he'; injection he' with he'; subst he'; exact factsOk_one.1 hP⟩
      · intro w12 hP hE12
        ((first | refine o_nt rfl rfl ?_ | refine o_nf rfl rfl ?_ | refine o_nn rfl rfl ?_) <;> (first | refine owp_nilT ?_ | refine owp_nilB ?_ | refine owp_nilBB ?_ | refine owp_nil ?_))
        repeat (first | refine ewp_seq ?_ | refine ewp_block ?_ | refine ewp_region ?_ | refine ewp_skip ?_ | refine ewp_exit ?_ | refine ewp_ret ?_ | refine ewp_true rfl ?_ | refine ewp_false rfl ?_)
        ((repeat (first | refine ewp_seq ?_ | refine ewp_block ?_ | refine ewp_region ?_ | refine ewp_skip ?_ | refine ewp_exit ?_ | refine ewp_ret ?_ | refine ewp_true rfl ?_ | refine ewp_false rfl ?_)) <;> (refine o_mi rfl rfl ?_ <;> refine o_as rfl rfl ?_ <;> (first | refine owp_nilT ?_ | refine owp_nilB ?_ | refine owp_nilBB ?_ | refine owp_nil ?_)) <;> (repeat (first | refine ewp_seq ?_ | refine ewp_block ?_ | refine ewp_region ?_ | refine ewp_skip ?_ | refine ewp_exit ?_ | refine ewp_ret ?_ | refine ewp_true rfl ?_ | refine ewp_false rfl ?_)))
        refine ret1 rfl rfl ⟨?_, hE11.trans' hE12⟩
        rw [c2, bof_f (fun h => hP (factsOk_one.2 (h.2.2 k o ho j e he)))]; rfl
    rintro _ w9 ⟨hE9, hh9⟩
    repeat (first | refine ewp_seq ?_ | refine ewp_block ?_ | refine ewp_region ?_ | refine ewp_skip ?_ | refine ewp_exit ?_ | refine ewp_ret ?_ | refine ewp_true rfl ?_ | refine ewp_false rfl ?_)
    exact ⟨(), ⟨rfl, rfl, rfl, rfl, trivial⟩, hE8.trans' hE9, upto_step hh fun o' ho' j e he => by rw [ho] at ho'; injection ho' with ho'; subst ho'; exact hh9 j (lt_of_some he) e he⟩
  rintro _ w7 ⟨hE7, heff⟩
  replace heff : EffsOk t := fun i o ho => heff i (lt_of_some ho) o ho
  have c3 : checkN t = if bof (NamesOk t) = false then 8 else 0 := by rw [c2, bof_t ⟨hst, hcond, heff⟩]; rfl
  replace hb1 := hb1.ext hE7
  replace hE7 : Ext w w7 := hE6.trans' hE7
  repeat (first | refine ewp_seq ?_ | refine ewp_block ?_ | refine ewp_region ?_ | refine ewp_skip ?_ | refine ewp_exit ?_ | refine ewp_ret ?_ | refine ewp_true rfl ?_ | refine ewp_false rfl ?_)
  ((repeat (first | refine ewp_seq ?_ | refine ewp_block ?_ | refine ewp_region ?_ | refine ewp_skip ?_ | refine ewp_exit ?_ | refine ewp_ret ?_ | refine ewp_true rfl ?_ | refine ewp_false rfl ?_)) <;> (refine o_fa rfl rfl ?_ <;> refine o_ld rfl rfl ?_ <;> refine o_ln rfl rfl ?_ <;> refine o_mv rfl rfl ?_ <;> (first | refine owp_nilT ?_ | refine owp_nilB ?_ | refine owp_nilBB ?_ | refine owp_nil ?_)) <;> (repeat (first | refine ewp_seq ?_ | refine ewp_block ?_ | refine ewp_region ?_ | refine ewp_skip ?_ | refine ewp_exit ?_ | refine ewp_ret ?_ | refine ewp_true rfl ?_ | refine ewp_false rfl ?_)))
  refine ewp_range t.ops.length (by omega) (fun _ : Unit => [(1, .pointer (some ⟨w.heap.size, 0, none⟩)), (99, .slice Ao t.ops.length co)]) (fun k _ w' => Ext w w' ∧ ∀ i, i < k → ∀ o, t.ops[i]? = some o → NameOk o.name) ()
    ⟨hE7, fun i hi => by omega⟩ ⟨rfl, rfl, rfl, rfl, trivial⟩ (fun _ => ⟨rfl, rfl⟩) ⟨rfl, rfl, rfl⟩ ⟨rfl, rfl⟩ ?_ ?_
  · rintro k _ w8 hk ⟨hE8, hh⟩
    obtain ⟨o, ho⟩ := some_of_lt hk
    obtain ⟨b2, o2, ce, rfl, _, _, hd1, p, q, rfl, hp, hq, hc, hn⟩ := (hops.ext hE8).elem ho
    obtain ⟨Ap, cp, rfl⟩ := hp.form
    obtain ⟨Aq, cq, rfl⟩ := hq.form
    ((repeat (first | refine ewp_seq ?_ | refine ewp_block ?_ | refine ewp_region ?_ | refine ewp_skip ?_ | refine ewp_exit ?_ | refine ewp_ret ?_ | refine ewp_true rfl ?_ | refine ewp_false rfl ?_)) <;> (refine o_ia rfl rfl rfl ?_ <;> refine o_la rfl rfl ?_) <;> (repeat (first | refine ewp_seq ?_ | refine ewp_block ?_ | refine ewp_region ?_ | refine ewp_skip ?_ | refine ewp_exit ?_ | refine ewp_ret ?_ | refine ewp_true rfl ?_ | refine ewp_false rfl ?_)))
    refine owp_local rfl rfl rfl (by simp [Value.cells, Value.oneCell']) fun w9 hN9 => ?_
    have hb2 := hN9.blk
    have hE9 : Ext w w9 := hE8.trans' hN9.ext
    ((first | refine owp_nilT ?_ | refine owp_nilB ?_ | refine owp_nilBB ?_ | refine owp_nil ?_))
    repeat (first | refine ewp_seq ?_ | refine ewp_block ?_ | refine ewp_region ?_ | refine ewp_skip ?_ | refine ewp_exit ?_ | refine ewp_ret ?_ | refine ewp_true rfl ?_ | refine ewp_false rfl ?_)
    (refine o_fa rfl rfl ?_ <;> refine o_ld rfl rfl ?_)
    refine owp_callB rfl rfl (taskNamed hn) ?_ ?_
    · intro w10 hP hE10
      ((first | refine o_nt rfl rfl ?_ | refine o_nf rfl rfl ?_ | refine o_nn rfl rfl ?_) <;> (first | refine owp_nilT ?_ | refine owp_nilB ?_ | refine owp_nilBB ?_ | refine owp_nil ?_))
      repeat (first | refine ewp_seq ?_ | refine ewp_block ?_ | refine ewp_region ?_ | refine ewp_skip ?_ | refine ewp_exit ?_ | refine ewp_ret ?_ | refine ewp_true rfl ?_ | refine ewp_false rfl ?_)
      exact ⟨(), ⟨rfl, rfl, rfl, rfl, trivial⟩, hE9.trans' hE10, upto_step hh fun o' ho' => by rw [ho] at ho'; injection ho' with ho'; exact ho' ▸ hP⟩
    · intro w10 hP hE10
      ((first | refine o_nt rfl rfl ?_ | refine o_nf rfl rfl ?_ | refine o_nn rfl rfl ?_) <;> (first | refine owp_nilT ?_ | refine owp_nilB ?_ | refine owp_nilBB ?_ | refine owp_nil ?_))
      repeat (first | refine ewp_seq ?_ | refine ewp_block ?_ | refine ewp_region ?_ | refine ewp_skip ?_ | refine ewp_exit ?_ | refine ewp_ret ?_ | refine ewp_true rfl ?_ | refine ewp_false rfl ?_)
      ((repeat (first | refine ewp_seq ?_ | refine ewp_block ?_ | refine ewp_region ?_ | refine ewp_skip ?_ | refine ewp_exit ?_ | refine ewp_ret ?_ | refine ewp_true rfl ?_ | refine ewp_false rfl ?_)) <;> (refine o_mi rfl rfl ?_ <;> refine o_as rfl rfl ?_ <;> (first | refine owp_nilT ?_ | refine owp_nilB ?_ | refine owp_nilBB ?_ | refine owp_nil ?_)) <;> (repeat (first | refine ewp_seq ?_ | refine ewp_block ?_ | refine ewp_region ?_ | refine ewp_skip ?_ | refine ewp_exit ?_ | refine ewp_ret ?_ | refine ewp_true rfl ?_ | refine ewp_false rfl ?_)))
      refine ret1 rfl rfl ⟨?_, hE9.trans' hE10⟩
      rw [c3, bof_f (fun h => hP (h k o ho))]; rfl
  rintro _ w8 ⟨hE8, hnames⟩
  repeat (first | refine ewp_seq ?_ | refine ewp_block ?_ | refine ewp_region ?_ | refine ewp_skip ?_ | refine ewp_exit ?_ | refine ewp_ret ?_ | refine ewp_true rfl ?_ | refine ewp_false rfl ?_)
  ((repeat (first | refine ewp_seq ?_ | refine ewp_block ?_ | refine ewp_region ?_ | refine ewp_skip ?_ | refine ewp_exit ?_ | refine ewp_ret ?_ | refine ewp_true rfl ?_ | refine ewp_false rfl ?_)) <;> (refine o_as rfl rfl ?_ <;> (first | refine owp_nilT ?_ | refine owp_nilB ?_ | refine owp_nilBB ?_ | refine owp_nil ?_)) <;> (repeat (first | refine ewp_seq ?_ | refine ewp_block ?_ | refine ewp_region ?_ | refine ewp_skip ?_ | refine ewp_exit ?_ | refine ewp_ret ?_ | refine ewp_true rfl ?_ | refine ewp_false rfl ?_)))
  refine ret1 rfl rfl ⟨?_, hE8⟩
  rw [c3, bof_t (show NamesOk t from fun i o ho => hnames i (lt_of_some ho) o ho)]; rfl
end
section
theorem bof_iff {p : Prop} : bof p = true ↔ p := ⟨fun h => Classical.byContradiction fun hn => (by rw [bof_f hn] at h; exact Bool.noConfusion h), bof_t⟩
theorem bof_false {p : Prop} : bof p = false ↔ ¬ p := by
  rw [← Bool.not_eq_true, bof_iff]
theorem factsOk_lt {vars : List Int} {f : List Fct} (h : FactsOk vars f) : ∀ (j i : Nat) (x y : Fct), i < j → f[i]? = some x → f[j]? = some y → x.var < y.var
  | 0, i, _, _, hij, _, _ => by omega
  | j + 1, i, x, y, hij, hx, hy => by
    by_cases he : i = j
    · subst he; exact h.2 i x y hx hy
    · obtain ⟨z, hz⟩ := some_of_lt (l := f) (k := j) (by have := lt_of_some hy; omega)
      have h1 := factsOk_lt h j i x z (by omega) hx hz
      have h2 := h.2 j z y hz hy
      omega
theorem factsOk_ge {vars : List Int} {f : List Fct} (h : FactsOk vars f) : ∀ (i : Nat) (x : Fct), f[i]? = some x → (i : Int) ≤ x.var
  | 0, x, hx => (h.1 0 x hx).1
  | i + 1, x, hx => by
    obtain ⟨z, hz⟩ := some_of_lt (l := f) (k := i) (by have := lt_of_some hx; omega)
    have h1 := factsOk_ge h i z hz
    have h2 := h.2 i z x hz hx
    omega
theorem factsOk_len {vars : List Int} {f : List Fct} (h : FactsOk vars f) : f.length ≤ vars.length := by
  rcases Nat.eq_zero_or_pos f.length with h0 | h0
  · omega
  · obtain ⟨x, hx⟩ := some_of_lt (l := f) (k := f.length - 1) (by omega)
    have h1 := factsOk_ge h _ x hx
    obtain ⟨h2, h3, y, hy, _⟩ := h.1 _ x hx
    have := lt_of_some hy
    omega
theorem conds_mem {t : Tsk} {f : List Fct} : f ∈ conds t ↔ f = t.goal ∨ ∃ (i : Nat) (o : Opr), t.ops[i]? = some o ∧ (f = o.pre ∨ ∃ (j : Nat) (e : Eff), o.effs[j]? = some e ∧ f = e.cond) := by
  unfold conds opConds
  rw [List.mem_cons, List.mem_flatMap]
  constructor
  · rintro (h | ⟨o, ho, hf⟩)
    · exact .inl h
    · obtain ⟨i, hi⟩ := List.getElem?_of_mem ho
      refine .inr ⟨i, o, hi, ?_⟩
      rcases List.mem_cons.1 hf with h | h
      · exact .inl h
      · obtain ⟨e, he, rfl⟩ := List.mem_map.1 h
        obtain ⟨j, hj⟩ := List.getElem?_of_mem he
        exact .inr ⟨j, e, hj, rfl⟩
  · rintro (h | ⟨i, o, ho, h⟩)
    · exact .inl h
    · refine .inr ⟨o, List.mem_of_getElem? ho, ?_⟩
      rcases h with rfl | ⟨j, e, he, rfl⟩
      · exact List.mem_cons_self
      · exact List.mem_cons_of_mem _ (List.mem_map.2 ⟨e, List.mem_of_getElem? he, rfl⟩)
theorem check_ok {t : Tsk} : checkN t = 0 ↔ TaskOk t := by
  unfold checkN
  constructor
  · intro h
    by_cases h1 : Large t
    · rw [if_pos (bof_iff.2 h1)] at h; cases h
    rw [if_neg (fun hh => h1 (bof_iff.1 hh))] at h
    by_cases h2 : VarsOk t ∧ CostsOk t
    case neg => rw [if_pos (bof_false.2 h2)] at h; cases h
    rw [if_neg (fun hh => bof_false.1 hh h2)] at h
    by_cases h3 : StateOk t.vars t.init ∧ CondsOk t ∧ EffsOk t
    case neg => rw [if_pos (bof_false.2 h3)] at h; cases h
    rw [if_neg (fun hh => bof_false.1 hh h3)] at h
    by_cases h4 : NamesOk t
    case neg => rw [if_pos (bof_false.2 h4)] at h; cases h
    have hc : ∀ f ∈ conds t, FactsOk t.vars f := fun f hf => by
      obtain ⟨i, hi⟩ := List.getElem?_of_mem hf
      exact h3.2.1 i f hi
    have hl : t.vars.length ≤ 64 ∧ t.ops.length ≤ 4096 ∧ (∀ (i : Nat) (o : Opr), t.ops[i]? = some o → o.effs.length ≤ 64) := by
      unfold Large at h1
      refine ⟨Nat.le_of_not_lt fun h => h1 (.inl h), Nat.le_of_not_lt fun h => h1 (.inr (.inl h)), fun i o ho => Nat.le_of_not_lt fun h => h1 (.inr (.inr (.inl ⟨i, o, ho, h⟩)))⟩
    exact ⟨hl.1, hl.2.1, h2.1, h3.1, hc _ (conds_mem.2 (.inl rfl)), fun i o ho => ⟨(h2.2 i o ho).1, (h2.2 i o ho).2, hl.2.2 i o ho, h4 i o ho, hc _ (conds_mem.2 (.inr ⟨i, o, ho, .inl rfl⟩)), fun j e he => ⟨hc _ (conds_mem.2 (.inr ⟨i, o, ho, .inr ⟨j, e, he, rfl⟩⟩)), h3.2.2 i o ho j e he⟩⟩⟩
  · rintro ⟨h1, h2, h3, h4, h5, h6⟩
    have hc : ∀ f ∈ conds t, FactsOk t.vars f := fun f hf => by
      rcases conds_mem.1 hf with rfl | ⟨i, o, ho, rfl | ⟨j, e, he, rfl⟩⟩
      · exact h5
      · exact (h6 i o ho).2.2.2.2.1
      · exact ((h6 i o ho).2.2.2.2.2 j e he).1
    have hL : ¬ Large t := by
      rintro (h | h | ⟨i, o, ho, h⟩ | ⟨f, hf, h⟩)
      · omega
      · omega
      · have := (h6 i o ho).2.2.1; omega
      · have := factsOk_len (hc f hf); omega
    have hV : VarsOk t ∧ CostsOk t := ⟨h3, fun i o ho => ⟨(h6 i o ho).1, (h6 i o ho).2.1⟩⟩
    have hS : StateOk t.vars t.init ∧ CondsOk t ∧ EffsOk t := ⟨h4, fun i f hf => hc f (List.mem_of_getElem? hf), fun i o ho j e he => ((h6 i o ho).2.2.2.2.2 j e he).2⟩
    have hN : NamesOk t := fun i o ho => (h6 i o ho).2.2.2.1
    rw [if_neg (fun hh => hL (bof_iff.1 hh)), if_neg (fun hh => bof_false.1 hh hV), if_neg (fun hh => bof_false.1 hh hS), if_neg (fun hh => bof_false.1 hh hN)]
theorem TaskOk.vars {t : Tsk} (h : TaskOk t) : VarsOk t := h.2.2.1
end
section
open Go Go.RowKit
attribute [local irreducible] ewp owp hwp hwq Ev Evg Fn retPost Res1
section
variable {w : World} {A : Nat → Prop} (hA : ∀ k, A k → k < w.heap.size) {v0 v1 : Value}
include hA
omit hA in
def m_base_Holds (f : List Fct) (s : List Int) : Option Bool := some (holdsB f s)
theorem c_base_Holds {x0 : List Fct} (h0 : Vb w A v0 x0) {x1 : List Int} (h1 : Vb w A v1 x1) {r : Bool} (hm : m_base_Holds x0 x1 = some r) : Fn Try.prog 19 [v0, v1] w fun v w' => Ext w w' ∧ Vb w' (upA A w w') v r := by
  obtain rfl := sm hm
  refine (baseHolds (h0.mono hA) (h1.mono hA)).mono fun v w' h => ⟨h.2, ?_⟩
  rw [h.1, bof_b]; exact vBool
omit hA in
def m_task_Holds (f : List Fct) (s : List Int) : Option Bool := some (holdsB f s)
theorem c_task_Holds {x0 : List Fct} (h0 : Vb w A v0 x0) {x1 : List Int} (h1 : Vb w A v1 x1) {r : Bool} (hm : m_task_Holds x0 x1 = some r) : Fn Try.prog 64 [v0, v1] w fun v w' => Ext w w' ∧ Vb w' (upA A w w') v r := by
  obtain rfl := sm hm
  refine (taskHolds (h0.mono hA) (h1.mono hA)).mono fun v w' h => ⟨h.2, ?_⟩
  rw [h.1, bof_b]; exact vBool
omit hA in
noncomputable def m_base_Ints (x : List Int) (y : List Int) : Option Bool := some (bof (x = y))
theorem c_base_Ints {x0 : List Int} (h0 : Vb w A v0 x0) {x1 : List Int} (h1 : Vb w A v1 x1) {r : Bool} (hm : m_base_Ints x0 x1 = some r) : Fn Try.prog 15 [v0, v1] w fun v w' => Ext w w' ∧ Vb w' (upA A w w') v r := by
  obtain rfl := sm hm
  refine (baseInts (h0.mono hA) (h1.mono hA)).mono fun v w' h => ⟨h.2, ?_⟩
  rw [h.1]; exact vBool
omit hA in
noncomputable def m_task_Proper (x : List Int) (y : List Int) : Option Bool := some (bof (StateOk x y))
theorem c_task_Proper {x0 : List Int} (h0 : Vb w A v0 x0) {x1 : List Int} (h1 : Vb w A v1 x1) {r : Bool} (hm : m_task_Proper x0 x1 = some r) : Fn Try.prog 33 [v0, v1] w fun v w' => Ext w w' ∧ Vb w' (upA A w w') v r := by
  obtain rfl := sm hm
  refine (taskProper (h0.mono hA) (h1.mono hA)).mono fun v w' h => ⟨h.2, ?_⟩
  rw [h.1]; exact vBool
omit hA in
noncomputable def m_base_Small (t : Tsk) : Option Bool := some (bof (SmallOk t))
theorem c_base_Small {x0 : Tsk} (h0 : Vb w A v0 x0) {r : Bool} (hm : m_base_Small x0 = some r) : Fn Try.prog 11 [v0] w fun v w' => Ext w w' ∧ Vb w' (upA A w w') v r := by
  obtain rfl := sm hm
  refine (baseSmall (h0.mono hA)).mono fun v w' h => ⟨h.2, ?_⟩
  rw [h.1]; exact vBool
end
noncomputable def m_task_Check (t : Tsk) : Option Err := some ⟨checkN t⟩
theorem checkN_rng (t : Tsk) : inI64 (checkN t) := by unfold checkN; (repeat' split) <;> decide
theorem c_task_Check {w : World} {A : Nat → Prop} (hA : ∀ k, A k → k < w.heap.size) {v0 : Value} {x0 : Tsk} (h0 : Vb w A v0 x0) {r : Err} (hm : m_task_Check x0 = some r) : Fn Try.prog 32 [v0] w fun v w' => Ext w w' ∧ Vb w' (upA A w w') v r := by
  obtain rfl := sm hm
  refine (taskCheck (h0.mono hA)).mono fun v w' h => ⟨h.2, ?_⟩
  rw [h.1]
  exact vErr (checkN_rng _)
def m_slices_Clone_Lint_int (xs : List Int) : Option (List Int) := if xs.length * 8 ≤ 140737488355328 ∧ xs.length ≤ 9223372036854775807 then some xs else none
theorem c_slices_Clone_Lint_int {w : World} {A : Nat → Prop} (hA : ∀ k, A k → k < w.heap.size) {v0 : Value} {x0 : List Int} (h0 : Vb w A v0 x0) {r : List Int} (hm : m_slices_Clone_Lint_int x0 = some r) :
    Fn Try.prog 110 [v0] w fun v w' => Ext w w' ∧ RowR w w' (upA A w w') 3 v r := by
  obtain ⟨⟨hl, hl2⟩, rfl⟩ := ite_some hm
  obtain ⟨O, hB, hA0⟩ := enter hA
  replace h0 := h0.mono hA0
  obtain ⟨Ad, c, rfl⟩ := h0.form
  refine fn_enter Try.func110 rfl Try.ntmps110 rfl ?_
  cases Ad with
  | none =>
    have hx : x0 = [] := by
      cases x0 with
      | nil => rfl
      | cons x xs => obtain ⟨_, _, _, h, _⟩ := h0.elem (k := 0) (x := x) rfl; cases h
    subst hx
    ((repeat (first | refine ewp_seq ?_ | refine ewp_block ?_ | refine ewp_region ?_ | refine ewp_skip ?_ | refine ewp_exit ?_ | refine ewp_ret ?_ | refine ewp_true rfl ?_ | refine ewp_false rfl ?_)) <;> (refine o_as rfl rfl ?_ <;> (first | refine owp_nilT ?_ | refine owp_nilB ?_ | refine owp_nilBB ?_ | refine owp_nil ?_)) <;> (repeat (first | refine ewp_seq ?_ | refine ewp_block ?_ | refine ewp_region ?_ | refine ewp_skip ?_ | refine ewp_exit ?_ | refine ewp_ret ?_ | refine ewp_true rfl ?_ | refine ewp_false rfl ?_)) <;> (refine o_mv rfl rfl ?_ <;> refine o_sn rfl rfl ?_ <;> (first | refine owp_nilT ?_ | refine owp_nilB ?_ | refine owp_nilBB ?_ | refine owp_nil ?_)) <;> (repeat (first | refine ewp_seq ?_ | refine ewp_block ?_ | refine ewp_region ?_ | refine ewp_skip ?_ | refine ewp_exit ?_ | refine ewp_ret ?_ | refine ewp_true rfl ?_ | refine ewp_false rfl ?_)) <;> (refine o_as rfl rfl ?_ <;> (first | refine owp_nilT ?_ | refine owp_nilB ?_ | refine owp_nilBB ?_ | refine owp_nil ?_)) <;> (repeat (first | refine ewp_seq ?_ | refine ewp_block ?_ | refine ewp_region ?_ | refine ewp_skip ?_ | refine ewp_exit ?_ | refine ewp_ret ?_ | refine ewp_true rfl ?_ | refine ewp_false rfl ?_)))
    exact ret1 rfl rfl ⟨Below.refl _ _, RowR.nil⟩
  | some ad =>
    ((repeat (first | refine ewp_seq ?_ | refine ewp_block ?_ | refine ewp_region ?_ | refine ewp_skip ?_ | refine ewp_exit ?_ | refine ewp_ret ?_ | refine ewp_true rfl ?_ | refine ewp_false rfl ?_)) <;> (refine o_as rfl rfl ?_ <;> (first | refine owp_nilT ?_ | refine owp_nilB ?_ | refine owp_nilBB ?_ | refine owp_nil ?_)) <;> (repeat (first | refine ewp_seq ?_ | refine ewp_block ?_ | refine ewp_region ?_ | refine ewp_skip ?_ | refine ewp_exit ?_ | refine ewp_ret ?_ | refine ewp_true rfl ?_ | refine ewp_false rfl ?_)) <;> (refine o_mv rfl rfl ?_ <;> refine o_sn rfl rfl ?_ <;> (first | refine owp_nilT ?_ | refine owp_nilB ?_ | refine owp_nilBB ?_ | refine owp_nil ?_)) <;> (repeat (first | refine ewp_seq ?_ | refine ewp_block ?_ | refine ewp_region ?_ | refine ewp_skip ?_ | refine ewp_exit ?_ | refine ewp_ret ?_ | refine ewp_true rfl ?_ | refine ewp_false rfl ?_)))
    refine l_bslice 2 (by decide) O (xs := ([] : List Int)) rfl rfl rfl rfl trivial (by decide) (by decide) rfl fun g w1 O1 S1 h1 => ?_
    replace hB := hB.st S1 (fun h => h) (fun h => h)
    replace h0 := h0.st S1 (fun h => h)
    (refine o_mv rfl rfl ?_)
    refine l_append rfl h1 h0.rd rfl rfl (by decide) (by simpa using hl) (by simpa using hl2) rfl fun A2 c2 w2 O2 S2 h2 => ?_
    replace hB := hB.st S2 (by decide) (by decide)
    rw [List.nil_append] at h2 ⊢
    (refine o_as rfl rfl ?_ <;> (first | refine owp_nilT ?_ | refine owp_nilB ?_ | refine owp_nilBB ?_ | refine owp_nil ?_))
    repeat (first | refine ewp_seq ?_ | refine ewp_block ?_ | refine ewp_region ?_ | refine ewp_skip ?_ | refine ewp_exit ?_ | refine ewp_ret ?_ | refine ewp_true rfl ?_ | refine ewp_false rfl ?_)
    exact ret1 rfl rfl ⟨hB.ext, h2.out hB (by decide)⟩
end
end Go.Proofs.Ytgnmjmcjadpmhaa

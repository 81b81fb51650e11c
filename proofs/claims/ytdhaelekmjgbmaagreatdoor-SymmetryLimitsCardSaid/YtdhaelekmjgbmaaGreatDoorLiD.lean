/- Own text: what the proof of symmetryLimits_holds uses, part 4: rules, models and their proofs, plain laws. -/
import Derived.Test.YtdhaelekmjgbmaaGreatDoorLiC
set_option linter.unusedVariables false
set_option linter.unusedSimpArgs false
namespace Go.Proofs.YtdhaelekmjgbmaaGreatDoor
open Go Go.RowKit
section
open Go Go.RowKit Go.Sort
def lsB (b : ByteArray) : List UInt8 := b.data.toList
def ofB (l : List UInt8) : ByteArray := ⟨l.toArray⟩
def sortT (xs : List ByteArray) : List ByteArray := ((xs.map lsB).mergeSort fun x y => decide (x ≤ y)).map ofB
theorem sortT_perm (xs : List ByteArray) : (sortT xs).Perm xs := by
  have := (List.mergeSort_perm (xs.map lsB) fun x y => decide (x ≤ y)).map ofB
  rwa [List.map_map, show ofB ∘ lsB = id from rfl, List.map_id] at this
theorem sortT_length (xs : List ByteArray) : (sortT xs).length = xs.length := (sortT_perm xs).length_eq
theorem chunks_str_eq {w : World} {F : Nat → Prop} : ∀ {xs : List ByteArray} {cells : List Value}, Chunks w F cells xs → cells = xs.map Value.string ∧ ∀ x ∈ xs, x.size ≤ 9223372036854775807
  | [], _, h => ⟨h, fun _ hx => by simp at hx⟩
  | x :: xs, cells, ⟨cs, rest, he, hr, hc⟩ => by
    obtain ⟨h1, h2⟩ := chunks_str_eq hc
    obtain ⟨h3, h4⟩ := hr
    refine ⟨by rw [he, h3, h1]; rfl, fun y hy => ?_⟩
    rcases List.mem_cons.1 hy with rfl | hy
    · exact h4
    · exact h2 y hy
theorem chunks_str_mk {w : World} {F : Nat → Prop} : ∀ {xs : List ByteArray}, (∀ x ∈ xs, x.size ≤ 9223372036854775807) → Chunks w F (xs.map Value.string) xs
  | [], _ => rfl
  | x :: xs, h => ⟨[.string x], xs.map Value.string, rfl, ⟨rfl, h x (by simp)⟩, chunks_str_mk fun y hy => h y (by simp [hy])⟩
theorem sortStrs {w : World} {base : Nat} {F : Nat → Prop} {v : Value} {xs : List ByteArray} (h : Own w base F 9 v xs) (hl : xs.length ≤ 1000000) :
    Fn Tryz.prog 67 [v] w fun r w' => r = .tuple #[] ∧ Own w' base F 9 v (sortT xs) ∧ Kept w w' v := by
  intro d
  rcases Nat.eq_zero_or_pos xs.length with h0 | h0
  · have hx : xs = [] := List.eq_nil_of_length_eq_zero h0
    subst hx
    have hv : ∃ p c, v = .slice p 0 c := by
      obtain ⟨cells, h1, _⟩ := h
      rcases h1.2 with ⟨rfl, _⟩ | ⟨g, cap, cur, rfl, _⟩
      · exact ⟨_, _, rfl⟩
      · exact ⟨_, _, rfl⟩
    obtain ⟨p, c, rfl⟩ := hv
    refine (Tryz.slices_Sort_string_none p c (dr w d)).mono fun e w' ⟨he, hw⟩ => ⟨_, w, d, he, hw, rfl, by simpa [sortT] using h, ⟨rfl, rfl, rfl, Nat.le_refl _, fun _ _ _ => rfl⟩⟩
  · obtain ⟨g, cap, cells, sp, rfl, hg, hFg, hb, hc, hlen, hnc, hcm, htot⟩ := h.open h0
    obtain ⟨rfl, hin⟩ := chunks_str_eq hc
    have hln : (xs.map lsB).length = xs.length := List.length_map ..
    have hH : Go.Sort.Holds encStr (dr w d) g 0 (xs.map lsB).toArray := fun j hj => by
      have hj' : j < xs.length := by simpa using hj
      refine ⟨?_, by rw [Nat.zero_add]; exact hb.frozen j⟩
      rw [Nat.zero_add]
      refine hb.cell ?_
      rw [List.getElem?_append_left (by simpa using hj'), List.getElem?_map, List.getElem?_eq_getElem hj']
      simp [hj', encStr, lsB]
    have hs := Tryz.slices_Sort_string g 0 cap (xs.map lsB) (dr w d) hH hb.lt (by omega)
    rw [hln] at hs
    refine hs.mono fun e w' ⟨he, n, os, hw⟩ => ⟨_, w', w'.drawn, he, rfl, rfl, ?_, ?_⟩
    · have hblk : Blk w' g 9 ((sortT xs).map Value.string ++ sp) := by
        subst hw
        unfold Blk at hb ⊢
        have hsz : g < w.heap.size := Blk.lt hb
        show ((w.heap.modify g _) ++ os)[g]? = _
        rw [Array.getElem?_append_left (by simpa using hsz), Array.getElem?_modify, if_pos rfl, hb]
        simp only [Option.map_some, Go.Sort.onCells]
        congr 2
        apply Array.ext
        · simp [Go.Sort.putCells, sortT_length]
        · intro i h1 h2
          simp only [Go.Sort.putCells, Array.getElem_mapIdx, Nat.zero_add, Nat.sub_zero, Nat.zero_le, true_and]
          have e1 : (List.mergeSort (xs.map lsB) fun x y => decide (x ≤ y)).length = xs.length := (List.length_mergeSort _).trans hln
          by_cases hi : i < xs.length
          · rw [if_pos (by simpa [e1] using hi)]
            simp only [List.getElem_toArray]
            rw [List.getElem_append_left (by simpa [sortT_length] using hi), List.getElem_map]
            rw [getElem!_pos _ _ (by simpa [e1] using hi)]
            simp [sortT, encStr, ofB]
          · rw [if_neg (by simpa [e1] using hi)]
            simp only [List.getElem_toArray]
            rw [List.getElem_append_right (by simp; omega), List.getElem_append_right (by simp [sortT_length]; omega)]
            simp [sortT_length]
      have := Own.close (w := w') (base := base) (cap := cap) hg hFg hblk (chunks_str_mk (F := F) (w := w') fun x hx => hin x ((sortT_perm xs).mem_iff.1 hx)) (by rw [sortT_length]; exact hnc) hcm (by simpa [sortT_length] using htot)
      rwa [sortT_length] at this
    · subst hw
      refine ⟨rfl, rfl, rfl, ?_, fun k hk hne => ?_⟩
      · show w.heap.size ≤ ((w.heap.modify g _) ++ os).size
        simp
      · have hkg : g ≠ k := fun e => hne (by simp [Value.ownBlock, e])
        show ((w.heap.modify g _) ++ os)[k]? = _
        rw [Array.getElem?_append_left (by simpa using hk), Array.getElem?_modify, if_neg hkg]
def m_slices_Sort_Lstring_string (xs : List ByteArray) : Option (List ByteArray) := if xs.length ≤ 1000000 then some (sortT xs) else none
theorem c_slices_Sort_Lstring_string {w : World} {O : Lab} {A0 : Option Addr} {m0 c0 i0 : Nat} {x0 : List ByteArray} (hx0 : Rw i0 w O 9 (.slice A0 m0 c0) x0) {r : List ByteArray} (hm : m_slices_Sort_Lstring_string x0 = some r) :
    Fn Tryz.prog 67 [.slice A0 m0 c0] w fun _ w' => ∃ O', St (eT i0) w O w' O' ∧ Rw i0 w' O' 9 (.slice A0 m0 c0) r := by
  obtain ⟨hl, rfl⟩ := ite_some hm
  refine (sortStrs hx0.1 hl).mono fun v w' ⟨_, ho, hK⟩ => ⟨O, ?_, ?_⟩
  · exact ⟨hK.os, hK.tape, hK.output, hK.size, fun k hk hT => ⟨hK.block k hk fun he => hT (hx0.2.1 k he), rfl⟩⟩
  · exact ho.rw (fun k hk => ⟨Nat.lt_of_lt_of_le hk.1 hK.size, hk.2⟩) hx0.2.1 hx0.2.2
end
section
open Go Go.RowKit
abbrev U64 := BitVec 64
instance : Rp U64 where
  isAgg := false
  size := 1
  R _ _ cs x := cs = [.int .u64 (x.toNat : Int)]
  len := by rintro w F cs x rfl; rfl
  one := by
    rintro w F cs x rfl u hu
    have : u = .int .u64 (x.toNat : Int) := by simpa using hu
    subst this; rfl
  agree := fun h _ => h
  mono := fun h _ => h
theorem Vb.u64 {w : World} {F : Nat → Prop} {v : Value} {x : U64} (h : Vb w F v x) : v = .int .u64 (x.toNat : Int) := by
  have : [v] = [.int .u64 (x.toNat : Int)] := h
  simpa using this
theorem vU64 {w : World} {F : Nat → Prop} {x : U64} : Vb w F (.int .u64 (x.toNat : Int)) x := rfl
theorem wrapU (a : Int) : IntKind.u64.wrap a = a % 18446744073709551616 := by simp [IntKind.wrap, IntKind.bits, IntKind.signed]
section
variable {P : Program} {l : Env} {w : World} {dst : Option Tmp} {ty : TypeId} {pos : String} {aft : Array Edge}
theorem ev_cvU {s t : TypeId} {k : IntKind} [hs : TInt P s k] [ht : TInt P t .u64] {x : Operand} {a : Int} (hx : opv l x = some (.int k a)) : Ev P ⟨dst, .convert s t x, ty, pos, aft, none⟩ l w (.int .u64 ((BitVec.ofInt 64 a).toNat : Int)) := fun _ _ d ha => by
  have h : IntKind.u64.wrap a = ((BitVec.ofInt 64 a).toNat : Int) := by
    rw [wrapU, BitVec.toNat_ofInt]
    have : (0 : Int) ≤ a % 18446744073709551616 := by omega
    simp
    omega
  simp [execOp, ha.eval hx, convert, run_underlying hs.eq, run_underlying ht.eq, Conv.intToInt, h]
theorem ev_cvI {s t : TypeId} [hs : TInt P s .u64] [ht : TInt P t .i64] {x : Operand} {a : U64} (hx : opv l x = some (.int .u64 (a.toNat : Int))) : Ev P ⟨dst, .convert s t x, ty, pos, aft, none⟩ l w (.int .i64 a.toInt) := fun _ _ d ha => by
  have h : IntKind.i64.wrap (a.toNat : Int) = a.toInt := by
    rw [IntKind.wrap_i64, BitVec.toInt_eq_toNat_cond]
    have := a.isLt
    split <;> omega
  simp [execOp, ha.eval hx, convert, run_underlying hs.eq, run_underlying ht.eq, Conv.intToInt, h]
end
section
variable {P : Program} {n : Nat} {ops : Array Oper} {Q : Post} {rest : List Oper} {l : Env} {w : World} {d : Tmp} {ty : TypeId} {pos : String} {aft : Array Edge}
theorem o_cvU {s t : TypeId} {k : IntKind} [TInt P s k] [TInt P t .u64] {x : Operand} {a : Int} (hx : opv l x = some (.int k a)) (hd : Nat.blt d n = true) (h : owp P n ops Q rest ((d, .int .u64 ((BitVec.ofInt 64 a).toNat : Int)) :: l) w)  : owp P n ops Q (⟨some d, .convert s t x, ty, pos, aft, none⟩ :: rest) l w := owp_ev (ev_cvU hx) hd h
theorem o_cvI {s t : TypeId} [TInt P s .u64] [TInt P t .i64] {x : Operand} {a : U64} (hx : opv l x = some (.int .u64 (a.toNat : Int))) (hd : Nat.blt d n = true) (h : owp P n ops Q rest ((d, .int .i64 a.toInt) :: l) w)  : owp P n ops Q (⟨some d, .convert s t x, ty, pos, aft, none⟩ :: rest) l w := owp_ev (ev_cvI hx) hd h
variable {S : World → Prop} {r : List (Nat × Bool)} {i : Nat}
end
end
section
open Go Go.RowKit
section
variable {P : Program} {n : Nat} {ops : Array Oper} {Q : Post} {rest : List Oper} {l : Env} {w : World} {ty : TypeId} {pos : String} {aft : Array Edge} {d : Tmp} {S : World → Prop} {r : List (Nat × Bool)} {i : Nat}
theorem ev_rmK {dst : Option Nat} {t u : TypeId} {k : IntKind} {x y : Operand} {a b c : Int} (hx : opv l x = some (.int k a)) (hy : opv l y = some (.int k b)) (he : remI a b = some c) : Ev P ⟨dst, .binOp .rem t x y u, ty, pos, aft, none⟩ l w (.int k c) := by
  obtain ⟨h1, h2, rfl⟩ := remI_some he
  exact ev_rem hx hy h1 h2
theorem h_rmK {t u : TypeId} {k : IntKind} {x y : Operand} {a b c : Int} (hi : ops[i]? = some ⟨some d, .binOp .rem t x y u, ty, pos, aft, none⟩) (hx : opv l x = some (.int k a)) (hy : opv l y = some (.int k b)) (hd : Nat.blt d n = true) (h : hwp P n ops Q S r ((d, .int k c) :: l) w) (he : remI a b = some c := by assumption) : hwp P n ops Q S ((i, true) :: r) l w := hwp_o hi (hwq_ev (fun _ _ => ev_rmK hx hy he) hd h)
end
def m_math_bits_Mul (x y : U64) : Option (U64 × U64) := some (BitVec.ofNat 64 (x.toNat * y.toNat / 18446744073709551616), BitVec.ofNat 64 (x.toNat * y.toNat % 18446744073709551616))
theorem c_math_bits_Mul {w : World} {A : Nat → Prop} (_ : ∀ k, A k → k < w.heap.size) {x0 x1 : U64} {r : U64 × U64} (hm : m_math_bits_Mul x0 x1 = some r) :
    Fn Tryz.prog 59 [.int .u64 x0.toNat, .int .u64 x1.toNat] w fun v w' => Ext w w' ∧ T2 w' (upA A w w') v r := by
  injection hm with hm
  subst hm
  intro d
  have hx := x0.isLt
  have hy := x1.isLt
  refine (Tryz.bits_Mul x0.toNat x1.toNat hx hy (dr w d)).mono fun e w' ⟨he, hw⟩ => ⟨_, w, d, he, hw, Below.refl _ _, _, _, rfl, ?_, ?_⟩
  · have h1 : x0.toNat * x1.toNat / 18446744073709551616 < 18446744073709551616 := by
      refine Nat.div_lt_of_lt_mul ?_
      exact Nat.mul_lt_mul'' hx hy
    have := vU64 (w := w) (F := upA A w w) (x := BitVec.ofNat 64 (x0.toNat * x1.toNat / 18446744073709551616))
    rwa [BitVec.toNat_ofNat, Nat.mod_eq_of_lt h1] at this
  · have h1 : x0.toNat * x1.toNat % 18446744073709551616 < 18446744073709551616 := Nat.mod_lt _ (by decide)
    have := vU64 (w := w) (F := upA A w w) (x := BitVec.ofNat 64 (x0.toNat * x1.toNat % 18446744073709551616))
    rwa [BitVec.toNat_ofNat, Nat.mod_eq_of_lt h1] at this
attribute [local irreducible] ewp owp hwp hwq Ev Evg Fn retPost Res1
attribute [local irreducible] hwx loudX
noncomputable def m_slices_Repeat_Lint_int (x0 : List Int) (x1 : Int) : Option (List Int) :=
  if x1 < 0 then (none) else (bnd (m_math_bits_Mul (BitVec.ofInt 64 (x0.length : Int)) (BitVec.ofInt 64 x1)) fun q8 => bnd (if ((0 : U64).toNat : Int) < (q8.1.toNat : Int) then (some true) else (if ((9223372036854775807 : U64).toNat : Int) < (q8.2.toNat : Int) then (some true) else (some false)) : Option Bool) fun y19 => if y19 = true then (none) else (bnd (mkI 8 (0 : Int) q8.2.toInt) fun u30 => bnd (ckN u30 x0) fun q45 => bnd (lop (ρ := (List Int)) (fun (s49 : (List Int) × Int) => if s49.2 < (u30.length : Int) then (bnd (cpyR s49.1 s49.2) fun q74 => bnd (chkI (s49.2 + q74.2)) fun n81 => some (.next (q74.1, n81))) else (some (.brk (s49.1, s49.2)))) ((cpyL u30 x0), q45)) fun res47 => fin res47 fun (s88 : (List Int) × Int) => some s88.1))
theorem c_slices_Repeat_Lint_int {w : World} {A : Nat → Prop} (hA : ∀ k, A k → k < w.heap.size) {vx0 : Value} {x0 : List Int} (hx0 : Vb w A vx0 x0) {x1 : Int} (rx1 : inI64 x1) {r : (List Int)} (hm : m_slices_Repeat_Lint_int x0 x1 = some r) :
    Fn Tryz.prog 36 [vx0, (.int .i64 x1)] w fun v w' => Ext w w' ∧ RowR w w' (upA A w w') 3 v r := by
 obtain ⟨O, hB, hA0⟩ := enter hA
 replace hx0 := hx0.mono hA0
 obtain ⟨A3, c4, rfl⟩ := hx0.form
 refine fn_enter Tryz.func36 rfl Tryz.ntmps36 rfl ?_
 unfold m_slices_Repeat_Lint_int at hm
 refine ewp_seq (ewp_region (o_as rfl rfl (o_z ?_)))
 refine ewp_seq (ewp_seq (ewp_region (o_mv rfl rfl (o_ltS rfl rfl rfl (fun c5 => ?_) fun c5 => ?_))))
 ·
  replace hm := ip hm c5
  refine o_z ?_
  refine ewp_true rfl ?_
  exact nomatch hm
 replace hm := im hm c5
 refine o_z ?_
 refine ewp_false rfl (ewp_skip (ewp_seq (ewp_region (o_mv rfl rfl (o_ln rfl rfl ?_)))))
 have l7 : x0.length ≤ 9223372036854775807 := Nat.le_trans hx0.len.2.1 hx0.len.2.2
 have r6 : inI64 (x0.length : Int) := rngNat l7
 refine o_cvU rfl rfl ?_
 refine o_mv rfl rfl (o_cvU rfl rfl ?_)
 obtain ⟨q8, e9, hm⟩ := bs hm
 refine l_callA (O := O) (A := All w) (R := fun w' F v => T2 w' F v q8) (c_math_bits_Mul (fun _ h => h)  e9) rfl rfl fun v14 w10 O11 S12 h13 => ?_
 obtain ⟨v15, v16, rfl, h17, h18⟩ := h13
 obtain rfl := h17.u64
 obtain rfl := h18.u64
 refine o_mv rfl rfl (o_ex rfl rfl rfl (o_ex rfl rfl rfl (o_as rfl rfl (o_as rfl rfl (o_z ?_)))))
 refine ewp_seq (ewp_seq ?_)
 obtain ⟨y19, hy20, hm⟩ := bs hm
 refine ewp_join (fun l' w' => ∃ (x22 : Unit) (O' : Lab), subs l' [(0, (.slice A3 x0.length c4)), (6, (.int .u64 q8.2.toNat)), (26, (.bool y19))] ∧ Bs w A w' O' ∧ Vb w' (Fr 0 w' O') (.slice A3 x0.length c4) x0) ?_ ?_
 ·
  refine ewp_region (o_mv rfl rfl (o_gtS rfl rfl rfl (fun c23 => ?_) fun c23 => ?_))
  ·
   replace hy20 := ip hy20 c23
   refine o_mv rfl rfl (owp_no rfl rfl rfl rfl (owp_no rfl rfl rfl rfl (o_pt rfl rfl rfl (o_z ?_))))
   obtain rfl := sm hy20
   replace hx0 := hx0.st S12
   replace hB := hB.st S12
   exact ⟨(), _, ⟨rfl, rfl, rfl, trivial⟩, hB, hx0⟩
  replace hy20 := im hy20 c23
  refine o_mv rfl rfl (owp_yes rfl rfl (o_mv rfl rfl (owp_yes rfl rfl (o_gtS rfl rfl rfl (fun c24 => ?_) fun c24 => ?_))))
  ·
   replace hy20 := ip hy20 c24
   refine o_pf rfl rfl rfl (o_z ?_)
   obtain rfl := sm hy20
   replace hx0 := hx0.st S12
   replace hB := hB.st S12
   exact ⟨(), _, ⟨rfl, rfl, rfl, trivial⟩, hB, hx0⟩
  replace hy20 := im hy20 c24
  refine o_pf rfl rfl rfl (o_z ?_)
  obtain rfl := sm hy20
  replace hx0 := hx0.st S12
  replace hB := hB.st S12
  exact ⟨(), _, ⟨rfl, rfl, rfl, trivial⟩, hB, hx0⟩
 replace hx0 := hx0.st S12
 replace hB := hB.st S12
 rintro l25 w26 ⟨x22, O27, hs28, hB, hx0⟩
 refine ewp_sub _ hs28 ?_
 refine ewp_cond rfl (fun c29 => ?_) (fun c29 => ?_)
 ·
  replace hm := ip hm c29
  exact nomatch hm
 replace hm := im' hm c29
 refine ewp_skip (ewp_seq (ewp_region (o_mv rfl rfl (o_cvI (a := q8.2) rfl rfl ?_))))
 obtain ⟨u30, e31, hm⟩ := bs hm
 obtain ⟨m32, e33, e34, e35, e36⟩ := mkI_some e31
 refine l_make 2 (by decide) O27 (z0 := (0 : Int)) rfl rfl rfl rfl rfl e33 (vInt (show inI64 0 from by decide)) e34 e35 rfl fun g37 w38 O39 S40 h41 => ?_
 rw [← e36] at h41 ⊢
 refine o_as rfl rfl (o_z ?_)
 refine ewp_seq (ewp_region (o_mv rfl rfl (o_mv rfl rfl ?_)))
 obtain ⟨q45, e46, hm⟩ := bs hm
 replace hx0 := hx0.st S40
 refine l_copyK h41 hx0 e46 rfl rfl rfl fun w43 S44 h41 => ?_
 refine o_as rfl rfl (o_z ?_)
 refine ewp_seq ?_
 obtain ⟨res47, hL48, hm⟩ := bs hm
 refine ewp_join (aft res47 (fun (s49 : (List Int) × Int) (x50 : Unit) => [(7, (.slice (some ⟨g37, 0, none⟩) u30.length m32))]) (fun s49 x50 w' => ∃ O' : Lab, Bs w A w' O' ∧ Rw 2 w' O' 3 (.slice (some ⟨g37, 0, none⟩) u30.length m32) s49.1 ∧ inI64 s49.2)) ?_ ?_
 ·
  refine ewp_block ?_
  replace hB := (hB.st S40).st S44
  refine ewp_lop (σ := (List Int) × Int) (X := Unit) hL48 (fun (s49 : (List Int) × Int) (x50 : Unit) => [(7, (.slice (some ⟨g37, 0, none⟩) u30.length m32)), (8, (.int .i64 s49.2))]) _ (fun s49 x50 w' => ∃ O' : Lab, Bs w A w' O' ∧ Rw 2 w' O' 3 (.slice (some ⟨g37, 0, none⟩) u30.length m32) s49.1 ∧ inI64 s49.2) _ () ⟨O39, hB, h41, (ckN_rng e46)⟩ ⟨rfl, rfl, trivial⟩ ?_
  rintro s49 x50 w53 cc55 ⟨O54, hB, h65, r67⟩ hf57 hret58 hbrk59
  refine ewp_seq (ewp_seq (ewp_region (o_mv rfl rfl (o_mv rfl rfl (o_ln rfl rfl ?_)))))
  have l69 : u30.length ≤ 9223372036854775807 := Nat.le_trans h65.len.2.1 h65.len.2.2
  have r68 : inI64 (u30.length : Int) := rngNat l69
  refine o_ltS rfl rfl rfl (fun c70 => ?_) fun c70 => ?_
  ·
   replace hf57 := ip hf57 c70
   refine o_z ?_
   refine ewp_true rfl (ewp_skip (ewp_block (ewp_drawX [(7, [2])] O54 ?_)))
   refine x_pre (fuel := 4) [] [(1, true), (2, true), (3, true), (4, true), (5, true), (6, true)] (by kernel_rfl) rfl ?_
   refine h_mv rfl rfl rfl (h_mv rfl rfl rfl ?_)
   obtain ⟨q74, e75, hf57⟩ := bs hf57
   obtain ⟨A71, c72, e73⟩ := cpyR_L h65 e75
   refine h_cutL (hc := e73) rfl rfl rfl rfl ?_
   refine h_mv rfl rfl rfl (h_mv rfl rfl rfl ?_)
   obtain ⟨A76, c77, e78⟩ := cpyR_H h65 e75
   refine h_cutH (hc := e78) rfl rfl rfl rfl ?_
   refine hwp_nilT ?_
   refine x_pre (fuel := 3) [2] [(0, true)] (by kernel_rfl) rfl ?_
   refine h_mv rfl rfl rfl (hwp_nilT ?_)
   refine x_one (i := 7) (by kernel_rfl) rfl ?_
   refine l_copyR h65 e75 e73 e78 rfl rfl rfl fun w79 S80 h65 => ?_
   have hZ := S80.lst [2] (fun _ h => by cases h; decide)
   refine x_go [] hZ (by kernel_rfl) ?_
   refine x_pre (fuel := 0) [] [(8, true), (9, true)] (by kernel_rfl) rfl ?_
   obtain ⟨n81, e82, hf57⟩ := bs hf57
   have r83 := (chkI_rng e82)
   refine h_adE (he := e82) rfl rfl rfl rfl ?_
   refine h_as rfl rfl rfl (hwp_nilT ?_)
   refine x_nil (by kernel_rfl) ?_
   obtain rfl := sm hf57
   replace hB := hB.st S80
   exact show Exists _ from ⟨_, (), rfl, ⟨rfl, rfl, trivial⟩, _, hB, h65, r83⟩
  replace hf57 := im hf57 c70
  refine o_z ?_
  refine ewp_false rfl (ewp_exit ?_)
  obtain rfl := sm hf57
  exact show Exists _ from ⟨_, (), hbrk59 _ rfl, ⟨rfl, trivial⟩, _, hB, h65, r67⟩
 replace hB := (hB.st S40).st S44
 rintro l84 w85 ⟨s88, x89, rfl, hs87, O86, hB, h65, r67⟩
 replace hm := fin_done hm
 refine ewp_sub _ hs87 ?_
 refine ewp_seq (ewp_region (o_mv rfl rfl (o_as rfl rfl (o_z ?_))))
 refine ewp_ret ?_
 obtain rfl := sm hm
 exact ret1v rfl (res_tmp rfl) ⟨hB.ext, (h65.out hB (by decide))⟩
def m_slices_Clone_Lapi_Op_api_Op (xs : List Opr) : Option (List Opr) := if xs.length * 72 ≤ 140737488355328 ∧ xs.length ≤ 9223372036854775807 then some xs else none
theorem c_slices_Clone_Lapi_Op_api_Op {w : World} {A : Nat → Prop} (hA : ∀ k, A k → k < w.heap.size) {v0 : Value} {x0 : List Opr} (h0 : Vb w A v0 x0) {r : List Opr} (hm : m_slices_Clone_Lapi_Op_api_Op x0 = some r) :
    Fn Tryz.prog 60 [v0] w fun v w' => Ext w w' ∧ RowR w w' (upA A w w') 35 v r := by
  obtain ⟨⟨hl, hl2⟩, rfl⟩ := ite_some hm
  obtain ⟨O, hB, hA0⟩ := enter hA
  replace h0 := h0.mono hA0
  obtain ⟨Ad, c, rfl⟩ := h0.form
  refine fn_enter Tryz.func60 rfl Tryz.ntmps60 rfl ?_
  cases Ad with
  | none =>
    have hx : x0 = [] := by
      cases x0 with
      | nil => rfl
      | cons x xs => obtain ⟨_, _, _, h, _⟩ := h0.elem (k := 0) (x := x) rfl; cases h
    subst hx
    ((repeat (first | refine e_go ?_ | refine ewp_true rfl ?_ | refine ewp_false rfl ?_)) <;> (refine o_as rfl rfl ?_ <;> (refine o_z ?_)) <;> (repeat (first | refine e_go ?_ | refine ewp_true rfl ?_ | refine ewp_false rfl ?_)) <;> (refine o_mv rfl rfl ?_ <;> refine o_sn rfl rfl ?_ <;> (refine o_z ?_)) <;> (repeat (first | refine e_go ?_ | refine ewp_true rfl ?_ | refine ewp_false rfl ?_)) <;> (refine o_as rfl rfl ?_ <;> (refine o_z ?_)) <;> (repeat (first | refine e_go ?_ | refine ewp_true rfl ?_ | refine ewp_false rfl ?_)))
    exact ret1 rfl rfl ⟨Below.refl _ _, RowR.nil⟩
  | some ad =>
    ((repeat (first | refine e_go ?_ | refine ewp_true rfl ?_ | refine ewp_false rfl ?_)) <;> (refine o_as rfl rfl ?_ <;> (refine o_z ?_)) <;> (repeat (first | refine e_go ?_ | refine ewp_true rfl ?_ | refine ewp_false rfl ?_)) <;> (refine o_mv rfl rfl ?_ <;> refine o_sn rfl rfl ?_ <;> (refine o_z ?_)) <;> (repeat (first | refine e_go ?_ | refine ewp_true rfl ?_ | refine ewp_false rfl ?_)))
    refine l_bslice 2 (by decide) O (xs := ([] : List Opr)) rfl rfl rfl rfl trivial (by decide) (by decide) rfl fun g w1 O1 S1 h1 => ?_
    replace hB := hB.st S1 (fun h => h) (fun h => h)
    replace h0 := h0.st S1 (fun h => h)
    (refine o_mv rfl rfl ?_)
    refine l_append rfl h1 h0.rd rfl rfl (by decide) (by simpa using hl) (by simpa using hl2) rfl fun A2 c2 w2 O2 S2 h2 => ?_
    replace hB := hB.st S2 (by decide) (by decide)
    rw [List.nil_append] at h2 ⊢
    (refine o_as rfl rfl ?_ <;> (refine o_z ?_))
    repeat (first | refine e_go ?_ | refine ewp_true rfl ?_ | refine ewp_false rfl ?_)
    exact ret1 rfl rfl ⟨hB.ext, h2.out hB (by decide)⟩
/-- The merges of slices.SortStableFunc: not called for less than twenty elements. -/
noncomputable def m_slices_symMergeCmpFunc_api_Op__symmetry_finder_roles_l1 (_ : List Opr) (_ _ _ : Int) : Option (List Opr) := none
theorem c_slices_symMergeCmpFunc_api_Op__symmetry_finder_roles_l1 {w : World} {O : Lab} {A0 : Option Addr} {m0 c0 i0 : Nat} {x0 : List Opr} (_ : Rw i0 w O 35 (.slice A0 m0 c0) x0) {x1 : Int} (_ : inI64 x1) {x2 : Int} (_ : inI64 x2) {x3 : Int} (_ : inI64 x3) {r : List Opr} (hm : m_slices_symMergeCmpFunc_api_Op__symmetry_finder_roles_l1 x0 x1 x2 x3 = some r) :
    Fn Tryz.prog 89 [(.slice A0 m0 c0), (.int .i64 x1), (.int .i64 x2), (.int .i64 x3), (.func (.func 62) #[] #[])] w fun _ w' => ∃ O', St (eT i0) w O w' O' ∧ Rw i0 w' O' 35 (.slice A0 m0 c0) r := nomatch hm
noncomputable def m_cmp_isNaN_int (x0 : Int) : Option Bool :=
  bnd (if x0 ≠ x0 then (some true) else (some false) : Option Bool) fun y2 => some y2
theorem c_cmp_isNaN_int {w : World} {A : Nat → Prop} (hA : ∀ k, A k → k < w.heap.size) {x0 : Int} (rx0 : inI64 x0) {r : Bool} (hm : m_cmp_isNaN_int x0 = some r) :
    Fn Tryz.prog 80 [(.int .i64 x0)] w fun v w' => Ext w w' ∧ Vb w' (upA A w w') v r := by
 obtain ⟨O, hB, hA0⟩ := enter hA
 refine fn_enter Tryz.func80 rfl Tryz.ntmps80 rfl ?_
 unfold m_cmp_isNaN_int at hm
 refine ewp_seq (ewp_region (o_as rfl rfl (o_z ?_)))
 refine ewp_seq ?_
 obtain ⟨y2, hy3, hm⟩ := bs hm
 refine ewp_join (fun l' w' => ∃ (x5 : Unit) (O' : Lab), subs l' [(2, (.bool y2))] ∧ Bs w A w' O') ?_ ?_
 ·
  refine ewp_region (o_mv rfl rfl (o_mv rfl rfl (o_neS rfl rfl rfl (fun c6 => ?_) fun c6 => ?_)))
  ·
   replace hy3 := ip hy3 c6
   refine o_as rfl rfl (o_z ?_)
   obtain rfl := sm hy3
   exact ⟨(), _, ⟨rfl, trivial⟩, hB⟩
  replace hy3 := im hy3 c6
  refine o_as rfl rfl (o_z ?_)
  obtain rfl := sm hy3
  exact ⟨(), _, ⟨rfl, trivial⟩, hB⟩
 rintro l7 w8 ⟨x5, O9, hs10, hB⟩
 refine ewp_sub _ hs10 ?_
 refine ewp_ret ?_
 obtain rfl := sm hm
 exact ret1v rfl (res_tmp rfl) ⟨hB.ext, vBool⟩
noncomputable def m_cmp_Compare_int (x0 : Int) (x1 : Int) : Option Int :=
  bnd (bnd (m_cmp_isNaN_int x0) fun q7 => if q7 = true then some true else some false : Option Bool) fun y3 => bnd (bnd (m_cmp_isNaN_int x1) fun q22 => if q22 = true then some true else some false : Option Bool) fun y18 => if y3 = true then (if y18 = true then (some 0) else (some (-1))) else (if y18 = true then (some 1) else (if x0 < x1 then (some (-1)) else (if x1 < x0 then (some 1) else (some 0))))
theorem c_cmp_Compare_int {w : World} {A : Nat → Prop} (hA : ∀ k, A k → k < w.heap.size) {x0 : Int} (rx0 : inI64 x0) {x1 : Int} (rx1 : inI64 x1) {r : Int} (hm : m_cmp_Compare_int x0 x1 = some r) :
    Fn Tryz.prog 64 [(.int .i64 x0), (.int .i64 x1)] w fun v w' => Ext w w' ∧ Vb w' (upA A w w') v r := by
 obtain ⟨O, hB, hA0⟩ := enter hA
 refine fn_enter Tryz.func64 rfl Tryz.ntmps64 rfl ?_
 unfold m_cmp_Compare_int at hm
 refine ewp_seq (ewp_region (o_as rfl rfl (o_z ?_)))
 refine ewp_seq ?_
 obtain ⟨y3, hy4, hm⟩ := bs hm
 refine ewp_join (fun l' w' => ∃ (x6 : Unit) (O' : Lab), subs l' [(0, (.int .i64 x0)), (1, (.int .i64 x1)), (5, (.bool y3))] ∧ Bs w A w' O') ?_ ?_
 ·
  refine ewp_region (o_mv rfl rfl ?_)
  obtain ⟨q7, e8, hy4⟩ := bs hy4
  refine l_callA (O := O) (A := All w) (R := fun w' F v => Vb w' F v q7) (c_cmp_isNaN_int (fun _ h => h) rx0 e8) rfl rfl fun v13 w9 O10 S11 h12 => ?_
  obtain rfl := h12.bool
  cases q7
  case false =>
   replace hy4 := iF hy4
   refine o_as rfl rfl (o_z ?_)
   obtain rfl := sm hy4
   replace hB := hB.st S11
   exact ⟨(), _, ⟨rfl, rfl, rfl, trivial⟩, hB⟩
  replace hy4 := iT hy4
  refine o_as rfl rfl (o_z ?_)
  obtain rfl := sm hy4
  replace hB := hB.st S11
  exact ⟨(), _, ⟨rfl, rfl, rfl, trivial⟩, hB⟩
 rintro l14 w15 ⟨x6, O16, hs17, hB⟩
 refine ewp_sub _ hs17 ?_
 refine ewp_seq ?_
 obtain ⟨y18, hy19, hm⟩ := bs hm
 refine ewp_join (fun l' w' => ∃ (x21 : Unit) (O' : Lab), subs l' [(0, (.int .i64 x0)), (1, (.int .i64 x1)), (5, (.bool y3)), (6, (.bool y18))] ∧ Bs w A w' O') ?_ ?_
 ·
  refine ewp_region (o_mv rfl rfl ?_)
  obtain ⟨q22, e23, hy19⟩ := bs hy19
  refine l_callA (O := O16) (A := All w15) (R := fun w' F v => Vb w' F v q22) (c_cmp_isNaN_int (fun _ h => h) rx1 e23) rfl rfl fun v28 w24 O25 S26 h27 => ?_
  obtain rfl := h27.bool
  cases q22
  case false =>
   replace hy19 := iF hy19
   refine o_as rfl rfl (o_z ?_)
   obtain rfl := sm hy19
   replace hB := hB.st S26
   exact ⟨(), _, ⟨rfl, rfl, rfl, rfl, trivial⟩, hB⟩
  replace hy19 := iT hy19
  refine o_as rfl rfl (o_z ?_)
  obtain rfl := sm hy19
  replace hB := hB.st S26
  exact ⟨(), _, ⟨rfl, rfl, rfl, rfl, trivial⟩, hB⟩
 rintro l29 w30 ⟨x21, O31, hs32, hB⟩
 refine ewp_sub _ hs32 ?_
 refine ewp_seq (ewp_seq (ewp_region (o_mv rfl rfl (o_z ?_))))
 refine ewp_cond rfl (fun c33 => ?_) (fun c33 => ?_)
 ·
  replace hm := ip hm c33
  refine ewp_seq (ewp_seq (ewp_region (o_mv rfl rfl (o_z ?_))))
  refine ewp_cond rfl (fun c34 => ?_) (fun c34 => ?_)
  ·
   replace hm := ip hm c34
   refine ewp_seq (ewp_region (o_as rfl rfl (o_z ?_)))
   refine ewp_ret ?_
   obtain rfl := sm hm
   exact ret1v rfl (res_tmp rfl) ⟨hB.ext, (vInt (show inI64 (0) from by decide))⟩
  replace hm := im' hm c34
  refine ewp_skip (ewp_seq (ewp_region (o_as rfl rfl (o_z ?_))))
  refine ewp_ret ?_
  obtain rfl := sm hm
  exact ret1v rfl (res_tmp rfl) ⟨hB.ext, (vInt (show inI64 (-1) from by decide))⟩
 replace hm := im' hm c33
 refine ewp_skip (ewp_seq (ewp_seq (ewp_region (o_mv rfl rfl (o_z ?_)))))
 refine ewp_cond rfl (fun c35 => ?_) (fun c35 => ?_)
 ·
  replace hm := ip hm c35
  refine ewp_seq (ewp_region (o_as rfl rfl (o_z ?_)))
  refine ewp_ret ?_
  obtain rfl := sm hm
  exact ret1v rfl (res_tmp rfl) ⟨hB.ext, (vInt (show inI64 (1) from by decide))⟩
 replace hm := im' hm c35
 refine ewp_skip (ewp_seq (ewp_seq (ewp_region (o_mv rfl rfl (o_mv rfl rfl (o_ltS rfl rfl rfl (fun c36 => ?_) fun c36 => ?_))))))
 ·
  replace hm := ip hm c36
  refine o_z ?_
  refine ewp_true rfl (ewp_seq (ewp_region (o_as rfl rfl (o_z ?_))))
  refine ewp_ret ?_
  obtain rfl := sm hm
  exact ret1v rfl (res_tmp rfl) ⟨hB.ext, (vInt (show inI64 (-1) from by decide))⟩
 replace hm := im hm c36
 refine o_z ?_
 refine ewp_false rfl (ewp_skip (ewp_seq (ewp_seq (ewp_region (o_mv rfl rfl (o_mv rfl rfl (o_gtS rfl rfl rfl (fun c37 => ?_) fun c37 => ?_)))))))
 ·
  replace hm := ip hm c37
  refine o_z ?_
  refine ewp_true rfl (ewp_seq (ewp_region (o_as rfl rfl (o_z ?_))))
  refine ewp_ret ?_
  obtain rfl := sm hm
  exact ret1v rfl (res_tmp rfl) ⟨hB.ext, (vInt (show inI64 (1) from by decide))⟩
 replace hm := im hm c37
 refine o_z ?_
 refine ewp_false rfl (ewp_skip (ewp_seq (ewp_region (o_as rfl rfl (o_z ?_)))))
 refine ewp_ret ?_
 obtain rfl := sm hm
 exact ret1v rfl (res_tmp rfl) ⟨hB.ext, (vInt (show inI64 (0) from by decide))⟩
noncomputable def m_cmp_Or_int (x0 : List Int) : Option Int :=
  bnd (rng (ρ := Int) (fun (k10 : Nat) (a11 : Int) (s8 : Unit) => if a11 ≠ 0 then (some (.ret a11)) else (some (.next ()))) x0 0 ()) fun res6 => fin res6 fun (s34 : Unit) => some 0
theorem c_cmp_Or_int {w : World} {A : Nat → Prop} (hA : ∀ k, A k → k < w.heap.size) {vx0 : Value} {x0 : List Int} (hx0 : Vb w A vx0 x0) {r : Int} (hm : m_cmp_Or_int x0 = some r) :
    Fn Tryz.prog 63 [vx0] w fun v w' => Ext w w' ∧ Vb w' (upA A w w') v r := by
 obtain ⟨O, hB, hA0⟩ := enter hA
 replace hx0 := hx0.mono hA0
 obtain ⟨A2, c3, rfl⟩ := hx0.form
 refine fn_enter Tryz.func63 rfl Tryz.ntmps63 rfl ?_
 unfold m_cmp_Or_int at hm
 refine ewp_seq (ewp_region (o_as rfl rfl (o_z ?_)))
 refine ewp_seq (ewp_region (o_as rfl rfl (o_z ?_)))
 refine ewp_seq (ewp_seq (ewp_region (o_mv rfl rfl (o_ln rfl rfl ?_))))
 have l5 : x0.length ≤ 9223372036854775807 := Nat.le_trans hx0.len.2.1 hx0.len.2.2
 have r4 : inI64 (x0.length : Int) := rngNat l5
 refine o_mv rfl rfl (o_z ?_)
 obtain ⟨res6, hL7, hm⟩ := bs hm
 refine ewp_join (aft res6 (fun (s8 : Unit) (x9 : Unit) => [(3, (.int .i64 0))]) (fun s8 x9 w' => ∃ O' : Lab, Bs w A w' O')) ?_ ?_
 ·
  refine ewp_block (ewp_rng (σ := Unit) (X := Unit) (x0.length) hL7 rfl l5 (fun (s8 : Unit) (x9 : Unit) => [(3, (.int .i64 0)), (6, (.slice A2 x0.length c3))]) _ (fun s8 x9 w' => ∃ O' : Lab, Bs w A w' O' ∧ Vb w' (Fr 0 w' O') (.slice A2 x0.length c3) x0) _ () ⟨O, hB, hx0⟩ ⟨rfl, rfl, rfl, rfl, trivial⟩ (fun _ _ => ⟨rfl, rfl⟩) (fun _ _ => ⟨rfl, trivial⟩) (fun _ _ _ ⟨O', hB, hx0⟩ => ⟨O', hB⟩) ⟨rfl, rfl, rfl⟩ ⟨rfl, rfl⟩ ?_)
  rintro k10 a11 s8 x9 w12 cc14 hx15 ⟨O13, hB, hx0⟩ hf16 hret17 hbrk18
  have rk10 : inI64 (k10 : Int) := rngK hx15 l5
  refine ewp_seq (ewp_region ?_)
  obtain ⟨b21, o22, ce23, hA24, hl25, hd26, rfl, r28⟩ := hx0.elem' hx15
  refine o_iaE (hA := hA24) (hj := rfl) (hlt := hl25) rfl rfl rfl ?_
  refine o_ld (hc := cat0 hd26) rfl rfl ?_
  refine o_as rfl rfl (o_z ?_)
  refine ewp_seq (ewp_region (o_mv rfl rfl (o_mv rfl rfl (o_neS rfl rfl rfl (fun c29 => ?_) fun c29 => ?_))))
  ·
   replace hf16 := ip hf16 c29
   refine o_z ?_
   refine ewp_true rfl (ewp_seq (ewp_region (o_mv rfl rfl (o_as rfl rfl (o_z ?_)))))
   refine ewp_ret ?_
   obtain rfl := sm hf16
   obtain rfl := hret17 _ rfl
   obtain rfl := sm (fin_ret hm)
   exact ret1v rfl (res_tmp rfl) ⟨hB.ext, (vInt r28)⟩
  replace hf16 := im hf16 c29
  refine o_z ?_
  refine ewp_false rfl (ewp_skip ?_)
  obtain rfl := sm hf16
  exact show Exists _ from ⟨_, (), rfl, ⟨rfl, rfl, rfl, rfl, trivial⟩, _, hB, hx0⟩
 rintro l30 w31 ⟨s34, x35, rfl, hs33, O32, hB⟩
 replace hm := fin_done hm
 refine ewp_sub _ hs33 ?_
 refine ewp_seq (ewp_region (o_mv rfl rfl (o_as rfl rfl (o_z ?_))))
 refine ewp_ret ?_
 obtain rfl := sm hm
 exact ret1v rfl (res_tmp rfl) ⟨hB.ext, (vInt (show inI64 (0) from by decide))⟩
noncomputable def m_symmetry_finder_roles_l1 (x0 : Opr) (x1 : Opr) : Option Int :=
  bnd (m_cmp_Compare_int x0.cost x1.cost) fun q43 => bnd (m_cmp_Compare_int (x0.pre.length : Int) (x1.pre.length : Int)) fun q51 => bnd (m_cmp_Compare_int (x0.effs.length : Int) (x1.effs.length : Int)) fun q59 => bnd (m_cmp_Or_int ([q43, q51, q59] : List Int)) fun q73 => some q73
theorem c_symmetry_finder_roles_l1 {w : World} {A : Nat → Prop} (hA : ∀ k, A k → k < w.heap.size) {vx0 : Value} {x0 : Opr} (hx0 : Vb w A vx0 x0) {vx1 : Value} {x1 : Opr} (hx1 : Vb w A vx1 x1) {r : Int} (hm : m_symmetry_finder_roles_l1 x0 x1 = some r) :
    Fn Tryz.prog 62 [vx0, vx1] w fun v w' => Ext w w' ∧ Vb w' (upA A w w') v r := by
 obtain ⟨O, hB, hA0⟩ := enter hA
 replace hx0 := hx0.mono hA0
 obtain ⟨cs3, rfl, v4, v5, rfl, h6, h9, r12, z13⟩ := hx0
 obtain ⟨A7, c8, rfl⟩ := h6.form
 obtain ⟨A10, c11, rfl⟩ := h9.form
 replace hx1 := hx1.mono hA0
 obtain ⟨cs14, rfl, v15, v16, rfl, h17, h20, r23, z24⟩ := hx1
 obtain ⟨A18, c19, rfl⟩ := h17.form
 obtain ⟨A21, c22, rfl⟩ := h20.form
 refine fn_enter Tryz.func62 rfl Tryz.ntmps62 rfl ?_
 unfold m_symmetry_finder_roles_l1 at hm
 refine ewp_seq (ewp_region (l_box 2 O rfl rfl fun g25 w26 O27 S28 h29 => ?_))
 replace h29 : Lc 2 w26 O27 g25 35 [(.string x0.name), (.int .i64 x0.cost), (.slice A7 x0.pre.length c8), (.slice A10 x0.effs.length c11)] := h29
 refine l_box 3 O27 rfl rfl fun g30 w31 O32 S33 h34 => ?_
 replace h34 : Lc 3 w31 O32 g30 35 [(.string x1.name), (.int .i64 x1.cost), (.slice A18 x1.pre.length c19), (.slice A21 x1.effs.length c22)] := h34
 refine o_as rfl rfl (o_z ?_)
 refine ewp_seq (ewp_drawX [] O32 ?_)
 refine x_pre (fuel := 6) [] [(0, true), (1, true), (2, true), (3, true), (5, true), (6, true), (7, true), (8, true), (9, true), (10, true), (12, true), (13, true), (14, true), (15, true), (16, true), (17, true)] (by kernel_rfl) rfl ?_
 refine h_fa rfl rfl rfl ?_
 replace h29 := h29.st S33
 refine h_ldC (hc := fun w' ⟨O', hq⟩ => Blk.cell (i := 1) ((h29.st hq (by decide)).1) rfl) rfl rfl rfl ?_
 refine h_fa rfl rfl rfl (h_ldC (hc := fun w' ⟨O', hq⟩ => Blk.cell (i := 1) ((h34.st hq (by decide)).1) rfl) rfl rfl rfl ?_)
 refine h_fa rfl rfl rfl (h_ldC (hc := fun w' ⟨O', hq⟩ => Blk.cell (i := 2) ((h29.st hq (by decide)).1) rfl) rfl rfl rfl ?_)
 refine h_ln rfl rfl rfl ?_
 replace h6 := (h6.st S28).st S33
 have l36 : x0.pre.length ≤ 9223372036854775807 := Nat.le_trans h6.len.2.1 h6.len.2.2
 have r35 : inI64 (x0.pre.length : Int) := rngNat l36
 refine h_fa rfl rfl rfl (h_ldC (hc := fun w' ⟨O', hq⟩ => Blk.cell (i := 2) ((h34.st hq (by decide)).1) rfl) rfl rfl rfl ?_)
 refine h_ln rfl rfl rfl ?_
 replace h17 := (h17.st S28).st S33
 have l38 : x1.pre.length ≤ 9223372036854775807 := Nat.le_trans h17.len.2.1 h17.len.2.2
 have r37 : inI64 (x1.pre.length : Int) := rngNat l38
 refine h_fa rfl rfl rfl (h_ldC (hc := fun w' ⟨O', hq⟩ => Blk.cell (i := 3) ((h29.st hq (by decide)).1) rfl) rfl rfl rfl ?_)
 refine h_ln rfl rfl rfl ?_
 replace h9 := (h9.st S28).st S33
 have l40 : x0.effs.length ≤ 9223372036854775807 := Nat.le_trans h9.len.2.1 h9.len.2.2
 have r39 : inI64 (x0.effs.length : Int) := rngNat l40
 refine h_fa rfl rfl rfl (h_ldC (hc := fun w' ⟨O', hq⟩ => Blk.cell (i := 3) ((h34.st hq (by decide)).1) rfl) rfl rfl rfl ?_)
 refine h_ln rfl rfl rfl ?_
 replace h20 := (h20.st S28).st S33
 have l42 : x1.effs.length ≤ 9223372036854775807 := Nat.le_trans h20.len.2.1 h20.len.2.2
 have r41 : inI64 (x1.effs.length : Int) := rngNat l42
 refine hwp_nilT ?_
 refine x_one (i := 4) (by kernel_rfl) rfl ?_
 obtain ⟨q43, e44, hm⟩ := bs hm
 refine l_callA (O := O32) (A := All w31) (R := fun w' F v => Vb w' F v q43) (c_cmp_Compare_int (fun _ h => h) r12 r23 e44) rfl rfl fun v49 w45 O46 S47 h48 => ?_
 obtain ⟨rfl, r50⟩ := h48.int
 have hZ := S47.lst [] (fun _ h => h.elim)
 refine x_go [] hZ (by kernel_rfl) ?_
 refine x_one (i := 11) (by kernel_rfl) rfl ?_
 obtain ⟨q51, e52, hm⟩ := bs hm
 refine l_callA (O := O46) (A := All w45) (R := fun w' F v => Vb w' F v q51) (c_cmp_Compare_int (fun _ h => h) r35 r37 e52) rfl rfl fun v57 w53 O54 S55 h56 => ?_
 obtain ⟨rfl, r58⟩ := h56.int
 have hZ := S55.lst [] (fun _ h => h.elim)
 refine x_go [] hZ (by kernel_rfl) ?_
 refine x_one (i := 18) (by kernel_rfl) rfl ?_
 obtain ⟨q59, e60, hm⟩ := bs hm
 refine l_callA (O := O54) (A := All w53) (R := fun w' F v => Vb w' F v q59) (c_cmp_Compare_int (fun _ h => h) r39 r41 e60) rfl rfl fun v65 w61 O62 S63 h64 => ?_
 obtain ⟨rfl, r66⟩ := h64.int
 have hZ := S63.lst [] (fun _ h => h.elim)
 refine x_go [] hZ (by kernel_rfl) ?_
 refine x_one (i := 19) (by kernel_rfl) rfl ?_
 refine l_bslice 4 (by decide) O62 (xs := (([q43, q51, q59] : List Int) : List Int)) rfl rfl rfl rfl ⟨(vInt r50), (vInt r58), (vInt r66), trivial⟩ (by decide) (by decide) rfl fun g67 w68 O69 S70 h71 => ?_
 have hZ := S70.lst [] (fun _ h => h.elim)
 refine x_go [] hZ (by kernel_rfl) ?_
 refine x_one (i := 20) (by kernel_rfl) rfl ?_
 obtain ⟨q73, e74, hm⟩ := bs hm
 refine l_callA (O := O69) (A := All w68) (R := fun w' F v => Vb w' F v q73) (c_cmp_Or_int (fun _ h => h) (h71).all e74) rfl rfl fun v79 w75 O76 S77 h78 => ?_
 obtain ⟨rfl, r80⟩ := h78.int
 have hZ := S77.lst [] (fun _ h => h.elim)
 refine x_go [] hZ (by kernel_rfl) ?_
 refine x_pre (fuel := 0) [] [(21, true)] (by kernel_rfl) rfl ?_
 refine h_as rfl rfl rfl (hwp_nilT ?_)
 refine x_nil (by kernel_rfl) ?_
 refine ewp_ret ?_
 obtain rfl := sm hm
 replace hB := ((((((hB.st S28).st S33).st S47).st S55).st S63).st S70).st S77
 exact ret1v rfl (res_tmp rfl) ⟨hB.ext, (vInt r80)⟩
noncomputable def m_slices_insertionSortCmpFunc_api_Op__symmetry_finder_roles_l1 (x0 : List Opr) (x1 : Int) (x2 : Int) : Option (List Opr) :=
  bnd (chkI (x1 + 1)) fun n5 => bnd (lop (ρ := (List Opr)) (fun (s10 : (List Opr) × Int) => if s10.2 < x2 then (bnd (lop (ρ := Ctl ((List Opr) × Int) (List Opr)) (fun (s32 : (List Opr) × Int) => bnd (if x1 < s32.2 then (bnd (atI s32.1 s32.2) fun a56 => bnd (chkI (s32.2 - 1)) fun n77 => bnd (atI s32.1 n77) fun a80 => bnd (m_symmetry_finder_roles_l1 a56 a80) fun q101 => if q101 < 0 then (some true) else (some false)) else (some false) : Option Bool) fun y51 => if y51 = true then (bnd (chkI (s32.2 - 1)) fun n115 => bnd (atI s32.1 n115) fun a118 => bnd (atI s32.1 s32.2) fun a139 => bnd (atI s32.1 s32.2) fun a160 => bnd (chkI (s32.2 - 1)) fun n181 => bnd (atI (s32.1.set (s32.2 : Int).toNat a118) n181) fun a186 => bnd (chkI (s32.2 - 1)) fun n209 => some (.next (((s32.1.set (s32.2 : Int).toNat a118).set (n181 : Int).toNat a139), n209))) else (some (.brk (s32.1, s32.2)))) (s10.1, s10.2)) fun res30 => fin res30 fun (s216 : (List Opr) × Int) => bnd (chkI (s10.2 + 1)) fun n218 => some (.next (s216.1, n218))) else (some (.brk (s10.1, s10.2)))) (x0, n5)) fun res8 => fin res8 fun (s225 : (List Opr) × Int) => some s225.1
theorem c_slices_insertionSortCmpFunc_api_Op__symmetry_finder_roles_l1 {w : World} {O : Lab} {A0 : Option Addr} {m0 c0 i0 : Nat} {x0 : List Opr} (hx0 : Rw i0 w O 35 (.slice A0 m0 c0) x0) {x1 : Int} (rx1 : inI64 x1) {x2 : Int} (rx2 : inI64 x2) {r : (List Opr)} (hm : m_slices_insertionSortCmpFunc_api_Op__symmetry_finder_roles_l1 x0 x1 x2 = some r) :
    Fn Tryz.prog 88 [(.slice A0 m0 c0), (.int .i64 x1), (.int .i64 x2), (.func (.func 62) #[] #[])] w fun v w' => ∃ O', St (eT i0) w O w' O' ∧ Rw i0 w' O' 35 (.slice A0 m0 c0) r := by
 obtain ⟨O0, hE, hz0, hl2⟩ := ent1 (w := w) (O := O) hx0.2.2
 obtain rfl : m0 = x0.length := hx0.len.1
 have hx0' := Rw.leave hx0 hz0 hl2 (j := 2) (by decide)
 have hB : Bm w O0 w O0 := Bm.refl
 refine fn_enter Tryz.func88 rfl Tryz.ntmps88 rfl ?_
 unfold m_slices_insertionSortCmpFunc_api_Op__symmetry_finder_roles_l1 at hm
 refine ewp_seq (ewp_region (o_mv rfl rfl ?_))
 obtain ⟨n5, e6, hm⟩ := bs hm
 have r7 := (chkI_rng e6)
 refine o_adE (he := e6) rfl rfl rfl ?_
 refine o_as rfl rfl (o_z ?_)
 obtain ⟨res8, hL9, hm⟩ := bs hm
 refine ewp_join (aft res8 (fun (s10 : (List Opr) × Int) (x11 : Unit) => [(0, (.slice A0 x0.length c0))]) (fun s10 x11 w' => ∃ O' : Lab, Bm w O0 w' O' ∧ Rw 2 w' O' 35 (.slice A0 x0.length c0) s10.1 ∧ inI64 s10.2)) ?_ ?_
 ·
  refine ewp_block (ewp_lop (σ := (List Opr) × Int) (X := Unit) hL9 (fun (s10 : (List Opr) × Int) (x11 : Unit) => [(0, (.slice A0 x0.length c0)), (1, (.int .i64 x1)), (2, (.int .i64 x2)), (3, (.func (.func 62) #[] #[])), (8, (.int .i64 s10.2))]) _ (fun s10 x11 w' => ∃ O' : Lab, Bm w O0 w' O' ∧ Rw 2 w' O' 35 (.slice A0 x0.length c0) s10.1 ∧ inI64 s10.2) _ () ⟨O0, hB, hx0', r7⟩ ⟨rfl, rfl, rfl, rfl, rfl, trivial⟩ ?_)
  rintro s10 x11 w14 cc16 ⟨O15, hB, h26, r28⟩ hf18 hret19 hbrk20
  refine ewp_seq (ewp_seq (ewp_region (o_mv rfl rfl (o_mv rfl rfl (o_ltS rfl rfl rfl (fun c29 => ?_) fun c29 => ?_)))))
  ·
   replace hf18 := ip hf18 c29
   refine o_z ?_
   refine ewp_true rfl (ewp_skip (ewp_seq (ewp_block (ewp_seq (ewp_region (o_mv rfl rfl (o_as rfl rfl (o_z ?_))))))))
   obtain ⟨res30, hL31, hf18⟩ := bs hf18
   refine ewp_join (aft res30 (fun (s32 : (List Opr) × Int) (x33 : Unit) => [(0, (.slice A0 x0.length c0)), (1, (.int .i64 x1)), (2, (.int .i64 x2)), (3, (.func (.func 62) #[] #[])), (8, (.int .i64 s10.2))]) (fun s32 x33 w' => ∃ O' : Lab, Bm w O0 w' O' ∧ Rw 2 w' O' 35 (.slice A0 x0.length c0) s32.1 ∧ inI64 s32.2)) ?_ ?_
   ·
    refine ewp_block (ewp_lop (σ := (List Opr) × Int) (X := Unit) hL31 (fun (s32 : (List Opr) × Int) (x33 : Unit) => [(0, (.slice A0 x0.length c0)), (1, (.int .i64 x1)), (2, (.int .i64 x2)), (3, (.func (.func 62) #[] #[])), (8, (.int .i64 s10.2)), (9, (.int .i64 s32.2))]) _ (fun s32 x33 w' => ∃ O' : Lab, Bm w O0 w' O' ∧ Rw 2 w' O' 35 (.slice A0 x0.length c0) s32.1 ∧ inI64 s32.2) _ () ⟨O15, hB, h26, r28⟩ ⟨rfl, rfl, rfl, rfl, rfl, rfl, trivial⟩ ?_)
    rintro s32 x33 w36 cc38 ⟨O37, hB, h48, r50⟩ hf40 hret41 hbrk42
    refine ewp_seq (ewp_seq ?_)
    obtain ⟨y51, hy52, hf40⟩ := bs hf40
    refine ewp_join (fun l' w' => ∃ (x54 : Unit) (O' : Lab), subs l' [(0, (.slice A0 x0.length c0)), (1, (.int .i64 x1)), (2, (.int .i64 x2)), (3, (.func (.func 62) #[] #[])), (8, (.int .i64 s10.2)), (9, (.int .i64 s32.2)), (34, (.bool y51))] ∧ Bm w O0 w' O' ∧ Rw 2 w' O' 35 (.slice A0 x0.length c0) s32.1) ?_ ?_
    ·
     refine ewp_drawX [] O37 ?_
     refine x_pre (fuel := 3) [] [(0, true), (1, true), (2, true), (3, true), (4, true), (5, true), (6, true), (7, true), (8, true), (9, true), (10, true), (11, true), (12, true), (13, true)] (by kernel_rfl) rfl ?_
     refine h_mv rfl rfl rfl (h_mv rfl rfl rfl (h_gtS rfl rfl rfl rfl (fun c55 => ?_) fun c55 => ?_))
     ·
      replace hy52 := ip hy52 c55
      refine h_mv rfl rfl rfl (hwp_o rfl (hwq_yes rfl rfl (g_mv rfl rfl (hwp_o rfl (hwq_yes rfl rfl (g_mv rfl rfl (hwp_o rfl (hwq_yes rfl rfl (g_mv rfl rfl (hwp_o rfl (hwq_yes rfl rfl ?_)))))))))))
      obtain ⟨a56, e57, hy52⟩ := bs hy52
      obtain ⟨p59, x58⟩ := atI_some' e57
      obtain ⟨b60, o61, ce62, hA63, hF66, hl64, hd65, v67, v68, rfl, h69, h72, r75, z76⟩ := h48.elemF x58
      obtain ⟨A70, c71, rfl⟩ := h69.form
      obtain ⟨A73, c74, rfl⟩ := h72.form
      refine g_iaE (hA := hA63) (hj := (Int.toNat_of_nonneg p59).symm) (hlt := hl64) rfl rfl rfl ?_
      refine hwp_o rfl (hwq_yes rfl rfl (g_laB (hl := rfl) (hb := fun w' ⟨O', hq⟩ => (cellsAt_agree (hq.agree (i := 2) (by decide)) hF66 hd65)) rfl rfl ?_))
      refine hwp_o rfl (hwq_yes rfl rfl (g_mv rfl rfl (hwp_o rfl (hwq_yes rfl rfl (g_mv rfl rfl (hwp_o rfl (hwq_yes rfl rfl ?_)))))))
      obtain ⟨n77, e78, hy52⟩ := bs hy52
      have r79 := (chkI_rng e78)
      refine g_sbE (he := e78) rfl rfl rfl ?_
      refine hwp_o rfl (hwq_yes rfl rfl ?_)
      obtain ⟨a80, e81, hy52⟩ := bs hy52
      obtain ⟨p83, x82⟩ := atI_some' e81
      obtain ⟨b84, o85, ce86, hA87, hF90, hl88, hd89, v91, v92, rfl, h93, h96, r99, z100⟩ := h48.elemF x82
      obtain ⟨A94, c95, rfl⟩ := h93.form
      obtain ⟨A97, c98, rfl⟩ := h96.form
      refine g_iaE (hA := hA87) (hj := (Int.toNat_of_nonneg p83).symm) (hlt := hl88) rfl rfl rfl ?_
      refine hwp_o rfl (hwq_yes rfl rfl (g_laB (hl := rfl) (hb := fun w' ⟨O', hq⟩ => (cellsAt_agree (hq.agree (i := 2) (by decide)) hF90 hd89)) rfl rfl ?_))
      refine hwp_nilT ?_
      refine x_one (i := 14) (by kernel_rfl) rfl ?_
      refine owp_yes rfl rfl ?_
      obtain ⟨q101, e102, hy52⟩ := bs hy52
      refine l_callAv (O := O37) (A := All w36) (R := fun w' F v => Vb w' F v q101) (c_symmetry_finder_roles_l1 (fun _ h => h) (Vb.mono (F := Fr 0 w36 O37) (Vb.ofAgg (cs := [(.string a56.name), (.int .i64 a56.cost), (.slice A70 a56.pre.length c71), (.slice A73 a56.effs.length c74)]) (x := a56) rfl ⟨_, _, rfl, h69, h72, r75, z76⟩) Fr.lt) (Vb.mono (F := Fr 0 w36 O37) (Vb.ofAgg (cs := [(.string a80.name), (.int .i64 a80.cost), (.slice A94 a80.pre.length c95), (.slice A97 a80.effs.length c98)]) (x := a80) rfl ⟨_, _, rfl, h93, h96, r99, z100⟩) Fr.lt) e102) rfl rfl rfl fun v107 w103 O104 S105 h106 => ?_
      obtain ⟨rfl, r108⟩ := h106.int
      have hZ := S105.lst [] (fun _ h => h.elim)
      refine x_go [] hZ (by kernel_rfl) ?_
      refine x_pre (fuel := 0) [] [(15, true), (16, true)] (by kernel_rfl) rfl ?_
      refine hwp_o rfl (hwq_yes rfl rfl (hwq_split (fun _ _ => ev_lss rfl rfl) rfl (fun c109 => ?_) (fun c109 => ?_)))
      ·
       replace hy52 := ip hy52 c109
       refine h_pt rfl rfl rfl rfl (hwp_nilT ?_)
       refine x_nil (by kernel_rfl) ?_
       obtain rfl := sm hy52
       replace hB := hB.st S105
       replace h48 := h48.st S105
       exact ⟨(), _, ⟨rfl, rfl, rfl, rfl, rfl, rfl, rfl, trivial⟩, hB, h48⟩
      replace hy52 := im hy52 c109
      refine h_pt rfl rfl rfl rfl (hwp_nilT ?_)
      refine x_nil (by kernel_rfl) ?_
      obtain rfl := sm hy52
      replace hB := hB.st S105
      replace h48 := h48.st S105
      exact ⟨(), _, ⟨rfl, rfl, rfl, rfl, rfl, rfl, rfl, trivial⟩, hB, h48⟩
     replace hy52 := im hy52 c55
     refine h_mv rfl rfl rfl (h_no rfl rfl rfl rfl rfl (h_no rfl rfl rfl rfl rfl (h_no rfl rfl rfl rfl rfl (h_no rfl rfl rfl rfl rfl (h_no rfl rfl rfl rfl rfl (h_no rfl rfl rfl rfl rfl (h_no rfl rfl rfl rfl rfl (h_no rfl rfl rfl rfl rfl (h_no rfl rfl rfl rfl rfl (h_no rfl rfl rfl rfl rfl (hwp_nilT ?_)))))))))))
     refine x_one (i := 14) (by kernel_rfl) rfl ?_
     refine owp_no rfl rfl rfl rfl (x_go [] ((St.refl nT _ _).lst [] (fun _ h => h.elim)) (by kernel_rfl) ?_)
     refine x_pre (fuel := 0) [] [(15, true), (16, true)] (by kernel_rfl) rfl ?_
     refine h_no rfl rfl rfl rfl rfl (h_pf rfl rfl rfl rfl (hwp_nilT ?_))
     refine x_nil (by kernel_rfl) ?_
     obtain rfl := sm hy52
     exact ⟨(), _, ⟨rfl, rfl, rfl, rfl, rfl, rfl, rfl, trivial⟩, hB, h48⟩
    rintro l110 w111 ⟨x54, O112, hs113, hB, h48⟩
    refine ewp_sub _ hs113 ?_
    refine ewp_cond rfl (fun c114 => ?_) (fun c114 => ?_)
    ·
     replace hf40 := ip hf40 c114
     refine ewp_skip (ewp_seq (ewp_block (ewp_drawX [(15, [2])] O112 ?_)))
     refine x_pre (fuel := 6) [] [(0, true), (1, true), (5, true), (6, true), (7, true), (8, true), (9, true), (10, true), (11, true), (12, true), (13, true), (14, true)] (by kernel_rfl) rfl ?_
     refine h_mv rfl rfl rfl (h_mv rfl rfl rfl (h_mv rfl rfl rfl (h_mv rfl rfl rfl ?_)))
     obtain ⟨n115, e116, hf40⟩ := bs hf40
     have r117 := (chkI_rng e116)
     refine h_sbE (he := e116) rfl rfl rfl rfl ?_
     obtain ⟨a118, e119, hf40⟩ := bs hf40
     obtain ⟨p121, x120⟩ := atI_some' e119
     obtain ⟨b122, o123, ce124, hA125, hF128, hl126, hd127, v129, v130, rfl, h131, h134, r137, z138⟩ := h48.elemF x120
     obtain ⟨A132, c133, rfl⟩ := h131.form
     obtain ⟨A135, c136, rfl⟩ := h134.form
     refine h_iaE (hA := hA125) (hj := (Int.toNat_of_nonneg p121).symm) (hlt := hl126) rfl rfl rfl rfl ?_
     refine h_laB (hl := rfl) (hb := fun w' ⟨O', hq⟩ => (cellsAt_agree (hq.agree (i := 2) (by decide)) hF128 hd127)) rfl rfl rfl ?_
     refine h_mv rfl rfl rfl (h_mv rfl rfl rfl ?_)
     obtain ⟨a139, e140, hf40⟩ := bs hf40
     obtain ⟨p142, x141⟩ := atI_some' e140
     obtain ⟨b143, o144, ce145, hA146, hF149, hl147, hd148, v150, v151, rfl, h152, h155, r158, z159⟩ := h48.elemF x141
     obtain ⟨A153, c154, rfl⟩ := h152.form
     obtain ⟨A156, c157, rfl⟩ := h155.form
     refine h_iaE (hA := hA146) (hj := (Int.toNat_of_nonneg p142).symm) (hlt := hl147) rfl rfl rfl rfl ?_
     refine h_laB (hl := rfl) (hb := fun w' ⟨O', hq⟩ => (cellsAt_agree (hq.agree (i := 2) (by decide)) hF149 hd148)) rfl rfl rfl ?_
     obtain ⟨a160, e161, hf40⟩ := bs hf40
     obtain ⟨p163, x162⟩ := atI_some' e161
     obtain ⟨b164, o165, ce166, hA167, hF170, hl168, hd169, v171, v172, rfl, h173, h176, r179, z180⟩ := h48.elemF x162
     obtain ⟨A174, c175, rfl⟩ := h173.form
     obtain ⟨A177, c178, rfl⟩ := h176.form
     refine h_iaE (hA := hA167) (hj := (Int.toNat_of_nonneg p163).symm) (hlt := hl168) rfl rfl rfl rfl ?_
     refine hwp_nilT ?_
     refine x_pre (fuel := 3) [2] [(2, true), (3, true), (4, true)] (by kernel_rfl) rfl ?_
     refine h_mv rfl rfl rfl (h_mv rfl rfl rfl ?_)
     obtain ⟨n181, e182, hf40⟩ := bs hf40
     have r183 := (chkI_rng e182)
     refine h_sbE (he := e182) rfl rfl rfl rfl ?_
     refine hwp_nilT ?_
     refine x_one (i := 15) (by kernel_rfl) rfl ?_
     refine l_setE rfl h48 (a := a118) (Vb.ofAgg (cs := [(.string a118.name), (.int .i64 a118.cost), (.slice A132 a118.pre.length c133), (.slice A135 a118.effs.length c136)]) (x := a118) rfl ⟨_, _, rfl, h131, h134, r137, z138⟩) hA167 rfl rfl (lt_of_get x162) fun w184 S185 h48 => ?_
     have hZ := S185.lst [2] (fun _ h => by cases h; decide)
     refine x_go [] hZ (by kernel_rfl) ?_
     refine x_pre (fuel := 1) [] [(16, true)] (by kernel_rfl) rfl ?_
     obtain ⟨a186, e187, hf40⟩ := bs hf40
     obtain ⟨p189, x188⟩ := atI_some' e187
     obtain ⟨b190, o191, ce192, hA193, hF196, hl194, hd195, v197, v198, rfl, h199, h202, r205, z206⟩ := h48.elemF x188
     obtain ⟨A200, c201, rfl⟩ := h199.form
     obtain ⟨A203, c204, rfl⟩ := h202.form
     refine h_iaE (hA := hA193) (hj := (Int.toNat_of_nonneg p189).symm) (hlt := hl194) rfl rfl rfl rfl ?_
     refine hwp_nilT ?_
     refine x_one (i := 17) (by kernel_rfl) rfl ?_
     replace h152 := h152.st S185
     replace h155 := h155.st S185
     refine l_setE rfl h48 (a := a139) (Vb.ofAgg (cs := [(.string a139.name), (.int .i64 a139.cost), (.slice A153 a139.pre.length c154), (.slice A156 a139.effs.length c157)]) (x := a139) rfl ⟨_, _, rfl, h152, h155, r158, z159⟩) hA193 rfl rfl (lt_of_get x188) fun w207 S208 h48 => ?_
     refine x_end (by kernel_rfl) ?_
     refine x_nil (by kernel_rfl) ?_
     refine ewp_region (o_mv rfl rfl ?_)
     obtain ⟨n209, e210, hf40⟩ := bs hf40
     have r211 := (chkI_rng e210)
     refine o_sbE (he := e210) rfl rfl rfl ?_
     refine o_as rfl rfl (o_z ?_)
     obtain rfl := sm hf40
     replace hB := (hB.st S185).st S208
     exact show Exists _ from ⟨_, (), rfl, ⟨rfl, rfl, rfl, rfl, rfl, rfl, trivial⟩, _, hB, h48, r211⟩
    replace hf40 := im' hf40 c114
    refine ewp_exit ?_
    obtain rfl := sm hf40
    exact show Exists _ from ⟨_, (), hbrk42 _ rfl, ⟨rfl, rfl, rfl, rfl, rfl, trivial⟩, _, hB, h48, r50⟩
   rintro l212 w213 ⟨s216, x217, rfl, hs215, O214, hB, h48, r50⟩
   replace hf18 := fin_done hf18
   refine ewp_sub _ hs215 ?_
   refine ewp_region (o_mv rfl rfl ?_)
   obtain ⟨n218, e219, hf18⟩ := bs hf18
   have r220 := (chkI_rng e219)
   refine o_adE (he := e219) rfl rfl rfl ?_
   refine o_as rfl rfl (o_z ?_)
   obtain rfl := sm hf18
   exact show Exists _ from ⟨_, (), rfl, ⟨rfl, rfl, rfl, rfl, rfl, trivial⟩, _, hB, h48, r220⟩
  replace hf18 := im hf18 c29
  refine o_z ?_
  refine ewp_false rfl (ewp_exit ?_)
  obtain rfl := sm hf18
  exact show Exists _ from ⟨_, (), hbrk20 _ rfl, ⟨rfl, trivial⟩, _, hB, h26, r28⟩
 rintro l221 w222 ⟨s225, x226, rfl, hs224, O223, hB, h26, r28⟩
 replace hm := fin_done hm
 obtain rfl := sm hm
 obtain ⟨O', hS', hz, hl⟩ := hE.leave (fun q => if q = 2 then i0 else 0) rfl hB
 exact ret0n rfl  ⟨O', hS', (Rw.leave h26 hz (hl 2 (by decide) (by decide)) hx0.2.2)⟩
noncomputable def m_slices_stableCmpFunc_api_Op__symmetry_finder_roles_l1 (x0 : List Opr) (x1 : Int) : Option (List Opr) :=
  bnd (lop (ρ := (List Opr)) (fun (s6 : (List Opr) × Int × Int) => if s6.2.2 ≤ x1 then (bnd (m_slices_insertionSortCmpFunc_api_Op__symmetry_finder_roles_l1 s6.1 s6.2.1 s6.2.2) fun q28 => bnd (chkI (s6.2.2 + 20)) fun n36 => some (.next (q28, s6.2.2, n36))) else (some (.brk (s6.1, s6.2.1, s6.2.2)))) (x0, 0, 20)) fun res4 => fin res4 fun (s43 : (List Opr) × Int × Int) => bnd (m_slices_insertionSortCmpFunc_api_Op__symmetry_finder_roles_l1 s43.1 s43.2.1 x1) fun q45 => bnd (lop (ρ := (List Opr)) (fun (s55 : (List Opr) × Int) => if s55.2 < x1 then (bnd (chkI (2 * s55.2)) fun n75 => bnd (lop (ρ := Ctl ((List Opr) × Int) (List Opr)) (fun (s80 : (List Opr) × Int × Int) => if s80.2.2 ≤ x1 then (bnd (chkI (s80.2.1 + s55.2)) fun n102 => bnd (m_slices_symMergeCmpFunc_api_Op__symmetry_finder_roles_l1 s80.1 s80.2.1 n102 s80.2.2) fun q105 => bnd (chkI (2 * s55.2)) fun n113 => bnd (chkI (s80.2.2 + n113)) fun n116 => some (.next (q105, s80.2.2, n116))) else (some (.brk (s80.1, s80.2.1, s80.2.2)))) (s55.1, 0, n75)) fun res78 => fin res78 fun (s123 : (List Opr) × Int × Int) => bnd (bnd (chkI (s123.2.1 + s55.2)) fun n131 => if n131 < x1 then (bnd (m_slices_symMergeCmpFunc_api_Op__symmetry_finder_roles_l1 s123.1 s123.2.1 n131 x1) fun q135 => some q135) else (some s123.1) : Option (List Opr)) fun y125 => bnd (chkI (s55.2 * 2)) fun n147 => some (.next (y125, n147))) else (some (.brk (s55.1, s55.2)))) (q45, 20)) fun res53 => fin res53 fun (s154 : (List Opr) × Int) => some s154.1
theorem c_slices_stableCmpFunc_api_Op__symmetry_finder_roles_l1 {w : World} {O : Lab} {A0 : Option Addr} {m0 c0 i0 : Nat} {x0 : List Opr} (hx0 : Rw i0 w O 35 (.slice A0 m0 c0) x0) {x1 : Int} (rx1 : inI64 x1) {r : (List Opr)} (hm : m_slices_stableCmpFunc_api_Op__symmetry_finder_roles_l1 x0 x1 = some r) :
    Fn Tryz.prog 79 [(.slice A0 m0 c0), (.int .i64 x1), (.func (.func 62) #[] #[])] w fun v w' => ∃ O', St (eT i0) w O w' O' ∧ Rw i0 w' O' 35 (.slice A0 m0 c0) r := by
 obtain ⟨O0, hE, hz0, hl2⟩ := ent1 (w := w) (O := O) hx0.2.2
 obtain rfl : m0 = x0.length := hx0.len.1
 have hx0' := Rw.leave hx0 hz0 hl2 (j := 2) (by decide)
 have hB : Bm w O0 w O0 := Bm.refl
 refine fn_enter Tryz.func79 rfl Tryz.ntmps79 rfl ?_
 unfold m_slices_stableCmpFunc_api_Op__symmetry_finder_roles_l1 at hm
 refine ewp_seq (ewp_region (o_as rfl rfl (o_z ?_)))
 refine ewp_seq (ewp_region (o_mv rfl rfl (o_as rfl rfl (o_as rfl rfl (o_z ?_)))))
 refine ewp_seq ?_
 obtain ⟨res4, hL5, hm⟩ := bs hm
 refine ewp_join (aft res4 (fun (s6 : (List Opr) × Int × Int) (x7 : Unit) => [(0, (.slice A0 x0.length c0)), (1, (.int .i64 x1)), (2, (.func (.func 62) #[] #[])), (6, (.int .i64 20)), (7, (.int .i64 s6.2.1))]) (fun s6 x7 w' => ∃ O' : Lab, Bm w O0 w' O' ∧ Rw 2 w' O' 35 (.slice A0 x0.length c0) s6.1 ∧ inI64 s6.2.1 ∧ inI64 s6.2.2)) ?_ ?_
 ·
  refine ewp_block (ewp_lop (σ := (List Opr) × Int × Int) (X := Unit) hL5 (fun (s6 : (List Opr) × Int × Int) (x7 : Unit) => [(0, (.slice A0 x0.length c0)), (1, (.int .i64 x1)), (2, (.func (.func 62) #[] #[])), (6, (.int .i64 20)), (7, (.int .i64 s6.2.1)), (8, (.int .i64 s6.2.2))]) _ (fun s6 x7 w' => ∃ O' : Lab, Bm w O0 w' O' ∧ Rw 2 w' O' 35 (.slice A0 x0.length c0) s6.1 ∧ inI64 s6.2.1 ∧ inI64 s6.2.2) _ () ⟨O0, hB, hx0', (show inI64 (0) from by decide), (show inI64 (20) from by decide)⟩ ⟨rfl, rfl, rfl, rfl, rfl, rfl, trivial⟩ ?_)
  rintro s6 x7 w10 cc12 ⟨O11, hB, h23, r25, r26⟩ hf14 hret15 hbrk16
  refine ewp_seq (ewp_seq (ewp_region (o_mv rfl rfl (o_mv rfl rfl (o_leS rfl rfl rfl (fun c27 => ?_) fun c27 => ?_)))))
  ·
   replace hf14 := ip hf14 c27
   refine o_z ?_
   refine ewp_true rfl (ewp_skip (ewp_block (ewp_seq (ewp_region (o_mv rfl rfl (o_mv rfl rfl (o_mv rfl rfl (o_mv rfl rfl ?_))))))))
   obtain ⟨q28, e29, hf14⟩ := bs hf14
   refine l_callM (O := O11) (c_slices_insertionSortCmpFunc_api_Op__symmetry_finder_roles_l1 h23 r25 r26 e29) rfl rfl fun v34 w30 O31 S32 h35 => ?_
   refine o_z ?_
   refine ewp_seq (ewp_region (o_mv rfl rfl (o_as rfl rfl (o_z ?_))))
   refine ewp_region (o_mv rfl rfl (o_mv rfl rfl ?_))
   obtain ⟨n36, e37, hf14⟩ := bs hf14
   have r38 := (chkI_rng e37)
   refine o_adE (he := e37) rfl rfl rfl ?_
   refine o_as rfl rfl (o_z ?_)
   obtain rfl := sm hf14
   replace hB := hB.st S32
   exact show Exists _ from ⟨_, (), rfl, ⟨rfl, rfl, rfl, rfl, rfl, rfl, trivial⟩, _, hB, h35, r26, r38⟩
  replace hf14 := im hf14 c27
  refine o_z ?_
  refine ewp_false rfl (ewp_exit ?_)
  obtain rfl := sm hf14
  exact show Exists _ from ⟨_, (), hbrk16 _ rfl, ⟨rfl, rfl, rfl, rfl, rfl, trivial⟩, _, hB, h23, r25, r26⟩
 rintro l39 w40 ⟨s43, x44, rfl, hs42, O41, hB, h23, r25, r26⟩
 replace hm := fin_done hm
 refine ewp_sub _ hs42 ?_
 refine ewp_seq (ewp_region (o_mv rfl rfl (o_mv rfl rfl (o_mv rfl rfl (o_mv rfl rfl ?_)))))
 obtain ⟨q45, e46, hm⟩ := bs hm
 refine l_callM (O := O41) (c_slices_insertionSortCmpFunc_api_Op__symmetry_finder_roles_l1 h23 r25 rx1 e46) rfl rfl fun v51 w47 O48 S49 h52 => ?_
 refine o_z ?_
 obtain ⟨res53, hL54, hm⟩ := bs hm
 refine ewp_join (aft res53 (fun (s55 : (List Opr) × Int) (x56 : Unit) => [(0, (.slice A0 x0.length c0))]) (fun s55 x56 w' => ∃ O' : Lab, Bm w O0 w' O' ∧ Rw 2 w' O' 35 (.slice A0 x0.length c0) s55.1 ∧ inI64 s55.2)) ?_ ?_
 ·
  refine ewp_block ?_
  replace hB := hB.st S49
  refine ewp_lop (σ := (List Opr) × Int) (X := Unit) hL54 (fun (s55 : (List Opr) × Int) (x56 : Unit) => [(0, (.slice A0 x0.length c0)), (1, (.int .i64 x1)), (2, (.func (.func 62) #[] #[])), (6, (.int .i64 s55.2))]) _ (fun s55 x56 w' => ∃ O' : Lab, Bm w O0 w' O' ∧ Rw 2 w' O' 35 (.slice A0 x0.length c0) s55.1 ∧ inI64 s55.2) _ () ⟨O48, hB, h52, (show inI64 (20) from by decide)⟩ ⟨rfl, rfl, rfl, rfl, trivial⟩ ?_
  rintro s55 x56 w59 cc61 ⟨O60, hB, h71, r73⟩ hf63 hret64 hbrk65
  refine ewp_seq (ewp_seq (ewp_region (o_mv rfl rfl (o_mv rfl rfl (o_ltS rfl rfl rfl (fun c74 => ?_) fun c74 => ?_)))))
  ·
   replace hf63 := ip hf63 c74
   refine o_z ?_
   refine ewp_true rfl (ewp_skip (ewp_block (ewp_seq (ewp_region (o_mv rfl rfl ?_)))))
   obtain ⟨n75, e76, hf63⟩ := bs hf63
   have r77 := (chkI_rng e76)
   refine o_mlE (he := e76) rfl rfl rfl ?_
   refine o_as rfl rfl (o_as rfl rfl (o_z ?_))
   refine ewp_seq ?_
   obtain ⟨res78, hL79, hf63⟩ := bs hf63
   refine ewp_join (aft res78 (fun (s80 : (List Opr) × Int × Int) (x81 : Unit) => [(0, (.slice A0 x0.length c0)), (1, (.int .i64 x1)), (2, (.func (.func 62) #[] #[])), (6, (.int .i64 s55.2)), (7, (.int .i64 s80.2.1))]) (fun s80 x81 w' => ∃ O' : Lab, Bm w O0 w' O' ∧ Rw 2 w' O' 35 (.slice A0 x0.length c0) s80.1 ∧ inI64 s80.2.1 ∧ inI64 s80.2.2)) ?_ ?_
   ·
    refine ewp_block (ewp_lop (σ := (List Opr) × Int × Int) (X := Unit) hL79 (fun (s80 : (List Opr) × Int × Int) (x81 : Unit) => [(0, (.slice A0 x0.length c0)), (1, (.int .i64 x1)), (2, (.func (.func 62) #[] #[])), (6, (.int .i64 s55.2)), (7, (.int .i64 s80.2.1)), (8, (.int .i64 s80.2.2))]) _ (fun s80 x81 w' => ∃ O' : Lab, Bm w O0 w' O' ∧ Rw 2 w' O' 35 (.slice A0 x0.length c0) s80.1 ∧ inI64 s80.2.1 ∧ inI64 s80.2.2) _ () ⟨O60, hB, h71, (show inI64 (0) from by decide), r77⟩ ⟨rfl, rfl, rfl, rfl, rfl, rfl, trivial⟩ ?_)
    rintro s80 x81 w84 cc86 ⟨O85, hB, h97, r99, r100⟩ hf88 hret89 hbrk90
    refine ewp_seq (ewp_seq (ewp_region (o_mv rfl rfl (o_mv rfl rfl (o_leS rfl rfl rfl (fun c101 => ?_) fun c101 => ?_)))))
    ·
     replace hf88 := ip hf88 c101
     refine o_z ?_
     refine ewp_true rfl (ewp_skip (ewp_block (ewp_seq (ewp_region (o_mv rfl rfl (o_mv rfl rfl (o_mv rfl rfl (o_mv rfl rfl ?_))))))))
     obtain ⟨n102, e103, hf88⟩ := bs hf88
     have r104 := (chkI_rng e103)
     refine o_adE (he := e103) rfl rfl rfl ?_
     refine o_mv rfl rfl (o_mv rfl rfl ?_)
     obtain ⟨q105, e106, hf88⟩ := bs hf88
     refine l_callM (O := O85) (c_slices_symMergeCmpFunc_api_Op__symmetry_finder_roles_l1 h97 r99 r104 r100 e106) rfl rfl fun v111 w107 O108 S109 h112 => ?_
     refine o_z ?_
     refine ewp_seq (ewp_region (o_mv rfl rfl (o_as rfl rfl (o_z ?_))))
     refine ewp_region (o_mv rfl rfl (o_mv rfl rfl ?_))
     obtain ⟨n113, e114, hf88⟩ := bs hf88
     have r115 := (chkI_rng e114)
     refine o_mlE (he := e114) rfl rfl rfl ?_
     obtain ⟨n116, e117, hf88⟩ := bs hf88
     have r118 := (chkI_rng e117)
     refine o_adE (he := e117) rfl rfl rfl ?_
     refine o_as rfl rfl (o_z ?_)
     obtain rfl := sm hf88
     replace hB := hB.st S109
     exact show Exists _ from ⟨_, (), rfl, ⟨rfl, rfl, rfl, rfl, rfl, rfl, trivial⟩, _, hB, h112, r100, r118⟩
    replace hf88 := im hf88 c101
    refine o_z ?_
    refine ewp_false rfl (ewp_exit ?_)
    obtain rfl := sm hf88
    exact show Exists _ from ⟨_, (), hbrk90 _ rfl, ⟨rfl, rfl, rfl, rfl, rfl, trivial⟩, _, hB, h97, r99, r100⟩
   rintro l119 w120 ⟨s123, x124, rfl, hs122, O121, hB, h97, r99, r100⟩
   replace hf63 := fin_done hf63
   refine ewp_sub _ hs122 ?_
   refine ewp_seq ?_
   obtain ⟨y125, hy126, hf63⟩ := bs hf63
   refine ewp_join (fun l' w' => ∃ (x128 : Unit) (O' : Lab), subs l' [(0, (.slice A0 x0.length c0)), (1, (.int .i64 x1)), (2, (.func (.func 62) #[] #[])), (6, (.int .i64 s55.2))] ∧ Bm w O0 w' O' ∧ Rw 2 w' O' 35 (.slice A0 x0.length c0) y125) ?_ ?_
   ·
    refine ewp_seq (ewp_region (o_mv rfl rfl (o_mv rfl rfl ?_)))
    obtain ⟨n131, e132, hy126⟩ := bs hy126
    have r133 := (chkI_rng e132)
    refine o_adE (he := e132) rfl rfl rfl ?_
    refine o_as rfl rfl (o_z ?_)
    refine ewp_seq (ewp_region (o_mv rfl rfl (o_mv rfl rfl (o_ltS rfl rfl rfl (fun c134 => ?_) fun c134 => ?_))))
    ·
     replace hy126 := ip hy126 c134
     refine o_z ?_
     refine ewp_true rfl (ewp_region (o_mv rfl rfl (o_mv rfl rfl (o_mv rfl rfl (o_mv rfl rfl (o_mv rfl rfl ?_))))))
     obtain ⟨q135, e136, hy126⟩ := bs hy126
     refine l_callM (O := O121) (c_slices_symMergeCmpFunc_api_Op__symmetry_finder_roles_l1 h97 r99 r133 rx1 e136) rfl rfl fun v141 w137 O138 S139 h142 => ?_
     refine o_z ?_
     obtain rfl := sm hy126
     replace hB := hB.st S139
     exact ⟨(), _, ⟨rfl, rfl, rfl, rfl, trivial⟩, hB, h142⟩
    replace hy126 := im hy126 c134
    refine o_z ?_
    refine ewp_false rfl (ewp_skip ?_)
    obtain rfl := sm hy126
    exact ⟨(), _, ⟨rfl, rfl, rfl, rfl, trivial⟩, hB, h97⟩
   rintro l143 w144 ⟨x128, O145, hs146, hB, h129⟩
   refine ewp_sub _ hs146 ?_
   refine ewp_region (o_mv rfl rfl ?_)
   obtain ⟨n147, e148, hf63⟩ := bs hf63
   have r149 := (chkI_rng e148)
   refine o_mlE (he := e148) rfl rfl rfl ?_
   refine o_as rfl rfl (o_z ?_)
   obtain rfl := sm hf63
   exact show Exists _ from ⟨_, (), rfl, ⟨rfl, rfl, rfl, rfl, trivial⟩, _, hB, h129, r149⟩
  replace hf63 := im hf63 c74
  refine o_z ?_
  refine ewp_false rfl (ewp_exit ?_)
  obtain rfl := sm hf63
  exact show Exists _ from ⟨_, (), hbrk65 _ rfl, ⟨rfl, trivial⟩, _, hB, h71, r73⟩
 replace hB := hB.st S49
 rintro l150 w151 ⟨s154, x155, rfl, hs153, O152, hB, h71, r73⟩
 replace hm := fin_done hm
 obtain rfl := sm hm
 obtain ⟨O', hS', hz, hl⟩ := hE.leave (fun q => if q = 2 then i0 else 0) rfl hB
 exact ret0n rfl  ⟨O', hS', (Rw.leave h71 hz (hl 2 (by decide) (by decide)) hx0.2.2)⟩
noncomputable def m_slices_SortStableFunc_Lapi_Op_api_Op__symmetry_finder_roles_l1 (x0 : List Opr) : Option (List Opr) :=
  bnd (m_slices_stableCmpFunc_api_Op__symmetry_finder_roles_l1 x0 (x0.length : Int)) fun q5 => some q5
theorem c_slices_SortStableFunc_Lapi_Op_api_Op__symmetry_finder_roles_l1 {w : World} {O : Lab} {A0 : Option Addr} {m0 c0 i0 : Nat} {x0 : List Opr} (hx0 : Rw i0 w O 35 (.slice A0 m0 c0) x0) {r : (List Opr)} (hm : m_slices_SortStableFunc_Lapi_Op_api_Op__symmetry_finder_roles_l1 x0 = some r) :
    Fn Tryz.prog 61 [(.slice A0 m0 c0), (.func (.func 62) #[] #[])] w fun v w' => ∃ O', St (eT i0) w O w' O' ∧ Rw i0 w' O' 35 (.slice A0 m0 c0) r := by
 obtain ⟨O0, hE, hz0, hl2⟩ := ent1 (w := w) (O := O) hx0.2.2
 obtain rfl : m0 = x0.length := hx0.len.1
 have hx0' := Rw.leave hx0 hz0 hl2 (j := 2) (by decide)
 have hB : Bm w O0 w O0 := Bm.refl
 refine fn_enter Tryz.func61 rfl Tryz.ntmps61 rfl ?_
 unfold m_slices_SortStableFunc_Lapi_Op_api_Op__symmetry_finder_roles_l1 at hm
 refine ewp_region (o_mv rfl rfl (o_mv rfl rfl (o_ln rfl rfl ?_)))
 have l4 : x0.length ≤ 9223372036854775807 := Nat.le_trans hx0'.len.2.1 hx0'.len.2.2
 have r3 : inI64 (x0.length : Int) := rngNat l4
 refine o_mv rfl rfl ?_
 obtain ⟨q5, e6, hm⟩ := bs hm
 refine l_callM (O := O0) (c_slices_stableCmpFunc_api_Op__symmetry_finder_roles_l1 hx0' r3 e6) rfl rfl fun v11 w7 O8 S9 h12 => ?_
 refine o_z ?_
 obtain rfl := sm hm
 replace hB := hB.st S9
 obtain ⟨O', hS', hz, hl⟩ := hE.leave (fun q => if q = 2 then i0 else 0) rfl hB
 exact ret0n rfl  ⟨O', hS', (Rw.leave h12 hz (hl 2 (by decide) (by decide)) hx0.2.2)⟩
end
section
open Go Go.RowKit
/-- The library's table of the powers of ten, in what is read only. -/
def TabF (w : World) (F : Nat → Prop) : Prop := ∀ w', Agree F w w' → Lib.TabIs Tryz.prog w' "internal/strconv.uint64pow10" .u64 Lib.pow10Tab
theorem TabF.mono {w : World} {F F' : Nat → Prop} (h : TabF w F) (hf : ∀ k, F k → F' k) : TabF w F' := fun w' ha => h w' fun k hk => ha k (hf k hk)
theorem TabF.bm {w w' : World} {O O' : Lab} (h : TabF w (Fr 0 w O)) (hB : Bm w O w' O') : TabF w' (Fr 0 w' O') := fun w'' ha => h w'' fun k hk => by
  obtain ⟨h1, h2⟩ := hB.same k hk.1 (by rw [hk.2]; omega)
  rw [ha k ⟨Nat.lt_of_lt_of_le hk.1 hB.size, h2.trans hk.2⟩, h1]
theorem TabF.bs {w w' : World} {A : Nat → Prop} {O' : Lab} (hA : ∀ k, A k → k < w.heap.size) (h : TabF w A) (hB : Bs w A w' O') : TabF w' (Fr 0 w' O') := fun w'' ha => h w'' fun k hk => by
  have h0 : O' k = 0 := by
    rcases hB.lab k (hA k hk) with ⟨_, e⟩ | ⟨e, _⟩
    · exact e
    · exact absurd hk e
  rw [ha k ⟨Nat.lt_of_lt_of_le (hA k hk) hB.ext.size, h0⟩, hB.ext.block k (hA k hk)]
/-- A number in digits. -/
def itoaF (x : Int) : ByteArray := ⟨(Lib.itoa x).toArray⟩
def m_strconv_Itoa (x0 : Int) : Option ByteArray := some (itoaF x0)
theorem itoaF_size {x : Int} (h : inI64 x) : (itoaF x).size ≤ 21 := by
  have := Lib.itoa_length_le x h.1 h.2
  simpa [itoaF, ByteArray.size] using this
theorem c_strconv_Itoa {w : World} {A : Nat → Prop} (hA : ∀ k, A k → k < w.heap.size) {x0 : Int} (rx0 : inI64 x0) (hT : TabF w A) {r : ByteArray} (hm : m_strconv_Itoa x0 = some r) :
    Fn Tryz.prog 66 [.int .i64 x0] w fun v w' => Ext w w' ∧ Vb w' (upA A w w') v r := by
  injection hm with hm
  subst hm
  intro d
  have hT2 : Lib.TabIs Tryz.prog (dr w d) "internal/strconv.uint64pow10" .u64 Lib.pow10Tab := hT (dr w d) fun _ _ => rfl
  refine (Tryz.strconv_Itoa x0 rx0.1 rx0.2 (dr w d) hT2).mono fun e w' ⟨he, k, os, hw⟩ => ?_
  subst hw
  refine ⟨_, Go.Sort.grow w os, d + k, he, rfl, ⟨rfl, rfl, rfl, by simp [Go.Sort.grow], fun q hq => ?_⟩, vStr (Nat.le_trans (itoaF_size rx0) (by decide))⟩
  show (w.heap ++ os)[q]? = w.heap[q]?
  rw [Array.getElem?_append_left hq]
attribute [local irreducible] ewp owp hwp hwq Ev Evg Fn retPost Res1
attribute [local irreducible] hwx loudX
instance : TMap Tryz.prog 108 9 109 := ⟨Tryz.underlying108⟩
instance : TKey Tryz.prog 9 ByteArray := ⟨Tryz.underlying9⟩
instance : TMap Tryz.prog 109 26 3 := ⟨Tryz.underlying109⟩
noncomputable def m_symmetry_finder_roles_l2 (x0 : ByteArray) (x1 : Fct) (x2 : BxM) (x3 : BxR 80 9 ByteArray) : Option (BxM × (BxR 80 9 ByteArray)) :=
  bnd (if (!mhas x2.l.l x0) = true then (bnd (appI 16 x3.l [x0]) fun u46 => some ((⟨(⟨mput x2.l.l x0 []⟩ : MapM)⟩ : BxM), (⟨u46⟩ : BxR 80 9 ByteArray))) else (some (x2, x3)) : Option (BxM × (BxR 80 9 ByteArray))) fun y11 => bnd (mgetO y11.1.l.l x0) fun m86 => bnd (chkI ((fget 0 m86 x1) + 1)) fun n88 => some ((⟨(⟨mput y11.1.l.l x0 (fput m86 x1 n88)⟩ : MapM)⟩ : BxM), y11.2)
theorem c_symmetry_finder_roles_l2 {w : World} {O : Lab} {x0 : ByteArray} (zx0 : x0.size ≤ 9223372036854775807) {vx1 : Value} {x1 : Fct} (hx1 : Vb w (Fr 0 w O) vx1 x1) {p2 i0 : Nat} {x2 : BxM} (hx2 : Ob i0 w O (.pointer (some ⟨p2, 0, none⟩)) x2) {p3 i1 : Nat} {x3 : BxR 80 9 ByteArray} (hx3 : Ob i1 w O (.pointer (some ⟨p3, 0, none⟩)) x3) (hne : i0 ≠ i1) {r : BxM × (BxR 80 9 ByteArray)} (hm : m_symmetry_finder_roles_l2 x0 x1 x2 x3 = some r) :
    Fn Tryz.prog 65 [(.string x0), vx1, (.pointer (some ⟨p2, 0, none⟩)), (.pointer (some ⟨p3, 0, none⟩))] w fun v w' => ∃ O', St (fun j => j = i0 ∨ j = i1) w O w' O' ∧ Ob i0 w' O' (.pointer (some ⟨p2, 0, none⟩)) r.1 ∧ Ob i1 w' O' (.pointer (some ⟨p3, 0, none⟩)) r.2 := by
 obtain ⟨O0, hE, hz0, hl2, hl3⟩ := ent2 (w := w) (O := O) hne hx2.2 hx3.2
 have hx2' := Ob.leave hx2 hz0 hl2 (j := 2) (by decide)
 have hx3' := Ob.leave hx3 hz0 hl3 (j := 3) (by decide)
 have hB : Bm w O0 w O0 := Bm.refl
 replace hx1 := hx1.mono hz0
 obtain ⟨cs3, rfl, rfl, r4, r5⟩ := hx1
 refine fn_enter Tryz.func65 rfl Tryz.ntmps65 rfl ?_
 unfold m_symmetry_finder_roles_l2 at hm
 refine ewp_seq (ewp_region (l_box 4 O0 rfl rfl fun g6 w7 O8 S9 h10 => ?_))
 replace h10 : Lc 4 w7 O8 g6 26 [(.int .i64 x1.var), (.int .i64 x1.val)] := h10
 refine o_z ?_
 refine ewp_seq ?_
 obtain ⟨y11, hy12, hm⟩ := bs hm
 refine ewp_join (fun l' w' => ∃ (x14 : Unit) (O' : Lab), subs l' [(0, (.string x0)), (2, (.pointer (some ⟨p2, 0, none⟩))), (5, (.pointer (some ⟨g6, 0, none⟩)))] ∧ Bm w O0 w' O' ∧ Ob 2 w' O' (.pointer (some ⟨p2, 0, none⟩)) y11.1 ∧ Lc 4 w' O' g6 26 [(.int .i64 x1.var), (.int .i64 x1.val)] ∧ Ob 3 w' O' (.pointer (some ⟨p3, 0, none⟩)) y11.2) ?_ ?_
 ·
  refine ewp_seq (ewp_region ?_)
  replace hx2' := hx2'.st S9
  obtain ⟨O17, v21, S18, ha20, h19, h22⟩ := BxM.opn hx2' 2 5 (by decide)
  obtain ⟨p23, rfl⟩ := h22.mptr
  refine o_ld (hc := Blk.cell (i := 0) (h19.1) rfl) rfl rfl ?_
  refine o_mv rfl rfl ?_
  obtain ⟨v26, hl24, hd25⟩ := MapM.get h22 x0
  refine o_lk x0 hl24 rfl rfl rfl ?_
  refine o_mn hd25 rfl rfl ?_
  refine o_z ?_
  refine ewp_cond rfl (fun c27 => ?_) (fun c27 => ?_)
  ·
   replace hy12 := ip hy12 c27
   refine ewp_seq (ewp_region (o_ld (hc := Blk.cell (i := 0) (h19.1) rfl) rfl rfl ?_))
   refine o_mv rfl rfl (l_mkmapF (V := Int) 6 (by decide) O17 rfl fun p28 w29 O30 S31 h32 => ?_)
   replace h22 := h22.st S31
   refine l_mputM h22 h32 (by decide) rfl rfl rfl fun w33 O34 S35 h36 => ?_
   refine o_z ?_
   refine ewp_region ?_
   replace hx3' := (((hx3'.st S9).st S18).st S31).st S35
   obtain ⟨O37, v41, S38, ha40, h39, h42⟩ := BxR.opn hx3' 3 7 (by decide)
   obtain ⟨A43, c44, rfl⟩ := h42.form
   refine o_ld (hc := Blk.cell (i := 0) (h39.1) rfl) rfl rfl ?_
   refine o_mv rfl rfl ?_
   obtain ⟨u46, e47, hy12⟩ := bs hy12
   obtain ⟨e47, e48, e49⟩ := appI_some e47
   refine l_append1 rfl (a := x0) h42 (vStr zx0) (fun _ => rfl) rfl (by decide) (by decide) e48 e49 ⟨rfl, rfl⟩ fun g50 A51 c52 w53 O54 S55 h56 => ?_
   rw [← e47] at h56 ⊢
   replace h39 := h39.st S55
   refine l_store h39 rfl rfl rfl (nle_b rfl) (allOne rfl) fun w58 S59 h39 => ?_
   replace h39 : Lc 3 w58 O54 p3 80 [(.slice A51 u46.length c52)] := h39
   refine o_z ?_
   replace h19 := ((((h19.st S31).st S35).st S38).st S55).st S59
   replace h36 := ((h36.st S38).st S55).st S59
   obtain ⟨O60, S61, hz63, ha64, h62⟩ := BxM.shut (x := (⟨(⟨mput x2.l.l x0 []⟩ : MapM)⟩ : BxM)) (l0 := 2) (l1 := 5) (by decide) h19 h36
   replace h39 := h39.st S61
   replace h56 := (h56.st S59).st S61
   obtain ⟨O65, S66, hz68, ha69, h67⟩ := BxR.shut (x := (⟨u46⟩ : BxR 80 9 ByteArray)) (l0 := 3) (l1 := 7) (by decide) h39 h56
   obtain rfl := sm hy12
   replace hB := ((((((((hB.st S9).st S18).st S31).st S35).st S38).st S55).st S59).st S61).st S66
   replace h10 := (((((((h10.st S18).st S31).st S35).st S38).st S55).st S59).st S61).st S66
   replace h62 := h62.st S66
   exact ⟨(), _, ⟨rfl, rfl, rfl, trivial⟩, hB, h62, h10, h67⟩
  replace hy12 := im' hy12 c27
  refine ewp_skip ?_
  obtain ⟨O70, S71, hz73, ha74, h72⟩ := BxM.shut (x := x2) (l0 := 2) (l1 := 5) (by decide) h19 h22
  obtain rfl := sm hy12
  replace hB := ((hB.st S9).st S18).st S71
  replace hx3' := ((hx3'.st S9).st S18).st S71
  replace h10 := (h10.st S18).st S71
  exact ⟨(), _, ⟨rfl, rfl, rfl, trivial⟩, hB, h72, h10, hx3'⟩
 replace hB := hB.st S9
 rintro l75 w76 ⟨x14, O77, hs78, hB, h15, h10, h16⟩
 refine ewp_sub _ hs78 ?_
 obtain ⟨O79, v83, S80, ha82, h81, h84⟩ := BxM.opn h15 2 5 (by decide)
 obtain ⟨p85, rfl⟩ := h84.mptr
 obtain ⟨m86, e87, hm⟩ := bs hm
 obtain ⟨n88, e89, hm⟩ := bs hm
 refine ewp_drawX [(6, [5])] O79 ?_
 refine x_pre (fuel := 5) [] [(0, true), (1, true), (2, true), (3, true)] (by kernel_rfl) rfl ?_
 refine h_ldC (hc := fun w' ⟨O', hq⟩ => Blk.cell (i := 0) ((h81.st hq (by decide)).1) rfl) rfl rfl rfl ?_
 refine h_mv rfl rfl rfl ?_
 obtain ⟨v92, hl90, hd91⟩ := MapM.get h84 x0
 refine h_lk x0 (fun w' ⟨O', hq⟩ => hl90.keep (hq.agree (i := 5) (by decide) _ (MapM.at h84))) rfl rfl rfl rfl ?_
 obtain ⟨q93, rfl, hF94, hI95⟩ := InnV.some hd91 e87
 replace h10 := h10.st S80
 refine h_laB (hl := rfl) (hb := fun w' ⟨O', hq⟩ => ((h10.st hq (by decide)).1).cellsAt) rfl rfl rfl ?_
 refine hwp_nilT ?_
 refine x_two (i := 4) (j := 6) (by kernel_rfl) rfl rfl ?_ ?_
 ·
  obtain ⟨hl96, r97⟩ := IM.get hI95 x1
  refine o_lkF x1 hl96 rfl rfl rfl ?_
  refine x_go [(6, [5])] ((St.refl nT _ _).lst [] (fun _ h => h.elim)) (by kernel_rfl) ?_
  refine x_pre (fuel := 3) [5] [(5, true)] (by kernel_rfl) rfl ?_
  have r98 := (chkI_rng e89)
  refine h_adE (he := e89) rfl rfl rfl rfl ?_
  refine hwp_nilT ?_
  refine x_one (i := 6) (by kernel_rfl) rfl ?_
  refine l_ment (a := x0) (k := x1) h84 hl90 e87 rfl rfl rfl fun w99 n100 v101 S102 h103 => ?_
  have hZ := S102.lst [5] (fun _ h => by cases h; decide)
  refine x_go [] hZ (by kernel_rfl) ?_
  refine x_pre (fuel := 1) [] [(7, true)] (by kernel_rfl) rfl ?_
  refine h_ex rfl rfl rfl rfl (hwp_nilT ?_)
  refine x_one (i := 8) (by kernel_rfl) rfl ?_
  refine l_est h103 rfl rfl rfl r98 fun w104 S105 h106 => ?_
  refine x_end (by kernel_rfl) ?_
  refine x_nil (by kernel_rfl) ?_
  replace h81 := (h81.st S102).st S105
  obtain ⟨O107, S108, hz110, ha111, h109⟩ := BxM.shut (x := (⟨(⟨mput y11.1.l.l x0 (fput m86 x1 n88)⟩ : MapM)⟩ : BxM)) (l0 := 2) (l1 := 5) (by decide) h81 h106
  obtain rfl := sm hm
  replace hB := (((hB.st S80).st S102).st S105).st S108
  obtain ⟨O', hS', hz, hl⟩ := hE.leave (fun q => if q = 2 then i0 else if q = 3 then i1 else 0) rfl hB
  replace h16 := (((h16.st S80).st S102).st S105).st S108
  exact ret0n rfl  ⟨O', hS', (Ob.leave h109 hz (hl 2 (by decide) (by decide)) hx2.2), (Ob.leave h16 hz (hl 3 (by decide) (by decide)) hx3.2)⟩
 refine l_ment (a := x0) (k := x1) h84 hl90 e87 rfl rfl rfl fun w112 n113 v114 S115 h116 => ?_
 have hZ := S115.lst [5] (fun _ h => by cases h; decide)
 refine x_go [] hZ (by kernel_rfl) ?_
 refine x_pre (fuel := 3) [] [(7, true)] (by kernel_rfl) rfl ?_
 refine h_ex rfl rfl rfl rfl (hwp_nilT ?_)
 refine x_one (i := 4) (by kernel_rfl) rfl ?_
 obtain ⟨_, hl117, r118⟩ := MapE.get h116
 refine o_lkF x1 hl117 rfl rfl rfl ?_
 refine x_go [] ((St.refl nT _ _).lst [] (fun _ h => h.elim)) (by kernel_rfl) ?_
 refine x_pre (fuel := 1) [] [(5, true)] (by kernel_rfl) rfl ?_
 have r119 := (chkI_rng e89)
 refine h_adE (he := e89) rfl rfl rfl rfl ?_
 refine hwp_nilT ?_
 refine x_one (i := 8) (by kernel_rfl) rfl ?_
 refine l_est h116 rfl rfl rfl r119 fun w120 S121 h122 => ?_
 refine x_end (by kernel_rfl) ?_
 refine x_nil (by kernel_rfl) ?_
 replace h81 := (h81.st S115).st S121
 obtain ⟨O123, S124, hz126, ha127, h125⟩ := BxM.shut (x := (⟨(⟨mput y11.1.l.l x0 (fput m86 x1 n88)⟩ : MapM)⟩ : BxM)) (l0 := 2) (l1 := 5) (by decide) h81 h122
 obtain rfl := sm hm
 replace hB := (((hB.st S80).st S115).st S121).st S124
 obtain ⟨O', hS', hz, hl⟩ := hE.leave (fun q => if q = 2 then i0 else if q = 3 then i1 else 0) rfl hB
 replace h16 := (((h16.st S80).st S115).st S121).st S124
 exact ret0n rfl  ⟨O', hS', (Ob.leave h125 hz (hl 2 (by decide) (by decide)) hx2.2), (Ob.leave h16 hz (hl 3 (by decide) (by decide)) hx3.2)⟩
noncomputable def m_symmetry_finder_roles (x0 : Fnd) : Option Fnd :=
  bnd (m_slices_Clone_Lapi_Op_api_Op x0.t.ops) fun q57 => bnd (m_slices_SortStableFunc_Lapi_Op_api_Op__symmetry_finder_roles_l1 q57) fun q67 => bnd (rng (ρ := Fnd) (fun (k115 : Nat) (a116 : Opr) (s113 : BxM × (BxR 80 9 ByteArray)) => bnd (q67[k115]?) fun a130 => bnd (m_strconv_Itoa a130.cost) fun q160 => bnd (catI q160 (⟨#[32]⟩ : ByteArray)) fun n168 => bnd (m_strconv_Itoa (a130.pre.length : Int)) fun q170 => bnd (catI n168 q170) fun n178 => bnd (catI n178 (⟨#[32]⟩ : ByteArray)) fun n180 => bnd (m_strconv_Itoa (a130.effs.length : Int)) fun q182 => bnd (catI n180 q182) fun n190 => bnd (rng (ρ := Ctl (BxM × (BxR 80 9 ByteArray)) Fnd) (fun (k198 : Nat) (a199 : Fct) (s196 : BxM × (BxR 80 9 ByteArray)) => bnd (catI n190 (⟨#[32, 112, 114, 101]⟩ : ByteArray)) fun n229 => bnd (m_symmetry_finder_roles_l2 n229 a199 s196.1 s196.2) fun q231 => some (.next (q231.1, q231.2))) a130.pre 0 (s113.1, s113.2)) fun res194 => fin res194 fun (s244 : BxM × (BxR 80 9 ByteArray)) => bnd (rng (ρ := Ctl (BxM × (BxR 80 9 ByteArray)) Fnd) (fun (k252 : Nat) (a253 : Eff) (s250 : BxM × (BxR 80 9 ByteArray)) => bnd (catI n190 (⟨#[32, 101, 102, 102, 32]⟩ : ByteArray)) fun n287 => bnd (m_strconv_Itoa (k252 : Int)) fun q289 => bnd (catI n287 q289) fun n297 => bnd (m_symmetry_finder_roles_l2 n297 (⟨a253.var, a253.val⟩ : Fct) s250.1 s250.2) fun q299 => bnd (rng (ρ := Ctl (BxM × (BxR 80 9 ByteArray)) (Ctl (BxM × (BxR 80 9 ByteArray)) Fnd)) (fun (k314 : Nat) (a315 : Fct) (s312 : BxM × (BxR 80 9 ByteArray)) => bnd (catI n190 (⟨#[32, 119, 104, 101, 110, 32]⟩ : ByteArray)) fun n345 => bnd (m_strconv_Itoa (k252 : Int)) fun q347 => bnd (catI n345 q347) fun n355 => bnd (m_symmetry_finder_roles_l2 n355 a315 s312.1 s312.2) fun q357 => some (.next (q357.1, q357.2))) a253.cond 0 (q299.1, q299.2)) fun res310 => fin res310 fun (s370 : BxM × (BxR 80 9 ByteArray)) => some (.next (s370.1, s370.2))) a130.effs 0 (s244.1, s244.2)) fun res248 => fin res248 fun (s376 : BxM × (BxR 80 9 ByteArray)) => some (.next (s376.1, s376.2))) q57 0 ((⟨(⟨[]⟩ : MapM)⟩ : BxM), (⟨([] : List ByteArray)⟩ : BxR 80 9 ByteArray))) fun res111 => fin res111 fun (s382 : BxM × (BxR 80 9 ByteArray)) => bnd (m_slices_Sort_Lstring_string s382.2.l) fun q393 => bnd (rng (ρ := Fnd) (fun (k413 : Nat) (a414 : ByteArray) (s411 : Fnd) => bnd (q393[k413]?) fun a426 => bnd (rng (ρ := Ctl Fnd Fnd) (fun (k502 : Nat) (a503 : Fct) (s500 : Fnd) => bnd (mgetO s382.1.l.l a426) fun m541 => bnd (m_strconv_Itoa (fget 0 m541 a503)) fun q548 => bnd (m_symmetry_finder_sign s500 a503 q548) fun q556 => some (.next q556)) s411.list 0 s411) fun res498 => fin res498 fun (s573 : Fnd) => some (.next s573)) s382.2.l 0 x0) fun res409 => fin res409 fun (s579 : Fnd) => some s579
theorem c_symmetry_finder_roles {w : World} {O : Lab} {p0 i0 : Nat} {x0 : Fnd} (hx0 : Ob i0 w O (.pointer (some ⟨p0, 0, none⟩)) x0) (hT : TabF w (Fr 0 w O)) {r : Fnd} (hm : m_symmetry_finder_roles x0 = some r) :
    Fn Tryz.prog 38 [(.pointer (some ⟨p0, 0, none⟩))] w fun v w' => ∃ O', St (eT i0) w O w' O' ∧ Ob i0 w' O' (.pointer (some ⟨p0, 0, none⟩)) r := by
 obtain ⟨O0, hE, hz0, hl2⟩ := ent1 (w := w) (O := O) hx0.2
 have hx0' := Ob.leave hx0 hz0 hl2 (j := 2) (by decide)
 have hB : Bm w O0 w O0 := Bm.refl
 have hT' := hT.mono hz0
 refine fn_enter Tryz.func38 rfl Tryz.ntmps38 rfl ?_
 unfold m_symmetry_finder_roles at hm
 refine ewp_seq (ewp_region (o_mv rfl rfl (o_nc rfl rfl ?_)))
 obtain ⟨O2, v6, v10, v14, v18, v22, v26, v31, v36, v41, v45, v50, S3, ha5, h4, h7, h11, h15, h19, h23, h27, h32, h37, h42, h46, h51, r55, r56⟩ := Fnd.opn hx0' 2 3 4 5 6 7 (by decide)
 obtain ⟨A8, c9, rfl⟩ := h7.form
 obtain ⟨A12, c13, rfl⟩ := h11.form
 obtain ⟨A16, c17, rfl⟩ := h15.form
 obtain ⟨A20, c21, rfl⟩ := h19.form
 obtain ⟨A24, c25, rfl⟩ := h23.form
 obtain ⟨A28, c29, rfl⟩ := h27.form
 obtain ⟨A33, c34, rfl⟩ := h32.form
 obtain ⟨A38, c39, rfl⟩ := h37.form
 obtain ⟨A43, c44, rfl⟩ := h42.form
 obtain ⟨A47, c48, rfl⟩ := h46.form
 obtain ⟨A52, c53, rfl⟩ := h51.form
 refine o_fa rfl rfl (o_fa rfl rfl (o_ld (hc := Blk.cell (i := 3) (h4.1) rfl) rfl rfl ?_))
 obtain ⟨q57, e58, hm⟩ := bs hm
 refine l_callRow 8 (by decide) (O := O2) (c_slices_Clone_Lapi_Op_api_Op Fr.lt h19 e58) rfl rfl fun A64 c65 w59 O60 S61 h62 => ?_
 refine o_as rfl rfl (o_z ?_)
 refine ewp_seq (ewp_region (o_mv rfl rfl ?_))
 obtain ⟨q67, e68, hm⟩ := bs hm
 refine l_callM (O := O60) (c_slices_SortStableFunc_Lapi_Op_api_Op__symmetry_finder_roles_l1 h62 e68) rfl rfl fun v73 w69 O70 S71 h74 => ?_
 refine o_z ?_
 refine ewp_seq (ewp_region (l_mkmapM 9 (by decide) O70 rfl fun p75 w76 O77 S78 h79 => ?_))
 refine l_alloc 10 O77 rfl fun g80 w81 O82 S83 h84 => ?_
 refine l_store h84 rfl rfl rfl (nle_b rfl) (allOne rfl) fun w85 S86 h84 => ?_
 replace h84 : Lc 10 w85 O82 g80 108 [(.map (some p75))] := h84
 refine o_z ?_
 refine ewp_seq (ewp_region (l_alloc 11 O82 rfl fun g87 w88 O89 S90 h91 => ?_))
 refine o_z ?_
 refine ewp_seq (ewp_region (o_mf rfl rfl rfl (o_as rfl rfl (o_z ?_))))
 refine ewp_seq (ewp_seq (ewp_region (o_mv rfl rfl (o_ln rfl rfl ?_))))
 replace h74 := (((h74.st S78).st S83).st S86).st S90
 have l93 : q57.length ≤ 9223372036854775807 := Nat.le_trans h74.len.2.1 h74.len.2.2
 have r92 : inI64 (q57.length : Int) := rngNat l93
 refine o_mv rfl rfl (o_z ?_)
 replace h4 := (((((h4.st S61).st S71).st S78).st S83).st S86).st S90
 replace h7 := (((((h7.st S61).st S71).st S78).st S83).st S86).st S90
 replace h11 := (((((h11.st S61).st S71).st S78).st S83).st S86).st S90
 replace h15 := (((((h15.st S61).st S71).st S78).st S83).st S86).st S90
 replace h19 := (((((h19.st S61).st S71).st S78).st S83).st S86).st S90
 replace h23 := (((((h23.st S61).st S71).st S78).st S83).st S86).st S90
 replace h27 := (((((h27.st S61).st S71).st S78).st S83).st S86).st S90
 replace h32 := (((((h32.st S61).st S71).st S78).st S83).st S86).st S90
 replace h37 := (((((h37.st S61).st S71).st S78).st S83).st S86).st S90
 replace h42 := (((((h42.st S61).st S71).st S78).st S83).st S86).st S90
 replace h46 := (((((h46.st S61).st S71).st S78).st S83).st S86).st S90
 replace h51 := (((((h51.st S61).st S71).st S78).st S83).st S86).st S90
 obtain ⟨O94, S95, hz97, ha98, h96⟩ := Fnd.shut (x := x0) (l0 := 2) (l1 := 3) (l2 := 4) (l3 := 5) (l4 := 6) (l5 := 7) (by decide) h4 h7 h11 h15 h19 h23 h27 h32 h37 h42 h46 h51 r55 r56
 replace h79 := (((h79.st S83).st S86).st S90).st S95
 replace h84 := (h84.st S90).st S95
 obtain ⟨O99, S100, hz102, ha103, h101⟩ := BxM.shut (x := (⟨(⟨[]⟩ : MapM)⟩ : BxM)) (l0 := 10) (l1 := 9) (by decide) h84 h79
 have h104 : Rw 12 w88 O99 9 (.slice none 0 0) ([] : List ByteArray) := Rw.nil 12 (by decide)
 replace h91 := (h91.st S95).st S100
 obtain ⟨O106, S107, hz109, ha110, h108⟩ := BxR.shut (x := (⟨([] : List ByteArray)⟩ : BxR 80 9 ByteArray)) (l0 := 11) (l1 := 12) (by decide) h91 h104
 obtain ⟨res111, hL112, hm⟩ := bs hm
 refine ewp_join (aft res111 (fun (s113 : BxM × (BxR 80 9 ByteArray)) (x114 : Unit) => [(0, (.pointer (some ⟨p0, 0, none⟩))), (3, (.pointer (some ⟨g80, 0, none⟩))), (4, (.pointer (some ⟨g87, 0, none⟩)))]) (fun s113 x114 w' => ∃ O' : Lab, Bm w O0 w' O' ∧ Ob 2 w' O' (.pointer (some ⟨p0, 0, none⟩)) x0 ∧ Ob 10 w' O' (.pointer (some ⟨g80, 0, none⟩)) s113.1 ∧ Ob 11 w' O' (.pointer (some ⟨g87, 0, none⟩)) s113.2)) ?_ ?_
 ·
  refine ewp_block ?_
  replace hB := (((((((((hB.st S3).st S61).st S71).st S78).st S83).st S86).st S90).st S95).st S100).st S107
  replace h74 := ((h74.st S95).st S100).st S107
  replace h96 := (h96.st S100).st S107
  replace h101 := h101.st S107
  refine ewp_rng (σ := BxM × (BxR 80 9 ByteArray)) (X := Unit) (q57.length) hL112 rfl l93 (fun (s113 : BxM × (BxR 80 9 ByteArray)) (x114 : Unit) => [(0, (.pointer (some ⟨p0, 0, none⟩))), (3, (.pointer (some ⟨g80, 0, none⟩))), (4, (.pointer (some ⟨g87, 0, none⟩))), (5, (.func (.func 65) #[] #[(.pointer (some ⟨g80, 0, none⟩)), (.pointer (some ⟨g87, 0, none⟩))])), (29, (.slice A64 q57.length c65))]) _ (fun s113 x114 w' => ∃ O' : Lab, Bm w O0 w' O' ∧ Ob 2 w' O' (.pointer (some ⟨p0, 0, none⟩)) x0 ∧ Ob 10 w' O' (.pointer (some ⟨g80, 0, none⟩)) s113.1 ∧ Ob 11 w' O' (.pointer (some ⟨g87, 0, none⟩)) s113.2 ∧ Rw 8 w' O' 35 (.slice A64 q57.length c65) q67) _ () ⟨O106, hB, h96, h101, h108, h74⟩ ⟨rfl, rfl, rfl, rfl, rfl, rfl, rfl, trivial⟩ (fun _ _ => ⟨rfl, rfl⟩) (fun _ _ => ⟨rfl, rfl, rfl, trivial⟩) (fun _ _ _ ⟨O', hB, h96, h128, h129, h74⟩ => ⟨O', hB, h96, h128, h129⟩) ⟨rfl, rfl, rfl⟩ ⟨rfl, rfl⟩ ?_
  rintro k115 a116 s113 x114 w117 cc119 hx120 ⟨O118, hB, h96, h128, h129, h74⟩ hf121 hret122 hbrk123
  have rk115 : inI64 (k115 : Int) := rngK hx120 l93
  refine ewp_seq (ewp_region ?_)
  obtain ⟨a130, e131, hf121⟩ := bs hf121
  obtain ⟨b132, o133, ce134, hA135, hl136, hd137, v139, v140, rfl, h141, h144, r147, z148⟩ := h74.elem e131
  obtain ⟨A142, c143, rfl⟩ := h141.form
  obtain ⟨A145, c146, rfl⟩ := h144.form
  refine o_iaE (hA := hA135) (hj := rfl) (hlt := hl136) rfl rfl rfl ?_
  refine o_la (hl := rfl) (hc := hd137) rfl rfl ?_
  refine l_alloc 13 O118 rfl fun g149 w150 O151 S152 h153 => ?_
  refine l_store h153 rfl rfl rfl (nle_b rfl) (allOne rfl) fun w154 S155 h153 => ?_
  replace h153 : Lc 13 w154 O151 g149 35 [(.string a130.name), (.int .i64 a130.cost), (.slice A142 a130.pre.length c143), (.slice A145 a130.effs.length c146)] := h153
  refine o_z ?_
  refine ewp_seq (ewp_drawX [] O151 ?_)
  refine x_pre (fuel := 8) [] [(0, true), (1, true), (4, true), (5, true), (6, true), (10, true), (11, true), (12, true)] (by kernel_rfl) rfl ?_
  refine h_fa rfl rfl rfl (h_ldC (hc := fun w' ⟨O', hq⟩ => Blk.cell (i := 1) ((h153.st hq (by decide)).1) rfl) rfl rfl rfl ?_)
  refine h_fa rfl rfl rfl (h_ldC (hc := fun w' ⟨O', hq⟩ => Blk.cell (i := 2) ((h153.st hq (by decide)).1) rfl) rfl rfl rfl ?_)
  refine h_ln rfl rfl rfl ?_
  replace h141 := (h141.st S152).st S155
  have l157 : a130.pre.length ≤ 9223372036854775807 := Nat.le_trans h141.len.2.1 h141.len.2.2
  have r156 : inI64 (a130.pre.length : Int) := rngNat l157
  refine h_fa rfl rfl rfl (h_ldC (hc := fun w' ⟨O', hq⟩ => Blk.cell (i := 3) ((h153.st hq (by decide)).1) rfl) rfl rfl rfl ?_)
  refine h_ln rfl rfl rfl ?_
  replace h144 := (h144.st S152).st S155
  have l159 : a130.effs.length ≤ 9223372036854775807 := Nat.le_trans h144.len.2.1 h144.len.2.2
  have r158 : inI64 (a130.effs.length : Int) := rngNat l159
  refine hwp_nilT ?_
  refine x_one (i := 2) (by kernel_rfl) rfl ?_
  obtain ⟨q160, e161, hf121⟩ := bs hf121
  replace hB := (hB.st S152).st S155
  refine l_callA (O := O151) (A := All w154) (R := fun w' F v => Vb w' F v q160) (c_strconv_Itoa (fun _ h => h) r147 (TabF.mono (TabF.bm hT' hB) Fr.lt) e161) rfl rfl fun v166 w162 O163 S164 h165 => ?_
  obtain ⟨rfl, z167⟩ := h165.str
  have hZ := S164.lst [] (fun _ h => h.elim)
  refine x_go [] hZ (by kernel_rfl) ?_
  refine x_pre (fuel := 6) [] [(3, true)] (by kernel_rfl) rfl ?_
  obtain ⟨n168, e169, hf121⟩ := bs hf121
  refine h_cat (he := e169) rfl rfl rfl rfl ?_
  refine hwp_nilT ?_
  refine x_one (i := 7) (by kernel_rfl) rfl ?_
  obtain ⟨q170, e171, hf121⟩ := bs hf121
  replace hB := hB.st S164
  refine l_callA (O := O163) (A := All w162) (R := fun w' F v => Vb w' F v q170) (c_strconv_Itoa (fun _ h => h) r156 (TabF.mono (TabF.bm hT' hB) Fr.lt) e171) rfl rfl fun v176 w172 O173 S174 h175 => ?_
  obtain ⟨rfl, z177⟩ := h175.str
  have hZ := S174.lst [] (fun _ h => h.elim)
  refine x_go [] hZ (by kernel_rfl) ?_
  refine x_pre (fuel := 3) [] [(8, true), (9, true)] (by kernel_rfl) rfl ?_
  obtain ⟨n178, e179, hf121⟩ := bs hf121
  refine h_cat (he := e179) rfl rfl rfl rfl ?_
  obtain ⟨n180, e181, hf121⟩ := bs hf121
  refine h_cat (he := e181) rfl rfl rfl rfl ?_
  refine hwp_nilT ?_
  refine x_one (i := 13) (by kernel_rfl) rfl ?_
  obtain ⟨q182, e183, hf121⟩ := bs hf121
  replace hB := hB.st S174
  refine l_callA (O := O173) (A := All w172) (R := fun w' F v => Vb w' F v q182) (c_strconv_Itoa (fun _ h => h) r158 (TabF.mono (TabF.bm hT' hB) Fr.lt) e183) rfl rfl fun v188 w184 O185 S186 h187 => ?_
  obtain ⟨rfl, z189⟩ := h187.str
  have hZ := S186.lst [] (fun _ h => h.elim)
  refine x_go [] hZ (by kernel_rfl) ?_
  refine x_pre (fuel := 0) [] [(14, true), (15, true)] (by kernel_rfl) rfl ?_
  obtain ⟨n190, e191, hf121⟩ := bs hf121
  refine h_cat (he := e191) rfl rfl rfl rfl ?_
  refine h_as rfl rfl rfl (hwp_nilT ?_)
  refine x_nil (by kernel_rfl) ?_
  refine ewp_seq (ewp_seq (ewp_region (o_fa rfl rfl ?_)))
  replace h153 := ((h153.st S164).st S174).st S186
  refine o_ld (hc := Blk.cell (i := 2) (h153.1) rfl) rfl rfl ?_
  refine o_ln rfl rfl ?_
  replace h141 := ((h141.st S164).st S174).st S186
  have l193 : a130.pre.length ≤ 9223372036854775807 := Nat.le_trans h141.len.2.1 h141.len.2.2
  have r192 : inI64 (a130.pre.length : Int) := rngNat l193
  refine o_mv rfl rfl (o_z ?_)
  obtain ⟨res194, hL195, hf121⟩ := bs hf121
  refine ewp_join (aft res194 (fun (s196 : BxM × (BxR 80 9 ByteArray)) (x197 : Unit) => [(0, (.pointer (some ⟨p0, 0, none⟩))), (3, (.pointer (some ⟨g80, 0, none⟩))), (4, (.pointer (some ⟨g87, 0, none⟩))), (5, (.func (.func 65) #[] #[(.pointer (some ⟨g80, 0, none⟩)), (.pointer (some ⟨g87, 0, none⟩))])), (7, (.pointer (some ⟨g149, 0, none⟩))), (8, (.string n190)), (29, (.slice A64 q57.length c65)), (30, (.int .i64 (q57.length : Int))), (31, (.int .i64 (k115 : Int)))]) (fun s196 x197 w' => ∃ O' : Lab, Bm w O0 w' O' ∧ Ob 2 w' O' (.pointer (some ⟨p0, 0, none⟩)) x0 ∧ Ob 10 w' O' (.pointer (some ⟨g80, 0, none⟩)) s196.1 ∧ Ob 11 w' O' (.pointer (some ⟨g87, 0, none⟩)) s196.2 ∧ Lc 13 w' O' g149 35 [(.string a130.name), (.int .i64 a130.cost), (.slice A142 a130.pre.length c143), (.slice A145 a130.effs.length c146)] ∧ Vb w' (Fr 0 w' O') (.slice A142 a130.pre.length c143) a130.pre ∧ Vb w' (Fr 0 w' O') (.slice A145 a130.effs.length c146) a130.effs ∧ Rw 8 w' O' 35 (.slice A64 q57.length c65) q67)) ?_ ?_
  ·
   refine ewp_block ?_
   replace hB := hB.st S186
   replace h74 := ((((h74.st S152).st S155).st S164).st S174).st S186
   replace h96 := ((((h96.st S152).st S155).st S164).st S174).st S186
   replace h128 := ((((h128.st S152).st S155).st S164).st S174).st S186
   replace h129 := ((((h129.st S152).st S155).st S164).st S174).st S186
   replace h144 := ((h144.st S164).st S174).st S186
   refine ewp_rng (σ := BxM × (BxR 80 9 ByteArray)) (X := Unit) (a130.pre.length) hL195 rfl l193 (fun (s196 : BxM × (BxR 80 9 ByteArray)) (x197 : Unit) => [(0, (.pointer (some ⟨p0, 0, none⟩))), (3, (.pointer (some ⟨g80, 0, none⟩))), (4, (.pointer (some ⟨g87, 0, none⟩))), (5, (.func (.func 65) #[] #[(.pointer (some ⟨g80, 0, none⟩)), (.pointer (some ⟨g87, 0, none⟩))])), (7, (.pointer (some ⟨g149, 0, none⟩))), (8, (.string n190)), (29, (.slice A64 q57.length c65)), (30, (.int .i64 (q57.length : Int))), (31, (.int .i64 (k115 : Int))), (51, (.slice A142 a130.pre.length c143))]) _ (fun s196 x197 w' => ∃ O' : Lab, Bm w O0 w' O' ∧ Ob 2 w' O' (.pointer (some ⟨p0, 0, none⟩)) x0 ∧ Ob 10 w' O' (.pointer (some ⟨g80, 0, none⟩)) s196.1 ∧ Ob 11 w' O' (.pointer (some ⟨g87, 0, none⟩)) s196.2 ∧ Lc 13 w' O' g149 35 [(.string a130.name), (.int .i64 a130.cost), (.slice A142 a130.pre.length c143), (.slice A145 a130.effs.length c146)] ∧ Vb w' (Fr 0 w' O') (.slice A142 a130.pre.length c143) a130.pre ∧ Vb w' (Fr 0 w' O') (.slice A145 a130.effs.length c146) a130.effs ∧ Rw 8 w' O' 35 (.slice A64 q57.length c65) q67) _ () ⟨O185, hB, h96, h128, h129, h153, h141, h144, h74⟩ ⟨rfl, rfl, rfl, rfl, rfl, rfl, rfl, rfl, rfl, rfl, rfl, rfl, trivial⟩ (fun _ _ => ⟨rfl, rfl⟩) (fun _ _ => ⟨rfl, rfl, rfl, rfl, rfl, rfl, rfl, rfl, rfl, trivial⟩) (fun _ _ _ ⟨O', hB, h96, h211, h212, h153, h141, h144, h74⟩ => ⟨O', hB, h96, h211, h212, h153, h141, h144, h74⟩) ⟨rfl, rfl, rfl⟩ ⟨rfl, rfl⟩ ?_
   rintro k198 a199 s196 x197 w200 cc202 hx203 ⟨O201, hB, h96, h211, h212, h153, h141, h144, h74⟩ hf204 hret205 hbrk206
   have rk198 : inI64 (k198 : Int) := rngK hx203 l193
   refine ewp_seq (ewp_region ?_)
   obtain ⟨b213, o214, ce215, hA216, hl217, hd218, rfl, r220, r221⟩ := h141.elem' hx203
   refine o_iaE (hA := hA216) (hj := rfl) (hlt := hl217) rfl rfl rfl ?_
   refine o_la (hl := rfl) (hc := hd218) rfl rfl ?_
   refine l_alloc 14 O201 rfl fun g222 w223 O224 S225 h226 => ?_
   refine l_store h226 rfl rfl rfl (nle_b rfl) (allOne rfl) fun w227 S228 h226 => ?_
   replace h226 : Lc 14 w227 O224 g222 26 [(.int .i64 a199.var), (.int .i64 a199.val)] := h226
   refine o_z ?_
   refine ewp_region (o_mv rfl rfl (o_mv rfl rfl ?_))
   obtain ⟨n229, e230, hf204⟩ := bs hf204
   refine o_cat (he := e230) rfl rfl rfl ?_
   refine o_la (hl := rfl) (hc := (h226.1).cellsAt) rfl rfl ?_
   obtain ⟨q231, e232, hf204⟩ := bs hf204
   replace h211 := (h211.st S225).st S228
   replace h212 := (h212.st S225).st S228
   refine l_callMv (O := O224) (c_symmetry_finder_roles_l2 (catI_sz e230) (Vb.ofAgg (cs := [(.int .i64 a199.var), (.int .i64 a199.val)]) (x := a199) rfl ⟨rfl, r220, r221⟩) h211 h212 (by decide) e232) rfl rfl rfl rfl fun v237 w233 O234 S235 h236 => ?_
   obtain ⟨h238, h239⟩ := h236
   refine o_z ?_
   obtain rfl := sm hf204
   replace hB := ((hB.st S225).st S228).st S235
   replace h74 := ((h74.st S225).st S228).st S235
   replace h96 := ((h96.st S225).st S228).st S235
   replace h141 := ((h141.st S225).st S228).st S235
   replace h144 := ((h144.st S225).st S228).st S235
   replace h153 := ((h153.st S225).st S228).st S235
   exact show Exists _ from ⟨_, (), rfl, ⟨rfl, rfl, rfl, rfl, rfl, rfl, rfl, rfl, rfl, rfl, rfl, rfl, trivial⟩, _, hB, h96, h238, h239, h153, h141, h144, h74⟩
  replace hB := hB.st S186
  replace h74 := ((((h74.st S152).st S155).st S164).st S174).st S186
  replace h96 := ((((h96.st S152).st S155).st S164).st S174).st S186
  replace h144 := ((h144.st S164).st S174).st S186
  rintro l240 w241 ⟨s244, x245, rfl, hs243, O242, hB, h96, h211, h212, h153, h141, h144, h74⟩
  replace hf121 := fin_done hf121
  refine ewp_sub _ hs243 ?_
  refine ewp_seq (ewp_region (o_fa rfl rfl (o_ld (hc := Blk.cell (i := 3) (h153.1) rfl) rfl rfl ?_)))
  refine o_ln rfl rfl ?_
  have l247 : a130.effs.length ≤ 9223372036854775807 := Nat.le_trans h144.len.2.1 h144.len.2.2
  have r246 : inI64 (a130.effs.length : Int) := rngNat l247
  refine o_mv rfl rfl (o_z ?_)
  obtain ⟨res248, hL249, hf121⟩ := bs hf121
  refine ewp_join (aft res248 (fun (s250 : BxM × (BxR 80 9 ByteArray)) (x251 : Unit) => [(0, (.pointer (some ⟨p0, 0, none⟩))), (3, (.pointer (some ⟨g80, 0, none⟩))), (4, (.pointer (some ⟨g87, 0, none⟩))), (5, (.func (.func 65) #[] #[(.pointer (some ⟨g80, 0, none⟩)), (.pointer (some ⟨g87, 0, none⟩))])), (29, (.slice A64 q57.length c65)), (30, (.int .i64 (q57.length : Int))), (31, (.int .i64 (k115 : Int)))]) (fun s250 x251 w' => ∃ O' : Lab, Bm w O0 w' O' ∧ Ob 2 w' O' (.pointer (some ⟨p0, 0, none⟩)) x0 ∧ Ob 10 w' O' (.pointer (some ⟨g80, 0, none⟩)) s250.1 ∧ Ob 11 w' O' (.pointer (some ⟨g87, 0, none⟩)) s250.2 ∧ Rw 8 w' O' 35 (.slice A64 q57.length c65) q67)) ?_ ?_
  ·
   refine ewp_block (ewp_rng (σ := BxM × (BxR 80 9 ByteArray)) (X := Unit) (a130.effs.length) hL249 rfl l247 (fun (s250 : BxM × (BxR 80 9 ByteArray)) (x251 : Unit) => [(0, (.pointer (some ⟨p0, 0, none⟩))), (3, (.pointer (some ⟨g80, 0, none⟩))), (4, (.pointer (some ⟨g87, 0, none⟩))), (5, (.func (.func 65) #[] #[(.pointer (some ⟨g80, 0, none⟩)), (.pointer (some ⟨g87, 0, none⟩))])), (8, (.string n190)), (29, (.slice A64 q57.length c65)), (30, (.int .i64 (q57.length : Int))), (31, (.int .i64 (k115 : Int))), (64, (.slice A145 a130.effs.length c146))]) _ (fun s250 x251 w' => ∃ O' : Lab, Bm w O0 w' O' ∧ Ob 2 w' O' (.pointer (some ⟨p0, 0, none⟩)) x0 ∧ Ob 10 w' O' (.pointer (some ⟨g80, 0, none⟩)) s250.1 ∧ Ob 11 w' O' (.pointer (some ⟨g87, 0, none⟩)) s250.2 ∧ Rw 8 w' O' 35 (.slice A64 q57.length c65) q67 ∧ Vb w' (Fr 0 w' O') (.slice A145 a130.effs.length c146) a130.effs) _ () ⟨O242, hB, h96, h211, h212, h74, h144⟩ ⟨rfl, rfl, rfl, rfl, rfl, rfl, rfl, rfl, rfl, rfl, rfl, trivial⟩ (fun _ _ => ⟨rfl, rfl⟩) (fun _ _ => ⟨rfl, rfl, rfl, rfl, rfl, rfl, rfl, trivial⟩) (fun _ _ _ ⟨O', hB, h96, h265, h266, h74, h144⟩ => ⟨O', hB, h96, h265, h266, h74⟩) ⟨rfl, rfl, rfl⟩ ⟨rfl, rfl⟩ ?_)
   rintro k252 a253 s250 x251 w254 cc256 hx257 ⟨O255, hB, h96, h265, h266, h74, h144⟩ hf258 hret259 hbrk260
   have rk252 : inI64 (k252 : Int) := rngK hx257 l247
   refine ewp_seq (ewp_region (o_mv rfl rfl ?_))
   obtain ⟨b267, o268, ce269, hA270, hl271, hd272, v274, rfl, h275, r278, r279⟩ := h144.elem' hx257
   obtain ⟨A276, c277, rfl⟩ := h275.form
   refine o_iaE (hA := hA270) (hj := rfl) (hlt := hl271) rfl rfl rfl ?_
   refine o_la (hl := rfl) (hc := hd272) rfl rfl ?_
   refine l_alloc 15 O255 rfl fun g280 w281 O282 S283 h284 => ?_
   refine o_as rfl rfl (l_store h284 rfl rfl rfl (nle_b rfl) (allOne rfl) fun w285 S286 h284 => ?_)
   replace h284 : Lc 15 w285 O282 g280 32 [(.slice A276 a253.cond.length c277), (.int .i64 a253.var), (.int .i64 a253.val)] := h284
   refine o_z ?_
   refine ewp_seq (ewp_drawX [] O282 ?_)
   refine x_pre (fuel := 3) [] [(0, true), (1, true), (2, true), (3, true), (6, true), (7, true), (8, true), (9, true), (10, true)] (by kernel_rfl) rfl ?_
   refine h_mv rfl rfl rfl (h_mv rfl rfl rfl ?_)
   obtain ⟨n287, e288, hf258⟩ := bs hf258
   refine h_cat (he := e288) rfl rfl rfl rfl ?_
   refine h_mv rfl rfl rfl (h_fa rfl rfl rfl (h_ldC (hc := fun w' ⟨O', hq⟩ => Blk.cell (i := 1) ((h284.st hq (by decide)).1) rfl) rfl rfl rfl ?_))
   refine h_fa rfl rfl rfl (h_ldC (hc := fun w' ⟨O', hq⟩ => Blk.cell (i := 2) ((h284.st hq (by decide)).1) rfl) rfl rfl rfl ?_)
   refine h_bd rfl rfl rfl rfl ?_
   refine hwp_nilT ?_
   refine x_one (i := 4) (by kernel_rfl) rfl ?_
   obtain ⟨q289, e290, hf258⟩ := bs hf258
   replace hB := (hB.st S283).st S286
   refine l_callA (O := O282) (A := All w285) (R := fun w' F v => Vb w' F v q289) (c_strconv_Itoa (fun _ h => h) rk252 (TabF.mono (TabF.bm hT' hB) Fr.lt) e290) rfl rfl fun v295 w291 O292 S293 h294 => ?_
   obtain ⟨rfl, z296⟩ := h294.str
   have hZ := S293.lst [] (fun _ h => h.elim)
   refine x_go [] hZ (by kernel_rfl) ?_
   refine x_pre (fuel := 1) [] [(5, true)] (by kernel_rfl) rfl ?_
   obtain ⟨n297, e298, hf258⟩ := bs hf258
   refine h_cat (he := e298) rfl rfl rfl rfl ?_
   refine hwp_nilT ?_
   refine x_one (i := 11) (by kernel_rfl) rfl ?_
   obtain ⟨q299, e300, hf258⟩ := bs hf258
   replace h265 := ((h265.st S283).st S286).st S293
   replace h266 := ((h266.st S283).st S286).st S293
   refine l_callMv (O := O292) (c_symmetry_finder_roles_l2 (catI_sz e298) (Vb.ofAgg (cs := [(.int .i64 a253.var), (.int .i64 a253.val)]) (x := (⟨a253.var, a253.val⟩ : Fct)) rfl ⟨rfl, r278, r279⟩) h265 h266 (by decide) e300) rfl rfl rfl rfl fun v305 w301 O302 S303 h304 => ?_
   obtain ⟨h306, h307⟩ := h304
   refine x_end (by kernel_rfl) ?_
   refine x_nil (by kernel_rfl) ?_
   refine ewp_seq (ewp_region (o_fa rfl rfl ?_))
   replace h284 := (h284.st S293).st S303
   refine o_ld (hc := Blk.cell (i := 0) (h284.1) rfl) rfl rfl ?_
   refine o_ln rfl rfl ?_
   replace h275 := (((h275.st S283).st S286).st S293).st S303
   have l309 : a253.cond.length ≤ 9223372036854775807 := Nat.le_trans h275.len.2.1 h275.len.2.2
   have r308 : inI64 (a253.cond.length : Int) := rngNat l309
   refine o_mv rfl rfl (o_z ?_)
   obtain ⟨res310, hL311, hf258⟩ := bs hf258
   refine ewp_join (aft res310 (fun (s312 : BxM × (BxR 80 9 ByteArray)) (x313 : Unit) => [(0, (.pointer (some ⟨p0, 0, none⟩))), (3, (.pointer (some ⟨g80, 0, none⟩))), (4, (.pointer (some ⟨g87, 0, none⟩))), (5, (.func (.func 65) #[] #[(.pointer (some ⟨g80, 0, none⟩)), (.pointer (some ⟨g87, 0, none⟩))])), (8, (.string n190)), (29, (.slice A64 q57.length c65)), (30, (.int .i64 (q57.length : Int))), (31, (.int .i64 (k115 : Int))), (64, (.slice A145 a130.effs.length c146)), (65, (.int .i64 (a130.effs.length : Int))), (66, (.int .i64 (k252 : Int)))]) (fun s312 x313 w' => ∃ O' : Lab, Bm w O0 w' O' ∧ Ob 2 w' O' (.pointer (some ⟨p0, 0, none⟩)) x0 ∧ Ob 10 w' O' (.pointer (some ⟨g80, 0, none⟩)) s312.1 ∧ Ob 11 w' O' (.pointer (some ⟨g87, 0, none⟩)) s312.2 ∧ Rw 8 w' O' 35 (.slice A64 q57.length c65) q67 ∧ Vb w' (Fr 0 w' O') (.slice A145 a130.effs.length c146) a130.effs)) ?_ ?_
   ·
    refine ewp_block ?_
    replace hB := (hB.st S293).st S303
    replace h74 := (((h74.st S283).st S286).st S293).st S303
    replace h96 := (((h96.st S283).st S286).st S293).st S303
    replace h144 := (((h144.st S283).st S286).st S293).st S303
    refine ewp_rng (σ := BxM × (BxR 80 9 ByteArray)) (X := Unit) (a253.cond.length) hL311 rfl l309 (fun (s312 : BxM × (BxR 80 9 ByteArray)) (x313 : Unit) => [(0, (.pointer (some ⟨p0, 0, none⟩))), (3, (.pointer (some ⟨g80, 0, none⟩))), (4, (.pointer (some ⟨g87, 0, none⟩))), (5, (.func (.func 65) #[] #[(.pointer (some ⟨g80, 0, none⟩)), (.pointer (some ⟨g87, 0, none⟩))])), (8, (.string n190)), (11, (.int .i64 (k252 : Int))), (29, (.slice A64 q57.length c65)), (30, (.int .i64 (q57.length : Int))), (31, (.int .i64 (k115 : Int))), (64, (.slice A145 a130.effs.length c146)), (65, (.int .i64 (a130.effs.length : Int))), (66, (.int .i64 (k252 : Int))), (84, (.slice A276 a253.cond.length c277))]) _ (fun s312 x313 w' => ∃ O' : Lab, Bm w O0 w' O' ∧ Ob 2 w' O' (.pointer (some ⟨p0, 0, none⟩)) x0 ∧ Ob 10 w' O' (.pointer (some ⟨g80, 0, none⟩)) s312.1 ∧ Ob 11 w' O' (.pointer (some ⟨g87, 0, none⟩)) s312.2 ∧ Rw 8 w' O' 35 (.slice A64 q57.length c65) q67 ∧ Vb w' (Fr 0 w' O') (.slice A145 a130.effs.length c146) a130.effs ∧ Vb w' (Fr 0 w' O') (.slice A276 a253.cond.length c277) a253.cond) _ () ⟨O302, hB, h96, h306, h307, h74, h144, h275⟩ ⟨rfl, rfl, rfl, rfl, rfl, rfl, rfl, rfl, rfl, rfl, rfl, rfl, rfl, rfl, rfl, trivial⟩ (fun _ _ => ⟨rfl, rfl⟩) (fun _ _ => ⟨rfl, rfl, rfl, rfl, rfl, rfl, rfl, rfl, rfl, rfl, rfl, trivial⟩) (fun _ _ _ ⟨O', hB, h96, h327, h328, h74, h144, h275⟩ => ⟨O', hB, h96, h327, h328, h74, h144⟩) ⟨rfl, rfl, rfl⟩ ⟨rfl, rfl⟩ ?_
    rintro k314 a315 s312 x313 w316 cc318 hx319 ⟨O317, hB, h96, h327, h328, h74, h144, h275⟩ hf320 hret321 hbrk322
    have rk314 : inI64 (k314 : Int) := rngK hx319 l309
    refine ewp_seq (ewp_region ?_)
    obtain ⟨b329, o330, ce331, hA332, hl333, hd334, rfl, r336, r337⟩ := h275.elem' hx319
    refine o_iaE (hA := hA332) (hj := rfl) (hlt := hl333) rfl rfl rfl ?_
    refine o_la (hl := rfl) (hc := hd334) rfl rfl ?_
    refine l_alloc 16 O317 rfl fun g338 w339 O340 S341 h342 => ?_
    refine l_store h342 rfl rfl rfl (nle_b rfl) (allOne rfl) fun w343 S344 h342 => ?_
    replace h342 : Lc 16 w343 O340 g338 26 [(.int .i64 a315.var), (.int .i64 a315.val)] := h342
    refine o_z ?_
    refine ewp_drawX [] O340 ?_
    refine x_pre (fuel := 3) [] [(0, true), (1, true), (2, true), (3, true), (6, true)] (by kernel_rfl) rfl ?_
    refine h_mv rfl rfl rfl (h_mv rfl rfl rfl ?_)
    obtain ⟨n345, e346, hf320⟩ := bs hf320
    refine h_cat (he := e346) rfl rfl rfl rfl ?_
    refine h_mv rfl rfl rfl (h_laB (hl := rfl) (hb := fun w' ⟨O', hq⟩ => ((h342.st hq (by decide)).1).cellsAt) rfl rfl rfl ?_)
    refine hwp_nilT ?_
    refine x_one (i := 4) (by kernel_rfl) rfl ?_
    obtain ⟨q347, e348, hf320⟩ := bs hf320
    replace hB := (hB.st S341).st S344
    refine l_callA (O := O340) (A := All w343) (R := fun w' F v => Vb w' F v q347) (c_strconv_Itoa (fun _ h => h) rk252 (TabF.mono (TabF.bm hT' hB) Fr.lt) e348) rfl rfl fun v353 w349 O350 S351 h352 => ?_
    obtain ⟨rfl, z354⟩ := h352.str
    have hZ := S351.lst [] (fun _ h => h.elim)
    refine x_go [] hZ (by kernel_rfl) ?_
    refine x_pre (fuel := 1) [] [(5, true)] (by kernel_rfl) rfl ?_
    obtain ⟨n355, e356, hf320⟩ := bs hf320
    refine h_cat (he := e356) rfl rfl rfl rfl ?_
    refine hwp_nilT ?_
    refine x_one (i := 7) (by kernel_rfl) rfl ?_
    obtain ⟨q357, e358, hf320⟩ := bs hf320
    replace h327 := ((h327.st S341).st S344).st S351
    replace h328 := ((h328.st S341).st S344).st S351
    refine l_callMv (O := O350) (c_symmetry_finder_roles_l2 (catI_sz e356) (Vb.ofAgg (cs := [(.int .i64 a315.var), (.int .i64 a315.val)]) (x := a315) rfl ⟨rfl, r336, r337⟩) h327 h328 (by decide) e358) rfl rfl rfl rfl fun v363 w359 O360 S361 h362 => ?_
    obtain ⟨h364, h365⟩ := h362
    refine x_end (by kernel_rfl) ?_
    refine x_nil (by kernel_rfl) ?_
    obtain rfl := sm hf320
    replace hB := (hB.st S351).st S361
    replace h74 := (((h74.st S341).st S344).st S351).st S361
    replace h96 := (((h96.st S341).st S344).st S351).st S361
    replace h144 := (((h144.st S341).st S344).st S351).st S361
    replace h275 := (((h275.st S341).st S344).st S351).st S361
    exact show Exists _ from ⟨_, (), rfl, ⟨rfl, rfl, rfl, rfl, rfl, rfl, rfl, rfl, rfl, rfl, rfl, rfl, rfl, rfl, rfl, trivial⟩, _, hB, h96, h364, h365, h74, h144, h275⟩
   replace hB := (hB.st S293).st S303
   replace h74 := (((h74.st S283).st S286).st S293).st S303
   replace h96 := (((h96.st S283).st S286).st S293).st S303
   replace h144 := (((h144.st S283).st S286).st S293).st S303
   rintro l366 w367 ⟨s370, x371, rfl, hs369, O368, hB, h96, h327, h328, h74, h144⟩
   replace hf258 := fin_done hf258
   obtain rfl := sm hf258
   exact show Exists _ from ⟨_, (), rfl, ⟨(subs_lk hs369 _ _ rfl), (subs_lk hs369 _ _ rfl), (subs_lk hs369 _ _ rfl), (subs_lk hs369 _ _ rfl), (subs_lk hs369 _ _ rfl), (subs_lk hs369 _ _ rfl), (subs_lk hs369 _ _ rfl), (subs_lk hs369 _ _ rfl), (subs_lk hs369 _ _ rfl), (subs_lk hs369 _ _ rfl), (subs_lk hs369 _ _ rfl), trivial⟩, _, hB, h96, h327, h328, h74, h144⟩
  rintro l372 w373 ⟨s376, x377, rfl, hs375, O374, hB, h96, h265, h266, h74⟩
  replace hf121 := fin_done hf121
  obtain rfl := sm hf121
  exact show Exists _ from ⟨_, (), rfl, ⟨(subs_lk hs375 _ _ rfl), (subs_lk hs375 _ _ rfl), (subs_lk hs375 _ _ rfl), (subs_lk hs375 _ _ rfl), (subs_lk hs375 _ _ rfl), (subs_lk hs375 _ _ rfl), (subs_lk hs375 _ _ rfl), trivial⟩, _, hB, h96, h265, h266, h74⟩
 replace hB := (((((((((hB.st S3).st S61).st S71).st S78).st S83).st S86).st S90).st S95).st S100).st S107
 replace h96 := (h96.st S100).st S107
 rintro l378 w379 ⟨s382, x383, rfl, hs381, O380, hB, h96, h128, h129⟩
 replace hm := fin_done hm
 refine ewp_sub _ hs381 ?_
 refine ewp_seq (ewp_region ?_)
 obtain ⟨O384, v388, S385, ha387, h386, h389⟩ := BxR.opn h129 11 17 (by decide)
 obtain ⟨A390, c391, rfl⟩ := h389.form
 refine o_ld (hc := Blk.cell (i := 0) (h386.1) rfl) rfl rfl ?_
 obtain ⟨q393, e394, hm⟩ := bs hm
 refine l_callM (O := O384) (c_slices_Sort_Lstring_string h389 e394) rfl rfl fun v399 w395 O396 S397 h400 => ?_
 refine o_z ?_
 refine ewp_seq (ewp_region ?_)
 replace h386 := h386.st S397
 refine o_ld (hc := Blk.cell (i := 0) (h386.1) rfl) rfl rfl ?_
 refine o_ln rfl rfl ?_
 have l402 : s382.2.l.length ≤ 9223372036854775807 := Nat.le_trans h400.len.2.1 h400.len.2.2
 have r401 : inI64 (s382.2.l.length : Int) := rngNat l402
 refine o_mv rfl rfl (o_z ?_)
 obtain ⟨O403, S404, hz406, ha407, h405⟩ := BxR.shut (x := (⟨q393⟩ : BxR 80 9 ByteArray)) (l0 := 11) (l1 := 17) (by decide) (by have q := h386; rw [← h400.len.1.symm] at q; exact q) h400.relen
 have h408 := (h400.lend [17] (by decide)).shutS S404 hz406 ha407 [11] (by decide)
 obtain ⟨res409, hL410, hm⟩ := bs hm
 refine ewp_join (aft res409 (fun (s411 : Fnd) (x412 : Unit) => []) (fun s411 x412 w' => ∃ O' : Lab, Bm w O0 w' O' ∧ Ob 2 w' O' (.pointer (some ⟨p0, 0, none⟩)) s411)) ?_ ?_
 ·
  refine ewp_block ?_
  replace hB := ((hB.st S385).st S397).st S404
  replace h96 := ((h96.st S385).st S397).st S404
  replace h128 := ((h128.st S385).st S397).st S404
  refine ewp_rng (σ := Fnd) (X := Unit) (s382.2.l.length) hL410 rfl l402 (fun (s411 : Fnd) (x412 : Unit) => [(0, (.pointer (some ⟨p0, 0, none⟩))), (3, (.pointer (some ⟨g80, 0, none⟩))), (103, (.slice A390 s382.2.l.length c391))]) _ (fun s411 x412 w' => ∃ O' : Lab, Bm w O0 w' O' ∧ Ob 2 w' O' (.pointer (some ⟨p0, 0, none⟩)) s411 ∧ Ob 10 w' O' (.pointer (some ⟨g80, 0, none⟩)) s382.1 ∧ Vb w' (FrS [11] w' O') (.slice A390 s382.2.l.length c391) q393) _ () ⟨O403, hB, h96, h128, h408⟩ ⟨rfl, rfl, rfl, rfl, rfl, trivial⟩ (fun _ _ => ⟨rfl, rfl⟩) (fun _ _ => trivial) (fun _ _ _ ⟨O', hB, h425, h128, h408⟩ => ⟨O', hB, h425⟩) ⟨rfl, rfl, rfl⟩ ⟨rfl, rfl⟩ ?_
  rintro k413 a414 s411 x412 w415 cc417 hx418 ⟨O416, hB, h425, h128, h408⟩ hf419 hret420 hbrk421
  have rk413 : inI64 (k413 : Int) := rngK hx418 l402
  refine ewp_seq (ewp_region ?_)
  obtain ⟨a426, e427, hf419⟩ := bs hf419
  obtain ⟨b428, o429, ce430, hA431, hl432, hd433, rfl, z435⟩ := h408.elem' e427
  refine o_iaE (hA := hA431) (hj := rfl) (hlt := hl432) rfl rfl rfl ?_
  refine o_ld (hc := cat0 hd433) rfl rfl ?_
  refine o_as rfl rfl (o_z ?_)
  refine ewp_seq (ewp_region (o_mv rfl rfl (o_nc rfl rfl ?_)))
  obtain ⟨O436, v440, v444, v448, v452, v456, v460, v465, v470, v475, v479, v484, S437, ha439, h438, h441, h445, h449, h453, h457, h461, h466, h471, h476, h480, h485, r489, r490⟩ := Fnd.opn h425 2 3 4 5 6 7 (by decide)
  obtain ⟨A442, c443, rfl⟩ := h441.form
  obtain ⟨A446, c447, rfl⟩ := h445.form
  obtain ⟨A450, c451, rfl⟩ := h449.form
  obtain ⟨A454, c455, rfl⟩ := h453.form
  obtain ⟨A458, c459, rfl⟩ := h457.form
  obtain ⟨A462, c463, rfl⟩ := h461.form
  obtain ⟨A467, c468, rfl⟩ := h466.form
  obtain ⟨A472, c473, rfl⟩ := h471.form
  obtain ⟨A477, c478, rfl⟩ := h476.form
  obtain ⟨A481, c482, rfl⟩ := h480.form
  obtain ⟨A486, c487, rfl⟩ := h485.form
  replace h408 := h408.stS S437 (by decide) (by decide)
  refine o_fa rfl rfl (o_ld (hc := Blk.cell (i := 4) (h438.1) rfl) rfl rfl ?_)
  refine o_ln rfl rfl ?_
  have l492 : s411.list.length ≤ 9223372036854775807 := Nat.le_trans h457.len.2.1 h457.len.2.2
  have r491 : inI64 (s411.list.length : Int) := rngNat l492
  refine o_mv rfl rfl (o_z ?_)
  obtain ⟨O493, S494, hz496, ha497, h495⟩ := Fnd.shut (x := s411) (l0 := 2) (l1 := 3) (l2 := 4) (l3 := 5) (l4 := 6) (l5 := 7) (by decide) h438 h441 h445 h449 h453 h457 h461 h466 h471 h476 h480 h485 r489 r490
  replace h408 := h408.stS S494 (by decide) (by decide)
  obtain ⟨res498, hL499, hf419⟩ := bs hf419
  refine ewp_join (aft res498 (fun (s500 : Fnd) (x501 : Unit) => [(0, (.pointer (some ⟨p0, 0, none⟩))), (3, (.pointer (some ⟨g80, 0, none⟩))), (103, (.slice A390 s382.2.l.length c391)), (104, (.int .i64 (s382.2.l.length : Int))), (105, (.int .i64 (k413 : Int)))]) (fun s500 x501 w' => ∃ O' : Lab, Bm w O0 w' O' ∧ Ob 2 w' O' (.pointer (some ⟨p0, 0, none⟩)) s500 ∧ Ob 10 w' O' (.pointer (some ⟨g80, 0, none⟩)) s382.1 ∧ Vb w' (FrS [11] w' O') (.slice A390 s382.2.l.length c391) q393)) ?_ ?_
  ·
   refine ewp_block ?_
   replace hB := (hB.st S437).st S494
   replace h128 := (h128.st S437).st S494
   replace h457 := h457.st S494
   refine ewp_rng (σ := Fnd) (X := Unit) (s411.list.length) hL499 rfl l492 (fun (s500 : Fnd) (x501 : Unit) => [(0, (.pointer (some ⟨p0, 0, none⟩))), (3, (.pointer (some ⟨g80, 0, none⟩))), (16, (.string a426)), (103, (.slice A390 s382.2.l.length c391)), (104, (.int .i64 (s382.2.l.length : Int))), (105, (.int .i64 (k413 : Int))), (112, (.slice A458 s411.list.length c459))]) _ (fun s500 x501 w' => ∃ O' : Lab, Bm w O0 w' O' ∧ Ob 2 w' O' (.pointer (some ⟨p0, 0, none⟩)) s500 ∧ Ob 10 w' O' (.pointer (some ⟨g80, 0, none⟩)) s382.1 ∧ Vb w' (FrS [11] w' O') (.slice A390 s382.2.l.length c391) q393 ∧ Vb w' (Fr 0 w' O') (.slice A458 s411.list.length c459) s411.list) _ () ⟨O493, hB, h495, h128, h408, h457⟩ ⟨rfl, rfl, rfl, rfl, rfl, rfl, rfl, rfl, rfl, trivial⟩ (fun _ _ => ⟨rfl, rfl⟩) (fun _ _ => ⟨rfl, rfl, rfl, rfl, rfl, trivial⟩) (fun _ _ _ ⟨O', hB, h514, h128, h408, h457⟩ => ⟨O', hB, h514, h128, h408⟩) ⟨rfl, rfl, rfl⟩ ⟨rfl, rfl⟩ ?_
   rintro k502 a503 s500 x501 w504 cc506 hx507 ⟨O505, hB, h514, h128, h408, h457⟩ hf508 hret509 hbrk510
   have rk502 : inI64 (k502 : Int) := rngK hx507 l492
   refine ewp_seq (ewp_region ?_)
   obtain ⟨b515, o516, ce517, hA518, hl519, hd520, rfl, r522, r523⟩ := h457.elem' hx507
   refine o_iaE (hA := hA518) (hj := rfl) (hlt := hl519) rfl rfl rfl ?_
   refine o_la (hl := rfl) (hc := hd520) rfl rfl ?_
   refine l_alloc 18 O505 rfl fun g524 w525 O526 S527 h528 => ?_
   replace h408 := h408.stS S527 id (fun _ _ => id)
   refine l_store h528 rfl rfl rfl (nle_b rfl) (allOne rfl) fun w529 S530 h528 => ?_
   replace h528 : Lc 18 w529 O526 g524 26 [(.int .i64 a503.var), (.int .i64 a503.val)] := h528
   replace h408 := h408.stS S530 (by decide) (by decide)
   refine o_z ?_
   replace h128 := (h128.st S527).st S530
   obtain ⟨O531, v535, S532, ha534, h533, h536⟩ := BxM.opn h128 10 19 (by decide)
   obtain ⟨p537, rfl⟩ := h536.mptr
   replace h408 := h408.stS S532 (by decide) (by decide)
   refine ewp_drawX [] O531 ?_
   refine x_pre (fuel := 2) [] [(0, true), (1, true), (2, true), (3, true), (4, true), (5, true), (6, true)] (by kernel_rfl) rfl ?_
   refine h_mv rfl rfl rfl ?_
   replace h528 := h528.st S532
   refine h_laB (hl := rfl) (hb := fun w' ⟨O', hq⟩ => ((h528.st hq (by decide)).1).cellsAt) rfl rfl rfl ?_
   refine h_ldC (hc := fun w' ⟨O', hq⟩ => Blk.cell (i := 0) ((h533.st hq (by decide)).1) rfl) rfl rfl rfl ?_
   refine h_mv rfl rfl rfl ?_
   obtain ⟨v540, hl538, hd539⟩ := MapM.get h536 a426
   refine h_lk a426 (fun w' ⟨O', hq⟩ => hl538.keep (hq.agree (i := 19) (by decide) _ (MapM.at h536))) rfl rfl rfl rfl ?_
   obtain ⟨m541, e542, hf508⟩ := bs hf508
   obtain ⟨q543, rfl, hF544, hI545⟩ := InnV.some hd539 e542
   refine h_laB (hl := rfl) (hb := fun w' ⟨O', hq⟩ => ((h528.st hq (by decide)).1).cellsAt) rfl rfl rfl ?_
   obtain ⟨hl546, r547⟩ := IM.get hI545 a503
   refine h_lkF a503 (fun w' ⟨O', hq⟩ => hl546.keep (hq.agree (i := 19) (by decide) _ hF544)) rfl rfl rfl rfl ?_
   refine hwp_nilT ?_
   refine x_one (i := 7) (by kernel_rfl) rfl ?_
   obtain ⟨q548, e549, hf508⟩ := bs hf508
   replace hB := ((hB.st S527).st S530).st S532
   refine l_callA (O := O531) (A := All w529) (R := fun w' F v => Vb w' F v q548) (c_strconv_Itoa (fun _ h => h) r547 (TabF.mono (TabF.bm hT' hB) Fr.lt) e549) rfl rfl fun v554 w550 O551 S552 h553 => ?_
   obtain ⟨rfl, z555⟩ := h553.str
   have hZ := S552.lst [] (fun _ h => h.elim)
   replace h408 := h408.stS S552 id (fun _ _ => id)
   refine x_go [] hZ (by kernel_rfl) ?_
   refine x_one (i := 8) (by kernel_rfl) rfl ?_
   obtain ⟨q556, e557, hf508⟩ := bs hf508
   replace h514 := (((h514.st S527).st S530).st S532).st S552
   refine l_callM (O := O551) (c_symmetry_finder_sign h514 (Vb.ofAgg (cs := [(.int .i64 a503.var), (.int .i64 a503.val)]) (x := a503) rfl ⟨rfl, r522, r523⟩) z555 e557) rfl rfl fun v562 w558 O559 S560 h563 => ?_
   replace h408 := h408.stS S560 (by decide) (by decide)
   refine x_end (by kernel_rfl) ?_
   refine x_nil (by kernel_rfl) ?_
   replace h533 := (h533.st S552).st S560
   replace h536 := (h536.st S552).st S560
   obtain ⟨O564, S565, hz567, ha568, h566⟩ := BxM.shut (x := s382.1) (l0 := 10) (l1 := 19) (by decide) h533 h536
   replace h408 := h408.stS S565 (by decide) (by decide)
   obtain rfl := sm hf508
   replace hB := ((hB.st S552).st S560).st S565
   replace h457 := (((((h457.st S527).st S530).st S532).st S552).st S560).st S565
   replace h563 := h563.st S565
   exact show Exists _ from ⟨_, (), rfl, ⟨rfl, rfl, rfl, rfl, rfl, rfl, rfl, rfl, rfl, trivial⟩, _, hB, h563, h566, h408, h457⟩
  replace hB := (hB.st S437).st S494
  replace h128 := (h128.st S437).st S494
  rintro l569 w570 ⟨s573, x574, rfl, hs572, O571, hB, h514, h128, h408⟩
  replace hf419 := fin_done hf419
  obtain rfl := sm hf419
  exact show Exists _ from ⟨_, (), rfl, ⟨(subs_lk hs572 _ _ rfl), (subs_lk hs572 _ _ rfl), (subs_lk hs572 _ _ rfl), (subs_lk hs572 _ _ rfl), (subs_lk hs572 _ _ rfl), trivial⟩, _, hB, h514, h128, h408⟩
 replace hB := ((hB.st S385).st S397).st S404
 rintro l575 w576 ⟨s579, x580, rfl, hs578, O577, hB, h425⟩
 replace hm := fin_done hm
 obtain rfl := sm hm
 obtain ⟨O', hS', hz, hl⟩ := hE.leave (fun q => if q = 2 then i0 else 0) rfl hB
 exact ret0n rfl  ⟨O', hS', (Ob.leave h425 hz (hl 2 (by decide) (by decide)) hx0.2)⟩
noncomputable def m_symmetry_newFinder (x0 : Tsk) (x1 : Int) : Option (Option Fnd) :=
  bnd (mkI 1 (false : Bool) (x0.vars.length : Int)) fun u27 => bnd (rng (ρ := (Option Fnd)) (fun (k51 : Nat) (a52 : Int) (s49 : (List Fct) × (List (List ByteArray)) × (List Int) × (List (List Int)) × (List (List Bool))) => bnd (mkI 16 ((⟨#[]⟩ : ByteArray) : ByteArray) a52) fun u90 => bnd (appI 24 s49.2.1 ([u90] : List (List ByteArray))) fun u92 => bnd (mkI 1 (false : Bool) a52) fun u94 => bnd (appI 24 s49.2.2.2.2 ([u94] : List (List Bool))) fun u96 => bnd (some (u92, u96) : Option ((List (List ByteArray)) × (List (List Bool)))) fun y98 => bnd (appI 8 s49.2.2.1 ([(-1)] : List Int)) fun u503 => bnd (m_slices_Repeat_Lint_int ([(-1)] : List Int) a52) fun q505 => bnd (appI 24 s49.2.2.2.1 ([q505] : List (List Int))) fun u507 => bnd (some (u503, u507) : Option ((List Int) × (List (List Int)))) fun y509 => bnd (natI a52) fun N678 => bnd (rngN (ρ := Ctl ((List Fct) × (List (List ByteArray)) × (List Int) × (List (List Int)) × (List (List Bool))) (Option Fnd)) (fun (k669 : Nat) (s667 : (List Fct)) => bnd (appI 16 s667 [(⟨(k51 : Int), (k669 : Int)⟩ : Fct)]) fun u684 => some (.next u684)) N678 s49.1) fun res665 => fin res665 fun (s702 : (List Fct)) => some (.next (s702, y98.1, y509.1, y509.2, y98.2))) x0.vars 0 (([] : List Fct), ([] : List (List ByteArray)), ([] : List Int), ([] : List (List Int)), ([] : List (List Bool)))) fun res47 => fin res47 fun (s708 : (List Fct) × (List (List ByteArray)) × (List Int) × (List (List Int)) × (List (List Bool))) => bnd (rng (ρ := (Option Fnd)) (fun (k716 : Nat) (a717 : Fct) (s714 : Fnd) => bnd (m_symmetry_finder_sign s714 a717 (⟨#[103, 111, 97, 108]⟩ : ByteArray)) fun q752 => some (.next q752)) x0.goal 0 (⟨(⟨x0.vars, x0.init, x0.goal, x0.ops⟩ : Tsk), s708.1, s708.2.1, (⟨s708.2.2.1, s708.2.2.2.1, ([] : List Int)⟩ : Swp), s708.2.2.2.2, u27, 0, x1, false⟩ : Fnd)) fun res712 => fin res712 fun (s764 : Fnd) => bnd (m_symmetry_finder_roles s764) fun q766 => some (some q766)
set_option maxHeartbeats 1000000 in
theorem c_symmetry_newFinder {w : World} {O : Lab} {vx0 : Value} {x0 : Tsk} (hx0 : Vb w (Fr 0 w O) vx0 x0) {x1 : Int} (rx1 : inI64 x1) (j0 : Nat) (hj0 : j0 ≠ 0) (hT : TabF w (Fr 0 w O)) {r : (Option Fnd)} (hm : m_symmetry_newFinder x0 x1 = some r) :
    Fn Tryz.prog 20 [vx0, (.int .i64 x1)] w fun v w' => ∃ O', St nT w O w' O' ∧ Obo j0 w' O' v r := by
 obtain ⟨O0, hE, hz0⟩ := ent0 (w := w) (O := O)
 have hB : Bm w O0 w O0 := Bm.refl
 have hT' := hT.mono hz0
 replace hx0 := hx0.mono hz0
 obtain ⟨cs3, rfl, v4, v5, v6, v7, rfl, h8, h11, h14, h17⟩ := hx0
 obtain ⟨A9, c10, rfl⟩ := h8.form
 obtain ⟨A12, c13, rfl⟩ := h11.form
 obtain ⟨A15, c16, rfl⟩ := h14.form
 obtain ⟨A18, c19, rfl⟩ := h17.form
 refine fn_enter Tryz.func20 rfl Tryz.ntmps20 rfl ?_
 unfold m_symmetry_newFinder at hm
 refine ewp_seq (ewp_region (l_box 2 O0 rfl rfl fun g20 w21 O22 S23 h24 => ?_))
 replace h24 : Lc 2 w21 O22 g20 30 [(.slice A9 x0.vars.length c10), (.slice A12 x0.init.length c13), (.slice A15 x0.goal.length c16), (.slice A18 x0.ops.length c19)] := h24
 refine o_as rfl rfl (o_z ?_)
 refine ewp_seq (ewp_drawX [] O22 ?_)
 refine x_pre (fuel := 4) [] [(0, true), (1, true), (2, true), (3, true), (4, true)] (by kernel_rfl) rfl ?_
 refine h_laB (hl := rfl) (hb := fun w' ⟨O', hq⟩ => ((h24.st hq (by decide)).1).cellsAt) rfl rfl rfl ?_
 refine h_mv rfl rfl rfl (h_fa rfl rfl rfl (h_ldC (hc := fun w' ⟨O', hq⟩ => Blk.cell (i := 0) ((h24.st hq (by decide)).1) rfl) rfl rfl rfl ?_))
 refine h_ln rfl rfl rfl ?_
 replace h8 := h8.st S23
 have l26 : x0.vars.length ≤ 9223372036854775807 := Nat.le_trans h8.len.2.1 h8.len.2.2
 have r25 : inI64 (x0.vars.length : Int) := rngNat l26
 refine hwp_nilT ?_
 refine x_one (i := 5) (by kernel_rfl) rfl ?_
 obtain ⟨u27, e28, hm⟩ := bs hm
 obtain ⟨m29, e30, e31, e32, e33⟩ := mkI_some e28
 refine l_make 3 (by decide) O22 (z0 := (false : Bool)) rfl rfl rfl rfl rfl e30 vBool e31 e32 rfl fun g34 w35 O36 S37 h38 => ?_
 rw [← e33] at h38 ⊢
 have hZ := S37.lst [] (fun _ h => h.elim)
 refine x_go [] hZ (by kernel_rfl) ?_
 refine x_pre (fuel := 2) [] [(6, true)] (by kernel_rfl) rfl ?_
 refine h_bd rfl rfl rfl rfl ?_
 refine hwp_nilT ?_
 refine x_one (i := 7) (by kernel_rfl) rfl ?_
 refine l_box 4 O36 rfl rfl fun g40 w41 O42 S43 h44 => ?_
 replace h44 : Lc 4 w41 O42 g40 67 [(.slice A9 x0.vars.length c10), (.slice A12 x0.init.length c13), (.slice A15 x0.goal.length c16), (.slice A18 x0.ops.length c19), (.slice none 0 0), (.slice none 0 0), (.slice none 0 0), (.slice none 0 0), (.slice none 0 0), (.slice none 0 0), (.slice (some ⟨g34, 0, none⟩) u27.length m29), (.int .i64 0), (.int .i64 x1), (.bool false)] := h44
 have hZ := S43.lst [] (fun _ h => h.elim)
 refine x_go [] hZ (by kernel_rfl) ?_
 refine x_pre (fuel := 0) [] [(8, true)] (by kernel_rfl) rfl ?_
 refine h_as rfl rfl rfl (hwp_nilT ?_)
 refine x_nil (by kernel_rfl) ?_
 refine ewp_seq (ewp_seq (ewp_region (o_fa rfl rfl ?_)))
 replace h24 := (h24.st S37).st S43
 refine o_ld (hc := Blk.cell (i := 0) (h24.1) rfl) rfl rfl ?_
 refine o_ln rfl rfl ?_
 replace h8 := (h8.st S37).st S43
 have l46 : x0.vars.length ≤ 9223372036854775807 := Nat.le_trans h8.len.2.1 h8.len.2.2
 have r45 : inI64 (x0.vars.length : Int) := rngNat l46
 refine o_mv rfl rfl (o_z ?_)
 obtain ⟨res47, hL48, hm⟩ := bs hm
 refine ewp_join (aft res47 (fun (s49 : (List Fct) × (List (List ByteArray)) × (List Int) × (List (List Int)) × (List (List Bool))) (x50 : (Option Addr × Nat) × (Option Addr × Nat) × (Option Addr × Nat) × (Option Addr × Nat) × (Option Addr × Nat)) => [(2, (.pointer (some ⟨g20, 0, none⟩))), (5, (.pointer (some ⟨g40, 0, none⟩)))]) (fun s49 x50 w' => ∃ O' : Lab, Bm w O0 w' O' ∧ Lc 2 w' O' g20 30 [(.slice A9 x0.vars.length c10), (.slice A12 x0.init.length c13), (.slice A15 x0.goal.length c16), (.slice A18 x0.ops.length c19)] ∧ Vb w' (Fr 0 w' O') (.slice A9 x0.vars.length c10) x0.vars ∧ Vb w' (Fr 0 w' O') (.slice A12 x0.init.length c13) x0.init ∧ Vb w' (Fr 0 w' O') (.slice A15 x0.goal.length c16) x0.goal ∧ Vb w' (Fr 0 w' O') (.slice A18 x0.ops.length c19) x0.ops ∧ Lc 4 w' O' g40 67 [(.slice A9 x0.vars.length c10), (.slice A12 x0.init.length c13), (.slice A15 x0.goal.length c16), (.slice A18 x0.ops.length c19), (.slice x50.1.1 s49.1.length x50.1.2), (.slice x50.2.1.1 s49.2.1.length x50.2.1.2), (.slice x50.2.2.1.1 s49.2.2.1.length x50.2.2.1.2), (.slice x50.2.2.2.1.1 s49.2.2.2.1.length x50.2.2.2.1.2), (.slice none 0 0), (.slice x50.2.2.2.2.1 s49.2.2.2.2.length x50.2.2.2.2.2), (.slice (some ⟨g34, 0, none⟩) u27.length m29), (.int .i64 0), (.int .i64 x1), (.bool false)] ∧ Rw 17 w' O' 26 (.slice x50.1.1 s49.1.length x50.1.2) s49.1 ∧ NR ByteArray 7 w' O' 80 9 (.slice x50.2.1.1 s49.2.1.length x50.2.1.2) s49.2.1 none ∧ Rw 12 w' O' 3 (.slice x50.2.2.1.1 s49.2.2.1.length x50.2.2.1.2) s49.2.2.1 ∧ NR Int 16 w' O' 24 3 (.slice x50.2.2.2.1.1 s49.2.2.2.1.length x50.2.2.2.1.2) s49.2.2.2.1 none ∧ NR Bool 10 w' O' 65 4 (.slice x50.2.2.2.2.1 s49.2.2.2.2.length x50.2.2.2.2.2) s49.2.2.2.2 none ∧ Rw 3 w' O' 4 (.slice (some ⟨g34, 0, none⟩) u27.length m29) u27)) ?_ ?_
 ·
  refine ewp_block ?_
  replace hB := ((hB.st S23).st S37).st S43
  replace h11 := ((h11.st S23).st S37).st S43
  replace h14 := ((h14.st S23).st S37).st S43
  replace h17 := ((h17.st S23).st S37).st S43
  replace h38 := h38.st S43
  refine ewp_rng (σ := (List Fct) × (List (List ByteArray)) × (List Int) × (List (List Int)) × (List (List Bool))) (X := (Option Addr × Nat) × (Option Addr × Nat) × (Option Addr × Nat) × (Option Addr × Nat) × (Option Addr × Nat)) (x0.vars.length) hL48 rfl l46 (fun (s49 : (List Fct) × (List (List ByteArray)) × (List Int) × (List (List Int)) × (List (List Bool))) (x50 : (Option Addr × Nat) × (Option Addr × Nat) × (Option Addr × Nat) × (Option Addr × Nat) × (Option Addr × Nat)) => [(2, (.pointer (some ⟨g20, 0, none⟩))), (5, (.pointer (some ⟨g40, 0, none⟩))), (20, (.slice A9 x0.vars.length c10))]) _ (fun s49 x50 w' => ∃ O' : Lab, Bm w O0 w' O' ∧ Lc 2 w' O' g20 30 [(.slice A9 x0.vars.length c10), (.slice A12 x0.init.length c13), (.slice A15 x0.goal.length c16), (.slice A18 x0.ops.length c19)] ∧ Vb w' (Fr 0 w' O') (.slice A9 x0.vars.length c10) x0.vars ∧ Vb w' (Fr 0 w' O') (.slice A12 x0.init.length c13) x0.init ∧ Vb w' (Fr 0 w' O') (.slice A15 x0.goal.length c16) x0.goal ∧ Vb w' (Fr 0 w' O') (.slice A18 x0.ops.length c19) x0.ops ∧ Lc 4 w' O' g40 67 [(.slice A9 x0.vars.length c10), (.slice A12 x0.init.length c13), (.slice A15 x0.goal.length c16), (.slice A18 x0.ops.length c19), (.slice x50.1.1 s49.1.length x50.1.2), (.slice x50.2.1.1 s49.2.1.length x50.2.1.2), (.slice x50.2.2.1.1 s49.2.2.1.length x50.2.2.1.2), (.slice x50.2.2.2.1.1 s49.2.2.2.1.length x50.2.2.2.1.2), (.slice none 0 0), (.slice x50.2.2.2.2.1 s49.2.2.2.2.length x50.2.2.2.2.2), (.slice (some ⟨g34, 0, none⟩) u27.length m29), (.int .i64 0), (.int .i64 x1), (.bool false)] ∧ Rw 17 w' O' 26 (.slice x50.1.1 s49.1.length x50.1.2) s49.1 ∧ NR ByteArray 7 w' O' 80 9 (.slice x50.2.1.1 s49.2.1.length x50.2.1.2) s49.2.1 none ∧ Rw 12 w' O' 3 (.slice x50.2.2.1.1 s49.2.2.1.length x50.2.2.1.2) s49.2.2.1 ∧ NR Int 16 w' O' 24 3 (.slice x50.2.2.2.1.1 s49.2.2.2.1.length x50.2.2.2.1.2) s49.2.2.2.1 none ∧ NR Bool 10 w' O' 65 4 (.slice x50.2.2.2.2.1 s49.2.2.2.2.length x50.2.2.2.2.2) s49.2.2.2.2 none ∧ Rw 3 w' O' 4 (.slice (some ⟨g34, 0, none⟩) u27.length m29) u27) _ ((none, 0), (none, 0), (none, 0), (none, 0), (none, 0)) ⟨O42, hB, h24, h8, h11, h14, h17, h44, (Rw.nil 17 (by decide)), (NR.nil 7 (by decide)), (Rw.nil 12 (by decide)), (NR.nil 16 (by decide)), (NR.nil 10 (by decide)), h38⟩ ⟨rfl, rfl, rfl, rfl, rfl, trivial⟩ (fun _ _ => ⟨rfl, rfl⟩) (fun _ _ => ⟨rfl, rfl, trivial⟩) (fun _ _ _ ⟨O', hB, h24, h8, h11, h14, h17, h44, h72, h74, h76, h78, h80, h38⟩ => ⟨O', hB, h24, h8, h11, h14, h17, h44, h72, h74, h76, h78, h80, h38⟩) ⟨rfl, rfl, rfl⟩ ⟨rfl, rfl⟩ ?_
  rintro k51 a52 s49 x50 w53 cc55 hx56 ⟨O54, hB, h24, h8, h11, h14, h17, h44, h72, h74, h76, h78, h80, h38⟩ hf57 hret58 hbrk59
  have rk51 : inI64 (k51 : Int) := rngK hx56 l46
  refine ewp_seq (ewp_region (o_mv rfl rfl ?_))
  obtain ⟨b82, o83, ce84, hA85, hl86, hd87, rfl, r89⟩ := h8.elem' hx56
  refine o_iaE (hA := hA85) (hj := rfl) (hlt := hl86) rfl rfl rfl ?_
  refine o_ld (hc := cat0 hd87) rfl rfl ?_
  refine o_as rfl rfl (o_as rfl rfl (o_z ?_))
  refine ewp_seq ?_
  obtain ⟨u90, e91, hf57⟩ := bs hf57
  obtain ⟨u92, e93, hf57⟩ := bs hf57
  obtain ⟨u94, e95, hf57⟩ := bs hf57
  obtain ⟨u96, e97, hf57⟩ := bs hf57
  obtain ⟨y98, hy99, hf57⟩ := bs hf57
  refine ewp_join (fun l' w' => ∃ (x101 : (Option Addr × Nat) × (Option Addr × Nat)) (O' : Lab), subs l' [(2, (.pointer (some ⟨g20, 0, none⟩))), (5, (.pointer (some ⟨g40, 0, none⟩))), (6, (.int .i64 (k51 : Int))), (7, (.int .i64 a52)), (20, (.slice A9 x0.vars.length c10)), (21, (.int .i64 (x0.vars.length : Int))), (22, (.int .i64 (k51 : Int)))] ∧ Bm w O0 w' O' ∧ Lc 2 w' O' g20 30 [(.slice A9 x0.vars.length c10), (.slice A12 x0.init.length c13), (.slice A15 x0.goal.length c16), (.slice A18 x0.ops.length c19)] ∧ Vb w' (Fr 0 w' O') (.slice A9 x0.vars.length c10) x0.vars ∧ Vb w' (Fr 0 w' O') (.slice A12 x0.init.length c13) x0.init ∧ Vb w' (Fr 0 w' O') (.slice A15 x0.goal.length c16) x0.goal ∧ Vb w' (Fr 0 w' O') (.slice A18 x0.ops.length c19) x0.ops ∧ Lc 4 w' O' g40 67 [(.slice A9 x0.vars.length c10), (.slice A12 x0.init.length c13), (.slice A15 x0.goal.length c16), (.slice A18 x0.ops.length c19), (.slice x50.1.1 s49.1.length x50.1.2), (.slice x101.1.1 y98.1.length x101.1.2), (.slice x50.2.2.1.1 s49.2.2.1.length x50.2.2.1.2), (.slice x50.2.2.2.1.1 s49.2.2.2.1.length x50.2.2.2.1.2), (.slice none 0 0), (.slice x101.2.1 y98.2.length x101.2.2), (.slice (some ⟨g34, 0, none⟩) u27.length m29), (.int .i64 0), (.int .i64 x1), (.bool false)] ∧ Rw 17 w' O' 26 (.slice x50.1.1 s49.1.length x50.1.2) s49.1 ∧ NR ByteArray 7 w' O' 80 9 (.slice x101.1.1 y98.1.length x101.1.2) y98.1 none ∧ Rw 12 w' O' 3 (.slice x50.2.2.1.1 s49.2.2.1.length x50.2.2.1.2) s49.2.2.1 ∧ NR Int 16 w' O' 24 3 (.slice x50.2.2.2.1.1 s49.2.2.2.1.length x50.2.2.2.1.2) s49.2.2.2.1 none ∧ NR Bool 10 w' O' 65 4 (.slice x101.2.1 y98.2.length x101.2.2) y98.2 none ∧ Rw 3 w' O' 4 (.slice (some ⟨g34, 0, none⟩) u27.length m29) u27) ?_ ?_
  ·
   refine ewp_drawX [(8, [5]), (9, [6, 7]), (16, [8]), (17, [9, 10]), (20, [4])] O54 ?_
   refine x_pre (fuel := 23) [8] [(6, true)] (by kernel_rfl) rfl ?_
   refine h_mv rfl rfl rfl (hwp_nilT ?_)
   refine x_pre (fuel := 19) [5, 8] [(2, true), (3, true), (4, true), (5, true)] (by kernel_rfl) rfl ?_
   refine h_mv rfl rfl rfl (h_nc rfl rfl rfl (h_fa rfl rfl rfl (h_ldC (hc := fun w' ⟨O', hq⟩ => Blk.cell (i := 5) ((h44.st hq (by decide)).1) rfl) rfl rfl rfl ?_)))
   refine hwp_nilT ?_
   refine x_pre (fuel := 18) [5, 6, 7] [(14, true)] (by kernel_rfl) rfl ?_
   refine h_mv rfl rfl rfl (hwp_nilT ?_)
   refine x_pre (fuel := 14) [5, 6, 7, 8] [(10, true), (11, true), (12, true), (13, true)] (by kernel_rfl) rfl ?_
   refine h_mv rfl rfl rfl (h_nc rfl rfl rfl (h_fa rfl rfl rfl (h_ldC (hc := fun w' ⟨O', hq⟩ => Blk.cell (i := 9) ((h44.st hq (by decide)).1) rfl) rfl rfl rfl ?_)))
   refine hwp_nilT ?_
   refine x_pre (fuel := 13) [5, 6, 7, 8, 9, 10] [(0, true)] (by kernel_rfl) rfl ?_
   refine h_mv rfl rfl rfl (hwp_nilT ?_)
   refine x_pre (fuel := 12) [4, 5, 6, 7, 8, 9, 10] [(1, true)] (by kernel_rfl) rfl ?_
   refine h_mv rfl rfl rfl (hwp_nilT ?_)
   refine x_two (i := 7) (j := 15) (by kernel_rfl) rfl rfl ?_ ?_
   ·
    obtain ⟨m106, e107, e108, e109, e110⟩ := mkI_some e91
    refine l_make 5 (by decide) O54 (z0 := ((⟨#[]⟩ : ByteArray) : ByteArray)) rfl rfl rfl rfl rfl e107 (vStr (show (⟨#[]⟩ : ByteArray).size ≤ 9223372036854775807 from by decide)) e108 e109 rfl fun g111 w112 O113 S114 h115 => ?_
    rw [← e110] at h115 ⊢
    have hZ := S114.lst [] (fun _ h => h.elim)
    refine x_go [(8, [5]), (9, [6, 7]), (16, [8]), (17, [9, 10]), (20, [4])] hZ (by kernel_rfl) ?_
    refine x_two (i := 8) (j := 15) (by kernel_rfl) rfl rfl ?_ ?_
    ·
     refine l_bsliceNS (β := ByteArray) 6 (by decide) rfl h115 (by decide) rfl (by decide) fun g117 w118 O119 S120 h121 => ?_
     have hZ := S120.lst [5] (fun _ h => by cases h; decide)
     refine x_go [(9, [6, 7]), (16, [8]), (17, [9, 10]), (20, [4])] hZ (by kernel_rfl) ?_
     refine x_two (i := 9) (j := 15) (by kernel_rfl) rfl rfl ?_ ?_
     ·
      obtain ⟨e93, e123, e124⟩ := appI_some e93
      replace h74 := (h74.st S114).st S120
      refine l_appendNN rfl h74 h121 (by decide) rfl rfl (by decide) e123 e124 rfl fun A125 c126 w127 O128 S129 h130 => ?_
      rw [← e93] at h130 ⊢
      have hZ := S129.lst [6, 7] (by rintro _ (h | h) <;> cases h <;> decide)
      refine x_go [(16, [8]), (17, [9, 10]), (20, [4])] hZ (by kernel_rfl) ?_
      refine x_one (i := 15) (by kernel_rfl) rfl ?_
      obtain ⟨m132, e133, e134, e135, e136⟩ := mkI_some e95
      refine l_make 8 (by decide) O128 (z0 := (false : Bool)) rfl rfl rfl rfl rfl e133 vBool e134 e135 rfl fun g137 w138 O139 S140 h141 => ?_
      rw [← e136] at h141 ⊢
      have hZ := S140.lst [] (fun _ h => h.elim)
      refine x_go [(16, [8]), (17, [9, 10]), (20, [4])] hZ (by kernel_rfl) ?_
      refine x_one (i := 16) (by kernel_rfl) rfl ?_
      refine l_bsliceNS (β := Bool) 9 (by decide) rfl h141 (by decide) rfl (by decide) fun g143 w144 O145 S146 h147 => ?_
      have hZ := S146.lst [8] (fun _ h => by cases h; decide)
      refine x_go [(17, [9, 10]), (20, [4])] hZ (by kernel_rfl) ?_
      refine x_one (i := 17) (by kernel_rfl) rfl ?_
      obtain ⟨e97, e149, e150⟩ := appI_some e97
      replace h80 := ((((h80.st S114).st S120).st S129).st S140).st S146
      refine l_appendNN rfl h80 h147 (by decide) rfl rfl (by decide) e149 e150 rfl fun A151 c152 w153 O154 S155 h156 => ?_
      rw [← e97] at h156 ⊢
      have hZ := S155.lst [9, 10] (by rintro _ (h | h) <;> cases h <;> decide)
      refine x_go [(20, [4])] hZ (by kernel_rfl) ?_
      refine x_pre (fuel := 4) [] [(18, true), (19, true)] (by kernel_rfl) rfl ?_
      refine h_nc rfl rfl rfl (h_fa rfl rfl rfl (hwp_nilT ?_))
      refine x_one (i := 20) (by kernel_rfl) rfl ?_
      replace h44 := (((((h44.st S114).st S120).st S129).st S140).st S146).st S155
      refine l_store h44 rfl rfl rfl (nle_b rfl) (allOne rfl) fun w158 S159 h44 => ?_
      replace h44 : Lc 4 w158 O154 g40 67 [(.slice A9 x0.vars.length c10), (.slice A12 x0.init.length c13), (.slice A15 x0.goal.length c16), (.slice A18 x0.ops.length c19), (.slice x50.1.1 s49.1.length x50.1.2), (.slice A125 u92.length c126), (.slice x50.2.2.1.1 s49.2.2.1.length x50.2.2.1.2), (.slice x50.2.2.2.1.1 s49.2.2.2.1.length x50.2.2.2.1.2), (.slice none 0 0), (.slice x50.2.2.2.2.1 s49.2.2.2.2.length x50.2.2.2.2.2), (.slice (some ⟨g34, 0, none⟩) u27.length m29), (.int .i64 0), (.int .i64 x1), (.bool false)] := h44
      have hZ := S159.lst [4] (fun _ h => by cases h; decide)
      refine x_go [] hZ (by kernel_rfl) ?_
      refine x_pre (fuel := 1) [] [(21, true), (22, true)] (by kernel_rfl) rfl ?_
      refine h_nc rfl rfl rfl (h_fa rfl rfl rfl (hwp_nilT ?_))
      refine x_one (i := 23) (by kernel_rfl) rfl ?_
      refine l_store h44 rfl rfl rfl (nle_b rfl) (allOne rfl) fun w160 S161 h44 => ?_
      replace h44 : Lc 4 w160 O154 g40 67 [(.slice A9 x0.vars.length c10), (.slice A12 x0.init.length c13), (.slice A15 x0.goal.length c16), (.slice A18 x0.ops.length c19), (.slice x50.1.1 s49.1.length x50.1.2), (.slice A125 u92.length c126), (.slice x50.2.2.1.1 s49.2.2.1.length x50.2.2.1.2), (.slice x50.2.2.2.1.1 s49.2.2.2.1.length x50.2.2.2.1.2), (.slice none 0 0), (.slice A151 u96.length c152), (.slice (some ⟨g34, 0, none⟩) u27.length m29), (.int .i64 0), (.int .i64 x1), (.bool false)] := h44
      refine x_end (by kernel_rfl) ?_
      refine x_nil (by kernel_rfl) ?_
      obtain rfl := sm hy99
      replace hB := (((((((hB.st S114).st S120).st S129).st S140).st S146).st S155).st S159).st S161
      replace h8 := (((((((h8.st S114).st S120).st S129).st S140).st S146).st S155).st S159).st S161
      replace h11 := (((((((h11.st S114).st S120).st S129).st S140).st S146).st S155).st S159).st S161
      replace h14 := (((((((h14.st S114).st S120).st S129).st S140).st S146).st S155).st S159).st S161
      replace h17 := (((((((h17.st S114).st S120).st S129).st S140).st S146).st S155).st S159).st S161
      replace h24 := (((((((h24.st S114).st S120).st S129).st S140).st S146).st S155).st S159).st S161
      replace h38 := (((((((h38.st S114).st S120).st S129).st S140).st S146).st S155).st S159).st S161
      replace h72 := (((((((h72.st S114).st S120).st S129).st S140).st S146).st S155).st S159).st S161
      replace h76 := (((((((h76.st S114).st S120).st S129).st S140).st S146).st S155).st S159).st S161
      replace h78 := (((((((h78.st S114).st S120).st S129).st S140).st S146).st S155).st S159).st S161
      replace h130 := ((((h130.st S140).st S146).st S155).st S159).st S161
      replace h156 := (h156.st S159).st S161
      exact ⟨((A125, c126), (A151, c152)), _, ⟨rfl, rfl, rfl, rfl, rfl, rfl, rfl, trivial⟩, hB, h24, h8, h11, h14, h17, h44, h72, h130, h76, h78, h156, h38⟩
     obtain ⟨m162, e163, e164, e165, e166⟩ := mkI_some e95
     refine l_make 8 (by decide) O119 (z0 := (false : Bool)) rfl rfl rfl rfl rfl e163 vBool e164 e165 rfl fun g167 w168 O169 S170 h171 => ?_
     rw [← e166] at h171 ⊢
     have hZ := S170.lst [] (fun _ h => h.elim)
     refine x_go [(9, [6, 7]), (16, [8]), (17, [9, 10]), (20, [4])] hZ (by kernel_rfl) ?_
     refine x_two (i := 9) (j := 16) (by kernel_rfl) rfl rfl ?_ ?_
     ·
      obtain ⟨e93, e173, e174⟩ := appI_some e93
      replace h74 := ((h74.st S114).st S120).st S170
      replace h121 := h121.st S170
      refine l_appendNN rfl h74 h121 (by decide) rfl rfl (by decide) e173 e174 rfl fun A175 c176 w177 O178 S179 h180 => ?_
      rw [← e93] at h180 ⊢
      have hZ := S179.lst [6, 7] (by rintro _ (h | h) <;> cases h <;> decide)
      refine x_go [(16, [8]), (17, [9, 10]), (20, [4])] hZ (by kernel_rfl) ?_
      refine x_one (i := 16) (by kernel_rfl) rfl ?_
      replace h171 := h171.st S179
      refine l_bsliceNS (β := Bool) 9 (by decide) rfl h171 (by decide) rfl (by decide) fun g182 w183 O184 S185 h186 => ?_
      have hZ := S185.lst [8] (fun _ h => by cases h; decide)
      refine x_go [(17, [9, 10]), (20, [4])] hZ (by kernel_rfl) ?_
      refine x_one (i := 17) (by kernel_rfl) rfl ?_
      obtain ⟨e97, e188, e189⟩ := appI_some e97
      replace h80 := ((((h80.st S114).st S120).st S170).st S179).st S185
      refine l_appendNN rfl h80 h186 (by decide) rfl rfl (by decide) e188 e189 rfl fun A190 c191 w192 O193 S194 h195 => ?_
      rw [← e97] at h195 ⊢
      have hZ := S194.lst [9, 10] (by rintro _ (h | h) <;> cases h <;> decide)
      refine x_go [(20, [4])] hZ (by kernel_rfl) ?_
      refine x_pre (fuel := 4) [] [(18, true), (19, true)] (by kernel_rfl) rfl ?_
      refine h_nc rfl rfl rfl (h_fa rfl rfl rfl (hwp_nilT ?_))
      refine x_one (i := 20) (by kernel_rfl) rfl ?_
      replace h44 := (((((h44.st S114).st S120).st S170).st S179).st S185).st S194
      refine l_store h44 rfl rfl rfl (nle_b rfl) (allOne rfl) fun w197 S198 h44 => ?_
      replace h44 : Lc 4 w197 O193 g40 67 [(.slice A9 x0.vars.length c10), (.slice A12 x0.init.length c13), (.slice A15 x0.goal.length c16), (.slice A18 x0.ops.length c19), (.slice x50.1.1 s49.1.length x50.1.2), (.slice A175 u92.length c176), (.slice x50.2.2.1.1 s49.2.2.1.length x50.2.2.1.2), (.slice x50.2.2.2.1.1 s49.2.2.2.1.length x50.2.2.2.1.2), (.slice none 0 0), (.slice x50.2.2.2.2.1 s49.2.2.2.2.length x50.2.2.2.2.2), (.slice (some ⟨g34, 0, none⟩) u27.length m29), (.int .i64 0), (.int .i64 x1), (.bool false)] := h44
      have hZ := S198.lst [4] (fun _ h => by cases h; decide)
      refine x_go [] hZ (by kernel_rfl) ?_
      refine x_pre (fuel := 1) [] [(21, true), (22, true)] (by kernel_rfl) rfl ?_
      refine h_nc rfl rfl rfl (h_fa rfl rfl rfl (hwp_nilT ?_))
      refine x_one (i := 23) (by kernel_rfl) rfl ?_
      refine l_store h44 rfl rfl rfl (nle_b rfl) (allOne rfl) fun w199 S200 h44 => ?_
      replace h44 : Lc 4 w199 O193 g40 67 [(.slice A9 x0.vars.length c10), (.slice A12 x0.init.length c13), (.slice A15 x0.goal.length c16), (.slice A18 x0.ops.length c19), (.slice x50.1.1 s49.1.length x50.1.2), (.slice A175 u92.length c176), (.slice x50.2.2.1.1 s49.2.2.1.length x50.2.2.1.2), (.slice x50.2.2.2.1.1 s49.2.2.2.1.length x50.2.2.2.1.2), (.slice none 0 0), (.slice A190 u96.length c191), (.slice (some ⟨g34, 0, none⟩) u27.length m29), (.int .i64 0), (.int .i64 x1), (.bool false)] := h44
      refine x_end (by kernel_rfl) ?_
      refine x_nil (by kernel_rfl) ?_
      obtain rfl := sm hy99
      replace hB := (((((((hB.st S114).st S120).st S170).st S179).st S185).st S194).st S198).st S200
      replace h8 := (((((((h8.st S114).st S120).st S170).st S179).st S185).st S194).st S198).st S200
      replace h11 := (((((((h11.st S114).st S120).st S170).st S179).st S185).st S194).st S198).st S200
      replace h14 := (((((((h14.st S114).st S120).st S170).st S179).st S185).st S194).st S198).st S200
      replace h17 := (((((((h17.st S114).st S120).st S170).st S179).st S185).st S194).st S198).st S200
      replace h24 := (((((((h24.st S114).st S120).st S170).st S179).st S185).st S194).st S198).st S200
      replace h38 := (((((((h38.st S114).st S120).st S170).st S179).st S185).st S194).st S198).st S200
      replace h72 := (((((((h72.st S114).st S120).st S170).st S179).st S185).st S194).st S198).st S200
      replace h76 := (((((((h76.st S114).st S120).st S170).st S179).st S185).st S194).st S198).st S200
      replace h78 := (((((((h78.st S114).st S120).st S170).st S179).st S185).st S194).st S198).st S200
      replace h180 := (((h180.st S185).st S194).st S198).st S200
      replace h195 := (h195.st S198).st S200
      exact ⟨((A175, c176), (A190, c191)), _, ⟨rfl, rfl, rfl, rfl, rfl, rfl, rfl, trivial⟩, hB, h24, h8, h11, h14, h17, h44, h72, h180, h76, h78, h195, h38⟩
     refine l_bsliceNS (β := Bool) 9 (by decide) rfl h171 (by decide) rfl (by decide) fun g201 w202 O203 S204 h205 => ?_
     have hZ := S204.lst [8] (fun _ h => by cases h; decide)
     refine x_go [(9, [6, 7]), (17, [9, 10]), (20, [4])] hZ (by kernel_rfl) ?_
     refine x_one (i := 9) (by kernel_rfl) rfl ?_
     obtain ⟨e93, e207, e208⟩ := appI_some e93
     replace h74 := (((h74.st S114).st S120).st S170).st S204
     replace h121 := (h121.st S170).st S204
     refine l_appendNN rfl h74 h121 (by decide) rfl rfl (by decide) e207 e208 rfl fun A209 c210 w211 O212 S213 h214 => ?_
     rw [← e93] at h214 ⊢
     have hZ := S213.lst [6, 7] (by rintro _ (h | h) <;> cases h <;> decide)
     refine x_go [(17, [9, 10]), (20, [4])] hZ (by kernel_rfl) ?_
     refine x_one (i := 17) (by kernel_rfl) rfl ?_
     obtain ⟨e97, e216, e217⟩ := appI_some e97
     replace h80 := ((((h80.st S114).st S120).st S170).st S204).st S213
     replace h205 := h205.st S213
     refine l_appendNN rfl h80 h205 (by decide) rfl rfl (by decide) e216 e217 rfl fun A218 c219 w220 O221 S222 h223 => ?_
     rw [← e97] at h223 ⊢
     have hZ := S222.lst [9, 10] (by rintro _ (h | h) <;> cases h <;> decide)
     refine x_go [(20, [4])] hZ (by kernel_rfl) ?_
     refine x_pre (fuel := 4) [] [(18, true), (19, true)] (by kernel_rfl) rfl ?_
     refine h_nc rfl rfl rfl (h_fa rfl rfl rfl (hwp_nilT ?_))
     refine x_one (i := 20) (by kernel_rfl) rfl ?_
     replace h44 := (((((h44.st S114).st S120).st S170).st S204).st S213).st S222
     refine l_store h44 rfl rfl rfl (nle_b rfl) (allOne rfl) fun w225 S226 h44 => ?_
     replace h44 : Lc 4 w225 O221 g40 67 [(.slice A9 x0.vars.length c10), (.slice A12 x0.init.length c13), (.slice A15 x0.goal.length c16), (.slice A18 x0.ops.length c19), (.slice x50.1.1 s49.1.length x50.1.2), (.slice A209 u92.length c210), (.slice x50.2.2.1.1 s49.2.2.1.length x50.2.2.1.2), (.slice x50.2.2.2.1.1 s49.2.2.2.1.length x50.2.2.2.1.2), (.slice none 0 0), (.slice x50.2.2.2.2.1 s49.2.2.2.2.length x50.2.2.2.2.2), (.slice (some ⟨g34, 0, none⟩) u27.length m29), (.int .i64 0), (.int .i64 x1), (.bool false)] := h44
     have hZ := S226.lst [4] (fun _ h => by cases h; decide)
     refine x_go [] hZ (by kernel_rfl) ?_
     refine x_pre (fuel := 1) [] [(21, true), (22, true)] (by kernel_rfl) rfl ?_
     refine h_nc rfl rfl rfl (h_fa rfl rfl rfl (hwp_nilT ?_))
     refine x_one (i := 23) (by kernel_rfl) rfl ?_
     refine l_store h44 rfl rfl rfl (nle_b rfl) (allOne rfl) fun w227 S228 h44 => ?_
     replace h44 : Lc 4 w227 O221 g40 67 [(.slice A9 x0.vars.length c10), (.slice A12 x0.init.length c13), (.slice A15 x0.goal.length c16), (.slice A18 x0.ops.length c19), (.slice x50.1.1 s49.1.length x50.1.2), (.slice A209 u92.length c210), (.slice x50.2.2.1.1 s49.2.2.1.length x50.2.2.1.2), (.slice x50.2.2.2.1.1 s49.2.2.2.1.length x50.2.2.2.1.2), (.slice none 0 0), (.slice A218 u96.length c219), (.slice (some ⟨g34, 0, none⟩) u27.length m29), (.int .i64 0), (.int .i64 x1), (.bool false)] := h44
     refine x_end (by kernel_rfl) ?_
     refine x_nil (by kernel_rfl) ?_
     obtain rfl := sm hy99
     replace hB := (((((((hB.st S114).st S120).st S170).st S204).st S213).st S222).st S226).st S228
     replace h8 := (((((((h8.st S114).st S120).st S170).st S204).st S213).st S222).st S226).st S228
     replace h11 := (((((((h11.st S114).st S120).st S170).st S204).st S213).st S222).st S226).st S228
     replace h14 := (((((((h14.st S114).st S120).st S170).st S204).st S213).st S222).st S226).st S228
     replace h17 := (((((((h17.st S114).st S120).st S170).st S204).st S213).st S222).st S226).st S228
     replace h24 := (((((((h24.st S114).st S120).st S170).st S204).st S213).st S222).st S226).st S228
     replace h38 := (((((((h38.st S114).st S120).st S170).st S204).st S213).st S222).st S226).st S228
     replace h72 := (((((((h72.st S114).st S120).st S170).st S204).st S213).st S222).st S226).st S228
     replace h76 := (((((((h76.st S114).st S120).st S170).st S204).st S213).st S222).st S226).st S228
     replace h78 := (((((((h78.st S114).st S120).st S170).st S204).st S213).st S222).st S226).st S228
     replace h214 := ((h214.st S222).st S226).st S228
     replace h223 := (h223.st S226).st S228
     exact ⟨((A209, c210), (A218, c219)), _, ⟨rfl, rfl, rfl, rfl, rfl, rfl, rfl, trivial⟩, hB, h24, h8, h11, h14, h17, h44, h72, h214, h76, h78, h223, h38⟩
    obtain ⟨m229, e230, e231, e232, e233⟩ := mkI_some e95
    refine l_make 8 (by decide) O113 (z0 := (false : Bool)) rfl rfl rfl rfl rfl e230 vBool e231 e232 rfl fun g234 w235 O236 S237 h238 => ?_
    rw [← e233] at h238 ⊢
    have hZ := S237.lst [] (fun _ h => h.elim)
    refine x_go [(8, [5]), (9, [6, 7]), (16, [8]), (17, [9, 10]), (20, [4])] hZ (by kernel_rfl) ?_
    refine x_two (i := 8) (j := 16) (by kernel_rfl) rfl rfl ?_ ?_
    ·
     replace h115 := h115.st S237
     refine l_bsliceNS (β := ByteArray) 6 (by decide) rfl h115 (by decide) rfl (by decide) fun g240 w241 O242 S243 h244 => ?_
     have hZ := S243.lst [5] (fun _ h => by cases h; decide)
     refine x_go [(9, [6, 7]), (16, [8]), (17, [9, 10]), (20, [4])] hZ (by kernel_rfl) ?_
     refine x_two (i := 9) (j := 16) (by kernel_rfl) rfl rfl ?_ ?_
     ·
      obtain ⟨e93, e246, e247⟩ := appI_some e93
      replace h74 := ((h74.st S114).st S237).st S243
      refine l_appendNN rfl h74 h244 (by decide) rfl rfl (by decide) e246 e247 rfl fun A248 c249 w250 O251 S252 h253 => ?_
      rw [← e93] at h253 ⊢
      have hZ := S252.lst [6, 7] (by rintro _ (h | h) <;> cases h <;> decide)
      refine x_go [(16, [8]), (17, [9, 10]), (20, [4])] hZ (by kernel_rfl) ?_
      refine x_one (i := 16) (by kernel_rfl) rfl ?_
      replace h238 := (h238.st S243).st S252
      refine l_bsliceNS (β := Bool) 9 (by decide) rfl h238 (by decide) rfl (by decide) fun g255 w256 O257 S258 h259 => ?_
      have hZ := S258.lst [8] (fun _ h => by cases h; decide)
      refine x_go [(17, [9, 10]), (20, [4])] hZ (by kernel_rfl) ?_
      refine x_one (i := 17) (by kernel_rfl) rfl ?_
      obtain ⟨e97, e261, e262⟩ := appI_some e97
      replace h80 := ((((h80.st S114).st S237).st S243).st S252).st S258
      refine l_appendNN rfl h80 h259 (by decide) rfl rfl (by decide) e261 e262 rfl fun A263 c264 w265 O266 S267 h268 => ?_
      rw [← e97] at h268 ⊢
      have hZ := S267.lst [9, 10] (by rintro _ (h | h) <;> cases h <;> decide)
      refine x_go [(20, [4])] hZ (by kernel_rfl) ?_
      refine x_pre (fuel := 4) [] [(18, true), (19, true)] (by kernel_rfl) rfl ?_
      refine h_nc rfl rfl rfl (h_fa rfl rfl rfl (hwp_nilT ?_))
      refine x_one (i := 20) (by kernel_rfl) rfl ?_
      replace h44 := (((((h44.st S114).st S237).st S243).st S252).st S258).st S267
      refine l_store h44 rfl rfl rfl (nle_b rfl) (allOne rfl) fun w270 S271 h44 => ?_
      replace h44 : Lc 4 w270 O266 g40 67 [(.slice A9 x0.vars.length c10), (.slice A12 x0.init.length c13), (.slice A15 x0.goal.length c16), (.slice A18 x0.ops.length c19), (.slice x50.1.1 s49.1.length x50.1.2), (.slice A248 u92.length c249), (.slice x50.2.2.1.1 s49.2.2.1.length x50.2.2.1.2), (.slice x50.2.2.2.1.1 s49.2.2.2.1.length x50.2.2.2.1.2), (.slice none 0 0), (.slice x50.2.2.2.2.1 s49.2.2.2.2.length x50.2.2.2.2.2), (.slice (some ⟨g34, 0, none⟩) u27.length m29), (.int .i64 0), (.int .i64 x1), (.bool false)] := h44
      have hZ := S271.lst [4] (fun _ h => by cases h; decide)
      refine x_go [] hZ (by kernel_rfl) ?_
      refine x_pre (fuel := 1) [] [(21, true), (22, true)] (by kernel_rfl) rfl ?_
      refine h_nc rfl rfl rfl (h_fa rfl rfl rfl (hwp_nilT ?_))
      refine x_one (i := 23) (by kernel_rfl) rfl ?_
      refine l_store h44 rfl rfl rfl (nle_b rfl) (allOne rfl) fun w272 S273 h44 => ?_
      replace h44 : Lc 4 w272 O266 g40 67 [(.slice A9 x0.vars.length c10), (.slice A12 x0.init.length c13), (.slice A15 x0.goal.length c16), (.slice A18 x0.ops.length c19), (.slice x50.1.1 s49.1.length x50.1.2), (.slice A248 u92.length c249), (.slice x50.2.2.1.1 s49.2.2.1.length x50.2.2.1.2), (.slice x50.2.2.2.1.1 s49.2.2.2.1.length x50.2.2.2.1.2), (.slice none 0 0), (.slice A263 u96.length c264), (.slice (some ⟨g34, 0, none⟩) u27.length m29), (.int .i64 0), (.int .i64 x1), (.bool false)] := h44
      refine x_end (by kernel_rfl) ?_
      refine x_nil (by kernel_rfl) ?_
      obtain rfl := sm hy99
      replace hB := (((((((hB.st S114).st S237).st S243).st S252).st S258).st S267).st S271).st S273
      replace h8 := (((((((h8.st S114).st S237).st S243).st S252).st S258).st S267).st S271).st S273
      replace h11 := (((((((h11.st S114).st S237).st S243).st S252).st S258).st S267).st S271).st S273
      replace h14 := (((((((h14.st S114).st S237).st S243).st S252).st S258).st S267).st S271).st S273
      replace h17 := (((((((h17.st S114).st S237).st S243).st S252).st S258).st S267).st S271).st S273
      replace h24 := (((((((h24.st S114).st S237).st S243).st S252).st S258).st S267).st S271).st S273
      replace h38 := (((((((h38.st S114).st S237).st S243).st S252).st S258).st S267).st S271).st S273
      replace h72 := (((((((h72.st S114).st S237).st S243).st S252).st S258).st S267).st S271).st S273
      replace h76 := (((((((h76.st S114).st S237).st S243).st S252).st S258).st S267).st S271).st S273
      replace h78 := (((((((h78.st S114).st S237).st S243).st S252).st S258).st S267).st S271).st S273
      replace h253 := (((h253.st S258).st S267).st S271).st S273
      replace h268 := (h268.st S271).st S273
      exact ⟨((A248, c249), (A263, c264)), _, ⟨rfl, rfl, rfl, rfl, rfl, rfl, rfl, trivial⟩, hB, h24, h8, h11, h14, h17, h44, h72, h253, h76, h78, h268, h38⟩
     replace h238 := h238.st S243
     refine l_bsliceNS (β := Bool) 9 (by decide) rfl h238 (by decide) rfl (by decide) fun g274 w275 O276 S277 h278 => ?_
     have hZ := S277.lst [8] (fun _ h => by cases h; decide)
     refine x_go [(9, [6, 7]), (17, [9, 10]), (20, [4])] hZ (by kernel_rfl) ?_
     refine x_one (i := 9) (by kernel_rfl) rfl ?_
     obtain ⟨e93, e280, e281⟩ := appI_some e93
     replace h74 := (((h74.st S114).st S237).st S243).st S277
     replace h244 := h244.st S277
     refine l_appendNN rfl h74 h244 (by decide) rfl rfl (by decide) e280 e281 rfl fun A282 c283 w284 O285 S286 h287 => ?_
     rw [← e93] at h287 ⊢
     have hZ := S286.lst [6, 7] (by rintro _ (h | h) <;> cases h <;> decide)
     refine x_go [(17, [9, 10]), (20, [4])] hZ (by kernel_rfl) ?_
     refine x_one (i := 17) (by kernel_rfl) rfl ?_
     obtain ⟨e97, e289, e290⟩ := appI_some e97
     replace h80 := ((((h80.st S114).st S237).st S243).st S277).st S286
     replace h278 := h278.st S286
     refine l_appendNN rfl h80 h278 (by decide) rfl rfl (by decide) e289 e290 rfl fun A291 c292 w293 O294 S295 h296 => ?_
     rw [← e97] at h296 ⊢
     have hZ := S295.lst [9, 10] (by rintro _ (h | h) <;> cases h <;> decide)
     refine x_go [(20, [4])] hZ (by kernel_rfl) ?_
     refine x_pre (fuel := 4) [] [(18, true), (19, true)] (by kernel_rfl) rfl ?_
     refine h_nc rfl rfl rfl (h_fa rfl rfl rfl (hwp_nilT ?_))
     refine x_one (i := 20) (by kernel_rfl) rfl ?_
     replace h44 := (((((h44.st S114).st S237).st S243).st S277).st S286).st S295
     refine l_store h44 rfl rfl rfl (nle_b rfl) (allOne rfl) fun w298 S299 h44 => ?_
     replace h44 : Lc 4 w298 O294 g40 67 [(.slice A9 x0.vars.length c10), (.slice A12 x0.init.length c13), (.slice A15 x0.goal.length c16), (.slice A18 x0.ops.length c19), (.slice x50.1.1 s49.1.length x50.1.2), (.slice A282 u92.length c283), (.slice x50.2.2.1.1 s49.2.2.1.length x50.2.2.1.2), (.slice x50.2.2.2.1.1 s49.2.2.2.1.length x50.2.2.2.1.2), (.slice none 0 0), (.slice x50.2.2.2.2.1 s49.2.2.2.2.length x50.2.2.2.2.2), (.slice (some ⟨g34, 0, none⟩) u27.length m29), (.int .i64 0), (.int .i64 x1), (.bool false)] := h44
     have hZ := S299.lst [4] (fun _ h => by cases h; decide)
     refine x_go [] hZ (by kernel_rfl) ?_
     refine x_pre (fuel := 1) [] [(21, true), (22, true)] (by kernel_rfl) rfl ?_
     refine h_nc rfl rfl rfl (h_fa rfl rfl rfl (hwp_nilT ?_))
     refine x_one (i := 23) (by kernel_rfl) rfl ?_
     refine l_store h44 rfl rfl rfl (nle_b rfl) (allOne rfl) fun w300 S301 h44 => ?_
     replace h44 : Lc 4 w300 O294 g40 67 [(.slice A9 x0.vars.length c10), (.slice A12 x0.init.length c13), (.slice A15 x0.goal.length c16), (.slice A18 x0.ops.length c19), (.slice x50.1.1 s49.1.length x50.1.2), (.slice A282 u92.length c283), (.slice x50.2.2.1.1 s49.2.2.1.length x50.2.2.1.2), (.slice x50.2.2.2.1.1 s49.2.2.2.1.length x50.2.2.2.1.2), (.slice none 0 0), (.slice A291 u96.length c292), (.slice (some ⟨g34, 0, none⟩) u27.length m29), (.int .i64 0), (.int .i64 x1), (.bool false)] := h44
     refine x_end (by kernel_rfl) ?_
     refine x_nil (by kernel_rfl) ?_
     obtain rfl := sm hy99
     replace hB := (((((((hB.st S114).st S237).st S243).st S277).st S286).st S295).st S299).st S301
     replace h8 := (((((((h8.st S114).st S237).st S243).st S277).st S286).st S295).st S299).st S301
     replace h11 := (((((((h11.st S114).st S237).st S243).st S277).st S286).st S295).st S299).st S301
     replace h14 := (((((((h14.st S114).st S237).st S243).st S277).st S286).st S295).st S299).st S301
     replace h17 := (((((((h17.st S114).st S237).st S243).st S277).st S286).st S295).st S299).st S301
     replace h24 := (((((((h24.st S114).st S237).st S243).st S277).st S286).st S295).st S299).st S301
     replace h38 := (((((((h38.st S114).st S237).st S243).st S277).st S286).st S295).st S299).st S301
     replace h72 := (((((((h72.st S114).st S237).st S243).st S277).st S286).st S295).st S299).st S301
     replace h76 := (((((((h76.st S114).st S237).st S243).st S277).st S286).st S295).st S299).st S301
     replace h78 := (((((((h78.st S114).st S237).st S243).st S277).st S286).st S295).st S299).st S301
     replace h287 := ((h287.st S295).st S299).st S301
     replace h296 := (h296.st S299).st S301
     exact ⟨((A282, c283), (A291, c292)), _, ⟨rfl, rfl, rfl, rfl, rfl, rfl, rfl, trivial⟩, hB, h24, h8, h11, h14, h17, h44, h72, h287, h76, h78, h296, h38⟩
    refine l_bsliceNS (β := Bool) 9 (by decide) rfl h238 (by decide) rfl (by decide) fun g302 w303 O304 S305 h306 => ?_
    have hZ := S305.lst [8] (fun _ h => by cases h; decide)
    refine x_go [(8, [5]), (9, [6, 7]), (17, [9, 10]), (20, [4])] hZ (by kernel_rfl) ?_
    refine x_one (i := 8) (by kernel_rfl) rfl ?_
    replace h115 := (h115.st S237).st S305
    refine l_bsliceNS (β := ByteArray) 6 (by decide) rfl h115 (by decide) rfl (by decide) fun g308 w309 O310 S311 h312 => ?_
    have hZ := S311.lst [5] (fun _ h => by cases h; decide)
    refine x_go [(9, [6, 7]), (17, [9, 10]), (20, [4])] hZ (by kernel_rfl) ?_
    refine x_one (i := 9) (by kernel_rfl) rfl ?_
    obtain ⟨e93, e314, e315⟩ := appI_some e93
    replace h74 := (((h74.st S114).st S237).st S305).st S311
    refine l_appendNN rfl h74 h312 (by decide) rfl rfl (by decide) e314 e315 rfl fun A316 c317 w318 O319 S320 h321 => ?_
    rw [← e93] at h321 ⊢
    have hZ := S320.lst [6, 7] (by rintro _ (h | h) <;> cases h <;> decide)
    refine x_go [(17, [9, 10]), (20, [4])] hZ (by kernel_rfl) ?_
    refine x_one (i := 17) (by kernel_rfl) rfl ?_
    obtain ⟨e97, e323, e324⟩ := appI_some e97
    replace h80 := ((((h80.st S114).st S237).st S305).st S311).st S320
    replace h306 := (h306.st S311).st S320
    refine l_appendNN rfl h80 h306 (by decide) rfl rfl (by decide) e323 e324 rfl fun A325 c326 w327 O328 S329 h330 => ?_
    rw [← e97] at h330 ⊢
    have hZ := S329.lst [9, 10] (by rintro _ (h | h) <;> cases h <;> decide)
    refine x_go [(20, [4])] hZ (by kernel_rfl) ?_
    refine x_pre (fuel := 4) [] [(18, true), (19, true)] (by kernel_rfl) rfl ?_
    refine h_nc rfl rfl rfl (h_fa rfl rfl rfl (hwp_nilT ?_))
    refine x_one (i := 20) (by kernel_rfl) rfl ?_
    replace h44 := (((((h44.st S114).st S237).st S305).st S311).st S320).st S329
    refine l_store h44 rfl rfl rfl (nle_b rfl) (allOne rfl) fun w332 S333 h44 => ?_
    replace h44 : Lc 4 w332 O328 g40 67 [(.slice A9 x0.vars.length c10), (.slice A12 x0.init.length c13), (.slice A15 x0.goal.length c16), (.slice A18 x0.ops.length c19), (.slice x50.1.1 s49.1.length x50.1.2), (.slice A316 u92.length c317), (.slice x50.2.2.1.1 s49.2.2.1.length x50.2.2.1.2), (.slice x50.2.2.2.1.1 s49.2.2.2.1.length x50.2.2.2.1.2), (.slice none 0 0), (.slice x50.2.2.2.2.1 s49.2.2.2.2.length x50.2.2.2.2.2), (.slice (some ⟨g34, 0, none⟩) u27.length m29), (.int .i64 0), (.int .i64 x1), (.bool false)] := h44
    have hZ := S333.lst [4] (fun _ h => by cases h; decide)
    refine x_go [] hZ (by kernel_rfl) ?_
    refine x_pre (fuel := 1) [] [(21, true), (22, true)] (by kernel_rfl) rfl ?_
    refine h_nc rfl rfl rfl (h_fa rfl rfl rfl (hwp_nilT ?_))
    refine x_one (i := 23) (by kernel_rfl) rfl ?_
    refine l_store h44 rfl rfl rfl (nle_b rfl) (allOne rfl) fun w334 S335 h44 => ?_
    replace h44 : Lc 4 w334 O328 g40 67 [(.slice A9 x0.vars.length c10), (.slice A12 x0.init.length c13), (.slice A15 x0.goal.length c16), (.slice A18 x0.ops.length c19), (.slice x50.1.1 s49.1.length x50.1.2), (.slice A316 u92.length c317), (.slice x50.2.2.1.1 s49.2.2.1.length x50.2.2.1.2), (.slice x50.2.2.2.1.1 s49.2.2.2.1.length x50.2.2.2.1.2), (.slice none 0 0), (.slice A325 u96.length c326), (.slice (some ⟨g34, 0, none⟩) u27.length m29), (.int .i64 0), (.int .i64 x1), (.bool false)] := h44
    refine x_end (by kernel_rfl) ?_
    refine x_nil (by kernel_rfl) ?_
    obtain rfl := sm hy99
    replace hB := (((((((hB.st S114).st S237).st S305).st S311).st S320).st S329).st S333).st S335
    replace h8 := (((((((h8.st S114).st S237).st S305).st S311).st S320).st S329).st S333).st S335
    replace h11 := (((((((h11.st S114).st S237).st S305).st S311).st S320).st S329).st S333).st S335
    replace h14 := (((((((h14.st S114).st S237).st S305).st S311).st S320).st S329).st S333).st S335
    replace h17 := (((((((h17.st S114).st S237).st S305).st S311).st S320).st S329).st S333).st S335
    replace h24 := (((((((h24.st S114).st S237).st S305).st S311).st S320).st S329).st S333).st S335
    replace h38 := (((((((h38.st S114).st S237).st S305).st S311).st S320).st S329).st S333).st S335
    replace h72 := (((((((h72.st S114).st S237).st S305).st S311).st S320).st S329).st S333).st S335
    replace h76 := (((((((h76.st S114).st S237).st S305).st S311).st S320).st S329).st S333).st S335
    replace h78 := (((((((h78.st S114).st S237).st S305).st S311).st S320).st S329).st S333).st S335
    replace h321 := ((h321.st S329).st S333).st S335
    replace h330 := (h330.st S333).st S335
    exact ⟨((A316, c317), (A325, c326)), _, ⟨rfl, rfl, rfl, rfl, rfl, rfl, rfl, trivial⟩, hB, h24, h8, h11, h14, h17, h44, h72, h321, h76, h78, h330, h38⟩
   obtain ⟨m336, e337, e338, e339, e340⟩ := mkI_some e95
   refine l_make 8 (by decide) O54 (z0 := (false : Bool)) rfl rfl rfl rfl rfl e337 vBool e338 e339 rfl fun g341 w342 O343 S344 h345 => ?_
   rw [← e340] at h345 ⊢
   have hZ := S344.lst [] (fun _ h => h.elim)
   refine x_go [(8, [5]), (9, [6, 7]), (16, [8]), (17, [9, 10]), (20, [4])] hZ (by kernel_rfl) ?_
   refine x_two (i := 7) (j := 16) (by kernel_rfl) rfl rfl ?_ ?_
   ·
    obtain ⟨m347, e348, e349, e350, e351⟩ := mkI_some e91
    refine l_make 5 (by decide) O343 (z0 := ((⟨#[]⟩ : ByteArray) : ByteArray)) rfl rfl rfl rfl rfl e348 (vStr (show (⟨#[]⟩ : ByteArray).size ≤ 9223372036854775807 from by decide)) e349 e350 rfl fun g352 w353 O354 S355 h356 => ?_
    rw [← e351] at h356 ⊢
    have hZ := S355.lst [] (fun _ h => h.elim)
    refine x_go [(8, [5]), (9, [6, 7]), (16, [8]), (17, [9, 10]), (20, [4])] hZ (by kernel_rfl) ?_
    refine x_two (i := 8) (j := 16) (by kernel_rfl) rfl rfl ?_ ?_
    ·
     refine l_bsliceNS (β := ByteArray) 6 (by decide) rfl h356 (by decide) rfl (by decide) fun g358 w359 O360 S361 h362 => ?_
     have hZ := S361.lst [5] (fun _ h => by cases h; decide)
     refine x_go [(9, [6, 7]), (16, [8]), (17, [9, 10]), (20, [4])] hZ (by kernel_rfl) ?_
     refine x_two (i := 9) (j := 16) (by kernel_rfl) rfl rfl ?_ ?_
     ·
      obtain ⟨e93, e364, e365⟩ := appI_some e93
      replace h74 := ((h74.st S344).st S355).st S361
      refine l_appendNN rfl h74 h362 (by decide) rfl rfl (by decide) e364 e365 rfl fun A366 c367 w368 O369 S370 h371 => ?_
      rw [← e93] at h371 ⊢
      have hZ := S370.lst [6, 7] (by rintro _ (h | h) <;> cases h <;> decide)
      refine x_go [(16, [8]), (17, [9, 10]), (20, [4])] hZ (by kernel_rfl) ?_
      refine x_one (i := 16) (by kernel_rfl) rfl ?_
      replace h345 := ((h345.st S355).st S361).st S370
      refine l_bsliceNS (β := Bool) 9 (by decide) rfl h345 (by decide) rfl (by decide) fun g373 w374 O375 S376 h377 => ?_
      have hZ := S376.lst [8] (fun _ h => by cases h; decide)
      refine x_go [(17, [9, 10]), (20, [4])] hZ (by kernel_rfl) ?_
      refine x_one (i := 17) (by kernel_rfl) rfl ?_
      obtain ⟨e97, e379, e380⟩ := appI_some e97
      replace h80 := ((((h80.st S344).st S355).st S361).st S370).st S376
      refine l_appendNN rfl h80 h377 (by decide) rfl rfl (by decide) e379 e380 rfl fun A381 c382 w383 O384 S385 h386 => ?_
      rw [← e97] at h386 ⊢
      have hZ := S385.lst [9, 10] (by rintro _ (h | h) <;> cases h <;> decide)
      refine x_go [(20, [4])] hZ (by kernel_rfl) ?_
      refine x_pre (fuel := 4) [] [(18, true), (19, true)] (by kernel_rfl) rfl ?_
      refine h_nc rfl rfl rfl (h_fa rfl rfl rfl (hwp_nilT ?_))
      refine x_one (i := 20) (by kernel_rfl) rfl ?_
      replace h44 := (((((h44.st S344).st S355).st S361).st S370).st S376).st S385
      refine l_store h44 rfl rfl rfl (nle_b rfl) (allOne rfl) fun w388 S389 h44 => ?_
      replace h44 : Lc 4 w388 O384 g40 67 [(.slice A9 x0.vars.length c10), (.slice A12 x0.init.length c13), (.slice A15 x0.goal.length c16), (.slice A18 x0.ops.length c19), (.slice x50.1.1 s49.1.length x50.1.2), (.slice A366 u92.length c367), (.slice x50.2.2.1.1 s49.2.2.1.length x50.2.2.1.2), (.slice x50.2.2.2.1.1 s49.2.2.2.1.length x50.2.2.2.1.2), (.slice none 0 0), (.slice x50.2.2.2.2.1 s49.2.2.2.2.length x50.2.2.2.2.2), (.slice (some ⟨g34, 0, none⟩) u27.length m29), (.int .i64 0), (.int .i64 x1), (.bool false)] := h44
      have hZ := S389.lst [4] (fun _ h => by cases h; decide)
      refine x_go [] hZ (by kernel_rfl) ?_
      refine x_pre (fuel := 1) [] [(21, true), (22, true)] (by kernel_rfl) rfl ?_
      refine h_nc rfl rfl rfl (h_fa rfl rfl rfl (hwp_nilT ?_))
      refine x_one (i := 23) (by kernel_rfl) rfl ?_
      refine l_store h44 rfl rfl rfl (nle_b rfl) (allOne rfl) fun w390 S391 h44 => ?_
      replace h44 : Lc 4 w390 O384 g40 67 [(.slice A9 x0.vars.length c10), (.slice A12 x0.init.length c13), (.slice A15 x0.goal.length c16), (.slice A18 x0.ops.length c19), (.slice x50.1.1 s49.1.length x50.1.2), (.slice A366 u92.length c367), (.slice x50.2.2.1.1 s49.2.2.1.length x50.2.2.1.2), (.slice x50.2.2.2.1.1 s49.2.2.2.1.length x50.2.2.2.1.2), (.slice none 0 0), (.slice A381 u96.length c382), (.slice (some ⟨g34, 0, none⟩) u27.length m29), (.int .i64 0), (.int .i64 x1), (.bool false)] := h44
      refine x_end (by kernel_rfl) ?_
      refine x_nil (by kernel_rfl) ?_
      obtain rfl := sm hy99
      replace hB := (((((((hB.st S344).st S355).st S361).st S370).st S376).st S385).st S389).st S391
      replace h8 := (((((((h8.st S344).st S355).st S361).st S370).st S376).st S385).st S389).st S391
      replace h11 := (((((((h11.st S344).st S355).st S361).st S370).st S376).st S385).st S389).st S391
      replace h14 := (((((((h14.st S344).st S355).st S361).st S370).st S376).st S385).st S389).st S391
      replace h17 := (((((((h17.st S344).st S355).st S361).st S370).st S376).st S385).st S389).st S391
      replace h24 := (((((((h24.st S344).st S355).st S361).st S370).st S376).st S385).st S389).st S391
      replace h38 := (((((((h38.st S344).st S355).st S361).st S370).st S376).st S385).st S389).st S391
      replace h72 := (((((((h72.st S344).st S355).st S361).st S370).st S376).st S385).st S389).st S391
      replace h76 := (((((((h76.st S344).st S355).st S361).st S370).st S376).st S385).st S389).st S391
      replace h78 := (((((((h78.st S344).st S355).st S361).st S370).st S376).st S385).st S389).st S391
      replace h371 := (((h371.st S376).st S385).st S389).st S391
      replace h386 := (h386.st S389).st S391
      exact ⟨((A366, c367), (A381, c382)), _, ⟨rfl, rfl, rfl, rfl, rfl, rfl, rfl, trivial⟩, hB, h24, h8, h11, h14, h17, h44, h72, h371, h76, h78, h386, h38⟩
     replace h345 := (h345.st S355).st S361
     refine l_bsliceNS (β := Bool) 9 (by decide) rfl h345 (by decide) rfl (by decide) fun g392 w393 O394 S395 h396 => ?_
     have hZ := S395.lst [8] (fun _ h => by cases h; decide)
     refine x_go [(9, [6, 7]), (17, [9, 10]), (20, [4])] hZ (by kernel_rfl) ?_
     refine x_one (i := 9) (by kernel_rfl) rfl ?_
     obtain ⟨e93, e398, e399⟩ := appI_some e93
     replace h74 := (((h74.st S344).st S355).st S361).st S395
     replace h362 := h362.st S395
     refine l_appendNN rfl h74 h362 (by decide) rfl rfl (by decide) e398 e399 rfl fun A400 c401 w402 O403 S404 h405 => ?_
     rw [← e93] at h405 ⊢
     have hZ := S404.lst [6, 7] (by rintro _ (h | h) <;> cases h <;> decide)
     refine x_go [(17, [9, 10]), (20, [4])] hZ (by kernel_rfl) ?_
     refine x_one (i := 17) (by kernel_rfl) rfl ?_
     obtain ⟨e97, e407, e408⟩ := appI_some e97
     replace h80 := ((((h80.st S344).st S355).st S361).st S395).st S404
     replace h396 := h396.st S404
     refine l_appendNN rfl h80 h396 (by decide) rfl rfl (by decide) e407 e408 rfl fun A409 c410 w411 O412 S413 h414 => ?_
     rw [← e97] at h414 ⊢
     have hZ := S413.lst [9, 10] (by rintro _ (h | h) <;> cases h <;> decide)
     refine x_go [(20, [4])] hZ (by kernel_rfl) ?_
     refine x_pre (fuel := 4) [] [(18, true), (19, true)] (by kernel_rfl) rfl ?_
     refine h_nc rfl rfl rfl (h_fa rfl rfl rfl (hwp_nilT ?_))
     refine x_one (i := 20) (by kernel_rfl) rfl ?_
     replace h44 := (((((h44.st S344).st S355).st S361).st S395).st S404).st S413
     refine l_store h44 rfl rfl rfl (nle_b rfl) (allOne rfl) fun w416 S417 h44 => ?_
     replace h44 : Lc 4 w416 O412 g40 67 [(.slice A9 x0.vars.length c10), (.slice A12 x0.init.length c13), (.slice A15 x0.goal.length c16), (.slice A18 x0.ops.length c19), (.slice x50.1.1 s49.1.length x50.1.2), (.slice A400 u92.length c401), (.slice x50.2.2.1.1 s49.2.2.1.length x50.2.2.1.2), (.slice x50.2.2.2.1.1 s49.2.2.2.1.length x50.2.2.2.1.2), (.slice none 0 0), (.slice x50.2.2.2.2.1 s49.2.2.2.2.length x50.2.2.2.2.2), (.slice (some ⟨g34, 0, none⟩) u27.length m29), (.int .i64 0), (.int .i64 x1), (.bool false)] := h44
     have hZ := S417.lst [4] (fun _ h => by cases h; decide)
     refine x_go [] hZ (by kernel_rfl) ?_
     refine x_pre (fuel := 1) [] [(21, true), (22, true)] (by kernel_rfl) rfl ?_
     refine h_nc rfl rfl rfl (h_fa rfl rfl rfl (hwp_nilT ?_))
     refine x_one (i := 23) (by kernel_rfl) rfl ?_
     refine l_store h44 rfl rfl rfl (nle_b rfl) (allOne rfl) fun w418 S419 h44 => ?_
     replace h44 : Lc 4 w418 O412 g40 67 [(.slice A9 x0.vars.length c10), (.slice A12 x0.init.length c13), (.slice A15 x0.goal.length c16), (.slice A18 x0.ops.length c19), (.slice x50.1.1 s49.1.length x50.1.2), (.slice A400 u92.length c401), (.slice x50.2.2.1.1 s49.2.2.1.length x50.2.2.1.2), (.slice x50.2.2.2.1.1 s49.2.2.2.1.length x50.2.2.2.1.2), (.slice none 0 0), (.slice A409 u96.length c410), (.slice (some ⟨g34, 0, none⟩) u27.length m29), (.int .i64 0), (.int .i64 x1), (.bool false)] := h44
     refine x_end (by kernel_rfl) ?_
     refine x_nil (by kernel_rfl) ?_
     obtain rfl := sm hy99
     replace hB := (((((((hB.st S344).st S355).st S361).st S395).st S404).st S413).st S417).st S419
     replace h8 := (((((((h8.st S344).st S355).st S361).st S395).st S404).st S413).st S417).st S419
     replace h11 := (((((((h11.st S344).st S355).st S361).st S395).st S404).st S413).st S417).st S419
     replace h14 := (((((((h14.st S344).st S355).st S361).st S395).st S404).st S413).st S417).st S419
     replace h17 := (((((((h17.st S344).st S355).st S361).st S395).st S404).st S413).st S417).st S419
     replace h24 := (((((((h24.st S344).st S355).st S361).st S395).st S404).st S413).st S417).st S419
     replace h38 := (((((((h38.st S344).st S355).st S361).st S395).st S404).st S413).st S417).st S419
     replace h72 := (((((((h72.st S344).st S355).st S361).st S395).st S404).st S413).st S417).st S419
     replace h76 := (((((((h76.st S344).st S355).st S361).st S395).st S404).st S413).st S417).st S419
     replace h78 := (((((((h78.st S344).st S355).st S361).st S395).st S404).st S413).st S417).st S419
     replace h405 := ((h405.st S413).st S417).st S419
     replace h414 := (h414.st S417).st S419
     exact ⟨((A400, c401), (A409, c410)), _, ⟨rfl, rfl, rfl, rfl, rfl, rfl, rfl, trivial⟩, hB, h24, h8, h11, h14, h17, h44, h72, h405, h76, h78, h414, h38⟩
    replace h345 := h345.st S355
    refine l_bsliceNS (β := Bool) 9 (by decide) rfl h345 (by decide) rfl (by decide) fun g420 w421 O422 S423 h424 => ?_
    have hZ := S423.lst [8] (fun _ h => by cases h; decide)
    refine x_go [(8, [5]), (9, [6, 7]), (17, [9, 10]), (20, [4])] hZ (by kernel_rfl) ?_
    refine x_one (i := 8) (by kernel_rfl) rfl ?_
    replace h356 := h356.st S423
    refine l_bsliceNS (β := ByteArray) 6 (by decide) rfl h356 (by decide) rfl (by decide) fun g426 w427 O428 S429 h430 => ?_
    have hZ := S429.lst [5] (fun _ h => by cases h; decide)
    refine x_go [(9, [6, 7]), (17, [9, 10]), (20, [4])] hZ (by kernel_rfl) ?_
    refine x_one (i := 9) (by kernel_rfl) rfl ?_
    obtain ⟨e93, e432, e433⟩ := appI_some e93
    replace h74 := (((h74.st S344).st S355).st S423).st S429
    refine l_appendNN rfl h74 h430 (by decide) rfl rfl (by decide) e432 e433 rfl fun A434 c435 w436 O437 S438 h439 => ?_
    rw [← e93] at h439 ⊢
    have hZ := S438.lst [6, 7] (by rintro _ (h | h) <;> cases h <;> decide)
    refine x_go [(17, [9, 10]), (20, [4])] hZ (by kernel_rfl) ?_
    refine x_one (i := 17) (by kernel_rfl) rfl ?_
    obtain ⟨e97, e441, e442⟩ := appI_some e97
    replace h80 := ((((h80.st S344).st S355).st S423).st S429).st S438
    replace h424 := (h424.st S429).st S438
    refine l_appendNN rfl h80 h424 (by decide) rfl rfl (by decide) e441 e442 rfl fun A443 c444 w445 O446 S447 h448 => ?_
    rw [← e97] at h448 ⊢
    have hZ := S447.lst [9, 10] (by rintro _ (h | h) <;> cases h <;> decide)
    refine x_go [(20, [4])] hZ (by kernel_rfl) ?_
    refine x_pre (fuel := 4) [] [(18, true), (19, true)] (by kernel_rfl) rfl ?_
    refine h_nc rfl rfl rfl (h_fa rfl rfl rfl (hwp_nilT ?_))
    refine x_one (i := 20) (by kernel_rfl) rfl ?_
    replace h44 := (((((h44.st S344).st S355).st S423).st S429).st S438).st S447
    refine l_store h44 rfl rfl rfl (nle_b rfl) (allOne rfl) fun w450 S451 h44 => ?_
    replace h44 : Lc 4 w450 O446 g40 67 [(.slice A9 x0.vars.length c10), (.slice A12 x0.init.length c13), (.slice A15 x0.goal.length c16), (.slice A18 x0.ops.length c19), (.slice x50.1.1 s49.1.length x50.1.2), (.slice A434 u92.length c435), (.slice x50.2.2.1.1 s49.2.2.1.length x50.2.2.1.2), (.slice x50.2.2.2.1.1 s49.2.2.2.1.length x50.2.2.2.1.2), (.slice none 0 0), (.slice x50.2.2.2.2.1 s49.2.2.2.2.length x50.2.2.2.2.2), (.slice (some ⟨g34, 0, none⟩) u27.length m29), (.int .i64 0), (.int .i64 x1), (.bool false)] := h44
    have hZ := S451.lst [4] (fun _ h => by cases h; decide)
    refine x_go [] hZ (by kernel_rfl) ?_
    refine x_pre (fuel := 1) [] [(21, true), (22, true)] (by kernel_rfl) rfl ?_
    refine h_nc rfl rfl rfl (h_fa rfl rfl rfl (hwp_nilT ?_))
    refine x_one (i := 23) (by kernel_rfl) rfl ?_
    refine l_store h44 rfl rfl rfl (nle_b rfl) (allOne rfl) fun w452 S453 h44 => ?_
    replace h44 : Lc 4 w452 O446 g40 67 [(.slice A9 x0.vars.length c10), (.slice A12 x0.init.length c13), (.slice A15 x0.goal.length c16), (.slice A18 x0.ops.length c19), (.slice x50.1.1 s49.1.length x50.1.2), (.slice A434 u92.length c435), (.slice x50.2.2.1.1 s49.2.2.1.length x50.2.2.1.2), (.slice x50.2.2.2.1.1 s49.2.2.2.1.length x50.2.2.2.1.2), (.slice none 0 0), (.slice A443 u96.length c444), (.slice (some ⟨g34, 0, none⟩) u27.length m29), (.int .i64 0), (.int .i64 x1), (.bool false)] := h44
    refine x_end (by kernel_rfl) ?_
    refine x_nil (by kernel_rfl) ?_
    obtain rfl := sm hy99
    replace hB := (((((((hB.st S344).st S355).st S423).st S429).st S438).st S447).st S451).st S453
    replace h8 := (((((((h8.st S344).st S355).st S423).st S429).st S438).st S447).st S451).st S453
    replace h11 := (((((((h11.st S344).st S355).st S423).st S429).st S438).st S447).st S451).st S453
    replace h14 := (((((((h14.st S344).st S355).st S423).st S429).st S438).st S447).st S451).st S453
    replace h17 := (((((((h17.st S344).st S355).st S423).st S429).st S438).st S447).st S451).st S453
    replace h24 := (((((((h24.st S344).st S355).st S423).st S429).st S438).st S447).st S451).st S453
    replace h38 := (((((((h38.st S344).st S355).st S423).st S429).st S438).st S447).st S451).st S453
    replace h72 := (((((((h72.st S344).st S355).st S423).st S429).st S438).st S447).st S451).st S453
    replace h76 := (((((((h76.st S344).st S355).st S423).st S429).st S438).st S447).st S451).st S453
    replace h78 := (((((((h78.st S344).st S355).st S423).st S429).st S438).st S447).st S451).st S453
    replace h439 := ((h439.st S447).st S451).st S453
    replace h448 := (h448.st S451).st S453
    exact ⟨((A434, c435), (A443, c444)), _, ⟨rfl, rfl, rfl, rfl, rfl, rfl, rfl, trivial⟩, hB, h24, h8, h11, h14, h17, h44, h72, h439, h76, h78, h448, h38⟩
   refine l_bsliceNS (β := Bool) 9 (by decide) rfl h345 (by decide) rfl (by decide) fun g454 w455 O456 S457 h458 => ?_
   have hZ := S457.lst [8] (fun _ h => by cases h; decide)
   refine x_go [(8, [5]), (9, [6, 7]), (17, [9, 10]), (20, [4])] hZ (by kernel_rfl) ?_
   refine x_one (i := 7) (by kernel_rfl) rfl ?_
   obtain ⟨m460, e461, e462, e463, e464⟩ := mkI_some e91
   refine l_make 5 (by decide) O456 (z0 := ((⟨#[]⟩ : ByteArray) : ByteArray)) rfl rfl rfl rfl rfl e461 (vStr (show (⟨#[]⟩ : ByteArray).size ≤ 9223372036854775807 from by decide)) e462 e463 rfl fun g465 w466 O467 S468 h469 => ?_
   rw [← e464] at h469 ⊢
   have hZ := S468.lst [] (fun _ h => h.elim)
   refine x_go [(8, [5]), (9, [6, 7]), (17, [9, 10]), (20, [4])] hZ (by kernel_rfl) ?_
   refine x_one (i := 8) (by kernel_rfl) rfl ?_
   refine l_bsliceNS (β := ByteArray) 6 (by decide) rfl h469 (by decide) rfl (by decide) fun g471 w472 O473 S474 h475 => ?_
   have hZ := S474.lst [5] (fun _ h => by cases h; decide)
   refine x_go [(9, [6, 7]), (17, [9, 10]), (20, [4])] hZ (by kernel_rfl) ?_
   refine x_one (i := 9) (by kernel_rfl) rfl ?_
   obtain ⟨e93, e477, e478⟩ := appI_some e93
   replace h74 := (((h74.st S344).st S457).st S468).st S474
   refine l_appendNN rfl h74 h475 (by decide) rfl rfl (by decide) e477 e478 rfl fun A479 c480 w481 O482 S483 h484 => ?_
   rw [← e93] at h484 ⊢
   have hZ := S483.lst [6, 7] (by rintro _ (h | h) <;> cases h <;> decide)
   refine x_go [(17, [9, 10]), (20, [4])] hZ (by kernel_rfl) ?_
   refine x_one (i := 17) (by kernel_rfl) rfl ?_
   obtain ⟨e97, e486, e487⟩ := appI_some e97
   replace h80 := ((((h80.st S344).st S457).st S468).st S474).st S483
   replace h458 := ((h458.st S468).st S474).st S483
   refine l_appendNN rfl h80 h458 (by decide) rfl rfl (by decide) e486 e487 rfl fun A488 c489 w490 O491 S492 h493 => ?_
   rw [← e97] at h493 ⊢
   have hZ := S492.lst [9, 10] (by rintro _ (h | h) <;> cases h <;> decide)
   refine x_go [(20, [4])] hZ (by kernel_rfl) ?_
   refine x_pre (fuel := 4) [] [(18, true), (19, true)] (by kernel_rfl) rfl ?_
   refine h_nc rfl rfl rfl (h_fa rfl rfl rfl (hwp_nilT ?_))
   refine x_one (i := 20) (by kernel_rfl) rfl ?_
   replace h44 := (((((h44.st S344).st S457).st S468).st S474).st S483).st S492
   refine l_store h44 rfl rfl rfl (nle_b rfl) (allOne rfl) fun w495 S496 h44 => ?_
   replace h44 : Lc 4 w495 O491 g40 67 [(.slice A9 x0.vars.length c10), (.slice A12 x0.init.length c13), (.slice A15 x0.goal.length c16), (.slice A18 x0.ops.length c19), (.slice x50.1.1 s49.1.length x50.1.2), (.slice A479 u92.length c480), (.slice x50.2.2.1.1 s49.2.2.1.length x50.2.2.1.2), (.slice x50.2.2.2.1.1 s49.2.2.2.1.length x50.2.2.2.1.2), (.slice none 0 0), (.slice x50.2.2.2.2.1 s49.2.2.2.2.length x50.2.2.2.2.2), (.slice (some ⟨g34, 0, none⟩) u27.length m29), (.int .i64 0), (.int .i64 x1), (.bool false)] := h44
   have hZ := S496.lst [4] (fun _ h => by cases h; decide)
   refine x_go [] hZ (by kernel_rfl) ?_
   refine x_pre (fuel := 1) [] [(21, true), (22, true)] (by kernel_rfl) rfl ?_
   refine h_nc rfl rfl rfl (h_fa rfl rfl rfl (hwp_nilT ?_))
   refine x_one (i := 23) (by kernel_rfl) rfl ?_
   refine l_store h44 rfl rfl rfl (nle_b rfl) (allOne rfl) fun w497 S498 h44 => ?_
   replace h44 : Lc 4 w497 O491 g40 67 [(.slice A9 x0.vars.length c10), (.slice A12 x0.init.length c13), (.slice A15 x0.goal.length c16), (.slice A18 x0.ops.length c19), (.slice x50.1.1 s49.1.length x50.1.2), (.slice A479 u92.length c480), (.slice x50.2.2.1.1 s49.2.2.1.length x50.2.2.1.2), (.slice x50.2.2.2.1.1 s49.2.2.2.1.length x50.2.2.2.1.2), (.slice none 0 0), (.slice A488 u96.length c489), (.slice (some ⟨g34, 0, none⟩) u27.length m29), (.int .i64 0), (.int .i64 x1), (.bool false)] := h44
   refine x_end (by kernel_rfl) ?_
   refine x_nil (by kernel_rfl) ?_
   obtain rfl := sm hy99
   replace hB := (((((((hB.st S344).st S457).st S468).st S474).st S483).st S492).st S496).st S498
   replace h8 := (((((((h8.st S344).st S457).st S468).st S474).st S483).st S492).st S496).st S498
   replace h11 := (((((((h11.st S344).st S457).st S468).st S474).st S483).st S492).st S496).st S498
   replace h14 := (((((((h14.st S344).st S457).st S468).st S474).st S483).st S492).st S496).st S498
   replace h17 := (((((((h17.st S344).st S457).st S468).st S474).st S483).st S492).st S496).st S498
   replace h24 := (((((((h24.st S344).st S457).st S468).st S474).st S483).st S492).st S496).st S498
   replace h38 := (((((((h38.st S344).st S457).st S468).st S474).st S483).st S492).st S496).st S498
   replace h72 := (((((((h72.st S344).st S457).st S468).st S474).st S483).st S492).st S496).st S498
   replace h76 := (((((((h76.st S344).st S457).st S468).st S474).st S483).st S492).st S496).st S498
   replace h78 := (((((((h78.st S344).st S457).st S468).st S474).st S483).st S492).st S496).st S498
   replace h484 := ((h484.st S492).st S496).st S498
   replace h493 := (h493.st S496).st S498
   exact ⟨((A479, c480), (A488, c489)), _, ⟨rfl, rfl, rfl, rfl, rfl, rfl, rfl, trivial⟩, hB, h24, h8, h11, h14, h17, h44, h72, h484, h76, h78, h493, h38⟩
  rintro l499 w500 ⟨x101, O501, hs502, hB, h24, h8, h11, h14, h17, h44, h72, h102, h76, h78, h104, h38⟩
  refine ewp_sub _ hs502 ?_
  refine ewp_seq ?_
  obtain ⟨u503, e504, hf57⟩ := bs hf57
  obtain ⟨q505, e506, hf57⟩ := bs hf57
  obtain ⟨u507, e508, hf57⟩ := bs hf57
  obtain ⟨y509, hy510, hf57⟩ := bs hf57
  refine ewp_join (fun l' w' => ∃ (x512 : (Option Addr × Nat) × (Option Addr × Nat)) (O' : Lab), subs l' [(2, (.pointer (some ⟨g20, 0, none⟩))), (5, (.pointer (some ⟨g40, 0, none⟩))), (6, (.int .i64 (k51 : Int))), (7, (.int .i64 a52)), (20, (.slice A9 x0.vars.length c10)), (21, (.int .i64 (x0.vars.length : Int))), (22, (.int .i64 (k51 : Int)))] ∧ Bm w O0 w' O' ∧ Lc 2 w' O' g20 30 [(.slice A9 x0.vars.length c10), (.slice A12 x0.init.length c13), (.slice A15 x0.goal.length c16), (.slice A18 x0.ops.length c19)] ∧ Vb w' (Fr 0 w' O') (.slice A9 x0.vars.length c10) x0.vars ∧ Vb w' (Fr 0 w' O') (.slice A12 x0.init.length c13) x0.init ∧ Vb w' (Fr 0 w' O') (.slice A15 x0.goal.length c16) x0.goal ∧ Vb w' (Fr 0 w' O') (.slice A18 x0.ops.length c19) x0.ops ∧ Lc 4 w' O' g40 67 [(.slice A9 x0.vars.length c10), (.slice A12 x0.init.length c13), (.slice A15 x0.goal.length c16), (.slice A18 x0.ops.length c19), (.slice x50.1.1 s49.1.length x50.1.2), (.slice x101.1.1 y98.1.length x101.1.2), (.slice x512.1.1 y509.1.length x512.1.2), (.slice x512.2.1 y509.2.length x512.2.2), (.slice none 0 0), (.slice x101.2.1 y98.2.length x101.2.2), (.slice (some ⟨g34, 0, none⟩) u27.length m29), (.int .i64 0), (.int .i64 x1), (.bool false)] ∧ Rw 17 w' O' 26 (.slice x50.1.1 s49.1.length x50.1.2) s49.1 ∧ NR ByteArray 7 w' O' 80 9 (.slice x101.1.1 y98.1.length x101.1.2) y98.1 none ∧ Rw 12 w' O' 3 (.slice x512.1.1 y509.1.length x512.1.2) y509.1 ∧ NR Int 16 w' O' 24 3 (.slice x512.2.1 y509.2.length x512.2.2) y509.2 none ∧ NR Bool 10 w' O' 65 4 (.slice x101.2.1 y98.2.length x101.2.2) y98.2 none ∧ Rw 3 w' O' 4 (.slice (some ⟨g34, 0, none⟩) u27.length m29) u27) ?_ ?_
  ·
   refine ewp_drawX [(8, [12]), (16, [13]), (17, [14]), (18, [15, 16]), (22, [4])] O501 ?_
   refine x_pre (fuel := 22) [] [(2, true), (3, true), (4, true), (5, true), (6, true)] (by kernel_rfl) rfl ?_
   refine h_mv rfl rfl rfl (h_nc rfl rfl rfl (h_fa rfl rfl rfl (h_fa rfl rfl rfl (h_ldC (hc := fun w' ⟨O', hq⟩ => Blk.cell (i := 6) ((h44.st hq (by decide)).1) rfl) rfl rfl rfl ?_))))
   refine hwp_nilT ?_
   refine x_pre (fuel := 21) [12] [(15, true)] (by kernel_rfl) rfl ?_
   refine h_mv rfl rfl rfl (hwp_nilT ?_)
   refine x_pre (fuel := 16) [12, 13, 14] [(9, true), (10, true), (11, true), (12, true), (13, true)] (by kernel_rfl) rfl ?_
   refine h_mv rfl rfl rfl (h_nc rfl rfl rfl (h_fa rfl rfl rfl (h_fa rfl rfl rfl (h_ldC (hc := fun w' ⟨O', hq⟩ => Blk.cell (i := 7) ((h44.st hq (by decide)).1) rfl) rfl rfl rfl ?_))))
   refine hwp_nilT ?_
   refine x_pre (fuel := 15) [12, 13, 14, 15, 16] [(0, true)] (by kernel_rfl) rfl ?_
   refine h_mv rfl rfl rfl (hwp_nilT ?_)
   refine x_pre (fuel := 14) [4, 12, 13, 14, 15, 16] [(1, true)] (by kernel_rfl) rfl ?_
   refine h_mv rfl rfl rfl (hwp_nilT ?_)
   refine x_two (i := 7) (j := 14) (by kernel_rfl) rfl rfl ?_ ?_
   ·
    refine l_bslice 11 (by decide) O501 (xs := (([(-1)] : List Int) : List Int)) rfl rfl rfl rfl ⟨(vInt (show inI64 (-1) from by decide)), trivial⟩ (by decide) (by decide) rfl fun g517 w518 O519 S520 h521 => ?_
    have hZ := S520.lst [] (fun _ h => h.elim)
    refine x_go [(8, [12]), (16, [13]), (17, [14]), (18, [15, 16]), (22, [4])] hZ (by kernel_rfl) ?_
    refine x_two (i := 8) (j := 14) (by kernel_rfl) rfl rfl ?_ ?_
    ·
     obtain ⟨e504, e523, e524⟩ := appI_some e504
     replace h76 := h76.st S520
     refine l_append rfl h76 (h521.rd) rfl rfl (by decide) e523 e524 rfl fun A525 c526 w527 O528 S529 h530 => ?_
     rw [← e504] at h530 ⊢
     have hZ := S529.lst [12] (fun _ h => by cases h; decide)
     refine x_go [(16, [13]), (17, [14]), (18, [15, 16]), (22, [4])] hZ (by kernel_rfl) ?_
     refine x_one (i := 14) (by kernel_rfl) rfl ?_
     refine l_bslice 13 (by decide) O528 (xs := (([(-1)] : List Int) : List Int)) rfl rfl rfl rfl ⟨(vInt (show inI64 (-1) from by decide)), trivial⟩ (by decide) (by decide) rfl fun g532 w533 O534 S535 h536 => ?_
     have hZ := S535.lst [] (fun _ h => h.elim)
     refine x_go [(16, [13]), (17, [14]), (18, [15, 16]), (22, [4])] hZ (by kernel_rfl) ?_
     refine x_one (i := 16) (by kernel_rfl) rfl ?_
     obtain ⟨O538, S539, h536⟩ := h536.freeze
     have hZ := S539.lst [13] (fun _ h => by cases h; decide)
     refine l_callRow 14 (by decide) (O := O538) (c_slices_Repeat_Lint_int Fr.lt h536 r89 e506) rfl rfl fun A545 c546 w540 O541 S542 h543 => ?_
     replace hZ := hZ.cmp S542 [13] (fun _ h => h.elim) rfl
     refine x_go [(17, [14]), (18, [15, 16]), (22, [4])] hZ (by kernel_rfl) ?_
     refine x_one (i := 17) (by kernel_rfl) rfl ?_
     refine l_bsliceNS (β := Int) 15 (by decide) rfl h543 (by decide) rfl (by decide) fun g548 w549 O550 S551 h552 => ?_
     have hZ := S551.lst [14] (fun _ h => by cases h; decide)
     refine x_go [(18, [15, 16]), (22, [4])] hZ (by kernel_rfl) ?_
     refine x_one (i := 18) (by kernel_rfl) rfl ?_
     obtain ⟨e508, e554, e555⟩ := appI_some e508
     replace h78 := (((((h78.st S520).st S529).st S535).st S539).st S542).st S551
     refine l_appendNN rfl h78 h552 (by decide) rfl rfl (by decide) e554 e555 rfl fun A556 c557 w558 O559 S560 h561 => ?_
     rw [← e508] at h561 ⊢
     have hZ := S560.lst [15, 16] (by rintro _ (h | h) <;> cases h <;> decide)
     refine x_go [(22, [4])] hZ (by kernel_rfl) ?_
     refine x_pre (fuel := 5) [] [(19, true), (20, true), (21, true)] (by kernel_rfl) rfl ?_
     refine h_nc rfl rfl rfl (h_fa rfl rfl rfl (h_fa rfl rfl rfl (hwp_nilT ?_)))
     refine x_one (i := 22) (by kernel_rfl) rfl ?_
     replace h44 := ((((((h44.st S520).st S529).st S535).st S539).st S542).st S551).st S560
     refine l_store h44 rfl rfl rfl (nle_b rfl) (allOne rfl) fun w563 S564 h44 => ?_
     replace h44 : Lc 4 w563 O559 g40 67 [(.slice A9 x0.vars.length c10), (.slice A12 x0.init.length c13), (.slice A15 x0.goal.length c16), (.slice A18 x0.ops.length c19), (.slice x50.1.1 s49.1.length x50.1.2), (.slice x101.1.1 y98.1.length x101.1.2), (.slice A525 u503.length c526), (.slice x50.2.2.2.1.1 s49.2.2.2.1.length x50.2.2.2.1.2), (.slice none 0 0), (.slice x101.2.1 y98.2.length x101.2.2), (.slice (some ⟨g34, 0, none⟩) u27.length m29), (.int .i64 0), (.int .i64 x1), (.bool false)] := h44
     have hZ := S564.lst [4] (fun _ h => by cases h; decide)
     refine x_go [] hZ (by kernel_rfl) ?_
     refine x_pre (fuel := 1) [] [(23, true), (24, true), (25, true)] (by kernel_rfl) rfl ?_
     refine h_nc rfl rfl rfl (h_fa rfl rfl rfl (h_fa rfl rfl rfl (hwp_nilT ?_)))
     refine x_one (i := 26) (by kernel_rfl) rfl ?_
     refine l_store h44 rfl rfl rfl (nle_b rfl) (allOne rfl) fun w565 S566 h44 => ?_
     replace h44 : Lc 4 w565 O559 g40 67 [(.slice A9 x0.vars.length c10), (.slice A12 x0.init.length c13), (.slice A15 x0.goal.length c16), (.slice A18 x0.ops.length c19), (.slice x50.1.1 s49.1.length x50.1.2), (.slice x101.1.1 y98.1.length x101.1.2), (.slice A525 u503.length c526), (.slice A556 u507.length c557), (.slice none 0 0), (.slice x101.2.1 y98.2.length x101.2.2), (.slice (some ⟨g34, 0, none⟩) u27.length m29), (.int .i64 0), (.int .i64 x1), (.bool false)] := h44
     refine x_end (by kernel_rfl) ?_
     refine x_nil (by kernel_rfl) ?_
     obtain rfl := sm hy510
     replace hB := ((((((((hB.st S520).st S529).st S535).st S539).st S542).st S551).st S560).st S564).st S566
     replace h8 := ((((((((h8.st S520).st S529).st S535).st S539).st S542).st S551).st S560).st S564).st S566
     replace h11 := ((((((((h11.st S520).st S529).st S535).st S539).st S542).st S551).st S560).st S564).st S566
     replace h14 := ((((((((h14.st S520).st S529).st S535).st S539).st S542).st S551).st S560).st S564).st S566
     replace h17 := ((((((((h17.st S520).st S529).st S535).st S539).st S542).st S551).st S560).st S564).st S566
     replace h24 := ((((((((h24.st S520).st S529).st S535).st S539).st S542).st S551).st S560).st S564).st S566
     replace h38 := ((((((((h38.st S520).st S529).st S535).st S539).st S542).st S551).st S560).st S564).st S566
     replace h72 := ((((((((h72.st S520).st S529).st S535).st S539).st S542).st S551).st S560).st S564).st S566
     replace h102 := ((((((((h102.st S520).st S529).st S535).st S539).st S542).st S551).st S560).st S564).st S566
     replace h104 := ((((((((h104.st S520).st S529).st S535).st S539).st S542).st S551).st S560).st S564).st S566
     replace h530 := ((((((h530.st S535).st S539).st S542).st S551).st S560).st S564).st S566
     replace h561 := (h561.st S564).st S566
     exact ⟨((A525, c526), (A556, c557)), _, ⟨rfl, rfl, rfl, rfl, rfl, rfl, rfl, trivial⟩, hB, h24, h8, h11, h14, h17, h44, h72, h102, h530, h561, h104, h38⟩
    refine l_bslice 13 (by decide) O519 (xs := (([(-1)] : List Int) : List Int)) rfl rfl rfl rfl ⟨(vInt (show inI64 (-1) from by decide)), trivial⟩ (by decide) (by decide) rfl fun g567 w568 O569 S570 h571 => ?_
    have hZ := S570.lst [] (fun _ h => h.elim)
    refine x_go [(8, [12]), (16, [13]), (17, [14]), (18, [15, 16]), (22, [4])] hZ (by kernel_rfl) ?_
    refine x_one (i := 8) (by kernel_rfl) rfl ?_
    obtain ⟨e504, e573, e574⟩ := appI_some e504
    replace h76 := (h76.st S520).st S570
    replace h521 := h521.st S570
    refine l_append rfl h76 (h521.rd) rfl rfl (by decide) e573 e574 rfl fun A575 c576 w577 O578 S579 h580 => ?_
    rw [← e504] at h580 ⊢
    have hZ := S579.lst [12] (fun _ h => by cases h; decide)
    refine x_go [(16, [13]), (17, [14]), (18, [15, 16]), (22, [4])] hZ (by kernel_rfl) ?_
    refine x_one (i := 16) (by kernel_rfl) rfl ?_
    replace h571 := h571.st S579
    obtain ⟨O582, S583, h571⟩ := h571.freeze
    have hZ := S583.lst [13] (fun _ h => by cases h; decide)
    refine l_callRow 14 (by decide) (O := O582) (c_slices_Repeat_Lint_int Fr.lt h571 r89 e506) rfl rfl fun A589 c590 w584 O585 S586 h587 => ?_
    replace hZ := hZ.cmp S586 [13] (fun _ h => h.elim) rfl
    refine x_go [(17, [14]), (18, [15, 16]), (22, [4])] hZ (by kernel_rfl) ?_
    refine x_one (i := 17) (by kernel_rfl) rfl ?_
    refine l_bsliceNS (β := Int) 15 (by decide) rfl h587 (by decide) rfl (by decide) fun g592 w593 O594 S595 h596 => ?_
    have hZ := S595.lst [14] (fun _ h => by cases h; decide)
    refine x_go [(18, [15, 16]), (22, [4])] hZ (by kernel_rfl) ?_
    refine x_one (i := 18) (by kernel_rfl) rfl ?_
    obtain ⟨e508, e598, e599⟩ := appI_some e508
    replace h78 := (((((h78.st S520).st S570).st S579).st S583).st S586).st S595
    refine l_appendNN rfl h78 h596 (by decide) rfl rfl (by decide) e598 e599 rfl fun A600 c601 w602 O603 S604 h605 => ?_
    rw [← e508] at h605 ⊢
    have hZ := S604.lst [15, 16] (by rintro _ (h | h) <;> cases h <;> decide)
    refine x_go [(22, [4])] hZ (by kernel_rfl) ?_
    refine x_pre (fuel := 5) [] [(19, true), (20, true), (21, true)] (by kernel_rfl) rfl ?_
    refine h_nc rfl rfl rfl (h_fa rfl rfl rfl (h_fa rfl rfl rfl (hwp_nilT ?_)))
    refine x_one (i := 22) (by kernel_rfl) rfl ?_
    replace h44 := ((((((h44.st S520).st S570).st S579).st S583).st S586).st S595).st S604
    refine l_store h44 rfl rfl rfl (nle_b rfl) (allOne rfl) fun w607 S608 h44 => ?_
    replace h44 : Lc 4 w607 O603 g40 67 [(.slice A9 x0.vars.length c10), (.slice A12 x0.init.length c13), (.slice A15 x0.goal.length c16), (.slice A18 x0.ops.length c19), (.slice x50.1.1 s49.1.length x50.1.2), (.slice x101.1.1 y98.1.length x101.1.2), (.slice A575 u503.length c576), (.slice x50.2.2.2.1.1 s49.2.2.2.1.length x50.2.2.2.1.2), (.slice none 0 0), (.slice x101.2.1 y98.2.length x101.2.2), (.slice (some ⟨g34, 0, none⟩) u27.length m29), (.int .i64 0), (.int .i64 x1), (.bool false)] := h44
    have hZ := S608.lst [4] (fun _ h => by cases h; decide)
    refine x_go [] hZ (by kernel_rfl) ?_
    refine x_pre (fuel := 1) [] [(23, true), (24, true), (25, true)] (by kernel_rfl) rfl ?_
    refine h_nc rfl rfl rfl (h_fa rfl rfl rfl (h_fa rfl rfl rfl (hwp_nilT ?_)))
    refine x_one (i := 26) (by kernel_rfl) rfl ?_
    refine l_store h44 rfl rfl rfl (nle_b rfl) (allOne rfl) fun w609 S610 h44 => ?_
    replace h44 : Lc 4 w609 O603 g40 67 [(.slice A9 x0.vars.length c10), (.slice A12 x0.init.length c13), (.slice A15 x0.goal.length c16), (.slice A18 x0.ops.length c19), (.slice x50.1.1 s49.1.length x50.1.2), (.slice x101.1.1 y98.1.length x101.1.2), (.slice A575 u503.length c576), (.slice A600 u507.length c601), (.slice none 0 0), (.slice x101.2.1 y98.2.length x101.2.2), (.slice (some ⟨g34, 0, none⟩) u27.length m29), (.int .i64 0), (.int .i64 x1), (.bool false)] := h44
    refine x_end (by kernel_rfl) ?_
    refine x_nil (by kernel_rfl) ?_
    obtain rfl := sm hy510
    replace hB := ((((((((hB.st S520).st S570).st S579).st S583).st S586).st S595).st S604).st S608).st S610
    replace h8 := ((((((((h8.st S520).st S570).st S579).st S583).st S586).st S595).st S604).st S608).st S610
    replace h11 := ((((((((h11.st S520).st S570).st S579).st S583).st S586).st S595).st S604).st S608).st S610
    replace h14 := ((((((((h14.st S520).st S570).st S579).st S583).st S586).st S595).st S604).st S608).st S610
    replace h17 := ((((((((h17.st S520).st S570).st S579).st S583).st S586).st S595).st S604).st S608).st S610
    replace h24 := ((((((((h24.st S520).st S570).st S579).st S583).st S586).st S595).st S604).st S608).st S610
    replace h38 := ((((((((h38.st S520).st S570).st S579).st S583).st S586).st S595).st S604).st S608).st S610
    replace h72 := ((((((((h72.st S520).st S570).st S579).st S583).st S586).st S595).st S604).st S608).st S610
    replace h102 := ((((((((h102.st S520).st S570).st S579).st S583).st S586).st S595).st S604).st S608).st S610
    replace h104 := ((((((((h104.st S520).st S570).st S579).st S583).st S586).st S595).st S604).st S608).st S610
    replace h580 := (((((h580.st S583).st S586).st S595).st S604).st S608).st S610
    replace h605 := (h605.st S608).st S610
    exact ⟨((A575, c576), (A600, c601)), _, ⟨rfl, rfl, rfl, rfl, rfl, rfl, rfl, trivial⟩, hB, h24, h8, h11, h14, h17, h44, h72, h102, h580, h605, h104, h38⟩
   refine l_bslice 13 (by decide) O501 (xs := (([(-1)] : List Int) : List Int)) rfl rfl rfl rfl ⟨(vInt (show inI64 (-1) from by decide)), trivial⟩ (by decide) (by decide) rfl fun g611 w612 O613 S614 h615 => ?_
   have hZ := S614.lst [] (fun _ h => h.elim)
   refine x_go [(8, [12]), (16, [13]), (17, [14]), (18, [15, 16]), (22, [4])] hZ (by kernel_rfl) ?_
   refine x_one (i := 7) (by kernel_rfl) rfl ?_
   refine l_bslice 11 (by decide) O613 (xs := (([(-1)] : List Int) : List Int)) rfl rfl rfl rfl ⟨(vInt (show inI64 (-1) from by decide)), trivial⟩ (by decide) (by decide) rfl fun g617 w618 O619 S620 h621 => ?_
   have hZ := S620.lst [] (fun _ h => h.elim)
   refine x_go [(8, [12]), (16, [13]), (17, [14]), (18, [15, 16]), (22, [4])] hZ (by kernel_rfl) ?_
   refine x_one (i := 8) (by kernel_rfl) rfl ?_
   obtain ⟨e504, e623, e624⟩ := appI_some e504
   replace h76 := (h76.st S614).st S620
   refine l_append rfl h76 (h621.rd) rfl rfl (by decide) e623 e624 rfl fun A625 c626 w627 O628 S629 h630 => ?_
   rw [← e504] at h630 ⊢
   have hZ := S629.lst [12] (fun _ h => by cases h; decide)
   refine x_go [(16, [13]), (17, [14]), (18, [15, 16]), (22, [4])] hZ (by kernel_rfl) ?_
   refine x_one (i := 16) (by kernel_rfl) rfl ?_
   replace h615 := (h615.st S620).st S629
   obtain ⟨O632, S633, h615⟩ := h615.freeze
   have hZ := S633.lst [13] (fun _ h => by cases h; decide)
   refine l_callRow 14 (by decide) (O := O632) (c_slices_Repeat_Lint_int Fr.lt h615 r89 e506) rfl rfl fun A639 c640 w634 O635 S636 h637 => ?_
   replace hZ := hZ.cmp S636 [13] (fun _ h => h.elim) rfl
   refine x_go [(17, [14]), (18, [15, 16]), (22, [4])] hZ (by kernel_rfl) ?_
   refine x_one (i := 17) (by kernel_rfl) rfl ?_
   refine l_bsliceNS (β := Int) 15 (by decide) rfl h637 (by decide) rfl (by decide) fun g642 w643 O644 S645 h646 => ?_
   have hZ := S645.lst [14] (fun _ h => by cases h; decide)
   refine x_go [(18, [15, 16]), (22, [4])] hZ (by kernel_rfl) ?_
   refine x_one (i := 18) (by kernel_rfl) rfl ?_
   obtain ⟨e508, e648, e649⟩ := appI_some e508
   replace h78 := (((((h78.st S614).st S620).st S629).st S633).st S636).st S645
   refine l_appendNN rfl h78 h646 (by decide) rfl rfl (by decide) e648 e649 rfl fun A650 c651 w652 O653 S654 h655 => ?_
   rw [← e508] at h655 ⊢
   have hZ := S654.lst [15, 16] (by rintro _ (h | h) <;> cases h <;> decide)
   refine x_go [(22, [4])] hZ (by kernel_rfl) ?_
   refine x_pre (fuel := 5) [] [(19, true), (20, true), (21, true)] (by kernel_rfl) rfl ?_
   refine h_nc rfl rfl rfl (h_fa rfl rfl rfl (h_fa rfl rfl rfl (hwp_nilT ?_)))
   refine x_one (i := 22) (by kernel_rfl) rfl ?_
   replace h44 := ((((((h44.st S614).st S620).st S629).st S633).st S636).st S645).st S654
   refine l_store h44 rfl rfl rfl (nle_b rfl) (allOne rfl) fun w657 S658 h44 => ?_
   replace h44 : Lc 4 w657 O653 g40 67 [(.slice A9 x0.vars.length c10), (.slice A12 x0.init.length c13), (.slice A15 x0.goal.length c16), (.slice A18 x0.ops.length c19), (.slice x50.1.1 s49.1.length x50.1.2), (.slice x101.1.1 y98.1.length x101.1.2), (.slice A625 u503.length c626), (.slice x50.2.2.2.1.1 s49.2.2.2.1.length x50.2.2.2.1.2), (.slice none 0 0), (.slice x101.2.1 y98.2.length x101.2.2), (.slice (some ⟨g34, 0, none⟩) u27.length m29), (.int .i64 0), (.int .i64 x1), (.bool false)] := h44
   have hZ := S658.lst [4] (fun _ h => by cases h; decide)
   refine x_go [] hZ (by kernel_rfl) ?_
   refine x_pre (fuel := 1) [] [(23, true), (24, true), (25, true)] (by kernel_rfl) rfl ?_
   refine h_nc rfl rfl rfl (h_fa rfl rfl rfl (h_fa rfl rfl rfl (hwp_nilT ?_)))
   refine x_one (i := 26) (by kernel_rfl) rfl ?_
   refine l_store h44 rfl rfl rfl (nle_b rfl) (allOne rfl) fun w659 S660 h44 => ?_
   replace h44 : Lc 4 w659 O653 g40 67 [(.slice A9 x0.vars.length c10), (.slice A12 x0.init.length c13), (.slice A15 x0.goal.length c16), (.slice A18 x0.ops.length c19), (.slice x50.1.1 s49.1.length x50.1.2), (.slice x101.1.1 y98.1.length x101.1.2), (.slice A625 u503.length c626), (.slice A650 u507.length c651), (.slice none 0 0), (.slice x101.2.1 y98.2.length x101.2.2), (.slice (some ⟨g34, 0, none⟩) u27.length m29), (.int .i64 0), (.int .i64 x1), (.bool false)] := h44
   refine x_end (by kernel_rfl) ?_
   refine x_nil (by kernel_rfl) ?_
   obtain rfl := sm hy510
   replace hB := ((((((((hB.st S614).st S620).st S629).st S633).st S636).st S645).st S654).st S658).st S660
   replace h8 := ((((((((h8.st S614).st S620).st S629).st S633).st S636).st S645).st S654).st S658).st S660
   replace h11 := ((((((((h11.st S614).st S620).st S629).st S633).st S636).st S645).st S654).st S658).st S660
   replace h14 := ((((((((h14.st S614).st S620).st S629).st S633).st S636).st S645).st S654).st S658).st S660
   replace h17 := ((((((((h17.st S614).st S620).st S629).st S633).st S636).st S645).st S654).st S658).st S660
   replace h24 := ((((((((h24.st S614).st S620).st S629).st S633).st S636).st S645).st S654).st S658).st S660
   replace h38 := ((((((((h38.st S614).st S620).st S629).st S633).st S636).st S645).st S654).st S658).st S660
   replace h72 := ((((((((h72.st S614).st S620).st S629).st S633).st S636).st S645).st S654).st S658).st S660
   replace h102 := ((((((((h102.st S614).st S620).st S629).st S633).st S636).st S645).st S654).st S658).st S660
   replace h104 := ((((((((h104.st S614).st S620).st S629).st S633).st S636).st S645).st S654).st S658).st S660
   replace h630 := (((((h630.st S633).st S636).st S645).st S654).st S658).st S660
   replace h655 := (h655.st S658).st S660
   exact ⟨((A625, c626), (A650, c651)), _, ⟨rfl, rfl, rfl, rfl, rfl, rfl, rfl, trivial⟩, hB, h24, h8, h11, h14, h17, h44, h72, h102, h630, h655, h104, h38⟩
  rintro l661 w662 ⟨x512, O663, hs664, hB, h24, h8, h11, h14, h17, h44, h72, h102, h513, h515, h104, h38⟩
  refine ewp_sub _ hs664 ?_
  refine ewp_seq (ewp_region (o_mv rfl rfl (o_mv rfl rfl (o_z ?_))))
  obtain ⟨N678, hN679, hf57⟩ := bs hf57
  replace hN679 := natI_some hN679
  obtain ⟨res665, hL666, hf57⟩ := bs hf57
  refine ewp_join (aft res665 (fun (s667 : (List Fct)) (x668 : (Option Addr × Nat)) => [(2, (.pointer (some ⟨g20, 0, none⟩))), (5, (.pointer (some ⟨g40, 0, none⟩))), (20, (.slice A9 x0.vars.length c10)), (21, (.int .i64 (x0.vars.length : Int))), (22, (.int .i64 (k51 : Int)))]) (fun s667 x668 w' => ∃ O' : Lab, Bm w O0 w' O' ∧ Lc 2 w' O' g20 30 [(.slice A9 x0.vars.length c10), (.slice A12 x0.init.length c13), (.slice A15 x0.goal.length c16), (.slice A18 x0.ops.length c19)] ∧ Vb w' (Fr 0 w' O') (.slice A9 x0.vars.length c10) x0.vars ∧ Vb w' (Fr 0 w' O') (.slice A12 x0.init.length c13) x0.init ∧ Vb w' (Fr 0 w' O') (.slice A15 x0.goal.length c16) x0.goal ∧ Vb w' (Fr 0 w' O') (.slice A18 x0.ops.length c19) x0.ops ∧ Lc 4 w' O' g40 67 [(.slice A9 x0.vars.length c10), (.slice A12 x0.init.length c13), (.slice A15 x0.goal.length c16), (.slice A18 x0.ops.length c19), (.slice x668.1 s667.length x668.2), (.slice x101.1.1 y98.1.length x101.1.2), (.slice x512.1.1 y509.1.length x512.1.2), (.slice x512.2.1 y509.2.length x512.2.2), (.slice none 0 0), (.slice x101.2.1 y98.2.length x101.2.2), (.slice (some ⟨g34, 0, none⟩) u27.length m29), (.int .i64 0), (.int .i64 x1), (.bool false)] ∧ Rw 17 w' O' 26 (.slice x668.1 s667.length x668.2) s667 ∧ NR ByteArray 7 w' O' 80 9 (.slice x101.1.1 y98.1.length x101.1.2) y98.1 none ∧ Rw 12 w' O' 3 (.slice x512.1.1 y509.1.length x512.1.2) y509.1 ∧ NR Int 16 w' O' 24 3 (.slice x512.2.1 y509.2.length x512.2.2) y509.2 none ∧ NR Bool 10 w' O' 65 4 (.slice x101.2.1 y98.2.length x101.2.2) y98.2 none ∧ Rw 3 w' O' 4 (.slice (some ⟨g34, 0, none⟩) u27.length m29) u27)) ?_ ?_
  ·
   refine ewp_block (ewp_rngN (σ := (List Fct)) (X := (Option Addr × Nat)) N678 hL666 (natI_le hN679 r89) (fun (s667 : (List Fct)) (x668 : (Option Addr × Nat)) => [(2, (.pointer (some ⟨g20, 0, none⟩))), (5, (.pointer (some ⟨g40, 0, none⟩))), (6, (.int .i64 (k51 : Int))), (20, (.slice A9 x0.vars.length c10)), (21, (.int .i64 (x0.vars.length : Int))), (22, (.int .i64 (k51 : Int)))]) _ (fun s667 x668 w' => ∃ O' : Lab, Bm w O0 w' O' ∧ Lc 2 w' O' g20 30 [(.slice A9 x0.vars.length c10), (.slice A12 x0.init.length c13), (.slice A15 x0.goal.length c16), (.slice A18 x0.ops.length c19)] ∧ Vb w' (Fr 0 w' O') (.slice A9 x0.vars.length c10) x0.vars ∧ Vb w' (Fr 0 w' O') (.slice A12 x0.init.length c13) x0.init ∧ Vb w' (Fr 0 w' O') (.slice A15 x0.goal.length c16) x0.goal ∧ Vb w' (Fr 0 w' O') (.slice A18 x0.ops.length c19) x0.ops ∧ Lc 4 w' O' g40 67 [(.slice A9 x0.vars.length c10), (.slice A12 x0.init.length c13), (.slice A15 x0.goal.length c16), (.slice A18 x0.ops.length c19), (.slice x668.1 s667.length x668.2), (.slice x101.1.1 y98.1.length x101.1.2), (.slice x512.1.1 y509.1.length x512.1.2), (.slice x512.2.1 y509.2.length x512.2.2), (.slice none 0 0), (.slice x101.2.1 y98.2.length x101.2.2), (.slice (some ⟨g34, 0, none⟩) u27.length m29), (.int .i64 0), (.int .i64 x1), (.bool false)] ∧ Rw 17 w' O' 26 (.slice x668.1 s667.length x668.2) s667 ∧ NR ByteArray 7 w' O' 80 9 (.slice x101.1.1 y98.1.length x101.1.2) y98.1 none ∧ Rw 12 w' O' 3 (.slice x512.1.1 y509.1.length x512.1.2) y509.1 ∧ NR Int 16 w' O' 24 3 (.slice x512.2.1 y509.2.length x512.2.2) y509.2 none ∧ NR Bool 10 w' O' 65 4 (.slice x101.2.1 y98.2.length x101.2.2) y98.2 none ∧ Rw 3 w' O' 4 (.slice (some ⟨g34, 0, none⟩) u27.length m29) u27) _ (x50.1.1, x50.1.2) ⟨O663, hB, h24, h8, h11, h14, h17, h44, h72, h102, h513, h515, h104, h38⟩ ⟨rfl, (congrArg (fun z => some (Value.int .i64 z)) hN679), rfl, rfl, rfl, rfl, rfl, rfl, trivial⟩ (fun _ _ => ⟨rfl, rfl⟩) (fun _ _ => ⟨rfl, rfl, rfl, rfl, rfl, trivial⟩) (fun _ _ _ ⟨O', hB, h24, h8, h11, h14, h17, h44, h682, h102, h513, h515, h104, h38⟩ => ⟨O', hB, h24, h8, h11, h14, h17, h44, h682, h102, h513, h515, h104, h38⟩) ⟨rfl, rfl, rfl⟩ ⟨rfl, rfl⟩ ?_)
   rintro k669 s667 x668 w671 cc673 hx674 ⟨O672, hB, h24, h8, h11, h14, h17, h44, h682, h102, h513, h515, h104, h38⟩ hf675 hret676 hbrk677
   have rk669 : inI64 (k669 : Int) := rngKN hx674 (natI_le hN679 r89)
   refine ewp_seq (ewp_region (o_mv rfl rfl (o_as rfl rfl (o_z ?_))))
   refine ewp_region (o_mv rfl rfl (o_mv rfl rfl (o_nc rfl rfl (o_fa rfl rfl (o_ld (hc := Blk.cell (i := 4) (h44.1) rfl) rfl rfl ?_)))))
   refine o_mv rfl rfl (o_mv rfl rfl (o_bd rfl rfl rfl ?_))
   obtain ⟨u684, e685, hf675⟩ := bs hf675
   obtain ⟨e685, e686, e687⟩ := appI_some e685
   refine l_append1 rfl (a := (⟨(k51 : Int), (k669 : Int)⟩ : Fct)) h682 (Vb.ofAgg (cs := [(.int .i64 (k51 : Int)), (.int .i64 (k669 : Int))]) (x := (⟨(k51 : Int), (k669 : Int)⟩ : Fct)) rfl ⟨rfl, rk51, rk669⟩) (fun _ => rfl) rfl (by decide) (by decide) e686 e687 ⟨rfl, rfl⟩ fun g688 A689 c690 w691 O692 S693 h694 => ?_
   rw [← e685] at h694 ⊢
   refine o_nc rfl rfl (o_fa rfl rfl ?_)
   replace h44 := h44.st S693
   refine l_store h44 rfl rfl rfl (nle_b rfl) (allOne rfl) fun w696 S697 h44 => ?_
   replace h44 : Lc 4 w696 O692 g40 67 [(.slice A9 x0.vars.length c10), (.slice A12 x0.init.length c13), (.slice A15 x0.goal.length c16), (.slice A18 x0.ops.length c19), (.slice A689 u684.length c690), (.slice x101.1.1 y98.1.length x101.1.2), (.slice x512.1.1 y509.1.length x512.1.2), (.slice x512.2.1 y509.2.length x512.2.2), (.slice none 0 0), (.slice x101.2.1 y98.2.length x101.2.2), (.slice (some ⟨g34, 0, none⟩) u27.length m29), (.int .i64 0), (.int .i64 x1), (.bool false)] := h44
   refine o_z ?_
   obtain rfl := sm hf675
   replace hB := (hB.st S693).st S697
   replace h8 := (h8.st S693).st S697
   replace h11 := (h11.st S693).st S697
   replace h14 := (h14.st S693).st S697
   replace h17 := (h17.st S693).st S697
   replace h24 := (h24.st S693).st S697
   replace h38 := (h38.st S693).st S697
   replace h102 := (h102.st S693).st S697
   replace h104 := (h104.st S693).st S697
   replace h513 := (h513.st S693).st S697
   replace h515 := (h515.st S693).st S697
   replace h694 := h694.st S697
   exact show Exists _ from ⟨_, (A689, c690), rfl, ⟨rfl, rfl, rfl, rfl, rfl, rfl, rfl, rfl, trivial⟩, _, hB, h24, h8, h11, h14, h17, h44, h694, h102, h513, h515, h104, h38⟩
  rintro l698 w699 ⟨s702, x703, rfl, hs701, O700, hB, h24, h8, h11, h14, h17, h44, h682, h102, h513, h515, h104, h38⟩
  replace hf57 := fin_done hf57
  obtain rfl := sm hf57
  exact show Exists _ from ⟨_, ((x703.1, x703.2), (x101.1.1, x101.1.2), (x512.1.1, x512.1.2), (x512.2.1, x512.2.2), (x101.2.1, x101.2.2)), rfl, ⟨(subs_lk hs701 _ _ rfl), (subs_lk hs701 _ _ rfl), (subs_lk hs701 _ _ rfl), (subs_lk hs701 _ _ rfl), (subs_lk hs701 _ _ rfl), trivial⟩, _, hB, h24, h8, h11, h14, h17, h44, h682, h102, h513, h515, h104, h38⟩
 replace hB := ((hB.st S23).st S37).st S43
 replace h11 := ((h11.st S23).st S37).st S43
 replace h14 := ((h14.st S23).st S37).st S43
 replace h17 := ((h17.st S23).st S37).st S43
 replace h38 := h38.st S43
 rintro l704 w705 ⟨s708, x709, rfl, hs707, O706, hB, h24, h8, h11, h14, h17, h44, h72, h74, h76, h78, h80, h38⟩
 replace hm := fin_done hm
 refine ewp_sub _ hs707 ?_
 refine ewp_seq (ewp_seq (ewp_region (o_fa rfl rfl (o_ld (hc := Blk.cell (i := 2) (h24.1) rfl) rfl rfl ?_))))
 refine o_ln rfl rfl ?_
 have l711 : x0.goal.length ≤ 9223372036854775807 := Nat.le_trans h14.len.2.1 h14.len.2.2
 have r710 : inI64 (x0.goal.length : Int) := rngNat l711
 refine o_mv rfl rfl (o_z ?_)
 obtain ⟨O727, S728, h72⟩ := h72.freeze
 replace h8 := h8.st S728
 replace h11 := h11.st S728
 replace h14 := h14.st S728
 replace h17 := h17.st S728
 replace h38 := h38.st S728
 replace h44 := h44.st S728
 replace h74 := h74.st S728
 replace h76 := h76.st S728
 replace h78 := h78.st S728
 replace h80 := h80.st S728
 obtain ⟨O729, S730, hz732, ha733, h731⟩ := Fnd.shut (x := (⟨(⟨x0.vars, x0.init, x0.goal, x0.ops⟩ : Tsk), s708.1, s708.2.1, (⟨s708.2.2.1, s708.2.2.2.1, ([] : List Int)⟩ : Swp), s708.2.2.2.2, u27, 0, x1, false⟩ : Fnd)) (l0 := 4) (l1 := 7) (l2 := 12) (l3 := 16) (l4 := 10) (l5 := 3) (by decide) h44 h8 h11 h14 h17 h72 h74 h76 h78 (Vb.nil _ _) h80 h38 (show inI64 0 from by decide) rx1
 obtain ⟨res712, hL713, hm⟩ := bs hm
 refine ewp_join (aft res712 (fun (s714 : Fnd) (x715 : Unit) => [(5, (.pointer (some ⟨g40, 0, none⟩)))]) (fun s714 x715 w' => ∃ O' : Lab, Bm w O0 w' O' ∧ Ob 4 w' O' (.pointer (some ⟨g40, 0, none⟩)) s714)) ?_ ?_
 ·
  refine ewp_block ?_
  replace hB := (hB.st S728).st S730
  replace h14 := h14.st S730
  refine ewp_rng (σ := Fnd) (X := Unit) (x0.goal.length) hL713 rfl l711 (fun (s714 : Fnd) (x715 : Unit) => [(5, (.pointer (some ⟨g40, 0, none⟩))), (93, (.slice A15 x0.goal.length c16))]) _ (fun s714 x715 w' => ∃ O' : Lab, Bm w O0 w' O' ∧ Ob 4 w' O' (.pointer (some ⟨g40, 0, none⟩)) s714 ∧ Vb w' (Fr 0 w' O') (.slice A15 x0.goal.length c16) x0.goal) _ () ⟨O729, hB, h731, h14⟩ ⟨rfl, rfl, rfl, rfl, trivial⟩ (fun _ _ => ⟨rfl, rfl⟩) (fun _ _ => ⟨rfl, trivial⟩) (fun _ _ _ ⟨O', hB, h735, h14⟩ => ⟨O', hB, h735⟩) ⟨rfl, rfl, rfl⟩ ⟨rfl, rfl⟩ ?_
  rintro k716 a717 s714 x715 w718 cc720 hx721 ⟨O719, hB, h735, h14⟩ hf722 hret723 hbrk724
  have rk716 : inI64 (k716 : Int) := rngK hx721 l711
  refine ewp_seq (ewp_region ?_)
  obtain ⟨b736, o737, ce738, hA739, hl740, hd741, rfl, r743, r744⟩ := h14.elem' hx721
  refine o_iaE (hA := hA739) (hj := rfl) (hlt := hl740) rfl rfl rfl ?_
  refine o_la (hl := rfl) (hc := hd741) rfl rfl ?_
  refine l_alloc 18 O719 rfl fun g745 w746 O747 S748 h749 => ?_
  refine l_store h749 rfl rfl rfl (nle_b rfl) (allOne rfl) fun w750 S751 h749 => ?_
  replace h749 : Lc 18 w750 O747 g745 26 [(.int .i64 a717.var), (.int .i64 a717.val)] := h749
  refine o_z ?_
  refine ewp_region (o_mv rfl rfl (o_la (hl := rfl) (hc := (h749.1).cellsAt) rfl rfl ?_))
  obtain ⟨q752, e753, hf722⟩ := bs hf722
  replace h735 := (h735.st S748).st S751
  refine l_callM (O := O747) (c_symmetry_finder_sign h735 (Vb.ofAgg (cs := [(.int .i64 a717.var), (.int .i64 a717.val)]) (x := a717) rfl ⟨rfl, r743, r744⟩) (show (⟨#[103, 111, 97, 108]⟩ : ByteArray).size ≤ 9223372036854775807 from by decide) e753) rfl rfl fun v758 w754 O755 S756 h759 => ?_
  refine o_z ?_
  obtain rfl := sm hf722
  replace hB := ((hB.st S748).st S751).st S756
  replace h14 := ((h14.st S748).st S751).st S756
  exact show Exists _ from ⟨_, (), rfl, ⟨rfl, rfl, rfl, rfl, trivial⟩, _, hB, h759, h14⟩
 replace hB := (hB.st S728).st S730
 rintro l760 w761 ⟨s764, x765, rfl, hs763, O762, hB, h735⟩
 replace hm := fin_done hm
 refine ewp_sub _ hs763 ?_
 refine ewp_seq (ewp_region (o_mv rfl rfl ?_))
 obtain ⟨q766, e767, hm⟩ := bs hm
 refine l_callM (O := O762) (c_symmetry_finder_roles h735 (TabF.bm hT' hB) e767) rfl rfl fun v772 w768 O769 S770 h773 => ?_
 refine o_z ?_
 refine ewp_seq (ewp_region (o_mv rfl rfl (o_as rfl rfl (o_z ?_))))
 refine ewp_ret ?_
 obtain rfl := sm hm
 replace hB := hB.st S770
 obtain ⟨O', hS', hz, hl⟩ := hE.leave (fun q => if q = 4 then j0 else 0) rfl hB
 exact ret1v rfl (res_tmp rfl) ⟨O', hS', (Ob.leave h773 hz (hl 4 (by decide) (by decide)) hj0)⟩
noncomputable def m_symmetry_Find (x0 : Tsk) (x1 : Int) : Option ((List Swp) × Err) :=
  bnd (m_symmetry_demand x0 ([] : List Swp)) fun q25 => if q25.n ≠ 0 then (some (([] : List Swp), (⟨q25.n⟩ : Err))) else (bnd (m_symmetry_newFinder x0 (max 0 (min x1 1048576))) fun q34 => bnd q34 fun o42 => bnd (chkI ((o42.list.length : Int) - 1)) fun n102 => bnd (lop (ρ := (List Swp) × Err) (fun (s112 : (List Swp) × Int × Fnd) => if 0 ≤ s112.2.1 then (bnd (m_symmetry_finder_level s112.2.2 s112.2.1 s112.1) fun q134 => if q134.2.full = true then (some (.ret (([] : List Swp), (⟨10⟩ : Err)))) else (bnd (chkI (s112.2.1 - 1)) fun n202 => some (.next (q134.1, n202, q134.2)))) else (some (.brk (s112.1, s112.2.1, s112.2.2)))) (([] : List Swp), n102, o42)) fun res110 => fin res110 fun (s214 : (List Swp) × Int × Fnd) => some (s214.1, (⟨0⟩ : Err)))
theorem c_symmetry_Find {w : World} {A : Nat → Prop} (hA : ∀ k, A k → k < w.heap.size) {vx0 : Value} {x0 : Tsk} (hx0 : Vb w A vx0 x0) {x1 : Int} (rx1 : inI64 x1) (hT : TabF w A) {r : (List Swp) × Err} (hm : m_symmetry_Find x0 x1 = some r) :
    Fn Tryz.prog 6 [vx0, (.int .i64 x1)] w fun v w' => Ext w w' ∧ T2 w' (upA A w w') v r := by
 obtain ⟨O, hB, hA0⟩ := enter hA
 replace hx0 := hx0.mono hA0
 obtain ⟨cs3, rfl, v4, v5, v6, v7, rfl, h8, h11, h14, h17⟩ := hx0
 obtain ⟨A9, c10, rfl⟩ := h8.form
 obtain ⟨A12, c13, rfl⟩ := h11.form
 obtain ⟨A15, c16, rfl⟩ := h14.form
 obtain ⟨A18, c19, rfl⟩ := h17.form
 refine fn_enter Tryz.func6 rfl Tryz.ntmps6 rfl ?_
 unfold m_symmetry_Find at hm
 refine ewp_seq (ewp_region (l_box 2 O rfl rfl fun g20 w21 O22 S23 h24 => ?_))
 replace h24 : Lc 2 w21 O22 g20 30 [(.slice A9 x0.vars.length c10), (.slice A12 x0.init.length c13), (.slice A15 x0.goal.length c16), (.slice A18 x0.ops.length c19)] := h24
 refine o_as rfl rfl (o_as rfl rfl (o_z ?_))
 refine ewp_seq (ewp_seq (ewp_region (o_la (hl := rfl) (hc := (h24.1).cellsAt) rfl rfl ?_)))
 obtain ⟨q25, e26, hm⟩ := bs hm
 replace h8 := h8.st S23
 replace h11 := h11.st S23
 replace h14 := h14.st S23
 replace h17 := h17.st S23
 refine l_callA (O := O22) (A := All w21) (R := fun w' F v => Vb w' F v q25) (c_symmetry_demand (fun _ h => h) (Vb.mono (F := Fr 0 w21 O22) (Vb.ofAgg (cs := [(.slice A9 x0.vars.length c10), (.slice A12 x0.init.length c13), (.slice A15 x0.goal.length c16), (.slice A18 x0.ops.length c19)]) (x := x0) rfl ⟨_, _, _, _, rfl, h8, h11, h14, h17⟩) Fr.lt) (Vb.nil _ _) e26) rfl rfl fun v31 w27 O28 S29 h30 => ?_
 obtain ⟨rfl, r32⟩ := h30.err
 refine o_as rfl rfl (o_z ?_)
 refine ewp_seq (ewp_region (o_mv rfl rfl (o_rnS rfl rfl (fun c33 => ?_) fun c33 => ?_)))
 ·
  replace hm := ip hm c33
  refine o_z ?_
  refine ewp_true rfl (ewp_seq (ewp_region (o_mv rfl rfl (o_as rfl rfl (o_as rfl rfl (o_z ?_))))))
  refine ewp_ret ?_
  obtain rfl := sm hm
  replace hB := (hB.st S23).st S29
  exact ret2 rfl (res_tmp rfl) (res_tmp rfl) ⟨hB.ext, _, _, rfl, (Vb.mono (F := Fr 0 w27 O28) (Vb.nil _ _) hB.out), (vErr r32)⟩
 replace hm := im hm c33
 refine o_z ?_
 refine ewp_false rfl (ewp_skip (ewp_seq (ewp_region ?_)))
 replace h24 := h24.st S29
 refine o_la (hl := rfl) (hc := (h24.1).cellsAt) rfl rfl ?_
 refine o_mv rfl rfl (o_min rfl rfl rfl ?_)
 refine o_max rfl rfl rfl ?_
 obtain ⟨q34, e35, hm⟩ := bs hm
 replace hB := (hB.st S23).st S29
 replace h8 := h8.st S29
 replace h11 := h11.st S29
 replace h14 := h14.st S29
 replace h17 := h17.st S29
 refine l_callM (O := O28) (c_symmetry_newFinder (Vb.ofAgg (cs := [(.slice A9 x0.vars.length c10), (.slice A12 x0.init.length c13), (.slice A15 x0.goal.length c16), (.slice A18 x0.ops.length c19)]) (x := x0) rfl ⟨_, _, _, _, rfl, h8, h11, h14, h17⟩) (rngMax (show inI64 (0) from by decide) (rngMin rx1 (show inI64 (1048576) from by decide))) 3 (by decide) (TabF.bs hA hT hB) e35) rfl rfl fun v40 w36 O37 S38 h41 => ?_
 refine o_as rfl rfl (o_z ?_)
 refine ewp_seq (ewp_region (o_as rfl rfl (o_z ?_)))
 refine ewp_seq (ewp_seq (ewp_region (o_mv rfl rfl ?_)))
 obtain ⟨o42, e43, hm⟩ := bs hm
 rw [e43] at h41
 obtain ⟨p44, rfl⟩ := Ob.ptr h41
 refine o_nc rfl rfl ?_
 obtain ⟨O45, v49, v53, v57, v61, v65, v69, v74, v79, v84, v88, v93, S46, ha48, h47, h50, h54, h58, h62, h66, h70, h75, h80, h85, h89, h94, r98, r99⟩ := Fnd.opn h41 3 4 5 6 7 8 (by decide)
 obtain ⟨A51, c52, rfl⟩ := h50.form
 obtain ⟨A55, c56, rfl⟩ := h54.form
 obtain ⟨A59, c60, rfl⟩ := h58.form
 obtain ⟨A63, c64, rfl⟩ := h62.form
 obtain ⟨A67, c68, rfl⟩ := h66.form
 obtain ⟨A71, c72, rfl⟩ := h70.form
 obtain ⟨A76, c77, rfl⟩ := h75.form
 obtain ⟨A81, c82, rfl⟩ := h80.form
 obtain ⟨A86, c87, rfl⟩ := h85.form
 obtain ⟨A90, c91, rfl⟩ := h89.form
 obtain ⟨A95, c96, rfl⟩ := h94.form
 refine o_fa rfl rfl (o_ld (hc := Blk.cell (i := 4) (h47.1) rfl) rfl rfl ?_)
 refine o_ln rfl rfl ?_
 have l101 : o42.list.length ≤ 9223372036854775807 := Nat.le_trans h66.len.2.1 h66.len.2.2
 have r100 : inI64 (o42.list.length : Int) := rngNat l101
 obtain ⟨n102, e103, hm⟩ := bs hm
 have r104 := (chkI_rng e103)
 refine o_sbE (he := e103) rfl rfl rfl ?_
 refine o_as rfl rfl (o_z ?_)
 obtain ⟨O105, S106, hz108, ha109, h107⟩ := Fnd.shut (x := o42) (l0 := 3) (l1 := 4) (l2 := 5) (l3 := 6) (l4 := 7) (l5 := 8) (by decide) h47 h50 h54 h58 h62 h66 h70 h75 h80 h85 h89 h94 r98 r99
 obtain ⟨res110, hL111, hm⟩ := bs hm
 refine ewp_join (aft res110 (fun (s112 : (List Swp) × Int × Fnd) (x113 : (Option Addr × Nat)) => [(8, (.slice x113.1 s112.1.length x113.2))]) (fun s112 x113 w' => ∃ O' : Lab, Bs w A w' O' ∧ Rw 9 w' O' 43 (.slice x113.1 s112.1.length x113.2) s112.1 ∧ inI64 s112.2.1)) ?_ ?_
 ·
  refine ewp_block ?_
  replace hB := ((hB.st S38).st S46).st S106
  refine ewp_lop (σ := (List Swp) × Int × Fnd) (X := (Option Addr × Nat)) hL111 (fun (s112 : (List Swp) × Int × Fnd) (x113 : (Option Addr × Nat)) => [(7, (.pointer (some ⟨p44, 0, none⟩))), (8, (.slice x113.1 s112.1.length x113.2)), (9, (.int .i64 s112.2.1))]) _ (fun s112 x113 w' => ∃ O' : Lab, Bs w A w' O' ∧ Ob 3 w' O' (.pointer (some ⟨p44, 0, none⟩)) s112.2.2 ∧ Rw 9 w' O' 43 (.slice x113.1 s112.1.length x113.2) s112.1 ∧ inI64 s112.2.1) _ (none, 0) ⟨O105, hB, h107, (Rw.nil 9 (by decide)), r104⟩ ⟨rfl, rfl, rfl, trivial⟩ ?_
  rintro s112 x113 w116 cc118 ⟨O117, hB, h132, h129, r131⟩ hf120 hret121 hbrk122
  refine ewp_seq (ewp_seq (ewp_region (o_mv rfl rfl (o_geS rfl rfl rfl (fun c133 => ?_) fun c133 => ?_))))
  ·
   replace hf120 := ip hf120 c133
   refine o_z ?_
   refine ewp_true rfl (ewp_skip (ewp_seq (ewp_block (ewp_seq (ewp_region (o_mv rfl rfl (o_mv rfl rfl (o_mv rfl rfl ?_))))))))
   obtain ⟨q134, e135, hf120⟩ := bs hf120
   refine l_callM (O := O117) (c_symmetry_finder_level h132 r131 h129 (by decide) e135) rfl rfl fun v140 w136 O137 S138 h139 => ?_
   obtain ⟨h141, h142⟩ := h139
   obtain ⟨A143, c144, rfl⟩ := h142.form
   refine o_as rfl rfl (o_z ?_)
   refine ewp_seq (ewp_region (o_mv rfl rfl (o_nc rfl rfl ?_)))
   obtain ⟨O146, v150, v154, v158, v162, v166, v170, v175, v180, v185, v189, v194, S147, ha149, h148, h151, h155, h159, h163, h167, h171, h176, h181, h186, h190, h195, r199, r200⟩ := Fnd.opn h141 3 4 5 6 7 8 (by decide)
   obtain ⟨A152, c153, rfl⟩ := h151.form
   obtain ⟨A156, c157, rfl⟩ := h155.form
   obtain ⟨A160, c161, rfl⟩ := h159.form
   obtain ⟨A164, c165, rfl⟩ := h163.form
   obtain ⟨A168, c169, rfl⟩ := h167.form
   obtain ⟨A172, c173, rfl⟩ := h171.form
   obtain ⟨A177, c178, rfl⟩ := h176.form
   obtain ⟨A182, c183, rfl⟩ := h181.form
   obtain ⟨A187, c188, rfl⟩ := h186.form
   obtain ⟨A191, c192, rfl⟩ := h190.form
   obtain ⟨A196, c197, rfl⟩ := h195.form
   refine o_fa rfl rfl (o_ld (hc := Blk.cell (i := 13) (h148.1) rfl) rfl rfl ?_)
   refine o_z ?_
   refine ewp_cond rfl (fun c201 => ?_) (fun c201 => ?_)
   ·
    replace hf120 := ip hf120 c201
    refine ewp_seq (ewp_region (o_miE rfl rfl ?_))
    refine o_as rfl rfl (o_as rfl rfl (o_z ?_))
    refine ewp_ret ?_
    obtain rfl := sm hf120
    obtain rfl := hret121 _ rfl
    obtain rfl := sm (fin_ret hm)
    replace hB := (hB.st S138).st S147
    exact ret2 rfl (res_tmp rfl) (res_tmp rfl) ⟨hB.ext, _, _, rfl, (Vb.mono (F := Fr 0 w136 O146) (Vb.nil _ _) hB.out), (vErr (by decide))⟩
   replace hf120 := im' hf120 c201
   refine ewp_skip (ewp_region (o_mv rfl rfl ?_))
   obtain ⟨n202, e203, hf120⟩ := bs hf120
   have r204 := (chkI_rng e203)
   refine o_sbE (he := e203) rfl rfl rfl ?_
   refine o_as rfl rfl (o_z ?_)
   obtain ⟨O205, S206, hz208, ha209, h207⟩ := Fnd.shut (x := q134.2) (l0 := 3) (l1 := 4) (l2 := 5) (l3 := 6) (l4 := 7) (l5 := 8) (by decide) h148 h151 h155 h159 h163 h167 h171 h176 h181 h186 h190 h195 r199 r200
   obtain rfl := sm hf120
   replace hB := ((hB.st S138).st S147).st S206
   replace h142 := (h142.st S147).st S206
   exact show Exists _ from ⟨_, (A143, c144), rfl, ⟨rfl, rfl, rfl, trivial⟩, _, hB, h207, h142, r204⟩
  replace hf120 := im hf120 c133
  refine o_z ?_
  refine ewp_false rfl (ewp_exit ?_)
  obtain rfl := sm hf120
  exact show Exists _ from ⟨_, (x113.1, x113.2), hbrk122 _ rfl, ⟨rfl, trivial⟩, _, hB, h129, r131⟩
 replace hB := ((hB.st S38).st S46).st S106
 rintro l210 w211 ⟨s214, x215, rfl, hs213, O212, hB, h129, r131⟩
 replace hm := fin_done hm
 refine ewp_sub _ hs213 ?_
 refine ewp_seq (ewp_region (o_mv rfl rfl (o_as rfl rfl (o_as rfl rfl (o_z ?_)))))
 refine ewp_ret ?_
 obtain ⟨O216, S217, h129⟩ := h129.freeze
 obtain rfl := sm hm
 replace hB := hB.st S217
 exact ret2 rfl (res_tmp rfl) (res_tmp rfl) ⟨hB.ext, _, _, rfl, (Vb.mono (F := Fr 0 w211 O216) h129 hB.out), (vErr (show inI64 0 from by decide))⟩
end
section
open Go Go.RowKit Go.ChangeShapes Go.WideShapes Go.Deep
section
variable {H : Type} {enc : TypeId × Value → H} {P : Program} {w : World}
/-- The plain data that a type's cells stand for. -/
class Reads (P : Program) (t : TypeId) (α : Type) [Rp α] : Prop where
  of : ∀ {H : Type} {enc : TypeId × Value → H} {w : World} {n : Nat} {cs : List Value} {x : DataW H × List MemPlace}, DataW.trod enc P w 0 (fun _ => true) true n t cs = some x → ∃ a : α, Rp.R w (All w) cs a
theorem wf64 {z : Int} (h : (Lit.int .i64 z).wf = true) : inI64 z := by
  simpa [Lit.wf, IntKind.min, IntKind.max, IntKind.signed, IntKind.bits, inI64] using h
theorem readsInt {t : TypeId} (ht : P.underlying t = some (.int .i64)) : Reads P t Int := ⟨fun h => by
  obtain ⟨z, rfl, _, hw⟩ := DataW.trod_int ht h
  exact ⟨z, rfl, wf64 hw⟩⟩
end
end
section
open Go Go.RowKit
theorem tabF_of {laid : List (String × DataW Unit)} {W : World} (h2 : ((laid.filter fun x => x.2.handleName?.isNone).filter fun x => x.1 == "internal/strconv.uint64pow10") = [("internal/strconv.uint64pow10", Lib.tabData .u64 Lib.pow10Tab)]) (h : laidMetH Tryz.prog laid W) : TabF W (All W) := by
  have h3 := (laidMetH_iff.1 h).1.filter fun x => x.1 == "internal/strconv.uint64pow10"
  rw [h2] at h3
  obtain ⟨g, hg⟩ := Option.isSome_iff_exists.1 (show (Tryz.prog.globalNamed "internal/strconv.uint64pow10").isSome = true by kernel_rfl)
  have ht : Lib.TabIs Tryz.prog W "internal/strconv.uint64pow10" .u64 Lib.pow10Tab := by
    have hgt : (Tryz.prog.globalNamed "internal/strconv.uint64pow10").bind (fun g => (Tryz.prog.globals[g]?).map (·.type)) = some 172 := by kernel_rfl
    rw [hg, Option.bind_some] at hgt
    exact Lib.tabIs_of_head hg hgt Tryz.underlying172 Tryz.underlying125 (by kernel_rfl) (by kernel_rfl) h3
  intro W' ha
  unfold Lib.TabIs World.var? at ht ⊢
  rw [hg] at ht ⊢
  have hb : W'.heap[g]? = W.heap[g]? := ha g (by
    show g < W.heap.size
    refine Classical.byContradiction fun hn => ?_
    rw [Option.bind_some, Array.getElem?_eq_none (by omega)] at ht
    cases ht)
  rw [Option.bind_some, hb]
  exact ht
end
section
open Go Go.RowKit Go.ChangeShapes Go.WideShapes Go.Deep
theorem len3 {cs : List Value} (h : cs.length = 3) : ∃ a b c, cs = [a, b, c] := by
  match cs, h with
  | [a, b, c], _ => exact ⟨a, b, c, rfl⟩
instance : Reads Tryz.prog 3 Int := readsInt Tryz.underlying3
/-- An argument is plain data. -/
theorem openV {H : Type} {enc : TypeId × Value → H} {P : Program} {w : World} {t : TypeId} {α : Type} [Rp α] [hr : Reads P t α] {v : Value} {d : DataW H} {p : List MemPlace} (hag : Rp.isAgg α = true → ∃ cs, v = .agg cs) (hne : Rp.isAgg α = false → v.cells.toList = [v])
    (h : DataW.Trod enc P w 0 (fun _ => true) true t v d p) : ∃ a : α, V w v a := by
  obtain ⟨n, h⟩ := h
  obtain ⟨a, ha⟩ := hr.of h
  refine ⟨a, ?_⟩
  unfold V Vb
  cases hb : Rp.isAgg α with
  | true =>
    obtain ⟨cs, rfl⟩ := hag hb
    exact ⟨cs.toList, by simp, ha⟩
  | false =>
    rw [hne hb] at ha
    exact ha
end
section
open Go Go.RowKit Go.ChangeShapes Go.WideShapes Go.Deep
theorem oneCells {P : Program} {w : World} {t : TypeId} [ht : TOne P t] {base : Nat} {v : Value} (hv : Value.okWide P w .any base t v) : v.cells.toList = [v] := by
  obtain ⟨k, hk, hm⟩ := ht.eq
  cases v with
  | agg cs => cases k <;> first | (simp at hm; done) | (simp only [Value.okWide, hk, Cell.okWide] at hv; simp_all [Cell.ok]; done)
  | _ => rfl
theorem aggCells {P : Program} {w : World} {t : TypeId} [ht : TAgg P t] {base : Nat} {v : Value} (hv : Value.okWide P w .any base t v) : ∃ cs, v = .agg cs := by
  obtain ⟨k, hk, hm⟩ := ht.eq
  cases k <;> first | (simp at hm; done) | (simp only [Value.okWide, hk] at hv; obtain ⟨cs, rfl, _⟩ := hv; exact ⟨cs, rfl⟩)
theorem openOne {H : Type} {enc : TypeId × Value → H} {P : Program} {w : World} {t : TypeId} {α : Type} [Rp α] [Reads P t α] [TOne P t] {base : Nat} {v : Value} {d : DataW H} {p : List MemPlace} (hb : Rp.isAgg α = false) (hv : Value.okWide P w .any base t v)
    (h : DataW.Trod enc P w 0 (fun _ => true) true t v d p) : ∃ a : α, V w v a :=
  openV (fun h => by rw [hb] at h; cases h) (fun _ => oneCells hv) h
theorem openAgg {H : Type} {enc : TypeId × Value → H} {P : Program} {w : World} {t : TypeId} {α : Type} [Rp α] [Reads P t α] [TAgg P t] {base : Nat} {v : Value} {d : DataW H} {p : List MemPlace} (hb : Rp.isAgg α = true) (hv : Value.okWide P w .any base t v)
    (h : DataW.Trod enc P w 0 (fun _ => true) true t v d p) : ∃ a : α, V w v a :=
  openV (fun _ => aggCells hv) (fun h => by rw [hb] at h; cases h) h
theorem ownTry : ownKnob Tryz.prog.godebug = none := by kernel_rfl
theorem kidsTry : Kids Tryz.prog (· < Tryz.prog.types.size) := kids_rows (by kernel_rfl) (by kernel_rfl)
theorem fullTry : ∀ t e, t < Tryz.prog.types.size → Tryz.prog.underlying t = some (.slice e) → 0 < Tryz.prog.cellsOf e := slices_full_of Tryz.prog (by kernel_rfl)
theorem readAgain {H : Type} {enc : TypeId × Value → H} {W W' : World} (hE : Ext W W') {sp : Nat → Bool} : ∀ {ts : List TypeId} {vs : List Value} {ds : List (DataW H)} {ps : List MemPlace}, (∀ t ∈ ts, t < Tryz.prog.types.size) →
    DataW.TrodAll enc Tryz.prog W 0 (fun _ => true) true ts vs ds ps → (∀ p ∈ ps, sp p.block = true) → DataW.TrodAll enc Tryz.prog W' 0 sp true ts vs ds ps
  | [], _, _, _, _, h, _ => by
    obtain ⟨rfl, rfl, rfl⟩ := trodAll_nil h
    exact rfl
  | t :: ts, _, _, _, ht, h, hs => by
    obtain ⟨v, vs1, d, ds1, a, b, rfl, rfl, rfl, ⟨n, h1⟩, h2⟩ := trodAll_cons h
    refine ⟨a, b, ⟨n, DataW.trod_stays kidsTry (fun {t e} => fullTry t e) (fun h => by cases h) (ht t List.mem_cons_self) h1 (fun p hp => hE.same (DataW.trod_lt n _ _ _ h1 p hp)) (fun p hp => hs p (List.mem_append_left _ hp))⟩,
      readAgain hE (fun t' ht' => ht t' (List.mem_cons_of_mem _ ht')) h2 (fun p hp => hs p (List.mem_append_right _ hp)), rfl⟩
set_option maxRecDepth 100000 in
/-- What a law's contract gives for its row. -/
theorem lawPost {H : Type} {enc : TypeId × Value → H} {f : FuncId} {fn : Func} {s : ChangeSpec} {again : Bool} {W : World} {args : Array Value} {ds gs : List (DataW H)} {before : List MemPlace}
    (hvars : s.vars = []) (hrt : fn.resultTypes = #[4]) (hpt : ∀ t ∈ fn.params.toList, t < Tryz.prog.types.size) (hW : DataW.Whole enc Tryz.prog fn.params.toList s.vars false W args.toList ds gs before)
    (hs : ∀ p, DataW.TrodAll enc Tryz.prog W 0 (fun _ => true) true fn.params.toList args.toList ds p → s.fn H (ds ++ []) = { results := [.lit (.bool true)], args := ds })
    (hc : ∀ p, DataW.TrodAll enc Tryz.prog W 0 (fun _ => true) true fn.params.toList args.toList ds p → Fn Tryz.prog f args.toList W fun v w' => v = .bool true ∧ Ext W w') :
    Calls Tryz.prog f args W fun e W' => ∃ v, e = .returned v ∧ s.post enc Tryz.prog fn false true false again W args v W' := by
  have hW' := hW
  obtain ⟨p, q, hA, hV, rfl, hfz, hnd⟩ := hW
  rw [hvars] at hV
  obtain ⟨rfl, rfl⟩ := trodVars_none hV
  have h1 := hc p hA W.drawn
  rw [dr_self] at h1
  refine h1.mono fun e W' ⟨v, w₀, d', he, hw, hv, hE⟩ => ?_
  subst he; subst hv
  refine ⟨_, rfl, ?_⟩
  have hE' : Ext W W' := by
    subst hw
    exact ⟨hE.os, hE.tape, hE.output, hE.size, hE.block⟩
  clear hE h1 hw
  have hsp := hs p hA
  have hlt := hW'.lt
  have hold : ∀ q ∈ p ++ [], (fun b => decide (b < W.heap.size)) q.block = true := fun q hq => by simpa using hlt q hq
  have hargs : ∀ sp : Nat → Bool, (∀ q ∈ p, sp q.block = true) → DataW.TrodAll enc Tryz.prog W' 0 sp true fn.params.toList args.toList ds p := fun sp h => readAgain hE' hpt hA h
  have hres : ∀ (b : Nat) (sp : Nat → Bool) (hd : Bool), DataW.TrodAll enc Tryz.prog W' b sp hd fn.resultTypes.toList ((Value.bool true).resultList fn.resultTypes.size) [.lit (.bool true)] [] := fun _ _ _ => by
    rw [hrt]; exact trodAll_mk1 (shut_bool Tryz.underlying4 _)
  have hk : W.keptBut W' (fun q => q ∈ p ++ [] ∧ (q ∈ ([] : List MemPlace) ∨ q ∈ p ∨ q ∈ ([] : List MemPlace))) := Below.frame hE' _
  have hok : ∀ (j : Nat) (t : TypeId) (r : Value), fn.resultTypes[j]? = some t → ((Value.bool true).resultList fn.resultTypes.size)[j]? = some r → Value.okWide Tryz.prog W' .any 0 t r := by
    have h0 : Value.okWide Tryz.prog W' .any 0 4 (.bool true) := okWide_bool_mk Tryz.underlying4 true
    have h2 : (Value.bool true).resultList 1 = [Value.bool true] := by unfold Value.resultList; rfl
    exact ok_one (P := Tryz.prog) (W' := W') (f := fn) (v := .bool true) (t := 4) hrt h2 h0
  refine ⟨ds, [], p ++ [], [], p, [], hW', ?_, ?_, ?_, hk, fun _ => ⟨hok, [.lit (.bool true)] ++ ds, [], ([] ++ p) ++ [], ⟨[] ++ p, [], ?_, ?_, rfl, ?_, ?_⟩, ?_⟩⟩
  · rw [hsp]; exact hres _ _ _
  · rw [hsp]; exact hargs _ (fun q hq => hold q (by simpa using hq))
  · rw [hsp, hvars]; rfl
  · exact trodAll_append (hargs _ (fun _ _ => rfl)) (hres _ _ _)
  · rw [hvars]; rfl
  · intro b off hp
    have hp' : MemPlace.cell b off ∈ p ++ [] := by simpa using hp
    rw [hE'.frozen (p := ⟨b, off, none⟩) (hlt _ hp')]
    exact hfz b off hp'
  · intro ha; cases ha
  · intro q hq _; simpa using hq
end
section
open Go Go.RowKit Go.ChangeShapes Go.WideShapes Go.Deep
theorem wf8 {z : Int} (h : (Lit.int .u8 z).wf = true) : 0 ≤ z ∧ z ≤ 255 := by
  simpa [Lit.wf, IntKind.min, IntKind.max, IntKind.signed, IntKind.bits] using h
theorem readsByte {P : Program} {t : TypeId} (ht : P.underlying t = some (.int .u8)) : Reads P t Byt := ⟨fun h => by
  obtain ⟨z, rfl, _, hw⟩ := DataW.trod_int ht h
  exact ⟨⟨z, (wf8 hw).1, (wf8 hw).2⟩, rfl⟩⟩
instance : Reads Tryz.prog 5 Byt := readsByte Tryz.underlying5
theorem V_arr {α : Type} [Rp α] {w : World} {F : Nat → Prop} {v : Value} {x : α} (hb : Rp.isAgg α = false) (h : Rp.R w F [v] x) : Vb w F v x := by unfold Vb; rw [hb]; exact h
theorem readsArr3 {P : Program} {t e : TypeId} {α : Type} [Rp α] [One1 α] [hr : Reads P e α] (ht : P.underlying t = some (.array 3 e)) (hc : P.cellsOf e = 1) (hc3 : P.cellsOf t = 3) : Reads P t (α × α × α) := ⟨fun {H enc w n cs x} h => by
  obtain ⟨xs, m, _, _, hl, hx, hi⟩ := DataW.trod_array ht h
  rw [hc3] at hl
  obtain ⟨a, b, c, rfl⟩ := len3 hl
  rw [hc] at hi
  have g : ∀ i (hlt : i < 3), ∃ y, DataW.trod enc P w 0 (fun _ => true) true m e (([a, b, c].drop (i * 1)).take 1) = some y := fun i hlt => ⟨xs[i], (hi i hlt).trans (List.getElem?_eq_getElem (by omega))⟩
  obtain ⟨y0, g0⟩ := g 0 (by decide)
  obtain ⟨y1, g1⟩ := g 1 (by decide)
  obtain ⟨y2, g2⟩ := g 2 (by decide)
  obtain ⟨z0, q0⟩ := hr.of g0
  obtain ⟨z1, q1⟩ := hr.of g1
  obtain ⟨z2, q2⟩ := hr.of g2
  exact ⟨(z0, z1, z2), a, b, c, rfl, V_arr One1.ag q0, V_arr One1.ag q1, V_arr One1.ag q2⟩⟩
theorem c_byte : Tryz.prog.cellsOf 5 = 1 := by kernel_rfl
end
section
section
variable {α σ ρ : Type}
theorem fin_d {s : σ} {f : σ → Option ρ} : fin (.done s) f = f s := rfl
theorem fin_r {c : ρ} {f : σ → Option ρ} : fin (.ret c) f = some c := rfl
theorem if_t {x y : α} : (if true = true then x else y) = x := rfl
theorem if_f {x y : α} : (if false = true then x else y) = y := rfl
theorem rng_inv_from {f : Nat → α → σ → Option (Ctl σ ρ)} {I : Nat → σ → Prop} {R : ρ → Prop} : ∀ (ys : List α) (j : Nat) (s : σ), I j s →
    (∀ k x s, ys[k]? = some x → I (j + k) s → (∃ s', f (j + k) x s = some (.next s') ∧ I (j + k + 1) s') ∨ (∃ r, f (j + k) x s = some (.ret r) ∧ R r)) →
    (∃ s', rng f ys j s = some (.done s') ∧ I (j + ys.length) s') ∨ ∃ r, rng f ys j s = some (.ret r) ∧ R r
  | [], j, s, h0, _ => .inl ⟨s, rfl, h0⟩
  | y :: ys, j, s, h0, h => by
    rcases h 0 y s rfl h0 with ⟨s', h1, h2⟩ | ⟨r, h1, h2⟩
    · have h1' : f j y s = some (.next s') := h1
      simp only [rng, h1']
      rcases rng_inv_from (I := I) (R := R) ys (j + 1) s' h2 (fun k x s hk hI => by
        have := h (k + 1) x s (by simpa using hk) (by rwa [show j + (k + 1) = j + 1 + k from by omega])
        rwa [show j + (k + 1) = j + 1 + k from by omega] at this) with ⟨s2, h3, h4⟩ | h3
      · exact .inl ⟨s2, h3, by rw [List.length_cons, show j + (ys.length + 1) = j + 1 + ys.length from by omega]; exact h4⟩
      · exact .inr h3
    · have h1' : f j y s = some (.ret r) := h1
      simp only [rng, h1']
      exact .inr ⟨r, rfl, h2⟩
theorem rng_inv {f : Nat → α → σ → Option (Ctl σ ρ)} {xs : List α} {s₀ : σ} (I : Nat → σ → Prop) (R : ρ → Prop) (h0 : I 0 s₀)
    (h : ∀ k x s, xs[k]? = some x → I k s → (∃ s', f k x s = some (.next s') ∧ I (k + 1) s') ∨ (∃ r, f k x s = some (.ret r) ∧ R r)) :
    (∃ s', rng f xs 0 s₀ = some (.done s') ∧ I xs.length s') ∨ ∃ r, rng f xs 0 s₀ = some (.ret r) ∧ R r := by
  have := rng_inv_from (f := f) (I := I) (R := R) xs 0 s₀ h0 (fun k x s hk hI => by rw [Nat.zero_add] at hI ⊢; exact h k x s hk hI)
  rwa [Nat.zero_add] at this
/-- A loop that runs to its end. -/
theorem rng_all {f : Nat → α → σ → Option (Ctl σ ρ)} {xs : List α} {s₀ : σ} (I : Nat → σ → Prop) (h0 : I 0 s₀) (h : ∀ k x s, xs[k]? = some x → I k s → ∃ s', f k x s = some (.next s') ∧ I (k + 1) s') :
    ∃ s', rng f xs 0 s₀ = some (.done s') ∧ I xs.length s' := by
  rcases rng_inv I (fun _ => False) h0 (fun k x s hk hI => .inl (h k x s hk hI)) with h | ⟨_, _, h⟩
  · exact h
  · exact h.elim
/-- A loop whose state is known in each round. -/
theorem rng_fun {f : Nat → α → σ → Option (Ctl σ ρ)} {xs : List α} (g : Nat → σ) (h : ∀ k x, xs[k]? = some x → f k x (g k) = some (.next (g (k + 1)))) : rng f xs 0 (g 0) = some (.done (g xs.length)) := by
  obtain ⟨s', h1, h2⟩ := rng_all (f := f) (xs := xs) (s₀ := g 0) (fun k s => s = g k) rfl (fun k x s hk hI => ⟨_, by rw [hI]; exact h k x hk, rfl⟩)
  rw [h1, h2]
theorem rng_from {f : Nat → α → σ → Option (Ctl σ ρ)} {xs : List α} {s₀ : σ} (g : Nat → σ) (h0 : s₀ = g 0) (h : ∀ k x, xs[k]? = some x → f k x (g k) = some (.next (g (k + 1)))) : rng f xs 0 s₀ = some (.done (g xs.length)) := by
  rw [h0]; exact rng_fun g h
theorem rng_unit {f : Nat → α → Unit → Option (Ctl Unit ρ)} {xs : List α} (h : ∀ k x, xs[k]? = some x → f k x () = some (.next ())) : rng f xs 0 () = some (.done ()) := rng_fun (fun _ => ()) h
theorem rngN_fun {f : Nat → σ → Option (Ctl σ ρ)} {N : Nat} (g : Nat → σ) (h : ∀ k, k < N → f k (g k) = some (.next (g (k + 1)))) : rngN f N (g 0) = some (.done (g N)) := by
  have := rng_fun (f := fun _ k s => f k s) (xs := List.range N) g (fun k x hk => by
    obtain ⟨hlt, rfl⟩ := List.getElem?_eq_some_iff.1 hk
    simpa using h k (by simpa using hlt))
  rwa [List.length_range] at this
theorem rngN_from {f : Nat → σ → Option (Ctl σ ρ)} {N : Nat} {s₀ : σ} (g : Nat → σ) (h0 : s₀ = g 0) (h : ∀ k, k < N → f k (g k) = some (.next (g (k + 1)))) : rngN f N s₀ = some (.done (g N)) := by
  rw [h0]; exact rngN_fun g h
end
end
section
open Go Go.RowKit
def rangeI (n : Nat) : List Int := (List.range n).map fun i : Nat => (i : Int)
theorem mem_rangeI {n : Nat} {x : Int} : x ∈ rangeI n ↔ 0 ≤ x ∧ x < n := by
  unfold rangeI
  rw [List.mem_map]
  constructor
  · rintro ⟨i, hi, rfl⟩; have := List.mem_range.1 hi; omega
  · rintro ⟨h1, h2⟩; exact ⟨x.toNat, List.mem_range.2 (by omega), by omega⟩
theorem rangeI_len (n : Nat) : (rangeI n).length = n := by simp [rangeI]
theorem rangeI_nodup (n : Nat) : (rangeI n).Nodup := by
  unfold rangeI
  rw [List.nodup_iff_pairwise_ne, List.pairwise_map]
  exact (List.nodup_iff_pairwise_ne.1 List.nodup_range).imp fun h => by omega
/-- A list is a permutation of 0 .. n - 1. -/
def PermR (l : List Int) (n : Nat) : Prop := l.Perm (rangeI n)
theorem perm_of_subset : ∀ {l₁ l₂ : List Int}, l₁.Nodup → (∀ x ∈ l₁, x ∈ l₂) → l₂.length ≤ l₁.length → l₁.Perm l₂
  | [], l₂, _, _, hl => by
    have : l₂ = [] := List.eq_nil_of_length_eq_zero (by simpa using hl)
    rw [this]
  | x :: l₁, l₂, hn, hs, hl => by
    have hx := hs x List.mem_cons_self
    have hp := List.perm_cons_erase hx
    obtain ⟨h1, h2⟩ := List.nodup_cons.1 hn
    refine (List.Perm.cons x (perm_of_subset h2 (fun y hy => ?_) ?_)).trans hp.symm
    · have : y ≠ x := fun e => h1 (e ▸ hy)
      exact (List.mem_erase_of_ne this).2 (hs y (List.mem_cons_of_mem _ hy))
    · rw [List.length_erase_of_mem hx]
      simp at hl; omega
theorem PermR.len {l : List Int} {n : Nat} (h : PermR l n) : l.length = n := by rw [h.length_eq, rangeI_len]
theorem PermR.mem {l : List Int} {n : Nat} (h : PermR l n) {x : Int} (hx : x ∈ l) : 0 ≤ x ∧ x < n := mem_rangeI.1 (h.mem_iff.1 hx)
theorem PermR.nodup {l : List Int} {n : Nat} (h : PermR l n) : l.Nodup := h.symm.nodup (rangeI_nodup n)
theorem permR_of {l : List Int} {n : Nat} (h1 : l.Nodup) (h2 : ∀ x ∈ l, 0 ≤ x ∧ x < n) (h3 : l.length = n) : PermR l n := perm_of_subset h1 (fun x hx => mem_rangeI.2 (h2 x hx)) (by rw [rangeI_len]; omega)
theorem bof_if {p q : Prop} (h : p ↔ q) : some (bof p) = some (bof q) := by rw [bof_eq h]
theorem take_succ_mem {α : Type} {l : List α} {k : Nat} {x y : α} (h : l[k]? = some x) : y ∈ l.take (k + 1) ↔ y ∈ l.take k ∨ y = x := by
  rw [List.take_add_one, h, List.mem_append]; simp
theorem perm_eq {l : List Int} {n : Int} (hl : l.length ≤ 1000000 ∨ (l.length : Int) ≠ n) : m_symmetry_permutation l n = some (bof ((l.length : Int) = n ∧ PermR l l.length)) := by
  unfold m_symmetry_permutation
  by_cases hn : (l.length : Int) = n
  case neg => rw [if_pos hn, bof_f (fun h => hn h.1)]
  have hl' : l.length ≤ 1000000 := hl.resolve_right fun h => h hn
  subst hn
  rw [if_neg (by simp), mkI_eq (by omega) (by omega), bnd_some]
  rcases rng_inv (ρ := Bool) (f := fun (_ : Nat) (a26 : Int) (s23 : (List Bool)) => bnd (if a26 < 0 then (some true) else (if (l.length : Int) ≤ a26 then (some true) else (bnd (atI s23 a26) fun a54 => some a54)) : Option Bool) fun y48 => if y48 = true then (some (.ret false)) else (bnd (atI s23 a26) fun _ => some (.next (s23.set (a26).toNat true)))) (xs := l) (s₀ := List.replicate l.length false)
    (fun k s => s.length = l.length ∧ (∀ j : Nat, j < l.length → s[j]? = some (bof ((j : Int) ∈ l.take k))) ∧ (l.take k).Nodup ∧ ∀ x ∈ l.take k, 0 ≤ x ∧ x < l.length) (fun r => r = false ∧ ¬ PermR l l.length)
    ⟨by simp, fun j hj => by rw [List.getElem?_replicate, if_pos hj, List.take_zero, bof_f (List.not_mem_nil)], by simp, by simp⟩ (fun k x s hx hI => by
      obtain ⟨i1, i2, i3, i4⟩ := hI
      by_cases h1 : x < 0
      · rw [if_pos h1, bnd_some, if_t]
        exact .inr ⟨_, rfl, rfl, fun hp => by have := hp.mem (List.mem_of_getElem? hx); omega⟩
      · rw [if_neg h1]
        by_cases h2 : (l.length : Int) ≤ x
        · rw [if_pos h2, bnd_some, if_t]
          exact .inr ⟨_, rfl, rfl, fun hp => by have := hp.mem (List.mem_of_getElem? hx); omega⟩
        · rw [if_neg h2]
          obtain ⟨j, rfl⟩ := Int.eq_ofNat_of_zero_le (by omega : 0 ≤ x)
          rw [atI_eq, i2 j (by omega), bnd_some, bnd_some]
          by_cases hm : (j : Int) ∈ l.take k
          · rw [bof_t hm, if_t]
            refine .inr ⟨_, rfl, rfl, fun hp => ?_⟩
            have hnd := hp.nodup
            rw [← List.take_append_drop k l, List.nodup_append] at hnd
            have hd : (j : Int) ∈ l.drop k := List.mem_of_getElem? (i := 0) (by rw [List.getElem?_drop, Nat.add_zero]; exact hx)
            exact hnd.2.2 _ hm _ hd rfl
          · rw [bof_f hm, if_f, bnd_some]
            refine .inl ⟨_, rfl, by simpa using i1, fun q hq => ?_, ?_, fun y hy => ?_⟩
            · rw [show ((j : Int)).toNat = j from by omega, List.getElem?_set]
              by_cases hjq : j = q
              · subst hjq
                rw [if_pos rfl, if_pos (by omega), bof_t ((take_succ_mem hx).2 (.inr rfl))]
              · rw [if_neg hjq, i2 q hq]
                refine bof_if ⟨fun h => (take_succ_mem hx).2 (.inl h), fun h => ((take_succ_mem hx).1 h).resolve_right (by omega)⟩
            · rw [List.take_add_one, hx]
              refine List.nodup_append.2 ⟨i3, by simp, fun a ha b hb => ?_⟩
              have : b = (j : Int) := by simpa using hb
              rw [this]; exact fun e => hm (e ▸ ha)
            · rcases (take_succ_mem hx).1 hy with hy | rfl
              · exact i4 y hy
              · omega) with ⟨s, hr, _, _, hnd, hrg⟩ | ⟨r, hr, rfl, hno⟩
  · rw [hr, bnd_some, fin_d]
    rw [List.take_length] at hnd hrg
    rw [bof_t ⟨rfl, permR_of hnd hrg rfl⟩]
  · rw [hr, bnd_some, fin_r, bof_f (fun h => hno h.2)]
end
section
open Go Go.RowKit
theorem rng_dec {α : Type} {f : Nat → α → Unit → Option (Ctl Unit Bool)} {xs : List α} (P : Nat → Prop) (h : ∀ k x, xs[k]? = some x → f k x () = if bof (P k) = true then some (.next ()) else some (.ret false)) :
    (bnd (rng (ρ := Bool) f xs 0 ()) fun r => fin r fun _ => some true) = some (bof (∀ k, k < xs.length → P k)) := by
  rcases rng_inv (f := f) (xs := xs) (s₀ := ()) (fun k _ => ∀ j, j < k → P j) (fun r => r = false ∧ ¬ ∀ k, k < xs.length → P k) (fun j hj => by omega) (fun k x _ hx hI => by
    rw [h k x hx]
    by_cases hp : P k
    · rw [bof_t hp, if_t]
      exact .inl ⟨_, rfl, upto_step hI hp⟩
    · rw [bof_f hp, if_f]
      exact .inr ⟨_, rfl, rfl, fun hh => hp (hh k (lt_of_get hx))⟩) with ⟨_, hr, hc⟩ | ⟨r, hr, rfl, hno⟩
  · rw [hr, bnd_some, fin_d, bof_t hc]
  · rw [hr, bnd_some, fin_r, bof_f hno]
theorem perm_n {l : List Int} {n : Nat} (hn : n ≤ 1000000) : m_symmetry_permutation l (n : Int) = some (bof (PermR l n)) := by
  rw [perm_eq (by omega)]
  exact bof_if ⟨fun h => by have : l.length = n := by omega
                            rw [← this]; exact h.2, fun h => ⟨by rw [h.len], by rw [h.len]; exact h⟩⟩
/-- Facts go to facts. -/
def FactsPerm (t : Tsk) (x : Swp) : Prop := PermR x.vars t.vars.length ∧ x.vals.length = t.vars.length ∧ ∀ (k : Nat), k < t.vars.length → ∃ (n : Nat) (a : Int) (l : List Int), t.vars[k]? = some (n : Int) ∧ x.vars[k]? = some a ∧ x.vals[k]? = some l ∧ atI t.vars a = some (n : Int) ∧ PermR l n
theorem facts_eq {t : Tsk} {x : Swp} (hok : TaskOk t) : m_symmetry_facts t x = some (bof (FactsPerm t x)) := by
  obtain ⟨hl, _, hv, _⟩ := hok
  unfold m_symmetry_facts
  rw [perm_n (by omega), bnd_some]
  by_cases h1 : PermR x.vars t.vars.length
  case neg => rw [bof_f h1, if_f, bnd_some, if_t, bof_f (fun h => h1 h.1)]
  rw [bof_t h1, if_t]
  by_cases h2 : x.vals.length = t.vars.length
  case neg => rw [if_pos (by omega), bnd_some, if_t, bof_f (fun h => h2 h.2.1)]
  rw [if_neg (by omega), bnd_some, if_f]
  rw [rng_dec (fun k => ∃ (n : Nat) (a : Int) (l : List Int), t.vars[k]? = some (n : Int) ∧ x.vars[k]? = some a ∧ x.vals[k]? = some l ∧ atI t.vars a = some (n : Int) ∧ PermR l n) (fun k y hy => by
    have hk := lt_of_get hy
    obtain ⟨a, ha⟩ := some_of_lt (l := x.vars) (k := k) (by rw [h1.len]; omega)
    obtain ⟨l, hll⟩ := some_of_lt (l := x.vals) (k := k) (by omega)
    have hy2 := hv k y hy
    obtain ⟨n, rfl⟩ := Int.eq_ofNat_of_zero_le (by omega : 0 ≤ y)
    obtain ⟨ha1, ha2⟩ := h1.mem (List.mem_of_getElem? ha)
    obtain ⟨j, rfl⟩ := Int.eq_ofNat_of_zero_le ha1
    obtain ⟨m, hm⟩ := some_of_lt (l := t.vars) (k := j) (by omega)
    rw [ha, bnd_some, atI_eq, hm, bnd_some]
    by_cases hmn : m = (n : Int)
    · rw [if_neg (by simpa using hmn), hll, bnd_some, perm_n (by omega), bnd_some]
      by_cases hp : PermR l n
      · rw [bof_t hp, if_t, bnd_some, if_f, bof_t ⟨n, _, l, hy, rfl, rfl, by rw [atI_eq, hm, hmn], hp⟩, if_t]
      · rw [bof_f hp, if_f, bnd_some, if_t, bof_f (fun ⟨n', a', l', q1, q2, q3, q4, q5⟩ => by
          have e1 : (n : Int) = n' := by rw [hy] at q1; exact Option.some.inj q1
          have e2 : l = l' := Option.some.inj q3
          have e3 : n = n' := by omega
          subst e2 e3; exact hp q5), if_f]
    · rw [if_pos hmn, bnd_some, if_t, bof_f (fun ⟨n', a', l', q1, q2, q3, q4, q5⟩ => by
        have e1 : (n : Int) = n' := by rw [hy] at q1; exact Option.some.inj q1
        have e2 : (j : Int) = a' := Option.some.inj q2
        rw [← e2, atI_eq, hm] at q4
        exact hmn (by rw [e1]; exact Option.some.inj q4)), if_f])]
  exact bof_if ⟨fun h => ⟨h1, h2, h⟩, fun h => h.2.2⟩
theorem equal_facts (a b : List Fct) : m_slices_Equal_Lapi_Fact_api_Fact a b = some (bof (a = b)) := by
  unfold m_slices_Equal_Lapi_Fact_api_Fact
  by_cases hl : a.length = b.length
  case neg => rw [if_pos (by omega), bof_f (fun h => hl (by rw [h]))]
  rw [if_neg (by omega), rng_dec (fun k => a[k]? = b[k]?) (fun k y hy => by
    obtain ⟨z, hz⟩ := some_of_lt (l := b) (k := k) (by have := lt_of_get hy; omega)
    rw [hz, bnd_some]
    by_cases h : y = z
    · rw [if_neg (by simp [h]), bof_t (by rw [hy, h]), if_t]
    · rw [if_pos (fun hh => h (by cases y; cases z; simpa using hh)), bof_f (by rw [hy]; simpa using h), if_f])]
  refine bof_if ⟨fun h => List.ext_getElem? fun k => ?_, fun h => by rw [h]; exact fun _ _ => rfl⟩
  by_cases hk : k < a.length
  · exact h k hk
  · rw [List.getElem?_eq_none (by omega), List.getElem?_eq_none (by omega)]
theorem alike1 (a b : Eff) : m_symmetry_alike_l1 a b = some (bof (a = b)) := by
  unfold m_symmetry_alike_l1
  by_cases h1 : a.var = b.var
  case neg => rw [if_neg h1, bnd_some, bof_f (fun h => h1 (by rw [h]))]
  by_cases h2 : a.val = b.val
  case neg => rw [if_pos h1, if_neg h2, bnd_some, bof_f (fun h => h2 (by rw [h]))]
  rw [if_pos h1, if_pos h2, equal_facts, bnd_some]
  by_cases h3 : a.cond = b.cond
  · rw [bof_t h3, if_t, bnd_some, bof_t (by cases a; cases b; simp_all)]
  · rw [bof_f h3, if_f, bnd_some, bof_f (fun h => h3 (by rw [h]))]
theorem equal_effs (a b : List Eff) : m_slices_EqualFunc_Lapi_Effect_Lapi_Effect_api_Effect_api_Effect__symmetry_alike_l1 a b = some (bof (a = b)) := by
  unfold m_slices_EqualFunc_Lapi_Effect_Lapi_Effect_api_Effect_api_Effect__symmetry_alike_l1
  by_cases hl : a.length = b.length
  case neg => rw [if_pos (by omega), bof_f (fun h => hl (by rw [h]))]
  rw [if_neg (by omega), rng_dec (fun k => a[k]? = b[k]?) (fun k y hy => by
    obtain ⟨z, hz⟩ := some_of_lt (l := b) (k := k) (by have := lt_of_get hy; omega)
    rw [hz, bnd_some, alike1, bnd_some]
    by_cases h : y = z
    · rw [bof_t h, if_t, bof_t (by rw [hy, h]), if_t]
    · rw [bof_f h, if_f, bof_f (by rw [hy]; simpa using h), if_f])]
  refine bof_if ⟨fun h => List.ext_getElem? fun k => ?_, fun h => by rw [h]; exact fun _ _ => rfl⟩
  by_cases hk : k < a.length
  · exact h k hk
  · rw [List.getElem?_eq_none (by omega), List.getElem?_eq_none (by omega)]
theorem alike_eq (p q : Opr) : m_symmetry_alike p q = some (bof (p.cost = q.cost ∧ p.pre = q.pre ∧ p.effs = q.effs)) := by
  unfold m_symmetry_alike
  by_cases h1 : p.cost = q.cost
  case neg => rw [if_neg h1, bnd_some, bof_f (fun h => h1 h.1)]
  rw [if_pos h1, equal_facts, bnd_some]
  by_cases h2 : p.pre = q.pre
  case neg => rw [bof_f h2, if_f, bnd_some, bof_f (fun h => h2 h.2.1)]
  rw [bof_t h2, if_t, equal_effs, bnd_some]
  by_cases h3 : p.effs = q.effs
  · rw [bof_t h3, if_t, bnd_some, bof_t ⟨h1, h2, h3⟩]
  · rw [bof_f h3, if_f, bnd_some, bof_f (fun h => h3 h.2.2)]
/-- The image of a fact. -/
def imF (x : Swp) (f : Fct) : Fct := ⟨(x.vars[f.var.toNat]?).getD 0, (((x.vals[f.var.toNat]?).getD [])[f.val.toNat]?).getD 0⟩
def imL (x : Swp) (fs : List Fct) : List Fct := srt_symmetry_mapped_l1 (fs.map (imF x))
def imE (x : Swp) (e : Eff) : Eff := ⟨imL x e.cond, (imF x ⟨e.var, e.val⟩).var, (imF x ⟨e.var, e.val⟩).val⟩
def imO (x : Swp) (o : Opr) : Opr := ⟨⟨#[]⟩, o.cost, imL x o.pre, o.effs.map (imE x)⟩
theorem imF_at {t : Tsk} {x : Swp} {f : Fct} (hp : FactsPerm t x) (hf : FactOk t.vars f) : ∃ l, atI x.vars f.var = some (imF x f).var ∧ atI x.vals f.var = some l ∧ atI l f.val = some (imF x f).val ∧ 0 ≤ (imF x f).var ∧ 0 ≤ (imF x f).val := by
  obtain ⟨h1, h2, n, hn, h3⟩ := hf
  obtain ⟨fv, fz⟩ := f
  simp only at h1 h2 hn h3 ⊢
  obtain ⟨j, rfl⟩ := Int.eq_ofNat_of_zero_le h1
  obtain ⟨i, rfl⟩ := Int.eq_ofNat_of_zero_le h2
  rw [show ((j : Int)).toNat = j from by omega] at hn
  obtain ⟨m, a, l, q1, q2, q3, q4, q5⟩ := hp.2.2 j (lt_of_get hn)
  have e : (m : Int) = n := by rw [hn] at q1; exact (Option.some.inj q1).symm
  obtain ⟨z, hz⟩ := some_of_lt (l := l) (k := i) (by rw [q5.len]; omega)
  have ha := hp.1.mem (List.mem_of_getElem? q2)
  have hz' := q5.mem (List.mem_of_getElem? hz)
  refine ⟨l, ?_, ?_, ?_, ?_, ?_⟩ <;> simp [imF, atI_eq, q2, q3, hz] <;> omega
end
section
open Go Go.RowKit
theorem facts_pw {vars : List Int} {f : List Fct} (h : FactsOk vars f) : (∀ x ∈ f, FactOk vars x) ∧ f.Pairwise fun x y => x.var < y.var := by
  refine ⟨fun x hx => by obtain ⟨i, hi⟩ := List.getElem?_of_mem hx; exact h.1 i x hi, ?_⟩
  rw [List.pairwise_iff_getElem]
  intro i j hi hj hij
  exact factsOk_lt h j i _ _ hij (List.getElem?_eq_getElem hi) (List.getElem?_eq_getElem hj)
theorem sorted_eq {a b : List Fct} (hp : a.Perm b) (ha : a.Pairwise fun x y => x.var < y.var) (hb : b.Pairwise fun x y => x.var < y.var) : a = b :=
  List.Perm.eq_of_pairwise (fun x y _ _ h1 h2 => by omega) ha hb hp
def VarsNe (f : List Fct) : Prop := f.Pairwise fun x y => x.var ≠ y.var
theorem VarsNe.perm {a b : List Fct} (hp : a.Perm b) (h : VarsNe a) : VarsNe b := (hp.pairwise_iff (fun h e => h e.symm)).1 h
theorem srt_strict {a : List Fct} (h : VarsNe a) : (srt_symmetry_mapped_l1 a).Pairwise fun x y => x.var < y.var := by
  have h1 := srtF_sorted a
  have h2 : VarsNe (srt_symmetry_mapped_l1 a) := h.perm (srtF_perm a).symm
  exact (h1.and h2).imp fun ⟨p, q⟩ => by omega
theorem imF_var {t : Tsk} {x : Swp} {f g : Fct} (hp : FactsPerm t x) (hf : FactOk t.vars f) (hg : FactOk t.vars g) (h : (imF x f).var = (imF x g).var) : f.var = g.var := by
  obtain ⟨_, hf1, _⟩ := imF_at hp hf
  obtain ⟨_, hg1, _⟩ := imF_at hp hg
  obtain ⟨i, hi, hi'⟩ := atI_some hf1
  obtain ⟨j, hj, hj'⟩ := atI_some hg1
  rw [h, ← hj'] at hi'
  have h1 : i < x.vars.length := by rw [hj'] at hi'; exact lt_of_get hi'
  have h2 := lt_of_get hj'
  rw [List.getElem?_eq_getElem h1, List.getElem?_eq_getElem h2] at hi'
  have hij := (List.getElem_inj hp.1.nodup).1 (Option.some.inj hi')
  rw [hi, hj, hij]
theorem im_ne {t : Tsk} {x : Swp} {fs : List Fct} (hp : FactsPerm t x) (hf : FactsOk t.vars fs) : VarsNe (fs.map (imF x)) := by
  obtain ⟨h1, h2⟩ := facts_pw hf
  unfold VarsNe
  rw [List.pairwise_map]
  refine List.Pairwise.imp_of_mem (fun {a b} ha hb hab => ?_) h2
  intro e
  have := imF_var hp (h1 a ha) (h1 b hb) e
  omega
theorem facts_len {t : Tsk} {fs : List Fct} (hok : TaskOk t) (hf : FactsOk t.vars fs) : fs.length ≤ 64 := by have := factsOk_len hf; have := hok.1; omega
theorem map_take {α β : Type} {f : α → β} {l : List α} {k : Nat} {x : α} (h : l[k]? = some x) : (l.take (k + 1)).map f = (l.take k).map f ++ [f x] := by
  rw [List.take_add_one, h]; simp
theorem mapped_eq {t : Tsk} {x : Swp} {fs : List Fct} (hok : TaskOk t) (hp : FactsPerm t x) (hf : FactsOk t.vars fs) : m_symmetry_mapped x fs = some (imL x fs) := by
  have hl := facts_len hok hf
  unfold m_symmetry_mapped
  rw [rng_from (fun k => (fs.take k).map (imF x)) (by simp) (fun k f hk => by
    obtain ⟨l, h1, h2, h3, _⟩ := imF_at hp (hf.1 k f hk)
    have := lt_of_get hk
    rw [h1, bnd_some, h2, bnd_some, h3, bnd_some, appI_eq (by simp; omega) (by simp; omega), bnd_some, map_take hk]), bnd_some, fin_d, List.take_length, if_pos (by simp; omega), bnd_some]
  rfl
theorem image_eq {t : Tsk} {x : Swp} {o : Opr} (hok : TaskOk t) (hp : FactsPerm t x) (ho : OpOk t.vars o) : m_symmetry_image x o = some (imO x o) := by
  obtain ⟨_, _, hl, _, hpre, heff⟩ := ho
  unfold m_symmetry_image
  rw [mapped_eq hok hp hpre, bnd_some, bnd_some, rng_from (fun k => (o.effs.take k).map (imE x)) (by simp) (fun k e hk => by
    obtain ⟨h1, h2⟩ := heff k e hk
    obtain ⟨l, g1, g2, g3, _⟩ := imF_at hp h2
    have := lt_of_get hk
    rw [show e.var = (⟨e.var, e.val⟩ : Fct).var from rfl, g1, bnd_some, g2, bnd_some, show e.val = (⟨e.var, e.val⟩ : Fct).val from rfl, g3, bnd_some, mapped_eq hok hp h1, bnd_some, appI_eq (by simp; omega) (by simp; omega), bnd_some, map_take hk]
    rfl), bnd_some, fin_d, List.take_length]
  rfl
/-- A map is a symmetry of a task. -/
def SymP (t : Tsk) (x : Swp) : Prop := FactsPerm t x ∧ PermR x.ops t.ops.length ∧ imL x t.goal = t.goal ∧ ∀ k, k < t.ops.length → ∃ (o p : Opr) (a : Int), t.ops[k]? = some o ∧ x.ops[k]? = some a ∧ atI t.ops a = some p ∧ o.cost = p.cost ∧ imL x o.pre = p.pre ∧ o.effs.map (imE x) = p.effs
theorem is_eq {t : Tsk} {x : Swp} (hok : TaskOk t) : m_symmetry_is t x = some (bof (SymP t x)) := by
  unfold m_symmetry_is
  rw [facts_eq hok, bnd_some]
  by_cases h1 : FactsPerm t x
  case neg => rw [bof_f h1, if_f, bnd_some, if_t, bof_f (fun h => h1 h.1)]
  have hlo := hok.2.1
  rw [bof_t h1, if_t, perm_n (by omega), bnd_some]
  by_cases h2 : PermR x.ops t.ops.length
  case neg => rw [bof_f h2, if_f, bnd_some, if_t, bof_f (fun h => h2 h.2.1)]
  rw [bof_t h2, if_t, mapped_eq hok h1 hok.2.2.2.2.1, bnd_some, equal_facts, bnd_some]
  by_cases h3 : imL x t.goal = t.goal
  case neg => rw [bof_f h3, if_f, bnd_some, if_t, bof_f (fun h => h3 h.2.2.1)]
  rw [bof_t h3, if_t, bnd_some, if_f, rng_dec (fun k => ∃ (o p : Opr) (a : Int), t.ops[k]? = some o ∧ x.ops[k]? = some a ∧ atI t.ops a = some p ∧ o.cost = p.cost ∧ imL x o.pre = p.pre ∧ o.effs.map (imE x) = p.effs) (fun k o hk => by
    have := lt_of_get hk
    obtain ⟨a, ha⟩ := some_of_lt (l := x.ops) (k := k) (by rw [h2.len]; omega)
    obtain ⟨ha1, ha2⟩ := h2.mem (List.mem_of_getElem? ha)
    obtain ⟨j, rfl⟩ := Int.eq_ofNat_of_zero_le ha1
    obtain ⟨p, hp⟩ := some_of_lt (l := t.ops) (k := j) (by omega)
    rw [ha, bnd_some, atI_eq, hp, bnd_some, image_eq hok h1 (hok.2.2.2.2.2 k o hk), bnd_some, alike_eq, bnd_some]
    have e : (∃ (o p : Opr) (a : Int), t.ops[k]? = some o ∧ some (j : Int) = some a ∧ atI t.ops a = some p ∧ o.cost = p.cost ∧ imL x o.pre = p.pre ∧ o.effs.map (imE x) = p.effs) ↔ ((imO x o).cost = p.cost ∧ (imO x o).pre = p.pre ∧ (imO x o).effs = p.effs) := by
      constructor
      · rintro ⟨o', p', a', q1, q2, q3, q4⟩
        obtain rfl : o = o' := by rw [hk] at q1; exact Option.some.inj q1
        obtain rfl := Option.some.inj q2
        rw [atI_eq, hp] at q3
        obtain rfl := Option.some.inj q3
        exact q4
      · intro h
        exact ⟨o, p, j, hk, rfl, by rw [atI_eq, hp], h⟩
    rw [bof_eq e])]
  exact bof_if ⟨fun h => ⟨h1, h2, h3, h⟩, fun h => h.2.2.2⟩
theorem check_eq {t : Tsk} {x : Swp} : m_symmetry_Check t x = some (bof (TaskOk t ∧ SymP t x)) := by
  unfold m_symmetry_Check m_task_Check
  rw [bnd_some]
  by_cases hok : TaskOk t
  case neg => rw [if_neg (fun h => hok (check_ok.1 h)), bnd_some, bof_f (fun h => hok h.1)]
  rw [if_pos (check_ok.2 hok), is_eq hok, bnd_some]
  by_cases h : SymP t x
  · rw [bof_t h, if_t, bnd_some, bof_t ⟨hok, h⟩]
  · rw [bof_f h, if_f, bnd_some, bof_f (fun hh => h hh.2)]
end
section
open Go Go.RowKit
theorem demand1 {t : Tsk} {x : Swp} (hok : TaskOk t) : m_symmetry_demand t [x] = some ⟨if bof (SymP t x) = true then 0 else 2⟩ := by
  unfold m_symmetry_demand m_task_Check
  rw [bnd_some, if_neg (by rw [check_ok.2 hok]; simp)]
  by_cases h : SymP t x
  · rw [rng_unit (fun k y hy => by
      obtain rfl : y = x := by simpa using List.mem_of_getElem? hy
      rw [is_eq hok, bnd_some, bof_t h, if_t]), bnd_some, fin_d, bof_t h, if_t]
  · have : rng (ρ := Err) (fun (_ : Nat) (a41 : Swp) (_ : Unit) => bnd (m_symmetry_is t a41) fun q77 => if q77 = true then some (.next ()) else some (.ret (⟨2⟩ : Err))) [x] 0 () = some (.ret ⟨2⟩) := by
      simp only [rng]
      rw [is_eq hok, bnd_some, bof_f h, if_f]
    rw [this, bnd_some, fin_r, bof_f h, if_f]
def exT : Tsk := ⟨[2, 2], [0, 0], ([] : List Fct), [(⟨(⟨#[]⟩ : ByteArray), 0, ([] : List Fct), [(⟨([] : List Fct), 0, 1⟩ : Eff)]⟩ : Opr), (⟨(⟨#[]⟩ : ByteArray), 0, ([] : List Fct), [(⟨([] : List Fct), 1, 1⟩ : Eff)]⟩ : Opr)]⟩
def exX : Swp := ⟨[1, 0], [[0, 1], [0, 1]], [1, 0]⟩
theorem permR_10 : PermR [1, 0] 2 := by unfold PermR rangeI; decide
theorem permR_01 : PermR [0, 1] 2 := by unfold PermR rangeI; decide
theorem below2 {k : Nat} (h : k < 2) : k = 0 ∨ k = 1 := by omega
theorem fo_nil (vars : List Int) : FactsOk vars [] := ⟨fun _ _ h => by simp at h, fun _ _ _ h => by simp at h⟩
theorem get2 {α : Type} {a b y : α} {k : Nat} (h : [a, b][k]? = some y) : y = a ∨ y = b := by
  have := List.mem_of_getElem? h
  simpa using this
theorem exT_ok : TaskOk exT := by
  refine ⟨by decide, by decide, fun i n h => ?_, ⟨rfl, fun i v n h1 h2 => ?_⟩, fo_nil _, fun i o h => ?_⟩
  · rcases get2 h with rfl | rfl <;> omega
  · have e1 : v = 0 := by rcases get2 h1 with rfl | rfl <;> rfl
    have e2 : n = 2 := by rcases get2 h2 with rfl | rfl <;> rfl
    omega
  · have hone : ∀ (c : Int), (c = 0 ∨ c = 1) → OpOk exT.vars ⟨⟨#[]⟩, 0, [], [⟨[], c, 1⟩]⟩ := fun c hc => by
      refine ⟨Int.le_refl 0, (by decide : (0 : Int) ≤ 1048576), (by decide : 1 ≤ 64), ?_, fo_nil _, fun j e he => ?_⟩
      · exact ⟨(by decide : 0 ≤ 256), fun i h => absurd h (Nat.not_lt_zero _)⟩
      · have : e = ⟨[], c, 1⟩ := by simpa using List.mem_of_getElem? he
        subst this
        refine ⟨fo_nil _, by simp; omega, by simp, 2, ?_, by simp⟩
        rcases hc with rfl | rfl <;> rfl
    rcases get2 h with rfl | rfl
    · exact hone 0 (.inl rfl)
    · exact hone 1 (.inr rfl)
theorem srt_nil : srt_symmetry_mapped_l1 [] = [] := List.eq_nil_of_length_eq_zero (by rw [srt_symmetry_mapped_l1_len]; rfl)
theorem imL_nil (x : Swp) : imL x [] = [] := srt_nil
theorem exX_sym : SymP exT exX := by
  refine ⟨⟨permR_10, rfl, fun k hk => ?_⟩, permR_10, imL_nil _, fun k hk => ?_⟩
  · rcases below2 hk with rfl | rfl
    · exact ⟨2, 1, [0, 1], rfl, rfl, rfl, rfl, permR_01⟩
    · exact ⟨2, 0, [0, 1], rfl, rfl, rfl, rfl, permR_01⟩
  · rcases below2 hk with rfl | rfl
    · refine ⟨_, _, 1, rfl, rfl, rfl, rfl, imL_nil _, ?_⟩
      show [imE exX ⟨[], 0, 1⟩] = _
      unfold imE
      rw [imL_nil]; rfl
    · refine ⟨_, _, 0, rfl, rfl, rfl, rfl, imL_nil _, ?_⟩
      show [imE exX ⟨[], 1, 1⟩] = _
      unfold imE
      rw [imL_nil]; rfl
theorem exS_ok : StateOk exT.vars [1, 0] := ⟨rfl, fun i v n h1 h2 => by
  have e1 : v = 1 ∨ v = 0 := get2 h1
  have e2 : n = 2 := by rcases get2 h2 with rfl | rfl <;> rfl
  omega⟩
theorem state_ok {t : Tsk} {x : Swp} {s : List Int} (hok : TaskOk t) (hx : SymP t x) (hs : StateOk t.vars s) {r : List Int} (hr : m_symmetry_moved x s = some r) : m_symmetry_State t x s = some (r, ⟨0⟩) := by
  unfold m_symmetry_State m_task_Proper
  rw [demand1 hok, bnd_some, bof_t hx, if_t, if_neg (by simp), bnd_some, bof_t hs, if_t, hr, bnd_some]
theorem awake51 : m_law51_awake = some true := by
  unfold m_law51_awake
  change (bnd (m_symmetry_State exT exX [1, 0]) fun q103 => bnd (bnd (m_symmetry_Check exT exX) fun q121 => if q121 = true then if q103.2.n = 0 then (bnd (m_base_Ints q103.1 [0, 1]) fun q135 => if q135 = true then some true else some false) else (some false) else some false : Option Bool) fun y117 => some y117) = _
  rw [state_ok exT_ok exX_sym exS_ok (r := [0, 1]) rfl, bnd_some, check_eq, bof_t ⟨exT_ok, exX_sym⟩, bnd_some, if_t, if_pos rfl]
  unfold m_base_Ints
  rw [bnd_some, bof_t rfl, if_t, bnd_some]
end
section
open Go Go.RowKit
abbrev Pn := Nat × Nat
def fc (p : Pn) : Fct := ⟨(p.1 : Int), (p.2 : Int)⟩
theorem fc_inj {p q : Pn} (h : fc p = fc q) : p = q := by
  obtain ⟨a, b⟩ := p
  obtain ⟨c, d⟩ := q
  unfold fc at h
  injection h with h1 h2
  have e1 : a = c := by have : (a : Int) = c := h1; omega
  have e2 : b = d := by have : (b : Int) = d := h2; omega
  rw [e1, e2]
def szT (t : Tsk) (v : Nat) : Nat := ((t.vars[v]?).getD 0).toNat
def rowT {α : Type} (t : Tsk) (g : Nat → α) : List α := (List.range t.vars.length).map g
def gridT {α : Type} (t : Tsk) (g : Nat → Nat → α) : List (List α) := rowT t fun v => (List.range (szT t v)).map (g v)
def InP (t : Tsk) (p : Pn) : Prop := p.1 < t.vars.length ∧ p.2 < szT t p.1
/-- All facts. -/
def allP (t : Tsk) : List Pn := (List.range t.vars.length).flatMap fun v => (List.range (szT t v)).map fun a => (v, a)
theorem mem_allP {t : Tsk} {p : Pn} : p ∈ allP t ↔ InP t p := by
  unfold allP InP
  rw [List.mem_flatMap]
  constructor
  · rintro ⟨v, hv, hp⟩
    obtain ⟨a, ha, rfl⟩ := List.mem_map.1 hp
    exact ⟨List.mem_range.1 hv, List.mem_range.1 ha⟩
  · rintro ⟨h1, h2⟩
    exact ⟨p.1, List.mem_range.2 h1, List.mem_map.2 ⟨p.2, List.mem_range.2 h2, rfl⟩⟩
theorem nodup_flat {α β : Type} {f : α → List β} : ∀ {l : List α}, l.Nodup → (∀ a ∈ l, (f a).Nodup) → (∀ a ∈ l, ∀ b ∈ l, a ≠ b → ∀ x, x ∈ f a → x ∉ f b) → (l.flatMap f).Nodup
  | [], _, _, _ => by simp
  | a :: l, h1, h2, h3 => by
    rw [List.flatMap_cons, List.nodup_append]
    obtain ⟨n1, n2⟩ := List.nodup_cons.1 h1
    refine ⟨h2 a List.mem_cons_self, nodup_flat n2 (fun b hb => h2 b (List.mem_cons_of_mem _ hb)) fun b hb c hc => h3 b (List.mem_cons_of_mem _ hb) c (List.mem_cons_of_mem _ hc), fun x hx y hy e => ?_⟩
    subst e
    obtain ⟨b, hb, hxb⟩ := List.mem_flatMap.1 hy
    exact h3 a List.mem_cons_self b (List.mem_cons_of_mem _ hb) (fun e => n1 (e ▸ hb)) x hx hxb
theorem nodup_map {α β : Type} {f : α → β} {l : List α} (h : l.Nodup) (hf : ∀ a ∈ l, ∀ b ∈ l, f a = f b → a = b) : (l.map f).Nodup := by
  rw [List.nodup_iff_pairwise_ne, List.pairwise_map]
  exact (List.nodup_iff_pairwise_ne.1 h).imp_of_mem fun ha hb hne e => hne (hf _ ha _ hb e)
theorem allP_nodup (t : Tsk) : (allP t).Nodup := by
  refine nodup_flat List.nodup_range (fun v _ => nodup_map List.nodup_range fun a _ b _ e => by injection e) fun a _ b _ hab x hx hy => ?_
  obtain ⟨_, _, rfl⟩ := List.mem_map.1 hx
  obtain ⟨_, _, e⟩ := List.mem_map.1 hy
  injection e with e _
  exact hab e.symm
section
variable {α : Type} {t : Tsk}
theorem rm_at {n k : Nat} (g : Nat → α) (h : k < n) : atI ((List.range n).map g) (k : Int) = some (g k) := by
  rw [atI_eq, List.getElem?_map, List.getElem?_range h]; rfl
theorem rm_set {n k : Nat} (g : Nat → α) (y : α) : ((List.range n).map g).set k y = (List.range n).map fun i => if i = k then y else g i := by
  apply List.ext_getElem?
  intro i
  rw [List.getElem?_set, List.getElem?_map, List.getElem?_map]
  by_cases hi : i < n
  · rw [List.getElem?_range hi]
    by_cases h : k = i
    · subst h; simp [hi]
    · simp [h, Ne.symm h]
  · have h0 : (List.range n)[i]? = none := List.getElem?_eq_none (by simp; omega)
    rw [h0]
    by_cases h : k = i
    · subst h; simp [hi]
    · simp [h]
theorem rowT_at (g : Nat → α) {v : Nat} (h : v < t.vars.length) : atI (rowT t g) (v : Int) = some (g v) := rm_at g h
theorem gridT_at (g : Nat → Nat → α) {v : Nat} (h : v < t.vars.length) : atI (gridT t g) (v : Int) = some ((List.range (szT t v)).map (g v)) := rm_at (fun v => (List.range (szT t v)).map (g v)) h
theorem rowT_set (g : Nat → α) (v : Nat) (y : α) : (rowT t g).set v y = rowT t fun i => if i = v then y else g i := rm_set g y
theorem rowT_congr {g g' : Nat → α} (h : ∀ v, v < t.vars.length → g v = g' v) : rowT t g = rowT t g' := List.map_congr_left fun v hv => h v (List.mem_range.1 hv)
theorem gridT_congr {g g' : Nat → Nat → α} (h : ∀ v a, v < t.vars.length → a < szT t v → g v a = g' v a) : gridT t g = gridT t g' :=
  rowT_congr fun v hv => List.map_congr_left fun a ha => h v a hv (List.mem_range.1 ha)
theorem gridT_set (g : Nat → Nat → α) (v a : Nat) (y : α) : (gridT t g).set v (((List.range (szT t v)).map (g v)).set a y) = gridT t fun v' a' => if v' = v ∧ a' = a then y else g v' a' := by
  unfold gridT
  rw [rm_set, rowT_set]
  refine rowT_congr fun v' _ => ?_
  by_cases h : v' = v
  · subst h
    rw [if_pos rfl]
    exact List.map_congr_left fun a' _ => by simp
  · rw [if_neg h]
    exact List.map_congr_left fun a' _ => by simp [h]
end
/-- The choices: facts and their images. -/
abbrev Zs := List (Pn × Pn)
def Vf (zs : Zs) (v : Nat) : Int := match zs.find? (fun z => z.1.1 == v) with | some z => (z.2.1 : Int) | none => -1
def Wf (zs : Zs) (v a : Nat) : Int := match zs.find? (fun z => z.1 == (v, a)) with | some z => (z.2.2 : Int) | none => -1
def Tf (zs : Zs) (v a : Nat) : Bool := zs.any fun z => z.2 == (v, a)
def Uf (zs : Zs) (v : Nat) : Bool := zs.any fun z => z.2.1 == v
def swF (t : Tsk) (zs : Zs) : Swp := ⟨rowT t (Vf zs), gridT t (Wf zs), []⟩
def mkF (t : Tsk) (sg : Nat → Nat → ByteArray) (zs : Zs) (s M : Int) (fl : Bool) : Fnd := ⟨t, (allP t).map fc, gridT t sg, swF t zs, gridT t (Tf zs), rowT t (Uf zs), s, M, fl⟩
theorem Vf_app (zs : Zs) (x y : Pn) (v : Nat) : Vf (zs ++ [(x, y)]) v = if v = x.1 ∧ Vf zs v < 0 then (y.1 : Int) else Vf zs v := by
  unfold Vf
  rw [List.find?_append]
  cases h : zs.find? (fun z => z.1.1 == v) with
  | some z => simp; omega
  | none =>
    by_cases hv : x.1 = v
    · simp [hv]
    · have : ¬ v = x.1 := fun e => hv e.symm
      simp [hv, this]
theorem Wf_app {zs : Zs} {x y : Pn} (hx : ∀ z ∈ zs, z.1 ≠ x) (v a : Nat) : Wf (zs ++ [(x, y)]) v a = if v = x.1 ∧ a = x.2 then (y.2 : Int) else Wf zs v a := by
  unfold Wf
  rw [List.find?_append]
  obtain ⟨x1, x2⟩ := x
  cases h : zs.find? (fun z => z.1 == (v, a)) with
  | some z =>
    have h1 := List.find?_some h
    have h2 := hx z (List.mem_of_find?_eq_some h)
    have h3 : z.1 = (v, a) := by simpa using h1
    have : ¬ (v = x1 ∧ a = x2) := fun e => h2 (by rw [h3, e.1, e.2])
    simp [this]
  | none =>
    by_cases hv : v = x1 ∧ a = x2
    · obtain ⟨rfl, rfl⟩ := hv
      simp
    · have : ¬ ((x1, x2) : Pn) = (v, a) := fun e => hv (by injection e with e1 e2; exact ⟨e1.symm, e2.symm⟩)
      have h2 : ¬ (x1 = v ∧ x2 = a) := fun e => hv ⟨e.1.symm, e.2.symm⟩
      simp [hv, h2]
theorem Tf_app (zs : Zs) (x y : Pn) (v a : Nat) : Tf (zs ++ [(x, y)]) v a = if v = y.1 ∧ a = y.2 then true else Tf zs v a := by
  unfold Tf
  rw [List.any_append]
  obtain ⟨y1, y2⟩ := y
  by_cases h : v = y1 ∧ a = y2
  · obtain ⟨rfl, rfl⟩ := h; simp
  · have : ¬ (y1 = v ∧ y2 = a) := fun e => h ⟨e.1.symm, e.2.symm⟩
    simp [h, this]
theorem Uf_app (zs : Zs) (x y : Pn) (v : Nat) : Uf (zs ++ [(x, y)]) v = if v = y.1 then true else Uf zs v := by
  unfold Uf
  rw [List.any_append]
  by_cases h : v = y.1
  · simp [h]
  · have : ¬ y.1 = v := fun e => h e.symm
    simp [h, this]
/-- A choice that agrees with those made. -/
structure Nw (zs : Zs) (x y : Pn) : Prop where
  dom : ∀ z ∈ zs, z.1 ≠ x
  img : ∀ z ∈ zs, z.2 ≠ y
  var : ∀ z ∈ zs, z.1.1 = x.1 ↔ z.2.1 = y.1
theorem Vf_neg {zs : Zs} {v : Nat} : Vf zs v < 0 ↔ ∀ z ∈ zs, z.1.1 ≠ v := by
  unfold Vf
  cases h : zs.find? (fun z => z.1.1 == v) with
  | some z =>
    have h1 := List.find?_some h
    refine ⟨fun h => absurd h (by simp), fun hh => absurd (by simpa using h1) (hh z (List.mem_of_find?_eq_some h))⟩
  | none =>
    refine ⟨fun _ z hz => ?_, fun _ => by simp⟩
    have := List.find?_eq_none.1 h z hz
    simpa using this
theorem Vf_pos {zs : Zs} {v : Nat} (h : ¬ Vf zs v < 0) : ∃ z ∈ zs, z.1.1 = v ∧ Vf zs v = (z.2.1 : Int) := by
  unfold Vf at *
  cases hq : zs.find? (fun z => z.1.1 == v) with
  | some z => exact ⟨z, List.mem_of_find?_eq_some hq, by simpa using List.find?_some hq, rfl⟩
  | none => rw [hq] at h; exact absurd (by simp) h
theorem Uf_f {zs : Zs} {v : Nat} : Uf zs v = false ↔ ∀ z ∈ zs, z.2.1 ≠ v := by
  unfold Uf; simp
theorem Tf_f {zs : Zs} {p : Pn} : Tf zs p.1 p.2 = false ↔ ∀ z ∈ zs, z.2 ≠ p := by
  obtain ⟨p1, p2⟩ := p
  unfold Tf; simp [not_and]
section
variable {t : Tsk} {sg : Nat → Nat → ByteArray} {zs : Zs} {x y : Pn} {s M : Int} {fl : Bool}
theorem choose_mk (hx : InP t x) (hy : InP t y) (h : Nw zs x y) : m_symmetry_finder_choose (mkF t sg zs s M fl) (fc x) (fc y) = some (decide (Vf zs x.1 < 0), mkF t sg (zs ++ [(x, y)]) s M fl) := by
  unfold m_symmetry_finder_choose
  simp only [mkF, swF, fc]
  rw [gridT_at _ hx.1, bnd_some, rm_at _ hx.2, bnd_some, gridT_at _ hy.1, bnd_some, rm_at _ hy.2, bnd_some, rowT_at _ hx.1, bnd_some]
  have e1 : ((x.1 : Nat) : Int).toNat = x.1 := by omega
  have e2 : ((x.2 : Nat) : Int).toNat = x.2 := by omega
  have e3 : ((y.1 : Nat) : Int).toNat = y.1 := by omega
  have e4 : ((y.2 : Nat) : Int).toNat = y.2 := by omega
  rw [e1, e2, e3, e4, gridT_set, gridT_set]
  have hW : gridT t (fun v' a' => if v' = x.1 ∧ a' = x.2 then (y.2 : Int) else Wf zs v' a') = gridT t (Wf (zs ++ [(x, y)])) := gridT_congr fun v a _ _ => (Wf_app h.dom v a).symm
  have hT : gridT t (fun v' a' => if v' = y.1 ∧ a' = y.2 then true else Tf zs v' a') = gridT t (Tf (zs ++ [(x, y)])) := gridT_congr fun v a _ _ => (Tf_app zs x y v a).symm
  rw [hW, hT]
  by_cases hv : Vf zs x.1 < 0
  · rw [if_neg (by omega), bnd_some, rowT_at _ hy.1, bnd_some, rowT_set, rowT_set]
    have hV : rowT t (fun i => if i = x.1 then (y.1 : Int) else Vf zs i) = rowT t (Vf (zs ++ [(x, y)])) := rowT_congr fun v _ => by
      rw [Vf_app]
      by_cases hq : v = x.1
      · subst hq; simp [hv]
      · simp [hq]
    have hU : rowT t (fun i => if i = y.1 then true else Uf zs i) = rowT t (Uf (zs ++ [(x, y)])) := rowT_congr fun v _ => (Uf_app zs x y v).symm
    rw [hV, hU, decide_eq_true hv]
  · rw [if_pos (by omega), decide_eq_false hv]
    have hV : rowT t (Vf (zs ++ [(x, y)])) = rowT t (Vf zs) := rowT_congr fun v _ => by
      rw [Vf_app]
      by_cases hq : v = x.1
      · subst hq; simp [hv]
      · simp [hq]
    have hU : rowT t (Uf (zs ++ [(x, y)])) = rowT t (Uf zs) := rowT_congr fun v _ => by
      rw [Uf_app]
      by_cases hq : v = y.1
      · obtain ⟨z, hz, hz1, _⟩ := Vf_pos hv
        rw [if_pos hq, hq]
        have := (h.var z hz).1 hz1
        unfold Uf
        exact (List.any_eq_true.2 ⟨z, hz, by simp [this]⟩).symm
      · rw [if_neg hq]
    rw [hV, hU]
theorem undo_mk (hx : InP t x) (hy : InP t y) (h : Nw zs x y) {b : Bool} (hb : b = decide (Vf zs x.1 < 0)) : m_symmetry_finder_undo (mkF t sg (zs ++ [(x, y)]) s M fl) (fc x) (fc y) b = some (mkF t sg zs s M fl) := by
  unfold m_symmetry_finder_undo
  simp only [mkF, swF, fc]
  rw [gridT_at _ hx.1, bnd_some, rm_at _ hx.2, bnd_some, gridT_at _ hy.1, bnd_some, rm_at _ hy.2, bnd_some]
  have e1 : ((x.1 : Nat) : Int).toNat = x.1 := by omega
  have e2 : ((x.2 : Nat) : Int).toNat = x.2 := by omega
  have e3 : ((y.1 : Nat) : Int).toNat = y.1 := by omega
  have e4 : ((y.2 : Nat) : Int).toNat = y.2 := by omega
  rw [e1, e2, e3, e4, gridT_set, gridT_set]
  have hW : gridT t (fun v' a' => if v' = x.1 ∧ a' = x.2 then (-1 : Int) else Wf (zs ++ [(x, y)]) v' a') = gridT t (Wf zs) := gridT_congr fun v a _ _ => by
    rw [Wf_app h.dom]
    by_cases hq : v = x.1 ∧ a = x.2
    · obtain ⟨rfl, rfl⟩ := hq
      rw [if_pos ⟨rfl, rfl⟩]
      unfold Wf
      rw [List.find?_eq_none.2 fun z hz => by simpa using h.dom z hz]
    · rw [if_neg hq, if_neg hq]
  have hT : gridT t (fun v' a' => if v' = y.1 ∧ a' = y.2 then false else Tf (zs ++ [(x, y)]) v' a') = gridT t (Tf zs) := gridT_congr fun v a _ _ => by
    rw [Tf_app]
    by_cases hq : v = y.1 ∧ a = y.2
    · obtain ⟨rfl, rfl⟩ := hq
      rw [if_pos ⟨rfl, rfl⟩]
      exact (Tf_f.2 h.img).symm
    · rw [if_neg hq, if_neg hq]
  rw [hW, hT]
  by_cases hv : Vf zs x.1 < 0
  · rw [hb, decide_eq_true hv, if_t, rowT_at _ hx.1, bnd_some, rowT_at _ hy.1, bnd_some, rowT_set, rowT_set]
    have hV : rowT t (fun i => if i = x.1 then (-1 : Int) else Vf (zs ++ [(x, y)]) i) = rowT t (Vf zs) := rowT_congr fun v _ => by
      rw [Vf_app]
      by_cases hq : v = x.1
      · subst hq
        rw [if_pos rfl]
        unfold Vf
        rw [List.find?_eq_none.2 fun z hz => by simpa using Vf_neg.1 hv z hz]
      · simp [hq]
    have hU : rowT t (fun i => if i = y.1 then false else Uf (zs ++ [(x, y)]) i) = rowT t (Uf zs) := rowT_congr fun v _ => by
      rw [Uf_app]
      by_cases hq : v = y.1
      · subst hq
        rw [if_pos rfl]
        exact (Uf_f.2 fun z hz e => Vf_neg.1 hv z hz ((h.var z hz).2 e)).symm
      · rw [if_neg hq, if_neg hq]
    rw [hV, hU]
  · rw [hb, decide_eq_false hv, if_f]
    have hV : rowT t (Vf (zs ++ [(x, y)])) = rowT t (Vf zs) := rowT_congr fun v _ => by
      rw [Vf_app]
      by_cases hq : v = x.1
      · subst hq; simp [hv]
      · simp [hq]
    have hU : rowT t (Uf (zs ++ [(x, y)])) = rowT t (Uf zs) := rowT_congr fun v _ => by
      rw [Uf_app]
      by_cases hq : v = y.1
      · obtain ⟨z, hz, hz1, _⟩ := Vf_pos hv
        rw [if_pos hq, hq]
        have := (h.var z hz).1 hz1
        unfold Uf
        exact (List.any_eq_true.2 ⟨z, hz, by simp [this]⟩).symm
      · rw [if_neg hq]
    rw [hV, hU]
/-- Can a fact be the image of another one? -/
def fitB (t : Tsk) (sg : Nat → Nat → ByteArray) (zs : Zs) (x y : Pn) : Bool :=
  if Tf zs y.1 y.2 = true ∨ sg x.1 x.2 ≠ sg y.1 y.2 then false
  else if 0 ≤ Vf zs x.1 then decide (Vf zs x.1 = y.1) else !Uf zs y.1 && decide (szT t x.1 = szT t y.1)
theorem szT_get {v : Nat} (hok : TaskOk t) (h : v < t.vars.length) : t.vars[v]? = some (szT t v : Int) := by
  obtain ⟨n, hn⟩ := some_of_lt h
  have := hok.2.2.1 v n hn
  unfold szT
  rw [hn]
  simp
  omega
theorem fits_mk (hok : TaskOk t) (hx : InP t x) (hy : InP t y) : m_symmetry_finder_fits (mkF t sg zs s M fl) (fc x) (fc y) = some (fitB t sg zs x y) := by
  unfold m_symmetry_finder_fits
  simp only [mkF, swF, fc]
  have hvx : atI t.vars (x.1 : Int) = some (szT t x.1 : Int) := by rw [atI_eq, szT_get hok hx.1]
  have hvy : atI t.vars (y.1 : Int) = some (szT t y.1 : Int) := by rw [atI_eq, szT_get hok hy.1]
  rw [gridT_at _ hy.1, bnd_some, rm_at _ hy.2, bnd_some, gridT_at _ hx.1, bnd_some, rm_at _ hx.2, bnd_some, gridT_at _ hy.1, bnd_some, rm_at _ hy.2, bnd_some, rowT_at _ hx.1, bnd_some, rowT_at _ hy.1, bnd_some, hvx, bnd_some, hvy, bnd_some]
  unfold fitB
  cases hT : Tf zs y.1 y.2 with
  | true => simp [bnd_some]
  | false =>
    by_cases hs : sg x.1 x.2 = sg y.1 y.2
    · by_cases hv : 0 ≤ Vf zs x.1
      · by_cases he : Vf zs x.1 = (y.1 : Int) <;> simp [hs, hv, he, bnd_some]
      · cases hU : Uf zs y.1 with
        | true => simp [hs, hv, bnd_some]
        | false =>
          by_cases hz : szT t x.1 = szT t y.1
          · simp [hs, hv, hz, bnd_some]
          · have : ¬ ((szT t x.1 : Int) = (szT t y.1 : Int)) := by omega
            simp [hs, hv, hz, this, bnd_some]
    · simp [hs, bnd_some]
theorem fitB_nw (h : fitB t sg zs x y = true) (hd : ∀ z ∈ zs, z.1 ≠ x) (hv : ∀ z ∈ zs, ∀ z' ∈ zs, z.1.1 = z'.1.1 ↔ z.2.1 = z'.2.1) : Nw zs x y := by
  unfold fitB at h
  split at h
  · cases h
  · rename_i h1
    have hT : Tf zs y.1 y.2 = false := by simpa using fun e => h1 (.inl e)
    refine ⟨hd, Tf_f.1 hT, fun z hz => ?_⟩
    split at h
    · rename_i h2
      obtain ⟨z', hz', e1, e2⟩ := Vf_pos (by omega : ¬ Vf zs x.1 < 0)
      have h3 : Vf zs x.1 = (y.1 : Int) := by simpa using h
      have h4 : z'.2.1 = y.1 := by omega
      rw [← e1, ← h4]
      exact hv z hz z' hz'
    · rename_i h2
      have h3 : Uf zs y.1 = false := by
        cases hq : Uf zs y.1 with
        | true => rw [hq] at h; simp at h
        | false => rfl
      have h4 := Vf_neg.1 (by omega : Vf zs x.1 < 0) z hz
      have h5 := Uf_f.1 h3 z hz
      exact ⟨fun e => absurd e h4, fun e => absurd e h5⟩
end
end
end Go.Proofs.YtdhaelekmjgbmaaGreatDoor

/- Own text: what the proof of succgenKeeps_holds uses, part 2: rules, models and their proofs, plain laws. -/
import Derived.Test.YtfbcjknlihopcaaKpA
set_option linter.unusedVariables false
set_option linter.unusedSimpArgs false
namespace Go.Proofs.Ytfbcjknlihopcaa
open Go Go.RowKit
section
open Go Go.RowKit
attribute [local irreducible] ewp owp hwp hwq hws Ev Evg Fn retPost loud loudS Res1
def hasB (s : List Int) (x : Fct) : Bool := decide (0 ≤ x.var) && decide (s[x.var.toNat]? = some x.val)
def holdsB (f : List Fct) (s : List Int) : Bool := f.all (hasB s)
theorem holdsB_no {f : List Fct} {s : List Int} {k : Nat} {x : Fct} (hx : f[k]? = some x) (h : hasB s x = false) : holdsB f s = false := by
  unfold holdsB
  rw [List.all_eq_false]
  exact ⟨x, List.mem_of_getElem? hx, by simp [h]⟩
theorem holdsB_step {f : List Fct} {s : List Int} {k : Nat} {x : Fct} (hx : f[k]? = some x) (h : hasB s x = true) (hh : holdsB (f.take k) s = true) : holdsB (f.take (k + 1)) s = true := by
  unfold holdsB at *
  rw [List.take_add_one, hx, List.all_append, hh]
  simp [h]
theorem hasB_eq {s : List Int} {x : Fct} {j : Nat} {y : Int} (hj : x.var = (j : Int)) (hy : s[j]? = some y) : hasB s x = decide (y = x.val) := by
  unfold hasB
  rw [hj]; simp [hy]
theorem some_of_lt {α : Type} {l : List α} {k : Nat} (h : k < l.length) : ∃ x, l[k]? = some x := ⟨l[k], List.getElem?_eq_getElem h⟩
theorem lt_of_some {α : Type} {l : List α} {k : Nat} {x : α} (h : l[k]? = some x) : k < l.length := (List.getElem?_eq_some_iff.1 h).1
theorem baseHolds {w : World} {fv sv : Value} {f : List Fct} {s : List Int} (hf : V w fv f) (hs : V w sv s) :
    Fn Try.prog 42 [fv, sv] w fun v w' => v = .bool (bof (holdsB f s = true)) ∧ Ext w w' := by
  obtain ⟨Af, cf, rfl⟩ := hf.form
  obtain ⟨As, cs, rfl⟩ := hs.form
  have hfl := hf.len
  refine fn_enter Try.func42 rfl Try.ntmps42 rfl ?_
  ((repeat (first | refine e_go ?_ | refine ewp_true rfl ?_ | refine ewp_false rfl ?_)) <;> (refine o_as rfl rfl ?_ <;> (refine o_z ?_)) <;> (repeat (first | refine e_go ?_ | refine ewp_true rfl ?_ | refine ewp_false rfl ?_)) <;> (refine o_mv rfl rfl ?_ <;> refine o_ln rfl rfl ?_ <;> refine o_mv rfl rfl ?_ <;> (refine o_z ?_)) <;> (repeat (first | refine e_go ?_ | refine ewp_true rfl ?_ | refine ewp_false rfl ?_)))
  refine ewp_for (fun k : Nat => [(1, .slice As s.length cs), (7, .slice Af f.length cf), (8, .int .i64 (f.length : Int)), (9, .int .i64 (k : Int))])
    (fun k w' => Ext w w' ∧ k ≤ f.length ∧ holdsB (f.take k) s = true) (fun k => f.length - k) 0 ⟨Below.refl _ _, Nat.zero_le _, rfl⟩ ⟨rfl, rfl, rfl, rfl, trivial⟩ ?_
  rintro k w1 ⟨hE, hk, hh⟩
  by_cases hlt : k < f.length
  · obtain ⟨x, hx⟩ := some_of_lt hlt
    obtain ⟨b, o, ce, rfl, hb, _, hd1, rfl, hr1, hr2⟩ := (hf.ext hE).elem hx
    ((repeat (first | refine e_go ?_ | refine ewp_true rfl ?_ | refine ewp_false rfl ?_)) <;> ((first | refine o_ltT rfl rfl rfl ?_ | refine o_ltF rfl rfl rfl ?_) <;> (refine o_z ?_)) <;> (repeat (first | refine e_go ?_ | refine ewp_true rfl ?_ | refine ewp_false rfl ?_)) <;> (refine o_ia rfl rfl rfl ?_ <;> refine o_la rfl rfl ?_) <;> (repeat (first | refine e_go ?_ | refine ewp_true rfl ?_ | refine ewp_false rfl ?_)))
    refine owp_local rfl rfl rfl (by simp [Value.cells, Value.oneCell']) fun w3 hN => ?_
    have hb1 := hN.blk
    have hE3 : Ext w w3 := hE.trans' hN.ext
    ((refine o_z ?_))
    repeat (first | refine e_go ?_ | refine ewp_true rfl ?_ | refine ewp_false rfl ?_)
    refine ewp_draw (· = w3) [(0, true), (1, true), (2, true), (3, true), (4, true), (5, true), (6, true), (7, true), (8, true), (9, true), (10, true), (11, true), (12, true), (13, true), (14, true), (15, true), (16, true), (17, true), (18, true), (19, true)] (by kernel_rfl) rfl (by kernel_rfl) rfl ?_
    by_cases hv : 0 ≤ x.var ∧ x.var < s.length
    · obtain ⟨j, hj1⟩ := Int.eq_ofNat_of_zero_le hv.1
      obtain ⟨y, hy⟩ := some_of_lt (l := s) (k := j) (by omega)
      obtain ⟨b2, o2, ce2, rfl, _, _, hd2, rfl, _⟩ := (hs.ext hE3).elem hy
      have hq := hasB_eq (s := s) hj1 hy
      (refine h_fa rfl rfl rfl ?_ <;> refine h_ldA rfl rfl rfl ?_ <;> (first | refine h_ltT rfl rfl rfl rfl ?_ | refine h_ltF rfl rfl rfl rfl ?_ | refine h_ltS rfl rfl rfl rfl (fun _ => ?_) fun _ => ?_) <;> refine h_mv rfl rfl rfl ?_ <;> (refine hwp_o rfl ?_; (first | (refine hwq_yes rfl rfl ?_; refine g_fa rfl rfl ?_) | refine hwq_no rfl rfl rfl rfl ?_)) <;> (refine hwp_o rfl ?_; (first | (refine hwq_yes rfl rfl ?_; refine g_ldA rfl rfl ?_) | refine hwq_no rfl rfl rfl rfl ?_)) <;> (refine hwp_o rfl ?_; (first | (refine hwq_yes rfl rfl ?_; refine g_mv rfl rfl ?_) | refine hwq_no rfl rfl rfl rfl ?_)) <;> (refine hwp_o rfl ?_; (first | (refine hwq_yes rfl rfl ?_; refine g_ln rfl rfl ?_) | refine hwq_no rfl rfl rfl rfl ?_)) <;> (refine hwp_o rfl ?_; (first | (refine hwq_yes rfl rfl ?_; (first | refine hwq_dT (fun _ _ => ev_geq rfl rfl) rfl (by omega) ?_ | refine hwq_dF (fun _ _ => ev_geq rfl rfl) rfl (by omega) ?_ | refine hwq_split (fun _ _ => ev_geq rfl rfl) rfl (fun _ => ?_) (fun _ => ?_))) | refine hwq_no rfl rfl rfl rfl ?_)) <;> (first | refine h_pt rfl rfl rfl rfl ?_ | refine h_pf rfl rfl rfl rfl ?_) <;> refine h_mv rfl rfl rfl ?_ <;> (refine hwp_o rfl ?_; (first | (refine hwq_yes rfl rfl ?_; refine g_mv rfl rfl ?_) | refine hwq_no rfl rfl rfl rfl ?_)) <;> (refine hwp_o rfl ?_; (first | (refine hwq_yes rfl rfl ?_; refine g_fa rfl rfl ?_) | refine hwq_no rfl rfl rfl rfl ?_)) <;> (refine hwp_o rfl ?_; (first | (refine hwq_yes rfl rfl ?_; refine g_ldA rfl rfl ?_) | refine hwq_no rfl rfl rfl rfl ?_)) <;> (refine hwp_o rfl ?_; (first | (refine hwq_yes rfl rfl ?_; refine g_ia rfl rfl rfl ?_) | refine hwq_no rfl rfl rfl rfl ?_)) <;> (refine hwp_o rfl ?_; (first | (refine hwq_yes rfl rfl ?_; refine g_ldA rfl rfl ?_) | refine hwq_no rfl rfl rfl rfl ?_)) <;> (refine hwp_o rfl ?_; (first | (refine hwq_yes rfl rfl ?_; refine g_fa rfl rfl ?_) | refine hwq_no rfl rfl rfl rfl ?_)) <;> (refine hwp_o rfl ?_; (first | (refine hwq_yes rfl rfl ?_; refine g_ldA rfl rfl ?_) | refine hwq_no rfl rfl rfl rfl ?_)) <;> (refine hwp_o rfl ?_; (first | (refine hwq_yes rfl rfl ?_; (first | refine hwq_dT (fun _ _ => ev_ne rfl rfl) rfl (by omega) ?_ | refine hwq_dF (fun _ _ => ev_ne rfl rfl) rfl (by omega) ?_ | refine hwq_split (fun _ _ => ev_ne rfl rfl) rfl (fun _ => ?_) (fun _ => ?_))) | refine hwq_no rfl rfl rfl rfl ?_)) <;> (first | refine h_pt rfl rfl rfl rfl ?_ | refine h_pf rfl rfl rfl rfl ?_) <;> (refine h_z ?_)) <;> (repeat (first | refine e_go ?_ | refine ewp_true rfl ?_ | refine ewp_false rfl ?_))
      · ((repeat (first | refine e_go ?_ | refine ewp_true rfl ?_ | refine ewp_false rfl ?_)) <;> (refine o_as rfl rfl ?_ <;> (refine o_z ?_)) <;> (repeat (first | refine e_go ?_ | refine ewp_true rfl ?_ | refine ewp_false rfl ?_)))
        refine ret1 rfl rfl ⟨?_, hE3⟩
        rw [holdsB_no hx (by rw [hq]; simpa using ‹_›), bof_b]
      · ((first | refine o_ic rfl rfl ?_ | refine o_ad rfl rfl rfl ?_) <;> refine o_mv rfl rfl ?_ <;> (refine o_z ?_))
        exact ⟨k + 1, ⟨rfl, rfl, rfl, rfl, trivial⟩, ⟨hE3, by omega, holdsB_step hx (by rw [hq]; simp; omega) hh⟩, by omega⟩
    · have hq : hasB s x = false := by
        unfold hasB
        by_cases h0 : 0 ≤ x.var
        · have : s.length ≤ x.var.toNat := by omega
          simp [List.getElem?_eq_none this]
        · simp [h0]
      (refine h_fa rfl rfl rfl ?_ <;> refine h_ldA rfl rfl rfl ?_ <;> (first | refine h_ltT rfl rfl rfl rfl ?_ | refine h_ltF rfl rfl rfl rfl ?_ | refine h_ltS rfl rfl rfl rfl (fun _ => ?_) fun _ => ?_) <;> refine h_mv rfl rfl rfl ?_ <;> (refine hwp_o rfl ?_; (first | (refine hwq_yes rfl rfl ?_; refine g_fa rfl rfl ?_) | refine hwq_no rfl rfl rfl rfl ?_)) <;> (refine hwp_o rfl ?_; (first | (refine hwq_yes rfl rfl ?_; refine g_ldA rfl rfl ?_) | refine hwq_no rfl rfl rfl rfl ?_)) <;> (refine hwp_o rfl ?_; (first | (refine hwq_yes rfl rfl ?_; refine g_mv rfl rfl ?_) | refine hwq_no rfl rfl rfl rfl ?_)) <;> (refine hwp_o rfl ?_; (first | (refine hwq_yes rfl rfl ?_; refine g_ln rfl rfl ?_) | refine hwq_no rfl rfl rfl rfl ?_)) <;> (refine hwp_o rfl ?_; (first | (refine hwq_yes rfl rfl ?_; (first | refine hwq_dT (fun _ _ => ev_geq rfl rfl) rfl (by omega) ?_ | refine hwq_dF (fun _ _ => ev_geq rfl rfl) rfl (by omega) ?_ | refine hwq_split (fun _ _ => ev_geq rfl rfl) rfl (fun _ => ?_) (fun _ => ?_))) | refine hwq_no rfl rfl rfl rfl ?_)) <;> (first | refine h_pt rfl rfl rfl rfl ?_ | refine h_pf rfl rfl rfl rfl ?_) <;> refine h_mv rfl rfl rfl ?_ <;> (refine hwp_o rfl ?_; (first | (refine hwq_yes rfl rfl ?_; refine g_mv rfl rfl ?_) | refine hwq_no rfl rfl rfl rfl ?_)) <;> (refine hwp_o rfl ?_; (first | (refine hwq_yes rfl rfl ?_; refine g_fa rfl rfl ?_) | refine hwq_no rfl rfl rfl rfl ?_)) <;> (refine hwp_o rfl ?_; (first | (refine hwq_yes rfl rfl ?_; refine g_ldA rfl rfl ?_) | refine hwq_no rfl rfl rfl rfl ?_)) <;> (refine hwp_o rfl ?_; (first | (refine hwq_yes rfl rfl ?_; refine g_ia rfl rfl rfl ?_) | refine hwq_no rfl rfl rfl rfl ?_)) <;> (refine hwp_o rfl ?_; (first | (refine hwq_yes rfl rfl ?_; refine g_ldA rfl rfl ?_) | refine hwq_no rfl rfl rfl rfl ?_)) <;> (refine hwp_o rfl ?_; (first | (refine hwq_yes rfl rfl ?_; refine g_fa rfl rfl ?_) | refine hwq_no rfl rfl rfl rfl ?_)) <;> (refine hwp_o rfl ?_; (first | (refine hwq_yes rfl rfl ?_; refine g_ldA rfl rfl ?_) | refine hwq_no rfl rfl rfl rfl ?_)) <;> (refine hwp_o rfl ?_; (first | (refine hwq_yes rfl rfl ?_; (first | refine hwq_dT (fun _ _ => ev_ne rfl rfl) rfl (by omega) ?_ | refine hwq_dF (fun _ _ => ev_ne rfl rfl) rfl (by omega) ?_ | refine hwq_split (fun _ _ => ev_ne rfl rfl) rfl (fun _ => ?_) (fun _ => ?_))) | refine hwq_no rfl rfl rfl rfl ?_)) <;> (first | refine h_pt rfl rfl rfl rfl ?_ | refine h_pf rfl rfl rfl rfl ?_) <;> (refine h_z ?_)) <;> (repeat (first | refine e_go ?_ | refine ewp_true rfl ?_ | refine ewp_false rfl ?_))
      all_goals
        ((repeat (first | refine e_go ?_ | refine ewp_true rfl ?_ | refine ewp_false rfl ?_)) <;> (refine o_as rfl rfl ?_ <;> (refine o_z ?_)) <;> (repeat (first | refine e_go ?_ | refine ewp_true rfl ?_ | refine ewp_false rfl ?_)))
        refine ret1 rfl rfl ⟨?_, hE3⟩
        rw [holdsB_no hx hq, bof_b]
  · ((repeat (first | refine e_go ?_ | refine ewp_true rfl ?_ | refine ewp_false rfl ?_)) <;> ((first | refine o_ltT rfl rfl rfl ?_ | refine o_ltF rfl rfl rfl ?_) <;> (refine o_z ?_)) <;> (repeat (first | refine e_go ?_ | refine ewp_true rfl ?_ | refine ewp_false rfl ?_)) <;> (refine o_as rfl rfl ?_ <;> (refine o_z ?_)) <;> (repeat (first | refine e_go ?_ | refine ewp_true rfl ?_ | refine ewp_false rfl ?_)))
    refine ret1 rfl rfl ⟨?_, hE⟩
    rw [List.take_of_length_le (by omega)] at hh
    rw [hh, bof_b]
theorem taskHolds {w : World} {fv sv : Value} {f : List Fct} {s : List Int} (hf : V w fv f) (hs : V w sv s) :
    Fn Try.prog 35 [fv, sv] w fun v w' => v = .bool (bof (holdsB f s = true)) ∧ Ext w w' := by
  obtain ⟨Af, cf, rfl⟩ := hf.form
  obtain ⟨As, cs, rfl⟩ := hs.form
  have hfl := hf.len
  refine fn_enter Try.func35 rfl Try.ntmps35 rfl ?_
  ((repeat (first | refine e_go ?_ | refine ewp_true rfl ?_ | refine ewp_false rfl ?_)) <;> (refine o_as rfl rfl ?_ <;> (refine o_z ?_)) <;> (repeat (first | refine e_go ?_ | refine ewp_true rfl ?_ | refine ewp_false rfl ?_)) <;> (refine o_mv rfl rfl ?_ <;> refine o_ln rfl rfl ?_ <;> refine o_mv rfl rfl ?_ <;> (refine o_z ?_)) <;> (repeat (first | refine e_go ?_ | refine ewp_true rfl ?_ | refine ewp_false rfl ?_)))
  refine ewp_for (fun k : Nat => [(1, .slice As s.length cs), (7, .slice Af f.length cf), (8, .int .i64 (f.length : Int)), (9, .int .i64 (k : Int))])
    (fun k w' => Ext w w' ∧ k ≤ f.length ∧ holdsB (f.take k) s = true) (fun k => f.length - k) 0 ⟨Below.refl _ _, Nat.zero_le _, rfl⟩ ⟨rfl, rfl, rfl, rfl, trivial⟩ ?_
  rintro k w1 ⟨hE, hk, hh⟩
  by_cases hlt : k < f.length
  · obtain ⟨x, hx⟩ := some_of_lt hlt
    obtain ⟨b, o, ce, rfl, hb, _, hd1, rfl, hr1, hr2⟩ := (hf.ext hE).elem hx
    ((repeat (first | refine e_go ?_ | refine ewp_true rfl ?_ | refine ewp_false rfl ?_)) <;> ((first | refine o_ltT rfl rfl rfl ?_ | refine o_ltF rfl rfl rfl ?_) <;> (refine o_z ?_)) <;> (repeat (first | refine e_go ?_ | refine ewp_true rfl ?_ | refine ewp_false rfl ?_)) <;> (refine o_ia rfl rfl rfl ?_ <;> refine o_la rfl rfl ?_) <;> (repeat (first | refine e_go ?_ | refine ewp_true rfl ?_ | refine ewp_false rfl ?_)))
    refine owp_local rfl rfl rfl (by simp [Value.cells, Value.oneCell']) fun w3 hN => ?_
    have hb1 := hN.blk
    have hE3 : Ext w w3 := hE.trans' hN.ext
    ((refine o_z ?_))
    repeat (first | refine e_go ?_ | refine ewp_true rfl ?_ | refine ewp_false rfl ?_)
    refine ewp_draw (· = w3) [(0, true), (1, true), (2, true), (3, true), (4, true), (5, true), (6, true), (7, true), (8, true), (9, true), (10, true), (11, true), (12, true), (13, true), (14, true), (15, true), (16, true), (17, true), (18, true), (19, true)] (by kernel_rfl) rfl (by kernel_rfl) rfl ?_
    by_cases hv : 0 ≤ x.var ∧ x.var < s.length
    · obtain ⟨j, hj1⟩ := Int.eq_ofNat_of_zero_le hv.1
      obtain ⟨y, hy⟩ := some_of_lt (l := s) (k := j) (by omega)
      obtain ⟨b2, o2, ce2, rfl, _, _, hd2, rfl, _⟩ := (hs.ext hE3).elem hy
      have hq := hasB_eq (s := s) hj1 hy
      (refine h_fa rfl rfl rfl ?_ <;> refine h_ldA rfl rfl rfl ?_ <;> (first | refine h_ltT rfl rfl rfl rfl ?_ | refine h_ltF rfl rfl rfl rfl ?_ | refine h_ltS rfl rfl rfl rfl (fun _ => ?_) fun _ => ?_) <;> refine h_mv rfl rfl rfl ?_ <;> (refine hwp_o rfl ?_; (first | (refine hwq_yes rfl rfl ?_; refine g_fa rfl rfl ?_) | refine hwq_no rfl rfl rfl rfl ?_)) <;> (refine hwp_o rfl ?_; (first | (refine hwq_yes rfl rfl ?_; refine g_ldA rfl rfl ?_) | refine hwq_no rfl rfl rfl rfl ?_)) <;> (refine hwp_o rfl ?_; (first | (refine hwq_yes rfl rfl ?_; refine g_mv rfl rfl ?_) | refine hwq_no rfl rfl rfl rfl ?_)) <;> (refine hwp_o rfl ?_; (first | (refine hwq_yes rfl rfl ?_; refine g_ln rfl rfl ?_) | refine hwq_no rfl rfl rfl rfl ?_)) <;> (refine hwp_o rfl ?_; (first | (refine hwq_yes rfl rfl ?_; (first | refine hwq_dT (fun _ _ => ev_geq rfl rfl) rfl (by omega) ?_ | refine hwq_dF (fun _ _ => ev_geq rfl rfl) rfl (by omega) ?_ | refine hwq_split (fun _ _ => ev_geq rfl rfl) rfl (fun _ => ?_) (fun _ => ?_))) | refine hwq_no rfl rfl rfl rfl ?_)) <;> (first | refine h_pt rfl rfl rfl rfl ?_ | refine h_pf rfl rfl rfl rfl ?_) <;> refine h_mv rfl rfl rfl ?_ <;> (refine hwp_o rfl ?_; (first | (refine hwq_yes rfl rfl ?_; refine g_mv rfl rfl ?_) | refine hwq_no rfl rfl rfl rfl ?_)) <;> (refine hwp_o rfl ?_; (first | (refine hwq_yes rfl rfl ?_; refine g_fa rfl rfl ?_) | refine hwq_no rfl rfl rfl rfl ?_)) <;> (refine hwp_o rfl ?_; (first | (refine hwq_yes rfl rfl ?_; refine g_ldA rfl rfl ?_) | refine hwq_no rfl rfl rfl rfl ?_)) <;> (refine hwp_o rfl ?_; (first | (refine hwq_yes rfl rfl ?_; refine g_ia rfl rfl rfl ?_) | refine hwq_no rfl rfl rfl rfl ?_)) <;> (refine hwp_o rfl ?_; (first | (refine hwq_yes rfl rfl ?_; refine g_ldA rfl rfl ?_) | refine hwq_no rfl rfl rfl rfl ?_)) <;> (refine hwp_o rfl ?_; (first | (refine hwq_yes rfl rfl ?_; refine g_fa rfl rfl ?_) | refine hwq_no rfl rfl rfl rfl ?_)) <;> (refine hwp_o rfl ?_; (first | (refine hwq_yes rfl rfl ?_; refine g_ldA rfl rfl ?_) | refine hwq_no rfl rfl rfl rfl ?_)) <;> (refine hwp_o rfl ?_; (first | (refine hwq_yes rfl rfl ?_; (first | refine hwq_dT (fun _ _ => ev_ne rfl rfl) rfl (by omega) ?_ | refine hwq_dF (fun _ _ => ev_ne rfl rfl) rfl (by omega) ?_ | refine hwq_split (fun _ _ => ev_ne rfl rfl) rfl (fun _ => ?_) (fun _ => ?_))) | refine hwq_no rfl rfl rfl rfl ?_)) <;> (first | refine h_pt rfl rfl rfl rfl ?_ | refine h_pf rfl rfl rfl rfl ?_) <;> (refine h_z ?_)) <;> (repeat (first | refine e_go ?_ | refine ewp_true rfl ?_ | refine ewp_false rfl ?_))
      · ((repeat (first | refine e_go ?_ | refine ewp_true rfl ?_ | refine ewp_false rfl ?_)) <;> (refine o_as rfl rfl ?_ <;> (refine o_z ?_)) <;> (repeat (first | refine e_go ?_ | refine ewp_true rfl ?_ | refine ewp_false rfl ?_)))
        refine ret1 rfl rfl ⟨?_, hE3⟩
        rw [holdsB_no hx (by rw [hq]; simpa using ‹_›), bof_b]
      · ((first | refine o_ic rfl rfl ?_ | refine o_ad rfl rfl rfl ?_) <;> refine o_mv rfl rfl ?_ <;> (refine o_z ?_))
        exact ⟨k + 1, ⟨rfl, rfl, rfl, rfl, trivial⟩, ⟨hE3, by omega, holdsB_step hx (by rw [hq]; simp; omega) hh⟩, by omega⟩
    · have hq : hasB s x = false := by
        unfold hasB
        by_cases h0 : 0 ≤ x.var
        · have : s.length ≤ x.var.toNat := by omega
          simp [List.getElem?_eq_none this]
        · simp [h0]
      (refine h_fa rfl rfl rfl ?_ <;> refine h_ldA rfl rfl rfl ?_ <;> (first | refine h_ltT rfl rfl rfl rfl ?_ | refine h_ltF rfl rfl rfl rfl ?_ | refine h_ltS rfl rfl rfl rfl (fun _ => ?_) fun _ => ?_) <;> refine h_mv rfl rfl rfl ?_ <;> (refine hwp_o rfl ?_; (first | (refine hwq_yes rfl rfl ?_; refine g_fa rfl rfl ?_) | refine hwq_no rfl rfl rfl rfl ?_)) <;> (refine hwp_o rfl ?_; (first | (refine hwq_yes rfl rfl ?_; refine g_ldA rfl rfl ?_) | refine hwq_no rfl rfl rfl rfl ?_)) <;> (refine hwp_o rfl ?_; (first | (refine hwq_yes rfl rfl ?_; refine g_mv rfl rfl ?_) | refine hwq_no rfl rfl rfl rfl ?_)) <;> (refine hwp_o rfl ?_; (first | (refine hwq_yes rfl rfl ?_; refine g_ln rfl rfl ?_) | refine hwq_no rfl rfl rfl rfl ?_)) <;> (refine hwp_o rfl ?_; (first | (refine hwq_yes rfl rfl ?_; (first | refine hwq_dT (fun _ _ => ev_geq rfl rfl) rfl (by omega) ?_ | refine hwq_dF (fun _ _ => ev_geq rfl rfl) rfl (by omega) ?_ | refine hwq_split (fun _ _ => ev_geq rfl rfl) rfl (fun _ => ?_) (fun _ => ?_))) | refine hwq_no rfl rfl rfl rfl ?_)) <;> (first | refine h_pt rfl rfl rfl rfl ?_ | refine h_pf rfl rfl rfl rfl ?_) <;> refine h_mv rfl rfl rfl ?_ <;> (refine hwp_o rfl ?_; (first | (refine hwq_yes rfl rfl ?_; refine g_mv rfl rfl ?_) | refine hwq_no rfl rfl rfl rfl ?_)) <;> (refine hwp_o rfl ?_; (first | (refine hwq_yes rfl rfl ?_; refine g_fa rfl rfl ?_) | refine hwq_no rfl rfl rfl rfl ?_)) <;> (refine hwp_o rfl ?_; (first | (refine hwq_yes rfl rfl ?_; refine g_ldA rfl rfl ?_) | refine hwq_no rfl rfl rfl rfl ?_)) <;> (refine hwp_o rfl ?_; (first | (refine hwq_yes rfl rfl ?_; refine g_ia rfl rfl rfl ?_) | refine hwq_no rfl rfl rfl rfl ?_)) <;> (refine hwp_o rfl ?_; (first | (refine hwq_yes rfl rfl ?_; refine g_ldA rfl rfl ?_) | refine hwq_no rfl rfl rfl rfl ?_)) <;> (refine hwp_o rfl ?_; (first | (refine hwq_yes rfl rfl ?_; refine g_fa rfl rfl ?_) | refine hwq_no rfl rfl rfl rfl ?_)) <;> (refine hwp_o rfl ?_; (first | (refine hwq_yes rfl rfl ?_; refine g_ldA rfl rfl ?_) | refine hwq_no rfl rfl rfl rfl ?_)) <;> (refine hwp_o rfl ?_; (first | (refine hwq_yes rfl rfl ?_; (first | refine hwq_dT (fun _ _ => ev_ne rfl rfl) rfl (by omega) ?_ | refine hwq_dF (fun _ _ => ev_ne rfl rfl) rfl (by omega) ?_ | refine hwq_split (fun _ _ => ev_ne rfl rfl) rfl (fun _ => ?_) (fun _ => ?_))) | refine hwq_no rfl rfl rfl rfl ?_)) <;> (first | refine h_pt rfl rfl rfl rfl ?_ | refine h_pf rfl rfl rfl rfl ?_) <;> (refine h_z ?_)) <;> (repeat (first | refine e_go ?_ | refine ewp_true rfl ?_ | refine ewp_false rfl ?_))
      all_goals
        ((repeat (first | refine e_go ?_ | refine ewp_true rfl ?_ | refine ewp_false rfl ?_)) <;> (refine o_as rfl rfl ?_ <;> (refine o_z ?_)) <;> (repeat (first | refine e_go ?_ | refine ewp_true rfl ?_ | refine ewp_false rfl ?_)))
        refine ret1 rfl rfl ⟨?_, hE3⟩
        rw [holdsB_no hx hq, bof_b]
  · ((repeat (first | refine e_go ?_ | refine ewp_true rfl ?_ | refine ewp_false rfl ?_)) <;> ((first | refine o_ltT rfl rfl rfl ?_ | refine o_ltF rfl rfl rfl ?_) <;> (refine o_z ?_)) <;> (repeat (first | refine e_go ?_ | refine ewp_true rfl ?_ | refine ewp_false rfl ?_)) <;> (refine o_as rfl rfl ?_ <;> (refine o_z ?_)) <;> (repeat (first | refine e_go ?_ | refine ewp_true rfl ?_ | refine ewp_false rfl ?_)))
    refine ret1 rfl rfl ⟨?_, hE⟩
    rw [List.take_of_length_le (by omega)] at hh
    rw [hh, bof_b]
theorem baseInts {w : World} {av bv : Value} {a b : List Int} (ha : V w av a) (hb : V w bv b) :
    Fn Try.prog 17 [av, bv] w fun v w' => v = .bool (bof (a = b)) ∧ Ext w w' := by
  obtain ⟨A, ca, rfl⟩ := ha.form
  obtain ⟨B, cb, rfl⟩ := hb.form
  have hal := ha.len
  refine fn_enter Try.func17 rfl Try.ntmps17 rfl ?_
  by_cases hl : a.length = b.length
  · ((repeat (first | refine e_go ?_ | refine ewp_true rfl ?_ | refine ewp_false rfl ?_)) <;> (refine o_as rfl rfl ?_ <;> (refine o_z ?_)) <;> (repeat (first | refine e_go ?_ | refine ewp_true rfl ?_ | refine ewp_false rfl ?_)) <;> (refine o_mv rfl rfl ?_ <;> refine o_ln rfl rfl ?_ <;> refine o_mv rfl rfl ?_ <;> refine o_ln rfl rfl ?_ <;> (first | refine o_neT rfl rfl rfl ?_ | refine o_neF rfl rfl rfl ?_) <;> (refine o_z ?_)) <;> (repeat (first | refine e_go ?_ | refine ewp_true rfl ?_ | refine ewp_false rfl ?_)) <;> (refine o_mv rfl rfl ?_ <;> refine o_ln rfl rfl ?_ <;> refine o_mv rfl rfl ?_ <;> (refine o_z ?_)) <;> (repeat (first | refine e_go ?_ | refine ewp_true rfl ?_ | refine ewp_false rfl ?_)))
    refine ewp_for (fun k : Nat => [(0, .slice A a.length ca), (1, .slice B b.length cb), (12, .int .i64 (a.length : Int)), (13, .int .i64 (k : Int))])
      (fun k w' => w' = w ∧ k ≤ a.length ∧ a.take k = b.take k) (fun k => a.length - k) 0 ⟨rfl, Nat.zero_le _, rfl⟩ ⟨rfl, rfl, rfl, rfl, trivial⟩ ?_
    rintro k _ ⟨rfl, hk, hh⟩
    by_cases hlt : k < a.length
    · obtain ⟨x, hx⟩ := some_of_lt hlt
      obtain ⟨y, hy⟩ := some_of_lt (l := b) (k := k) (by omega)
      obtain ⟨b1, o1, ce, rfl, _, _, hd1, rfl, _⟩ := ha.elem hx
      obtain ⟨b2, o2, ce, rfl, _, _, hd2, rfl, _⟩ := hb.elem hy
      ((repeat (first | refine e_go ?_ | refine ewp_true rfl ?_ | refine ewp_false rfl ?_)) <;> ((first | refine o_ltT rfl rfl rfl ?_ | refine o_ltF rfl rfl rfl ?_) <;> (refine o_z ?_)) <;> (repeat (first | refine e_go ?_ | refine ewp_true rfl ?_ | refine ewp_false rfl ?_)) <;> (refine o_mv rfl rfl ?_ <;> refine o_as rfl rfl ?_ <;> (refine o_z ?_)) <;> (repeat (first | refine e_go ?_ | refine ewp_true rfl ?_ | refine ewp_false rfl ?_)))
      refine ewp_draw (· = _) [(0, true), (1, true), (2, true), (3, true), (4, true), (5, true), (6, true), (7, true), (8, true)] (by kernel_rfl) rfl (by kernel_rfl) rfl ?_
      (refine h_mv rfl rfl rfl ?_ <;> refine h_mv rfl rfl rfl ?_ <;> refine h_ia rfl rfl rfl rfl ?_ <;> refine h_ldA rfl rfl rfl ?_ <;> refine h_mv rfl rfl rfl ?_ <;> refine h_mv rfl rfl rfl ?_ <;> refine h_ia rfl rfl rfl rfl ?_ <;> refine h_ldA rfl rfl rfl ?_ <;> (first | refine h_neT rfl rfl rfl rfl ?_ | refine h_neF rfl rfl rfl rfl ?_ | refine h_neS rfl rfl rfl rfl (fun _ => ?_) fun _ => ?_) <;> (refine h_z ?_)) <;> (repeat (first | refine e_go ?_ | refine ewp_true rfl ?_ | refine ewp_false rfl ?_))
      · ((repeat (first | refine e_go ?_ | refine ewp_true rfl ?_ | refine ewp_false rfl ?_)) <;> (refine o_as rfl rfl ?_ <;> (refine o_z ?_)) <;> (repeat (first | refine e_go ?_ | refine ewp_true rfl ?_ | refine ewp_false rfl ?_)))
        refine ret1 rfl rfl ⟨?_, Below.refl _ _⟩
        rw [bof_f]
        rintro rfl
        exact absurd (Option.some.inj (hx.symm.trans hy)) (by assumption)
      · ((first | refine o_ic rfl rfl ?_ | refine o_ad rfl rfl rfl ?_) <;> refine o_mv rfl rfl ?_ <;> (refine o_z ?_))
        exact ⟨k + 1, ⟨rfl, rfl, rfl, rfl, trivial⟩, ⟨rfl, by omega, by rw [List.take_add_one, List.take_add_one, hx, hy, hh, show x = y from by omega]⟩, by omega⟩
    · ((repeat (first | refine e_go ?_ | refine ewp_true rfl ?_ | refine ewp_false rfl ?_)) <;> ((first | refine o_ltT rfl rfl rfl ?_ | refine o_ltF rfl rfl rfl ?_) <;> (refine o_z ?_)) <;> (repeat (first | refine e_go ?_ | refine ewp_true rfl ?_ | refine ewp_false rfl ?_)) <;> (refine o_as rfl rfl ?_ <;> (refine o_z ?_)) <;> (repeat (first | refine e_go ?_ | refine ewp_true rfl ?_ | refine ewp_false rfl ?_)))
      refine ret1 rfl rfl ⟨?_, Below.refl _ _⟩
      rw [List.take_of_length_le (by omega), List.take_of_length_le (by omega)] at hh
      rw [bof_t hh]
  · ((repeat (first | refine e_go ?_ | refine ewp_true rfl ?_ | refine ewp_false rfl ?_)) <;> (refine o_as rfl rfl ?_ <;> (refine o_z ?_)) <;> (repeat (first | refine e_go ?_ | refine ewp_true rfl ?_ | refine ewp_false rfl ?_)) <;> (refine o_mv rfl rfl ?_ <;> refine o_ln rfl rfl ?_ <;> refine o_mv rfl rfl ?_ <;> refine o_ln rfl rfl ?_ <;> (first | refine o_neT rfl rfl rfl ?_ | refine o_neF rfl rfl rfl ?_) <;> (refine o_z ?_)) <;> (repeat (first | refine e_go ?_ | refine ewp_true rfl ?_ | refine ewp_false rfl ?_)) <;> (refine o_as rfl rfl ?_ <;> (refine o_z ?_)) <;> (repeat (first | refine e_go ?_ | refine ewp_true rfl ?_ | refine ewp_false rfl ?_)))
    refine ret1 rfl rfl ⟨?_, Below.refl _ _⟩
    rw [bof_f (fun h => hl (by rw [h]))]
/-- A state is proper. -/
def StateOk (vars s : List Int) : Prop := s.length = vars.length ∧ ∀ (i : Nat) x y, s[i]? = some x → vars[i]? = some y → 0 ≤ x ∧ x < y
theorem baseState {w : World} {vv sv : Value} {vars s : List Int} (ha : V w vv vars) (hb : V w sv s) :
    Fn Try.prog 26 [vv, sv] w fun v w' => v = .bool (bof (StateOk vars s)) ∧ Ext w w' := by
  obtain ⟨A, ca, rfl⟩ := ha.form
  obtain ⟨B, cb, rfl⟩ := hb.form
  have hal := hb.len
  refine fn_enter Try.func26 rfl Try.ntmps26 rfl ?_
  by_cases hl : s.length = vars.length
  · ((repeat (first | refine e_go ?_ | refine ewp_true rfl ?_ | refine ewp_false rfl ?_)) <;> (refine o_as rfl rfl ?_ <;> (refine o_z ?_)) <;> (repeat (first | refine e_go ?_ | refine ewp_true rfl ?_ | refine ewp_false rfl ?_)) <;> (refine o_mv rfl rfl ?_ <;> refine o_ln rfl rfl ?_ <;> refine o_mv rfl rfl ?_ <;> refine o_ln rfl rfl ?_ <;> (first | refine o_neT rfl rfl rfl ?_ | refine o_neF rfl rfl rfl ?_) <;> (refine o_z ?_)) <;> (repeat (first | refine e_go ?_ | refine ewp_true rfl ?_ | refine ewp_false rfl ?_)) <;> (refine o_mv rfl rfl ?_ <;> refine o_ln rfl rfl ?_ <;> refine o_mv rfl rfl ?_ <;> (refine o_z ?_)) <;> (repeat (first | refine e_go ?_ | refine ewp_true rfl ?_ | refine ewp_false rfl ?_)))
    refine ewp_for (fun k : Nat => [(0, .slice A vars.length ca), (1, .slice B s.length cb), (12, .int .i64 (s.length : Int)), (13, .int .i64 (k : Int))])
      (fun k w' => w' = w ∧ k ≤ s.length ∧ ∀ (i : Nat) x y, i < k → s[i]? = some x → vars[i]? = some y → 0 ≤ x ∧ x < y) (fun k => s.length - k) 0 ⟨rfl, Nat.zero_le _, fun i _ _ h => by omega⟩ ⟨rfl, rfl, rfl, rfl, trivial⟩ ?_
    rintro k _ ⟨rfl, hk, hh⟩
    by_cases hlt : k < s.length
    · obtain ⟨x, hx⟩ := some_of_lt hlt
      obtain ⟨y, hy⟩ := some_of_lt (l := vars) (k := k) (by omega)
      obtain ⟨b1, o1, ce, rfl, _, _, hd1, rfl, _⟩ := ha.elem hy
      obtain ⟨b2, o2, ce, rfl, _, _, hd2, rfl, _⟩ := hb.elem hx
      ((repeat (first | refine e_go ?_ | refine ewp_true rfl ?_ | refine ewp_false rfl ?_)) <;> ((first | refine o_ltT rfl rfl rfl ?_ | refine o_ltF rfl rfl rfl ?_) <;> (refine o_z ?_)) <;> (repeat (first | refine e_go ?_ | refine ewp_true rfl ?_ | refine ewp_false rfl ?_)) <;> (refine o_mv rfl rfl ?_ <;> refine o_as rfl rfl ?_ <;> (refine o_z ?_)) <;> (repeat (first | refine e_go ?_ | refine ewp_true rfl ?_ | refine ewp_false rfl ?_)))
      refine ewp_draw (· = _) [(0, true), (1, true), (2, true), (3, true), (4, true), (5, true), (6, true), (7, true), (8, true), (9, true), (10, true), (11, true), (12, true), (13, true), (14, true), (15, true)] (by kernel_rfl) rfl (by kernel_rfl) rfl ?_
      (refine h_mv rfl rfl rfl ?_ <;> refine h_mv rfl rfl rfl ?_ <;> refine h_ia rfl rfl rfl rfl ?_ <;> refine h_ldA rfl rfl rfl ?_ <;> (first | refine h_ltT rfl rfl rfl rfl ?_ | refine h_ltF rfl rfl rfl rfl ?_ | refine h_ltS rfl rfl rfl rfl (fun _ => ?_) fun _ => ?_) <;> refine h_mv rfl rfl rfl ?_ <;> (refine hwp_o rfl ?_; (first | (refine hwq_yes rfl rfl ?_; refine g_mv rfl rfl ?_) | refine hwq_no rfl rfl rfl rfl ?_)) <;> (refine hwp_o rfl ?_; (first | (refine hwq_yes rfl rfl ?_; refine g_mv rfl rfl ?_) | refine hwq_no rfl rfl rfl rfl ?_)) <;> (refine hwp_o rfl ?_; (first | (refine hwq_yes rfl rfl ?_; refine g_ia rfl rfl rfl ?_) | refine hwq_no rfl rfl rfl rfl ?_)) <;> (refine hwp_o rfl ?_; (first | (refine hwq_yes rfl rfl ?_; refine g_ldA rfl rfl ?_) | refine hwq_no rfl rfl rfl rfl ?_)) <;> (refine hwp_o rfl ?_; (first | (refine hwq_yes rfl rfl ?_; refine g_mv rfl rfl ?_) | refine hwq_no rfl rfl rfl rfl ?_)) <;> (refine hwp_o rfl ?_; (first | (refine hwq_yes rfl rfl ?_; refine g_mv rfl rfl ?_) | refine hwq_no rfl rfl rfl rfl ?_)) <;> (refine hwp_o rfl ?_; (first | (refine hwq_yes rfl rfl ?_; refine g_ia rfl rfl rfl ?_) | refine hwq_no rfl rfl rfl rfl ?_)) <;> (refine hwp_o rfl ?_; (first | (refine hwq_yes rfl rfl ?_; refine g_ldA rfl rfl ?_) | refine hwq_no rfl rfl rfl rfl ?_)) <;> (refine hwp_o rfl ?_; (first | (refine hwq_yes rfl rfl ?_; (first | refine hwq_dT (fun _ _ => ev_geq rfl rfl) rfl (by omega) ?_ | refine hwq_dF (fun _ _ => ev_geq rfl rfl) rfl (by omega) ?_ | refine hwq_split (fun _ _ => ev_geq rfl rfl) rfl (fun _ => ?_) (fun _ => ?_))) | refine hwq_no rfl rfl rfl rfl ?_)) <;> (first | refine h_pt rfl rfl rfl rfl ?_ | refine h_pf rfl rfl rfl rfl ?_) <;> (refine h_z ?_)) <;> (repeat (first | refine e_go ?_ | refine ewp_true rfl ?_ | refine ewp_false rfl ?_))
      case refine_2.refine_2 =>
        ((first | refine o_ic rfl rfl ?_ | refine o_ad rfl rfl rfl ?_) <;> refine o_mv rfl rfl ?_ <;> (refine o_z ?_))
        refine ⟨k + 1, ⟨rfl, rfl, rfl, rfl, trivial⟩, ⟨rfl, by omega, fun i x' y' hi h1 h2 => ?_⟩, by omega⟩
        by_cases he : i = k
        · subst he
          rw [hx] at h1; rw [hy] at h2
          injection h1 with h1; injection h2 with h2
          omega
        · exact hh i x' y' (by omega) h1 h2
      all_goals
        ((repeat (first | refine e_go ?_ | refine ewp_true rfl ?_ | refine ewp_false rfl ?_)) <;> (refine o_as rfl rfl ?_ <;> (refine o_z ?_)) <;> (repeat (first | refine e_go ?_ | refine ewp_true rfl ?_ | refine ewp_false rfl ?_)))
        refine ret1 rfl rfl ⟨?_, Below.refl _ _⟩
        rw [bof_f (fun h => by have := h.2 k x y hx hy; omega)]
    · ((repeat (first | refine e_go ?_ | refine ewp_true rfl ?_ | refine ewp_false rfl ?_)) <;> ((first | refine o_ltT rfl rfl rfl ?_ | refine o_ltF rfl rfl rfl ?_) <;> (refine o_z ?_)) <;> (repeat (first | refine e_go ?_ | refine ewp_true rfl ?_ | refine ewp_false rfl ?_)) <;> (refine o_as rfl rfl ?_ <;> (refine o_z ?_)) <;> (repeat (first | refine e_go ?_ | refine ewp_true rfl ?_ | refine ewp_false rfl ?_)))
      refine ret1 rfl rfl ⟨?_, Below.refl _ _⟩
      rw [bof_t ⟨hl, fun i x y h1 h2 => hh i x y (by have := lt_of_some h1; omega) h1 h2⟩]
  · ((repeat (first | refine e_go ?_ | refine ewp_true rfl ?_ | refine ewp_false rfl ?_)) <;> (refine o_as rfl rfl ?_ <;> (refine o_z ?_)) <;> (repeat (first | refine e_go ?_ | refine ewp_true rfl ?_ | refine ewp_false rfl ?_)) <;> (refine o_mv rfl rfl ?_ <;> refine o_ln rfl rfl ?_ <;> refine o_mv rfl rfl ?_ <;> refine o_ln rfl rfl ?_ <;> (first | refine o_neT rfl rfl rfl ?_ | refine o_neF rfl rfl rfl ?_) <;> (refine o_z ?_)) <;> (repeat (first | refine e_go ?_ | refine ewp_true rfl ?_ | refine ewp_false rfl ?_)) <;> (refine o_as rfl rfl ?_ <;> (refine o_z ?_)) <;> (repeat (first | refine e_go ?_ | refine ewp_true rfl ?_ | refine ewp_false rfl ?_)))
    refine ret1 rfl rfl ⟨?_, Below.refl _ _⟩
    rw [bof_f (fun h => hl h.1)]
end
section
open Go Go.RowKit
attribute [local irreducible] ewp owp hwp hwq hws Ev Evg Fn retPost loud loudS Res1
theorem taskProper {w : World} {vv sv : Value} {vars s : List Int} (ha : V w vv vars) (hb : V w sv s) :
    Fn Try.prog 38 [vv, sv] w fun v w' => v = .bool (bof (StateOk vars s)) ∧ Ext w w' := by
  obtain ⟨A, ca, rfl⟩ := ha.form
  obtain ⟨B, cb, rfl⟩ := hb.form
  have hal := hb.len
  refine fn_enter Try.func38 rfl Try.ntmps38 rfl ?_
  by_cases hl : s.length = vars.length
  · ((repeat (first | refine e_go ?_ | refine ewp_true rfl ?_ | refine ewp_false rfl ?_)) <;> (refine o_as rfl rfl ?_ <;> (refine o_z ?_)) <;> (repeat (first | refine e_go ?_ | refine ewp_true rfl ?_ | refine ewp_false rfl ?_)) <;> (refine o_mv rfl rfl ?_ <;> refine o_ln rfl rfl ?_ <;> refine o_mv rfl rfl ?_ <;> refine o_ln rfl rfl ?_ <;> (first | refine o_neT rfl rfl rfl ?_ | refine o_neF rfl rfl rfl ?_) <;> (refine o_z ?_)) <;> (repeat (first | refine e_go ?_ | refine ewp_true rfl ?_ | refine ewp_false rfl ?_)) <;> (refine o_mv rfl rfl ?_ <;> refine o_ln rfl rfl ?_ <;> refine o_mv rfl rfl ?_ <;> (refine o_z ?_)) <;> (repeat (first | refine e_go ?_ | refine ewp_true rfl ?_ | refine ewp_false rfl ?_)))
    refine ewp_for (fun k : Nat => [(0, .slice A vars.length ca), (12, .slice B s.length cb), (13, .int .i64 (s.length : Int)), (14, .int .i64 (k : Int))])
      (fun k w' => w' = w ∧ k ≤ s.length ∧ ∀ (i : Nat) x y, i < k → s[i]? = some x → vars[i]? = some y → 0 ≤ x ∧ x < y) (fun k => s.length - k) 0 ⟨rfl, Nat.zero_le _, fun i _ _ h => by omega⟩ ⟨rfl, rfl, rfl, rfl, trivial⟩ ?_
    rintro k _ ⟨rfl, hk, hh⟩
    by_cases hlt : k < s.length
    · obtain ⟨x, hx⟩ := some_of_lt hlt
      obtain ⟨y, hy⟩ := some_of_lt (l := vars) (k := k) (by omega)
      obtain ⟨b1, o1, ce, rfl, _, _, hd1, rfl, _⟩ := ha.elem hy
      obtain ⟨b2, o2, ce, rfl, _, _, hd2, rfl, _⟩ := hb.elem hx
      ((repeat (first | refine e_go ?_ | refine ewp_true rfl ?_ | refine ewp_false rfl ?_)) <;> ((first | refine o_ltT rfl rfl rfl ?_ | refine o_ltF rfl rfl rfl ?_) <;> (refine o_z ?_)) <;> (repeat (first | refine e_go ?_ | refine ewp_true rfl ?_ | refine ewp_false rfl ?_)) <;> (refine o_mv rfl rfl ?_ <;> refine o_ia rfl rfl rfl ?_ <;> refine o_ld rfl rfl ?_ <;> refine o_as rfl rfl ?_ <;> refine o_as rfl rfl ?_ <;> (refine o_z ?_)) <;> (repeat (first | refine e_go ?_ | refine ewp_true rfl ?_ | refine ewp_false rfl ?_)) <;> (refine o_mv rfl rfl ?_ <;> (first | refine o_ltT rfl rfl rfl ?_ | refine o_ltF rfl rfl rfl ?_ | refine o_ltS rfl rfl rfl (fun _ => ?_) fun _ => ?_) <;> refine o_mv rfl rfl ?_ <;> (first | (refine owp_yes rfl rfl ?_; refine o_mv rfl rfl ?_) | refine owp_no rfl rfl rfl rfl ?_) <;> (first | (refine owp_yes rfl rfl ?_; refine o_mv rfl rfl ?_) | refine owp_no rfl rfl rfl rfl ?_) <;> (first | (refine owp_yes rfl rfl ?_; refine o_mv rfl rfl ?_) | refine owp_no rfl rfl rfl rfl ?_) <;> (first | (refine owp_yes rfl rfl ?_; refine o_ia rfl rfl rfl ?_) | refine owp_no rfl rfl rfl rfl ?_) <;> (first | (refine owp_yes rfl rfl ?_; refine o_ld rfl rfl ?_) | refine owp_no rfl rfl rfl rfl ?_) <;> (first | (refine owp_yes rfl rfl ?_; (first | refine o_geT rfl rfl rfl ?_ | refine o_geF rfl rfl rfl ?_ | refine o_geS rfl rfl rfl (fun _ => ?_) fun _ => ?_)) | refine owp_no rfl rfl rfl rfl ?_) <;> (first | refine o_pt rfl rfl rfl ?_ | refine o_pf rfl rfl rfl ?_) <;> (refine o_z ?_)) <;> (repeat (first | refine e_go ?_ | refine ewp_true rfl ?_ | refine ewp_false rfl ?_)))
      case refine_2.refine_2 =>
        ((first | refine o_ic rfl rfl ?_ | refine o_ad rfl rfl rfl ?_) <;> refine o_mv rfl rfl ?_ <;> (refine o_z ?_))
        refine ⟨k + 1, ⟨rfl, rfl, rfl, rfl, trivial⟩, ⟨rfl, by omega, fun i x' y' hi h1 h2 => ?_⟩, by omega⟩
        by_cases he : i = k
        · subst he
          rw [hx] at h1; rw [hy] at h2
          injection h1 with h1; injection h2 with h2
          omega
        · exact hh i x' y' (by omega) h1 h2
      all_goals
        ((repeat (first | refine e_go ?_ | refine ewp_true rfl ?_ | refine ewp_false rfl ?_)) <;> (refine o_as rfl rfl ?_ <;> (refine o_z ?_)) <;> (repeat (first | refine e_go ?_ | refine ewp_true rfl ?_ | refine ewp_false rfl ?_)))
        refine ret1 rfl rfl ⟨?_, Below.refl _ _⟩
        rw [bof_f (fun h => by have := h.2 k x y hx hy; omega)]
    · ((repeat (first | refine e_go ?_ | refine ewp_true rfl ?_ | refine ewp_false rfl ?_)) <;> ((first | refine o_ltT rfl rfl rfl ?_ | refine o_ltF rfl rfl rfl ?_) <;> (refine o_z ?_)) <;> (repeat (first | refine e_go ?_ | refine ewp_true rfl ?_ | refine ewp_false rfl ?_)) <;> (refine o_as rfl rfl ?_ <;> (refine o_z ?_)) <;> (repeat (first | refine e_go ?_ | refine ewp_true rfl ?_ | refine ewp_false rfl ?_)))
      refine ret1 rfl rfl ⟨?_, Below.refl _ _⟩
      rw [bof_t ⟨hl, fun i x y h1 h2 => hh i x y (by have := lt_of_some h1; omega) h1 h2⟩]
  · ((repeat (first | refine e_go ?_ | refine ewp_true rfl ?_ | refine ewp_false rfl ?_)) <;> (refine o_as rfl rfl ?_ <;> (refine o_z ?_)) <;> (repeat (first | refine e_go ?_ | refine ewp_true rfl ?_ | refine ewp_false rfl ?_)) <;> (refine o_mv rfl rfl ?_ <;> refine o_ln rfl rfl ?_ <;> refine o_mv rfl rfl ?_ <;> refine o_ln rfl rfl ?_ <;> (first | refine o_neT rfl rfl rfl ?_ | refine o_neF rfl rfl rfl ?_) <;> (refine o_z ?_)) <;> (repeat (first | refine e_go ?_ | refine ewp_true rfl ?_ | refine ewp_false rfl ?_)) <;> (refine o_as rfl rfl ?_ <;> (refine o_z ?_)) <;> (repeat (first | refine e_go ?_ | refine ewp_true rfl ?_ | refine ewp_false rfl ?_)))
    refine ret1 rfl rfl ⟨?_, Below.refl _ _⟩
    rw [bof_f (fun h => hl h.1)]
/-- A fact is in range. -/
def FactOk (vars : List Int) (x : Fct) : Prop := 0 ≤ x.var ∧ 0 ≤ x.val ∧ ∃ y, vars[x.var.toNat]? = some y ∧ x.val < y
/-- A list of facts is proper: in range, and strictly ascending by variable. -/
def FactsOk (vars : List Int) (f : List Fct) : Prop := (∀ (i : Nat) x, f[i]? = some x → FactOk vars x) ∧ ∀ (i : Nat) x y, f[i]? = some x → f[i + 1]? = some y → x.var < y.var
def FactsTo (vars : List Int) (f : List Fct) (k : Nat) : Prop := (∀ (i : Nat) x, i < k → f[i]? = some x → FactOk vars x) ∧ ∀ (i : Nat) x y, i + 1 < k → f[i]? = some x → f[i + 1]? = some y → x.var < y.var
theorem FactsTo.step {vars : List Int} {f : List Fct} {k : Nat} {x : Fct} (h : FactsTo vars f k) (hx : f[k]? = some x) (ho : FactOk vars x) (hp : ∀ y, 0 < k → f[k - 1]? = some y → y.var < x.var) : FactsTo vars f (k + 1) := by
  refine ⟨fun i y hi hy => ?_, fun i y z hi hy hz => ?_⟩
  · by_cases he : i = k
    · subst he; rw [hx] at hy; injection hy with hy; exact hy ▸ ho
    · exact h.1 i y (by omega) hy
  · by_cases he : i + 1 = k
    · rw [he, hx] at hz; injection hz with hz; subst hz
      exact hp y (by omega) (by rw [show k - 1 = i from by omega]; exact hy)
    · exact h.2 i y z (by omega) hy hz
theorem FactsTo.done {vars : List Int} {f : List Fct} {k : Nat} (h : FactsTo vars f k) (hk : f.length ≤ k) : FactsOk vars f :=
  ⟨fun i x hx => h.1 i x (by have := lt_of_some hx; omega) hx, fun i x y hx hy => h.2 i x y (by have := lt_of_some hy; omega) hx hy⟩
theorem baseProper {w : World} {vv fv : Value} {vars : List Int} {f : List Fct} (hv : V w vv vars) (hf : V w fv f) :
    Fn Try.prog 12 [vv, fv] w fun v w' => v = .bool (bof (FactsOk vars f)) ∧ Ext w w' := by
  obtain ⟨A, ca, rfl⟩ := hv.form
  obtain ⟨B, cb, rfl⟩ := hf.form
  have hfl := hf.len
  refine fn_enter Try.func12 rfl Try.ntmps12 rfl ?_
  ((repeat (first | refine e_go ?_ | refine ewp_true rfl ?_ | refine ewp_false rfl ?_)) <;> (refine o_as rfl rfl ?_ <;> (refine o_z ?_)) <;> (repeat (first | refine e_go ?_ | refine ewp_true rfl ?_ | refine ewp_false rfl ?_)) <;> (refine o_mv rfl rfl ?_ <;> refine o_ln rfl rfl ?_ <;> refine o_mv rfl rfl ?_ <;> (refine o_z ?_)) <;> (repeat (first | refine e_go ?_ | refine ewp_true rfl ?_ | refine ewp_false rfl ?_)))
  refine ewp_for (fun k : Nat => [(0, .slice A vars.length ca), (1, .slice B f.length cb), (7, .slice B f.length cb), (8, .int .i64 (f.length : Int)), (9, .int .i64 (k : Int))])
    (fun k w' => Ext w w' ∧ k ≤ f.length ∧ FactsTo vars f k) (fun k => f.length - k) 0 ⟨Below.refl _ _, Nat.zero_le _, ⟨fun i _ h => by omega, fun i _ _ h => by omega⟩⟩ ⟨rfl, rfl, rfl, rfl, rfl, trivial⟩ ?_
  rintro k w1 ⟨hE, hk, hh⟩
  by_cases hlt : k < f.length
  · obtain ⟨x, hx⟩ := some_of_lt hlt
    obtain ⟨b, o, ce, rfl, hb, _, hd1, rfl, hr1, hr2⟩ := (hf.ext hE).elem hx
    ((repeat (first | refine e_go ?_ | refine ewp_true rfl ?_ | refine ewp_false rfl ?_)) <;> ((first | refine o_ltT rfl rfl rfl ?_ | refine o_ltF rfl rfl rfl ?_) <;> (refine o_z ?_)) <;> (repeat (first | refine e_go ?_ | refine ewp_true rfl ?_ | refine ewp_false rfl ?_)) <;> (refine o_mv rfl rfl ?_ <;> refine o_ia rfl rfl rfl ?_ <;> refine o_la rfl rfl ?_) <;> (repeat (first | refine e_go ?_ | refine ewp_true rfl ?_ | refine ewp_false rfl ?_)))
    refine owp_alloc rfl fun w2 hN => ?_
    (refine o_as rfl rfl ?_)
    refine owp_store rfl rfl hN.blk rfl (Nat.le_refl _) (by simp [Value.cells, Value.oneCell']) fun w3 hU => ?_
    replace hN := hN.upd hU
    have hb1 := hN.blk
    have hE3 : Ext w w3 := hE.trans' hN.ext
    ((refine o_z ?_))
    repeat (first | refine e_go ?_ | refine ewp_true rfl ?_ | refine ewp_false rfl ?_)
    refine ewp_draw (· = w3) [(0, true), (1, true), (2, true), (3, true), (4, true), (5, true), (6, true), (7, true), (8, true), (9, true), (10, true), (11, true), (12, true), (13, true), (14, true), (15, true), (16, true), (17, true), (18, true), (19, true), (20, true), (21, true), (22, true), (23, true), (24, true), (25, true), (26, true), (27, true), (28, true), (29, true), (30, true), (31, true), (32, true), (33, true), (34, true), (35, true), (36, true), (37, true), (38, true), (39, true)] (by kernel_rfl) rfl (by kernel_rfl) rfl ?_
    by_cases hvr : 0 ≤ x.var ∧ x.var < vars.length
    · obtain ⟨j, hj1⟩ := Int.eq_ofNat_of_zero_le hvr.1
      obtain ⟨y, hy⟩ := some_of_lt (l := vars) (k := j) (by omega)
      obtain ⟨b2, o2, ce2, rfl, _, _, hd2, rfl, _⟩ := (hv.ext hE3).elem hy
      have hjy : vars[x.var.toNat]? = some y := by rw [hj1]; simpa using hy
      have hok : 0 ≤ x.val → x.val < y → FactOk vars x := fun h1 h2 => ⟨hvr.1, h1, y, hjy, h2⟩
      have hno : ¬ (0 ≤ x.val ∧ x.val < y) → ¬ FactsOk vars f := fun h1 h2 => h1 (by
        obtain ⟨_, h3, y', h4, h5⟩ := h2.1 k x hx
        rw [hjy] at h4; injection h4 with h4; subst h4; exact ⟨h3, h5⟩)
      by_cases h0 : 0 < k
      · obtain ⟨z, hz⟩ := some_of_lt (l := f) (k := k - 1) (by omega)
        obtain ⟨b3, o3, ce3, he3, _, _, hd3, rfl, _⟩ := (hf.ext hE3).elem hz
        injection he3 with he3
        injection he3 with he3 he4
        subst he3; subst he4
        have hj2 : (k : Int) - 1 = ((k - 1 : Nat) : Int) := by omega
        have hno2 : ¬ z.var < x.var → ¬ FactsOk vars f := fun h1 h2 => h1 (h2.2 (k - 1) z x hz (by rw [show k - 1 + 1 = k from by omega]; exact hx))
        (refine h_fa rfl rfl rfl ?_ <;> refine h_ldA rfl rfl rfl ?_ <;> (first | refine h_ltT rfl rfl rfl rfl ?_ | refine h_ltF rfl rfl rfl rfl ?_ | refine h_ltS rfl rfl rfl rfl (fun _ => ?_) fun _ => ?_) <;> refine h_mv rfl rfl rfl ?_ <;> (refine hwp_o rfl ?_; (first | (refine hwq_yes rfl rfl ?_; refine g_fa rfl rfl ?_) | refine hwq_no rfl rfl rfl rfl ?_)) <;> (refine hwp_o rfl ?_; (first | (refine hwq_yes rfl rfl ?_; refine g_ldA rfl rfl ?_) | refine hwq_no rfl rfl rfl rfl ?_)) <;> (refine hwp_o rfl ?_; (first | (refine hwq_yes rfl rfl ?_; refine g_mv rfl rfl ?_) | refine hwq_no rfl rfl rfl rfl ?_)) <;> (refine hwp_o rfl ?_; (first | (refine hwq_yes rfl rfl ?_; refine g_ln rfl rfl ?_) | refine hwq_no rfl rfl rfl rfl ?_)) <;> (refine hwp_o rfl ?_; (first | (refine hwq_yes rfl rfl ?_; (first | refine hwq_dT (fun _ _ => ev_geq rfl rfl) rfl (by omega) ?_ | refine hwq_dF (fun _ _ => ev_geq rfl rfl) rfl (by omega) ?_ | refine hwq_split (fun _ _ => ev_geq rfl rfl) rfl (fun _ => ?_) (fun _ => ?_))) | refine hwq_no rfl rfl rfl rfl ?_)) <;> (first | refine h_pt rfl rfl rfl rfl ?_ | refine h_pf rfl rfl rfl rfl ?_) <;> refine h_mv rfl rfl rfl ?_ <;> (refine hwp_o rfl ?_; (first | (refine hwq_yes rfl rfl ?_; refine g_fa rfl rfl ?_) | refine hwq_no rfl rfl rfl rfl ?_)) <;> (refine hwp_o rfl ?_; (first | (refine hwq_yes rfl rfl ?_; refine g_ldA rfl rfl ?_) | refine hwq_no rfl rfl rfl rfl ?_)) <;> (refine hwp_o rfl ?_; (first | (refine hwq_yes rfl rfl ?_; (first | refine hwq_dT (fun _ _ => ev_lss rfl rfl) rfl (by omega) ?_ | refine hwq_dF (fun _ _ => ev_lss rfl rfl) rfl (by omega) ?_ | refine hwq_split (fun _ _ => ev_lss rfl rfl) rfl (fun _ => ?_) (fun _ => ?_))) | refine hwq_no rfl rfl rfl rfl ?_)) <;> (first | refine h_pt rfl rfl rfl rfl ?_ | refine h_pf rfl rfl rfl rfl ?_) <;> refine h_mv rfl rfl rfl ?_ <;> (refine hwp_o rfl ?_; (first | (refine hwq_yes rfl rfl ?_; refine g_fa rfl rfl ?_) | refine hwq_no rfl rfl rfl rfl ?_)) <;> (refine hwp_o rfl ?_; (first | (refine hwq_yes rfl rfl ?_; refine g_ldA rfl rfl ?_) | refine hwq_no rfl rfl rfl rfl ?_)) <;> (refine hwp_o rfl ?_; (first | (refine hwq_yes rfl rfl ?_; refine g_mv rfl rfl ?_) | refine hwq_no rfl rfl rfl rfl ?_)) <;> (refine hwp_o rfl ?_; (first | (refine hwq_yes rfl rfl ?_; refine g_fa rfl rfl ?_) | refine hwq_no rfl rfl rfl rfl ?_)) <;> (refine hwp_o rfl ?_; (first | (refine hwq_yes rfl rfl ?_; refine g_ldA rfl rfl ?_) | refine hwq_no rfl rfl rfl rfl ?_)) <;> (refine hwp_o rfl ?_; (first | (refine hwq_yes rfl rfl ?_; refine g_ia rfl rfl rfl ?_) | refine hwq_no rfl rfl rfl rfl ?_)) <;> (refine hwp_o rfl ?_; (first | (refine hwq_yes rfl rfl ?_; refine g_ldA rfl rfl ?_) | refine hwq_no rfl rfl rfl rfl ?_)) <;> (refine hwp_o rfl ?_; (first | (refine hwq_yes rfl rfl ?_; (first | refine hwq_dT (fun _ _ => ev_geq rfl rfl) rfl (by omega) ?_ | refine hwq_dF (fun _ _ => ev_geq rfl rfl) rfl (by omega) ?_ | refine hwq_split (fun _ _ => ev_geq rfl rfl) rfl (fun _ => ?_) (fun _ => ?_))) | refine hwq_no rfl rfl rfl rfl ?_)) <;> (first | refine h_pt rfl rfl rfl rfl ?_ | refine h_pf rfl rfl rfl rfl ?_) <;> refine h_mv rfl rfl rfl ?_ <;> (refine hwp_o rfl ?_; (first | (refine hwq_yes rfl rfl ?_; refine g_mv rfl rfl ?_) | refine hwq_no rfl rfl rfl rfl ?_)) <;> (refine hwp_o rfl ?_; (first | (refine hwq_yes rfl rfl ?_; (first | refine hwq_dT (fun _ _ => ev_gtr rfl rfl) rfl (by omega) ?_ | refine hwq_dF (fun _ _ => ev_gtr rfl rfl) rfl (by omega) ?_ | refine hwq_split (fun _ _ => ev_gtr rfl rfl) rfl (fun _ => ?_) (fun _ => ?_))) | refine hwq_no rfl rfl rfl rfl ?_)) <;> (refine hwp_o rfl ?_; (first | (refine hwq_yes rfl rfl ?_; refine g_mv rfl rfl ?_) | refine hwq_no rfl rfl rfl rfl ?_)) <;> (refine hwp_o rfl ?_; (first | (refine hwq_yes rfl rfl ?_; refine g_mv rfl rfl ?_) | refine hwq_no rfl rfl rfl rfl ?_)) <;> (refine hwp_o rfl ?_; (first | (refine hwq_yes rfl rfl ?_; refine g_mv rfl rfl ?_) | refine hwq_no rfl rfl rfl rfl ?_)) <;> (refine hwp_o rfl ?_; (first | (refine hwq_yes rfl rfl ?_; refine g_sb rfl rfl rfl ?_) | refine hwq_no rfl rfl rfl rfl ?_)) <;> (refine hwp_o rfl ?_; (first | (refine hwq_yes rfl rfl ?_; refine g_ia rfl rfl rfl ?_) | refine hwq_no rfl rfl rfl rfl ?_)) <;> (refine hwp_o rfl ?_; (first | (refine hwq_yes rfl rfl ?_; refine g_fa rfl rfl ?_) | refine hwq_no rfl rfl rfl rfl ?_)) <;> (refine hwp_o rfl ?_; (first | (refine hwq_yes rfl rfl ?_; refine g_ldA rfl rfl ?_) | refine hwq_no rfl rfl rfl rfl ?_)) <;> (refine hwp_o rfl ?_; (first | (refine hwq_yes rfl rfl ?_; refine g_fa rfl rfl ?_) | refine hwq_no rfl rfl rfl rfl ?_)) <;> (refine hwp_o rfl ?_; (first | (refine hwq_yes rfl rfl ?_; refine g_ldA rfl rfl ?_) | refine hwq_no rfl rfl rfl rfl ?_)) <;> (refine hwp_o rfl ?_; (first | (refine hwq_yes rfl rfl ?_; (first | refine hwq_dT (fun _ _ => ev_geq rfl rfl) rfl (by omega) ?_ | refine hwq_dF (fun _ _ => ev_geq rfl rfl) rfl (by omega) ?_ | refine hwq_split (fun _ _ => ev_geq rfl rfl) rfl (fun _ => ?_) (fun _ => ?_))) | refine hwq_no rfl rfl rfl rfl ?_)) <;> (refine hwp_o rfl ?_; (first | (refine hwq_yes rfl rfl ?_; (first | refine g_pt rfl rfl rfl ?_ | refine g_pf rfl rfl rfl ?_)) | refine hwq_no rfl rfl rfl rfl ?_)) <;> (first | refine h_pt rfl rfl rfl rfl ?_ | refine h_pf rfl rfl rfl rfl ?_) <;> (refine h_z ?_)) <;> (repeat (first | refine e_go ?_ | refine ewp_true rfl ?_ | refine ewp_false rfl ?_))
        all_goals first
          | (((first | refine o_ic rfl rfl ?_ | refine o_ad rfl rfl rfl ?_) <;> refine o_mv rfl rfl ?_ <;> (refine o_z ?_))
             exact ⟨k + 1, ⟨rfl, rfl, rfl, rfl, rfl, trivial⟩, ⟨hE3, by omega, hh.step hx (hok (by omega) (by omega)) (fun y' _ hy' => by rw [hz] at hy'; injection hy' with hy'; subst hy'; omega)⟩, by omega⟩)
          | (((repeat (first | refine e_go ?_ | refine ewp_true rfl ?_ | refine ewp_false rfl ?_)) <;> (refine o_as rfl rfl ?_ <;> (refine o_z ?_)) <;> (repeat (first | refine e_go ?_ | refine ewp_true rfl ?_ | refine ewp_false rfl ?_)))
             refine ret1 rfl rfl ⟨?_, hE3⟩
             first | rw [bof_f (hno (by omega))] | rw [bof_f (hno2 (by omega))])
      · (refine h_fa rfl rfl rfl ?_ <;> refine h_ldA rfl rfl rfl ?_ <;> (first | refine h_ltT rfl rfl rfl rfl ?_ | refine h_ltF rfl rfl rfl rfl ?_ | refine h_ltS rfl rfl rfl rfl (fun _ => ?_) fun _ => ?_) <;> refine h_mv rfl rfl rfl ?_ <;> (refine hwp_o rfl ?_; (first | (refine hwq_yes rfl rfl ?_; refine g_fa rfl rfl ?_) | refine hwq_no rfl rfl rfl rfl ?_)) <;> (refine hwp_o rfl ?_; (first | (refine hwq_yes rfl rfl ?_; refine g_ldA rfl rfl ?_) | refine hwq_no rfl rfl rfl rfl ?_)) <;> (refine hwp_o rfl ?_; (first | (refine hwq_yes rfl rfl ?_; refine g_mv rfl rfl ?_) | refine hwq_no rfl rfl rfl rfl ?_)) <;> (refine hwp_o rfl ?_; (first | (refine hwq_yes rfl rfl ?_; refine g_ln rfl rfl ?_) | refine hwq_no rfl rfl rfl rfl ?_)) <;> (refine hwp_o rfl ?_; (first | (refine hwq_yes rfl rfl ?_; (first | refine hwq_dT (fun _ _ => ev_geq rfl rfl) rfl (by omega) ?_ | refine hwq_dF (fun _ _ => ev_geq rfl rfl) rfl (by omega) ?_ | refine hwq_split (fun _ _ => ev_geq rfl rfl) rfl (fun _ => ?_) (fun _ => ?_))) | refine hwq_no rfl rfl rfl rfl ?_)) <;> (first | refine h_pt rfl rfl rfl rfl ?_ | refine h_pf rfl rfl rfl rfl ?_) <;> refine h_mv rfl rfl rfl ?_ <;> (refine hwp_o rfl ?_; (first | (refine hwq_yes rfl rfl ?_; refine g_fa rfl rfl ?_) | refine hwq_no rfl rfl rfl rfl ?_)) <;> (refine hwp_o rfl ?_; (first | (refine hwq_yes rfl rfl ?_; refine g_ldA rfl rfl ?_) | refine hwq_no rfl rfl rfl rfl ?_)) <;> (refine hwp_o rfl ?_; (first | (refine hwq_yes rfl rfl ?_; (first | refine hwq_dT (fun _ _ => ev_lss rfl rfl) rfl (by omega) ?_ | refine hwq_dF (fun _ _ => ev_lss rfl rfl) rfl (by omega) ?_ | refine hwq_split (fun _ _ => ev_lss rfl rfl) rfl (fun _ => ?_) (fun _ => ?_))) | refine hwq_no rfl rfl rfl rfl ?_)) <;> (first | refine h_pt rfl rfl rfl rfl ?_ | refine h_pf rfl rfl rfl rfl ?_) <;> refine h_mv rfl rfl rfl ?_ <;> (refine hwp_o rfl ?_; (first | (refine hwq_yes rfl rfl ?_; refine g_fa rfl rfl ?_) | refine hwq_no rfl rfl rfl rfl ?_)) <;> (refine hwp_o rfl ?_; (first | (refine hwq_yes rfl rfl ?_; refine g_ldA rfl rfl ?_) | refine hwq_no rfl rfl rfl rfl ?_)) <;> (refine hwp_o rfl ?_; (first | (refine hwq_yes rfl rfl ?_; refine g_mv rfl rfl ?_) | refine hwq_no rfl rfl rfl rfl ?_)) <;> (refine hwp_o rfl ?_; (first | (refine hwq_yes rfl rfl ?_; refine g_fa rfl rfl ?_) | refine hwq_no rfl rfl rfl rfl ?_)) <;> (refine hwp_o rfl ?_; (first | (refine hwq_yes rfl rfl ?_; refine g_ldA rfl rfl ?_) | refine hwq_no rfl rfl rfl rfl ?_)) <;> (refine hwp_o rfl ?_; (first | (refine hwq_yes rfl rfl ?_; refine g_ia rfl rfl rfl ?_) | refine hwq_no rfl rfl rfl rfl ?_)) <;> (refine hwp_o rfl ?_; (first | (refine hwq_yes rfl rfl ?_; refine g_ldA rfl rfl ?_) | refine hwq_no rfl rfl rfl rfl ?_)) <;> (refine hwp_o rfl ?_; (first | (refine hwq_yes rfl rfl ?_; (first | refine hwq_dT (fun _ _ => ev_geq rfl rfl) rfl (by omega) ?_ | refine hwq_dF (fun _ _ => ev_geq rfl rfl) rfl (by omega) ?_ | refine hwq_split (fun _ _ => ev_geq rfl rfl) rfl (fun _ => ?_) (fun _ => ?_))) | refine hwq_no rfl rfl rfl rfl ?_)) <;> (first | refine h_pt rfl rfl rfl rfl ?_ | refine h_pf rfl rfl rfl rfl ?_) <;> refine h_mv rfl rfl rfl ?_ <;> (refine hwp_o rfl ?_; (first | (refine hwq_yes rfl rfl ?_; refine g_mv rfl rfl ?_) | refine hwq_no rfl rfl rfl rfl ?_)) <;> (refine hwp_o rfl ?_; (first | (refine hwq_yes rfl rfl ?_; (first | refine hwq_dT (fun _ _ => ev_gtr rfl rfl) rfl (by omega) ?_ | refine hwq_dF (fun _ _ => ev_gtr rfl rfl) rfl (by omega) ?_ | refine hwq_split (fun _ _ => ev_gtr rfl rfl) rfl (fun _ => ?_) (fun _ => ?_))) | refine hwq_no rfl rfl rfl rfl ?_)) <;> (refine hwp_o rfl ?_; (first | (refine hwq_yes rfl rfl ?_; refine g_mv rfl rfl ?_) | refine hwq_no rfl rfl rfl rfl ?_)) <;> (refine hwp_o rfl ?_; (first | (refine hwq_yes rfl rfl ?_; refine g_mv rfl rfl ?_) | refine hwq_no rfl rfl rfl rfl ?_)) <;> (refine hwp_o rfl ?_; (first | (refine hwq_yes rfl rfl ?_; refine g_mv rfl rfl ?_) | refine hwq_no rfl rfl rfl rfl ?_)) <;> (refine hwp_o rfl ?_; (first | (refine hwq_yes rfl rfl ?_; refine g_sb rfl rfl rfl ?_) | refine hwq_no rfl rfl rfl rfl ?_)) <;> (refine hwp_o rfl ?_; (first | (refine hwq_yes rfl rfl ?_; refine g_ia rfl rfl rfl ?_) | refine hwq_no rfl rfl rfl rfl ?_)) <;> (refine hwp_o rfl ?_; (first | (refine hwq_yes rfl rfl ?_; refine g_fa rfl rfl ?_) | refine hwq_no rfl rfl rfl rfl ?_)) <;> (refine hwp_o rfl ?_; (first | (refine hwq_yes rfl rfl ?_; refine g_ldA rfl rfl ?_) | refine hwq_no rfl rfl rfl rfl ?_)) <;> (refine hwp_o rfl ?_; (first | (refine hwq_yes rfl rfl ?_; refine g_fa rfl rfl ?_) | refine hwq_no rfl rfl rfl rfl ?_)) <;> (refine hwp_o rfl ?_; (first | (refine hwq_yes rfl rfl ?_; refine g_ldA rfl rfl ?_) | refine hwq_no rfl rfl rfl rfl ?_)) <;> (refine hwp_o rfl ?_; (first | (refine hwq_yes rfl rfl ?_; (first | refine hwq_dT (fun _ _ => ev_geq rfl rfl) rfl (by omega) ?_ | refine hwq_dF (fun _ _ => ev_geq rfl rfl) rfl (by omega) ?_ | refine hwq_split (fun _ _ => ev_geq rfl rfl) rfl (fun _ => ?_) (fun _ => ?_))) | refine hwq_no rfl rfl rfl rfl ?_)) <;> (refine hwp_o rfl ?_; (first | (refine hwq_yes rfl rfl ?_; (first | refine g_pt rfl rfl rfl ?_ | refine g_pf rfl rfl rfl ?_)) | refine hwq_no rfl rfl rfl rfl ?_)) <;> (first | refine h_pt rfl rfl rfl rfl ?_ | refine h_pf rfl rfl rfl rfl ?_) <;> (refine h_z ?_)) <;> (repeat (first | refine e_go ?_ | refine ewp_true rfl ?_ | refine ewp_false rfl ?_))
        all_goals first
          | (((first | refine o_ic rfl rfl ?_ | refine o_ad rfl rfl rfl ?_) <;> refine o_mv rfl rfl ?_ <;> (refine o_z ?_))
             exact ⟨k + 1, ⟨rfl, rfl, rfl, rfl, rfl, trivial⟩, ⟨hE3, by omega, hh.step hx (hok (by omega) (by omega)) (fun y' _ hy' => by omega)⟩, by omega⟩)
          | (((repeat (first | refine e_go ?_ | refine ewp_true rfl ?_ | refine ewp_false rfl ?_)) <;> (refine o_as rfl rfl ?_ <;> (refine o_z ?_)) <;> (repeat (first | refine e_go ?_ | refine ewp_true rfl ?_ | refine ewp_false rfl ?_)))
             refine ret1 rfl rfl ⟨?_, hE3⟩
             rw [bof_f (hno (by omega))])
    · have hno : ¬ FactsOk vars f := fun h => by
        obtain ⟨h1, h2, y, h3, _⟩ := h.1 k x hx
        have := lt_of_some h3
        omega
      (refine h_fa rfl rfl rfl ?_ <;> refine h_ldA rfl rfl rfl ?_ <;> (first | refine h_ltT rfl rfl rfl rfl ?_ | refine h_ltF rfl rfl rfl rfl ?_ | refine h_ltS rfl rfl rfl rfl (fun _ => ?_) fun _ => ?_) <;> refine h_mv rfl rfl rfl ?_ <;> (refine hwp_o rfl ?_; (first | (refine hwq_yes rfl rfl ?_; refine g_fa rfl rfl ?_) | refine hwq_no rfl rfl rfl rfl ?_)) <;> (refine hwp_o rfl ?_; (first | (refine hwq_yes rfl rfl ?_; refine g_ldA rfl rfl ?_) | refine hwq_no rfl rfl rfl rfl ?_)) <;> (refine hwp_o rfl ?_; (first | (refine hwq_yes rfl rfl ?_; refine g_mv rfl rfl ?_) | refine hwq_no rfl rfl rfl rfl ?_)) <;> (refine hwp_o rfl ?_; (first | (refine hwq_yes rfl rfl ?_; refine g_ln rfl rfl ?_) | refine hwq_no rfl rfl rfl rfl ?_)) <;> (refine hwp_o rfl ?_; (first | (refine hwq_yes rfl rfl ?_; (first | refine hwq_dT (fun _ _ => ev_geq rfl rfl) rfl (by omega) ?_ | refine hwq_dF (fun _ _ => ev_geq rfl rfl) rfl (by omega) ?_ | refine hwq_split (fun _ _ => ev_geq rfl rfl) rfl (fun _ => ?_) (fun _ => ?_))) | refine hwq_no rfl rfl rfl rfl ?_)) <;> (first | refine h_pt rfl rfl rfl rfl ?_ | refine h_pf rfl rfl rfl rfl ?_) <;> refine h_mv rfl rfl rfl ?_ <;> (refine hwp_o rfl ?_; (first | (refine hwq_yes rfl rfl ?_; refine g_fa rfl rfl ?_) | refine hwq_no rfl rfl rfl rfl ?_)) <;> (refine hwp_o rfl ?_; (first | (refine hwq_yes rfl rfl ?_; refine g_ldA rfl rfl ?_) | refine hwq_no rfl rfl rfl rfl ?_)) <;> (refine hwp_o rfl ?_; (first | (refine hwq_yes rfl rfl ?_; (first | refine hwq_dT (fun _ _ => ev_lss rfl rfl) rfl (by omega) ?_ | refine hwq_dF (fun _ _ => ev_lss rfl rfl) rfl (by omega) ?_ | refine hwq_split (fun _ _ => ev_lss rfl rfl) rfl (fun _ => ?_) (fun _ => ?_))) | refine hwq_no rfl rfl rfl rfl ?_)) <;> (first | refine h_pt rfl rfl rfl rfl ?_ | refine h_pf rfl rfl rfl rfl ?_) <;> refine h_mv rfl rfl rfl ?_ <;> (refine hwp_o rfl ?_; (first | (refine hwq_yes rfl rfl ?_; refine g_fa rfl rfl ?_) | refine hwq_no rfl rfl rfl rfl ?_)) <;> (refine hwp_o rfl ?_; (first | (refine hwq_yes rfl rfl ?_; refine g_ldA rfl rfl ?_) | refine hwq_no rfl rfl rfl rfl ?_)) <;> (refine hwp_o rfl ?_; (first | (refine hwq_yes rfl rfl ?_; refine g_mv rfl rfl ?_) | refine hwq_no rfl rfl rfl rfl ?_)) <;> (refine hwp_o rfl ?_; (first | (refine hwq_yes rfl rfl ?_; refine g_fa rfl rfl ?_) | refine hwq_no rfl rfl rfl rfl ?_)) <;> (refine hwp_o rfl ?_; (first | (refine hwq_yes rfl rfl ?_; refine g_ldA rfl rfl ?_) | refine hwq_no rfl rfl rfl rfl ?_)) <;> (refine hwp_o rfl ?_; (first | (refine hwq_yes rfl rfl ?_; refine g_ia rfl rfl rfl ?_) | refine hwq_no rfl rfl rfl rfl ?_)) <;> (refine hwp_o rfl ?_; (first | (refine hwq_yes rfl rfl ?_; refine g_ldA rfl rfl ?_) | refine hwq_no rfl rfl rfl rfl ?_)) <;> (refine hwp_o rfl ?_; (first | (refine hwq_yes rfl rfl ?_; (first | refine hwq_dT (fun _ _ => ev_geq rfl rfl) rfl (by omega) ?_ | refine hwq_dF (fun _ _ => ev_geq rfl rfl) rfl (by omega) ?_ | refine hwq_split (fun _ _ => ev_geq rfl rfl) rfl (fun _ => ?_) (fun _ => ?_))) | refine hwq_no rfl rfl rfl rfl ?_)) <;> (first | refine h_pt rfl rfl rfl rfl ?_ | refine h_pf rfl rfl rfl rfl ?_) <;> refine h_mv rfl rfl rfl ?_ <;> (refine hwp_o rfl ?_; (first | (refine hwq_yes rfl rfl ?_; refine g_mv rfl rfl ?_) | refine hwq_no rfl rfl rfl rfl ?_)) <;> (refine hwp_o rfl ?_; (first | (refine hwq_yes rfl rfl ?_; (first | refine hwq_dT (fun _ _ => ev_gtr rfl rfl) rfl (by omega) ?_ | refine hwq_dF (fun _ _ => ev_gtr rfl rfl) rfl (by omega) ?_ | refine hwq_split (fun _ _ => ev_gtr rfl rfl) rfl (fun _ => ?_) (fun _ => ?_))) | refine hwq_no rfl rfl rfl rfl ?_)) <;> (refine hwp_o rfl ?_; (first | (refine hwq_yes rfl rfl ?_; refine g_mv rfl rfl ?_) | refine hwq_no rfl rfl rfl rfl ?_)) <;> (refine hwp_o rfl ?_; (first | (refine hwq_yes rfl rfl ?_; refine g_mv rfl rfl ?_) | refine hwq_no rfl rfl rfl rfl ?_)) <;> (refine hwp_o rfl ?_; (first | (refine hwq_yes rfl rfl ?_; refine g_mv rfl rfl ?_) | refine hwq_no rfl rfl rfl rfl ?_)) <;> (refine hwp_o rfl ?_; (first | (refine hwq_yes rfl rfl ?_; refine g_sb rfl rfl rfl ?_) | refine hwq_no rfl rfl rfl rfl ?_)) <;> (refine hwp_o rfl ?_; (first | (refine hwq_yes rfl rfl ?_; refine g_ia rfl rfl rfl ?_) | refine hwq_no rfl rfl rfl rfl ?_)) <;> (refine hwp_o rfl ?_; (first | (refine hwq_yes rfl rfl ?_; refine g_fa rfl rfl ?_) | refine hwq_no rfl rfl rfl rfl ?_)) <;> (refine hwp_o rfl ?_; (first | (refine hwq_yes rfl rfl ?_; refine g_ldA rfl rfl ?_) | refine hwq_no rfl rfl rfl rfl ?_)) <;> (refine hwp_o rfl ?_; (first | (refine hwq_yes rfl rfl ?_; refine g_fa rfl rfl ?_) | refine hwq_no rfl rfl rfl rfl ?_)) <;> (refine hwp_o rfl ?_; (first | (refine hwq_yes rfl rfl ?_; refine g_ldA rfl rfl ?_) | refine hwq_no rfl rfl rfl rfl ?_)) <;> (refine hwp_o rfl ?_; (first | (refine hwq_yes rfl rfl ?_; (first | refine hwq_dT (fun _ _ => ev_geq rfl rfl) rfl (by omega) ?_ | refine hwq_dF (fun _ _ => ev_geq rfl rfl) rfl (by omega) ?_ | refine hwq_split (fun _ _ => ev_geq rfl rfl) rfl (fun _ => ?_) (fun _ => ?_))) | refine hwq_no rfl rfl rfl rfl ?_)) <;> (refine hwp_o rfl ?_; (first | (refine hwq_yes rfl rfl ?_; (first | refine g_pt rfl rfl rfl ?_ | refine g_pf rfl rfl rfl ?_)) | refine hwq_no rfl rfl rfl rfl ?_)) <;> (first | refine h_pt rfl rfl rfl rfl ?_ | refine h_pf rfl rfl rfl rfl ?_) <;> (refine h_z ?_)) <;> (repeat (first | refine e_go ?_ | refine ewp_true rfl ?_ | refine ewp_false rfl ?_))
      all_goals
        ((repeat (first | refine e_go ?_ | refine ewp_true rfl ?_ | refine ewp_false rfl ?_)) <;> (refine o_as rfl rfl ?_ <;> (refine o_z ?_)) <;> (repeat (first | refine e_go ?_ | refine ewp_true rfl ?_ | refine ewp_false rfl ?_)))
        refine ret1 rfl rfl ⟨?_, hE3⟩
        rw [bof_f hno]
  · ((repeat (first | refine e_go ?_ | refine ewp_true rfl ?_ | refine ewp_false rfl ?_)) <;> ((first | refine o_ltT rfl rfl rfl ?_ | refine o_ltF rfl rfl rfl ?_) <;> (refine o_z ?_)) <;> (repeat (first | refine e_go ?_ | refine ewp_true rfl ?_ | refine ewp_false rfl ?_)) <;> (refine o_as rfl rfl ?_ <;> (refine o_z ?_)) <;> (repeat (first | refine e_go ?_ | refine ewp_true rfl ?_ | refine ewp_false rfl ?_)))
    refine ret1 rfl rfl ⟨?_, hE⟩
    rw [bof_t (hh.done (by omega))]
theorem taskFacts {w : World} {vv fv : Value} {vars : List Int} {f : List Fct} (hv : V w vv vars) (hf : V w fv f) :
    Fn Try.prog 40 [vv, fv] w fun v w' => v = .bool (bof (FactsOk vars f)) ∧ Ext w w' := by
  obtain ⟨A, ca, rfl⟩ := hv.form
  obtain ⟨B, cb, rfl⟩ := hf.form
  have hfl := hf.len
  refine fn_enter Try.func40 rfl Try.ntmps40 rfl ?_
  ((repeat (first | refine e_go ?_ | refine ewp_true rfl ?_ | refine ewp_false rfl ?_)) <;> (refine o_as rfl rfl ?_ <;> (refine o_z ?_)) <;> (repeat (first | refine e_go ?_ | refine ewp_true rfl ?_ | refine ewp_false rfl ?_)) <;> (refine o_as rfl rfl ?_ <;> (refine o_z ?_)) <;> (repeat (first | refine e_go ?_ | refine ewp_true rfl ?_ | refine ewp_false rfl ?_)) <;> (refine o_mv rfl rfl ?_ <;> refine o_ln rfl rfl ?_ <;> refine o_mv rfl rfl ?_ <;> (refine o_z ?_)) <;> (repeat (first | refine e_go ?_ | refine ewp_true rfl ?_ | refine ewp_false rfl ?_)))
  refine ewp_for (X := Nat × Int) (fun k => [(0, .slice A vars.length ca), (5, .int .i64 k.2), (8, .slice B f.length cb), (9, .int .i64 (f.length : Int)), (10, .int .i64 (k.1 : Int))])
    (fun k w' => Ext w w' ∧ k.1 ≤ f.length ∧ FactsTo vars f k.1 ∧ (k.1 = 0 → k.2 = -1) ∧ ∀ y, 0 < k.1 → f[k.1 - 1]? = some y → y.var = k.2) (fun k => f.length - k.1) (0, -1) ⟨Below.refl _ _, Nat.zero_le _, ⟨fun i _ h => by simp at h, fun i _ _ h => by simp at h⟩, fun _ => rfl, fun y h => by simp at h⟩ ⟨rfl, rfl, rfl, rfl, rfl, trivial⟩ ?_
  rintro ⟨k, m⟩ w1 ⟨hE, hk, hh, hm0, hm⟩
  dsimp only at hk hh hm0 hm ⊢
  by_cases hlt : k < f.length
  · obtain ⟨x, hx⟩ := some_of_lt hlt
    obtain ⟨b, o, ce, rfl, hb, _, hd1, rfl, hr1, hr2⟩ := (hf.ext hE).elem hx
    ((repeat (first | refine e_go ?_ | refine ewp_true rfl ?_ | refine ewp_false rfl ?_)) <;> ((first | refine o_ltT rfl rfl rfl ?_ | refine o_ltF rfl rfl rfl ?_) <;> (refine o_z ?_)) <;> (repeat (first | refine e_go ?_ | refine ewp_true rfl ?_ | refine ewp_false rfl ?_)) <;> (refine o_ia rfl rfl rfl ?_ <;> refine o_la rfl rfl ?_) <;> (repeat (first | refine e_go ?_ | refine ewp_true rfl ?_ | refine ewp_false rfl ?_)))
    refine owp_local rfl rfl rfl (by simp [Value.cells, Value.oneCell']) fun w3 hN => ?_
    have hb1 := hN.blk
    have hE3 : Ext w w3 := hE.trans' hN.ext
    ((refine o_z ?_))
    repeat (first | refine e_go ?_ | refine ewp_true rfl ?_ | refine ewp_false rfl ?_)
    refine ewp_draw (· = w3) [(0, true), (1, true), (2, true), (3, true), (4, true), (5, true), (6, true), (7, true), (8, true), (9, true), (10, true), (11, true), (12, true), (13, true), (14, true), (15, true), (16, true), (17, true), (18, true), (19, true), (20, true), (21, true), (22, true), (23, true), (24, true), (25, true)] (by kernel_rfl) rfl (by kernel_rfl) rfl ?_
    have hm1 : 0 < k → ∃ z, f[k - 1]? = some z ∧ z.var = m := fun h0 => by
      obtain ⟨z, hz⟩ := some_of_lt (l := f) (k := k - 1) (by omega)
      exact ⟨z, hz, hm z h0 hz⟩
    have hge : 0 < k → 0 ≤ m := fun h0 => by
      obtain ⟨z, hz, he⟩ := hm1 h0
      have := (hh.1 (k - 1) z (by omega) hz).1
      omega
    have hge' : -1 ≤ m := by
      by_cases h0 : 0 < k
      · have := hge h0; omega
      · have := hm0 (by omega); omega
    have hno0 : ¬ m < x.var → ¬ FactsOk vars f := fun h1 h2 => by
      by_cases h0 : 0 < k
      · obtain ⟨z, hz, he⟩ := hm1 h0
        have := h2.2 (k - 1) z x hz (by rw [show k - 1 + 1 = k from by omega]; exact hx)
        omega
      · have := hm0 (by omega)
        have := (h2.1 k x hx).1
        omega
    by_cases hvr : 0 ≤ x.var ∧ x.var < vars.length
    · obtain ⟨j, hj1⟩ := Int.eq_ofNat_of_zero_le hvr.1
      obtain ⟨y, hy⟩ := some_of_lt (l := vars) (k := j) (by omega)
      obtain ⟨b2, o2, ce2, rfl, _, _, hd2, rfl, _⟩ := (hv.ext hE3).elem hy
      have hjy : vars[x.var.toNat]? = some y := by rw [hj1]; simpa using hy
      have hok : 0 ≤ x.val → x.val < y → FactOk vars x := fun h1 h2 => ⟨hvr.1, h1, y, hjy, h2⟩
      have hno : ¬ (0 ≤ x.val ∧ x.val < y) → ¬ FactsOk vars f := fun h1 h2 => h1 (by
        obtain ⟨_, h3, y', h4, h5⟩ := h2.1 k x hx
        rw [hjy] at h4; injection h4 with h4; subst h4; exact ⟨h3, h5⟩)
      (refine h_fa rfl rfl rfl ?_ <;> refine h_ldA rfl rfl rfl ?_ <;> refine h_mv rfl rfl rfl ?_ <;> (first | refine h_leT rfl rfl rfl rfl ?_ | refine h_leF rfl rfl rfl rfl ?_ | refine h_leS rfl rfl rfl rfl (fun _ => ?_) fun _ => ?_) <;> refine h_mv rfl rfl rfl ?_ <;> (refine hwp_o rfl ?_; (first | (refine hwq_yes rfl rfl ?_; refine g_fa rfl rfl ?_) | refine hwq_no rfl rfl rfl rfl ?_)) <;> (refine hwp_o rfl ?_; (first | (refine hwq_yes rfl rfl ?_; refine g_ldA rfl rfl ?_) | refine hwq_no rfl rfl rfl rfl ?_)) <;> (refine hwp_o rfl ?_; (first | (refine hwq_yes rfl rfl ?_; refine g_mv rfl rfl ?_) | refine hwq_no rfl rfl rfl rfl ?_)) <;> (refine hwp_o rfl ?_; (first | (refine hwq_yes rfl rfl ?_; refine g_ln rfl rfl ?_) | refine hwq_no rfl rfl rfl rfl ?_)) <;> (refine hwp_o rfl ?_; (first | (refine hwq_yes rfl rfl ?_; (first | refine hwq_dT (fun _ _ => ev_geq rfl rfl) rfl (by omega) ?_ | refine hwq_dF (fun _ _ => ev_geq rfl rfl) rfl (by omega) ?_ | refine hwq_split (fun _ _ => ev_geq rfl rfl) rfl (fun _ => ?_) (fun _ => ?_))) | refine hwq_no rfl rfl rfl rfl ?_)) <;> (first | refine h_pt rfl rfl rfl rfl ?_ | refine h_pf rfl rfl rfl rfl ?_) <;> refine h_mv rfl rfl rfl ?_ <;> (refine hwp_o rfl ?_; (first | (refine hwq_yes rfl rfl ?_; refine g_fa rfl rfl ?_) | refine hwq_no rfl rfl rfl rfl ?_)) <;> (refine hwp_o rfl ?_; (first | (refine hwq_yes rfl rfl ?_; refine g_ldA rfl rfl ?_) | refine hwq_no rfl rfl rfl rfl ?_)) <;> (refine hwp_o rfl ?_; (first | (refine hwq_yes rfl rfl ?_; (first | refine hwq_dT (fun _ _ => ev_lss rfl rfl) rfl (by omega) ?_ | refine hwq_dF (fun _ _ => ev_lss rfl rfl) rfl (by omega) ?_ | refine hwq_split (fun _ _ => ev_lss rfl rfl) rfl (fun _ => ?_) (fun _ => ?_))) | refine hwq_no rfl rfl rfl rfl ?_)) <;> (first | refine h_pt rfl rfl rfl rfl ?_ | refine h_pf rfl rfl rfl rfl ?_) <;> refine h_mv rfl rfl rfl ?_ <;> (refine hwp_o rfl ?_; (first | (refine hwq_yes rfl rfl ?_; refine g_fa rfl rfl ?_) | refine hwq_no rfl rfl rfl rfl ?_)) <;> (refine hwp_o rfl ?_; (first | (refine hwq_yes rfl rfl ?_; refine g_ldA rfl rfl ?_) | refine hwq_no rfl rfl rfl rfl ?_)) <;> (refine hwp_o rfl ?_; (first | (refine hwq_yes rfl rfl ?_; refine g_mv rfl rfl ?_) | refine hwq_no rfl rfl rfl rfl ?_)) <;> (refine hwp_o rfl ?_; (first | (refine hwq_yes rfl rfl ?_; refine g_fa rfl rfl ?_) | refine hwq_no rfl rfl rfl rfl ?_)) <;> (refine hwp_o rfl ?_; (first | (refine hwq_yes rfl rfl ?_; refine g_ldA rfl rfl ?_) | refine hwq_no rfl rfl rfl rfl ?_)) <;> (refine hwp_o rfl ?_; (first | (refine hwq_yes rfl rfl ?_; refine g_ia rfl rfl rfl ?_) | refine hwq_no rfl rfl rfl rfl ?_)) <;> (refine hwp_o rfl ?_; (first | (refine hwq_yes rfl rfl ?_; refine g_ldA rfl rfl ?_) | refine hwq_no rfl rfl rfl rfl ?_)) <;> (refine hwp_o rfl ?_; (first | (refine hwq_yes rfl rfl ?_; (first | refine hwq_dT (fun _ _ => ev_geq rfl rfl) rfl (by omega) ?_ | refine hwq_dF (fun _ _ => ev_geq rfl rfl) rfl (by omega) ?_ | refine hwq_split (fun _ _ => ev_geq rfl rfl) rfl (fun _ => ?_) (fun _ => ?_))) | refine hwq_no rfl rfl rfl rfl ?_)) <;> (first | refine h_pt rfl rfl rfl rfl ?_ | refine h_pf rfl rfl rfl rfl ?_) <;> (refine h_z ?_)) <;> (repeat (first | refine e_go ?_ | refine ewp_true rfl ?_ | refine ewp_false rfl ?_))
      all_goals try (
        ((repeat (first | refine e_go ?_ | refine ewp_true rfl ?_ | refine ewp_false rfl ?_)) <;> (refine o_as rfl rfl ?_ <;> (refine o_z ?_)) <;> (repeat (first | refine e_go ?_ | refine ewp_true rfl ?_ | refine ewp_false rfl ?_)))
        refine ret1 rfl rfl ⟨?_, hE3⟩
        first | rw [bof_f (hno (by omega))] | rw [bof_f (hno0 (by omega))])
      ((repeat (first | refine e_go ?_ | refine ewp_true rfl ?_ | refine ewp_false rfl ?_)) <;> (refine o_fa rfl rfl ?_ <;> refine o_ld rfl rfl ?_ <;> refine o_as rfl rfl ?_ <;> (refine o_z ?_)) <;> (repeat (first | refine e_go ?_ | refine ewp_true rfl ?_ | refine ewp_false rfl ?_)))
      ((first | refine o_ic rfl rfl ?_ | refine o_ad rfl rfl rfl ?_) <;> refine o_mv rfl rfl ?_ <;> (refine o_z ?_))
      refine ⟨(k + 1, x.var), ⟨rfl, rfl, rfl, rfl, rfl, trivial⟩, ⟨hE3, hlt, hh.step hx (hok (by omega) (by omega)) (fun y' h0 hy' => by have := hm y' h0 hy'; omega), fun h => absurd h (Nat.succ_ne_zero k), fun y' _ hy' => ?_⟩, Nat.sub_lt_sub_left hlt (Nat.lt_succ_self k)⟩
      rw [show k + 1 - 1 = k from rfl, hx] at hy'
      exact congrArg Fct.var (Option.some.inj hy').symm
    · have hno : ¬ FactsOk vars f := fun h => by
        obtain ⟨h1, h2, y, h3, _⟩ := h.1 k x hx
        have := lt_of_some h3
        omega
      (refine h_fa rfl rfl rfl ?_ <;> refine h_ldA rfl rfl rfl ?_ <;> refine h_mv rfl rfl rfl ?_ <;> (first | refine h_leT rfl rfl rfl rfl ?_ | refine h_leF rfl rfl rfl rfl ?_ | refine h_leS rfl rfl rfl rfl (fun _ => ?_) fun _ => ?_) <;> refine h_mv rfl rfl rfl ?_ <;> (refine hwp_o rfl ?_; (first | (refine hwq_yes rfl rfl ?_; refine g_fa rfl rfl ?_) | refine hwq_no rfl rfl rfl rfl ?_)) <;> (refine hwp_o rfl ?_; (first | (refine hwq_yes rfl rfl ?_; refine g_ldA rfl rfl ?_) | refine hwq_no rfl rfl rfl rfl ?_)) <;> (refine hwp_o rfl ?_; (first | (refine hwq_yes rfl rfl ?_; refine g_mv rfl rfl ?_) | refine hwq_no rfl rfl rfl rfl ?_)) <;> (refine hwp_o rfl ?_; (first | (refine hwq_yes rfl rfl ?_; refine g_ln rfl rfl ?_) | refine hwq_no rfl rfl rfl rfl ?_)) <;> (refine hwp_o rfl ?_; (first | (refine hwq_yes rfl rfl ?_; (first | refine hwq_dT (fun _ _ => ev_geq rfl rfl) rfl (by omega) ?_ | refine hwq_dF (fun _ _ => ev_geq rfl rfl) rfl (by omega) ?_ | refine hwq_split (fun _ _ => ev_geq rfl rfl) rfl (fun _ => ?_) (fun _ => ?_))) | refine hwq_no rfl rfl rfl rfl ?_)) <;> (first | refine h_pt rfl rfl rfl rfl ?_ | refine h_pf rfl rfl rfl rfl ?_) <;> refine h_mv rfl rfl rfl ?_ <;> (refine hwp_o rfl ?_; (first | (refine hwq_yes rfl rfl ?_; refine g_fa rfl rfl ?_) | refine hwq_no rfl rfl rfl rfl ?_)) <;> (refine hwp_o rfl ?_; (first | (refine hwq_yes rfl rfl ?_; refine g_ldA rfl rfl ?_) | refine hwq_no rfl rfl rfl rfl ?_)) <;> (refine hwp_o rfl ?_; (first | (refine hwq_yes rfl rfl ?_; (first | refine hwq_dT (fun _ _ => ev_lss rfl rfl) rfl (by omega) ?_ | refine hwq_dF (fun _ _ => ev_lss rfl rfl) rfl (by omega) ?_ | refine hwq_split (fun _ _ => ev_lss rfl rfl) rfl (fun _ => ?_) (fun _ => ?_))) | refine hwq_no rfl rfl rfl rfl ?_)) <;> (first | refine h_pt rfl rfl rfl rfl ?_ | refine h_pf rfl rfl rfl rfl ?_) <;> refine h_mv rfl rfl rfl ?_ <;> (refine hwp_o rfl ?_; (first | (refine hwq_yes rfl rfl ?_; refine g_fa rfl rfl ?_) | refine hwq_no rfl rfl rfl rfl ?_)) <;> (refine hwp_o rfl ?_; (first | (refine hwq_yes rfl rfl ?_; refine g_ldA rfl rfl ?_) | refine hwq_no rfl rfl rfl rfl ?_)) <;> (refine hwp_o rfl ?_; (first | (refine hwq_yes rfl rfl ?_; refine g_mv rfl rfl ?_) | refine hwq_no rfl rfl rfl rfl ?_)) <;> (refine hwp_o rfl ?_; (first | (refine hwq_yes rfl rfl ?_; refine g_fa rfl rfl ?_) | refine hwq_no rfl rfl rfl rfl ?_)) <;> (refine hwp_o rfl ?_; (first | (refine hwq_yes rfl rfl ?_; refine g_ldA rfl rfl ?_) | refine hwq_no rfl rfl rfl rfl ?_)) <;> (refine hwp_o rfl ?_; (first | (refine hwq_yes rfl rfl ?_; refine g_ia rfl rfl rfl ?_) | refine hwq_no rfl rfl rfl rfl ?_)) <;> (refine hwp_o rfl ?_; (first | (refine hwq_yes rfl rfl ?_; refine g_ldA rfl rfl ?_) | refine hwq_no rfl rfl rfl rfl ?_)) <;> (refine hwp_o rfl ?_; (first | (refine hwq_yes rfl rfl ?_; (first | refine hwq_dT (fun _ _ => ev_geq rfl rfl) rfl (by omega) ?_ | refine hwq_dF (fun _ _ => ev_geq rfl rfl) rfl (by omega) ?_ | refine hwq_split (fun _ _ => ev_geq rfl rfl) rfl (fun _ => ?_) (fun _ => ?_))) | refine hwq_no rfl rfl rfl rfl ?_)) <;> (first | refine h_pt rfl rfl rfl rfl ?_ | refine h_pf rfl rfl rfl rfl ?_) <;> (refine h_z ?_)) <;> (repeat (first | refine e_go ?_ | refine ewp_true rfl ?_ | refine ewp_false rfl ?_))
      all_goals
        ((repeat (first | refine e_go ?_ | refine ewp_true rfl ?_ | refine ewp_false rfl ?_)) <;> (refine o_as rfl rfl ?_ <;> (refine o_z ?_)) <;> (repeat (first | refine e_go ?_ | refine ewp_true rfl ?_ | refine ewp_false rfl ?_)))
        refine ret1 rfl rfl ⟨?_, hE3⟩
        rw [bof_f hno]
  · ((repeat (first | refine e_go ?_ | refine ewp_true rfl ?_ | refine ewp_false rfl ?_)) <;> ((first | refine o_ltT rfl rfl rfl ?_ | refine o_ltF rfl rfl rfl ?_) <;> (refine o_z ?_)) <;> (repeat (first | refine e_go ?_ | refine ewp_true rfl ?_ | refine ewp_false rfl ?_)) <;> (refine o_as rfl rfl ?_ <;> (refine o_z ?_)) <;> (repeat (first | refine e_go ?_ | refine ewp_true rfl ?_ | refine ewp_false rfl ?_)))
    refine ret1 rfl rfl ⟨?_, hE⟩
    rw [bof_t (hh.done (by omega))]
/-- A name is permitted. -/
def NameOk (s : ByteArray) : Prop := s.size ≤ 256 ∧ ∀ (i : Nat) (h : i < s.size), 32 ≤ (s[i]'h).toNat ∧ (s[i]'h).toNat ≤ 126
theorem taskNamed {w : World} {s : ByteArray} (hs : s.size ≤ 9223372036854775807) :
    Fn Try.prog 41 [.string s] w fun v w' => v = .bool (bof (NameOk s)) ∧ Ext w w' := by
  refine fn_enter Try.func41 rfl Try.ntmps41 rfl ?_
  ((repeat (first | refine e_go ?_ | refine ewp_true rfl ?_ | refine ewp_false rfl ?_)) <;> (refine o_as rfl rfl ?_ <;> (refine o_z ?_)) <;> (repeat (first | refine e_go ?_ | refine ewp_true rfl ?_ | refine ewp_false rfl ?_)) <;> (refine o_mv rfl rfl ?_ <;> refine o_ls rfl rfl ?_ <;> refine o_mv rfl rfl ?_ <;> (refine o_z ?_)) <;> (repeat (first | refine e_go ?_ | refine ewp_true rfl ?_ | refine ewp_false rfl ?_)))
  refine ewp_for (fun k : Nat => [(0, .string s), (5, .int .i64 (s.size : Int)), (6, .int .i64 (k : Int))])
    (fun k w' => w' = w ∧ k ≤ s.size ∧ ∀ (i : Nat) (h : i < s.size), i < k → 32 ≤ (s[i]'h).toNat ∧ (s[i]'h).toNat ≤ 126) (fun k => s.size - k) 0 ⟨rfl, Nat.zero_le _, fun i _ h => by omega⟩ ⟨rfl, rfl, rfl, trivial⟩ ?_
  rintro k _ ⟨rfl, hk, hh⟩
  by_cases hlt : k < s.size
  · ((repeat (first | refine e_go ?_ | refine ewp_true rfl ?_ | refine ewp_false rfl ?_)) <;> ((first | refine o_ltT rfl rfl rfl ?_ | refine o_ltF rfl rfl rfl ?_) <;> (refine o_z ?_)) <;> (repeat (first | refine e_go ?_ | refine ewp_true rfl ?_ | refine ewp_false rfl ?_)) <;> (refine o_mv rfl rfl ?_ <;> refine o_as rfl rfl ?_ <;> (refine o_z ?_)) <;> (repeat (first | refine e_go ?_ | refine ewp_true rfl ?_ | refine ewp_false rfl ?_)) <;> (refine o_mv rfl rfl ?_ <;> refine o_mv rfl rfl ?_ <;> refine o_ix rfl rfl rfl (by omega) ?_ <;> (first | refine o_ltT rfl rfl rfl ?_ | refine o_ltF rfl rfl rfl ?_ | refine o_ltS rfl rfl rfl (fun _ => ?_) fun _ => ?_) <;> refine o_mv rfl rfl ?_ <;> (first | (refine owp_yes rfl rfl ?_; refine o_mv rfl rfl ?_) | refine owp_no rfl rfl rfl rfl ?_) <;> (first | (refine owp_yes rfl rfl ?_; refine o_mv rfl rfl ?_) | refine owp_no rfl rfl rfl rfl ?_) <;> (first | (refine owp_yes rfl rfl ?_; refine o_ix rfl rfl rfl (by omega) ?_) | refine owp_no rfl rfl rfl rfl ?_) <;> (first | (refine owp_yes rfl rfl ?_; (first | refine o_gtT rfl rfl rfl ?_ | refine o_gtF rfl rfl rfl ?_ | refine o_gtS rfl rfl rfl (fun _ => ?_) fun _ => ?_)) | refine owp_no rfl rfl rfl rfl ?_) <;> (first | refine o_pt rfl rfl rfl ?_ | refine o_pf rfl rfl rfl ?_) <;> (refine o_z ?_)) <;> (repeat (first | refine e_go ?_ | refine ewp_true rfl ?_ | refine ewp_false rfl ?_)))
    all_goals first
      | (((first | refine o_ic rfl rfl ?_ | refine o_ad rfl rfl rfl ?_) <;> refine o_mv rfl rfl ?_ <;> (refine o_z ?_))
         refine ⟨k + 1, ⟨rfl, rfl, rfl, trivial⟩, ⟨rfl, by omega, fun i h hi => ?_⟩, by omega⟩
         by_cases he : i = k
         · subst he; omega
         · exact hh i h (by omega))
      | (((repeat (first | refine e_go ?_ | refine ewp_true rfl ?_ | refine ewp_false rfl ?_)) <;> (refine o_as rfl rfl ?_ <;> (refine o_z ?_)) <;> (repeat (first | refine e_go ?_ | refine ewp_true rfl ?_ | refine ewp_false rfl ?_)))
         refine ret1 rfl rfl ⟨?_, Below.refl _ _⟩
         rw [bof_f (fun h => by have := h.2 k hlt; omega)])
  · by_cases h256 : s.size ≤ 256
    · ((repeat (first | refine e_go ?_ | refine ewp_true rfl ?_ | refine ewp_false rfl ?_)) <;> ((first | refine o_ltT rfl rfl rfl ?_ | refine o_ltF rfl rfl rfl ?_) <;> (refine o_z ?_)) <;> (repeat (first | refine e_go ?_ | refine ewp_true rfl ?_ | refine ewp_false rfl ?_)) <;> (refine o_mv rfl rfl ?_ <;> refine o_ls rfl rfl ?_ <;> (first | refine o_leT rfl rfl rfl ?_ | refine o_leF rfl rfl rfl ?_) <;> refine o_as rfl rfl ?_ <;> (refine o_z ?_)) <;> (repeat (first | refine e_go ?_ | refine ewp_true rfl ?_ | refine ewp_false rfl ?_)))
      refine ret1 rfl rfl ⟨?_, Below.refl _ _⟩
      rw [bof_t ⟨h256, fun i h => hh i h (by omega)⟩]
    · ((repeat (first | refine e_go ?_ | refine ewp_true rfl ?_ | refine ewp_false rfl ?_)) <;> ((first | refine o_ltT rfl rfl rfl ?_ | refine o_ltF rfl rfl rfl ?_) <;> (refine o_z ?_)) <;> (repeat (first | refine e_go ?_ | refine ewp_true rfl ?_ | refine ewp_false rfl ?_)) <;> (refine o_mv rfl rfl ?_ <;> refine o_ls rfl rfl ?_ <;> (first | refine o_leT rfl rfl rfl ?_ | refine o_leF rfl rfl rfl ?_) <;> refine o_as rfl rfl ?_ <;> (refine o_z ?_)) <;> (repeat (first | refine e_go ?_ | refine ewp_true rfl ?_ | refine ewp_false rfl ?_)))
      refine ret1 rfl rfl ⟨?_, Below.refl _ _⟩
      rw [bof_f (fun h => h256 h.1)]
end
section
open Go Go.RowKit
attribute [local irreducible] ewp owp hwp hwq hws Ev Evg Fn retPost loud loudS Res1
theorem factsOk_one {vars : List Int} {x : Fct} : FactsOk vars [x] ↔ FactOk vars x := by
  constructor
  · intro h; exact h.1 0 x rfl
  · intro h
    refine ⟨fun i y hy => ?_, fun i y z _ hz => by simp at hz⟩
    cases i with
    | zero => simp at hy; exact hy ▸ h
    | succ i => simp at hy
/-- An effect is right. -/
def EffOk (vars : List Int) (e : Eff) : Prop := FactsOk vars e.cond ∧ FactOk vars ⟨e.var, e.val⟩
/-- An operator is right. -/
def OpOk (vars : List Int) (o : Opr) : Prop := 0 ≤ o.cost ∧ o.cost ≤ 1048576 ∧ o.effs.length ≤ 64 ∧ NameOk o.name ∧ FactsOk vars o.pre ∧ ∀ (i : Nat) e, o.effs[i]? = some e → EffOk vars e
/-- A task is right. -/
def TaskOk (t : Tsk) : Prop := t.vars.length ≤ 64 ∧ t.ops.length ≤ 4096 ∧ (∀ (i : Nat) n, t.vars[i]? = some n → 1 ≤ n ∧ n ≤ 64) ∧ StateOk t.vars t.init ∧ FactsOk t.vars t.goal ∧ ∀ (i : Nat) o, t.ops[i]? = some o → OpOk t.vars o
theorem upto_step {p : Nat → Prop} {k : Nat} (h : ∀ i, i < k → p i) (hk : p k) : ∀ i, i < k + 1 → p i := fun i hi => by
  by_cases he : i = k
  · subst he; exact hk
  · exact h i (by omega)
theorem baseOperator {w : World} {vv ov : Value} {vars : List Int} {o : Opr} (hv : V w vv vars) (ho : V w ov o) :
    Fn Try.prog 36 [vv, ov] w fun v w' => v = .bool (bof (OpOk vars o)) ∧ Ext w w' := by
  obtain ⟨Av, cv, rfl⟩ := hv.form
  obtain ⟨cs, rfl, p, q, rfl, hp, hq, hc, hn⟩ := ho
  obtain ⟨Ap, cp, rfl⟩ := hp.form
  obtain ⟨Aq, cq, rfl⟩ := hq.form
  have hql := hq.len
  refine fn_enter Try.func36 rfl Try.ntmps36 rfl ?_
  repeat (first | refine e_go ?_ | refine ewp_true rfl ?_ | refine ewp_false rfl ?_)
  refine owp_box rfl rfl fun w1 hN => ?_
  have hb1 := hN.blk
  have hE1 : Ext w w1 := hN.ext
  (refine o_as rfl rfl ?_ <;> (refine o_z ?_))
  repeat (first | refine e_go ?_ | refine ewp_true rfl ?_ | refine ewp_false rfl ?_)
  (refine o_fa rfl rfl ?_ <;> refine o_ld rfl rfl ?_ <;> (first | refine o_ltT rfl rfl rfl ?_ | refine o_ltF rfl rfl rfl ?_ | refine o_ltS rfl rfl rfl (fun _ => ?_) fun _ => ?_) <;> refine o_mv rfl rfl ?_ <;> (first | (refine owp_yes rfl rfl ?_; refine o_fa rfl rfl ?_) | refine owp_no rfl rfl rfl rfl ?_) <;> (first | (refine owp_yes rfl rfl ?_; refine o_ld rfl rfl ?_) | refine owp_no rfl rfl rfl rfl ?_) <;> (first | (refine owp_yes rfl rfl ?_; (first | refine o_gtT rfl rfl rfl ?_ | refine o_gtF rfl rfl rfl ?_ | refine o_gtS rfl rfl rfl (fun _ => ?_) fun _ => ?_)) | refine owp_no rfl rfl rfl rfl ?_) <;> (first | refine o_pt rfl rfl rfl ?_ | refine o_pf rfl rfl rfl ?_) <;> refine o_mv rfl rfl ?_ <;> (first | (refine owp_yes rfl rfl ?_; refine o_fa rfl rfl ?_) | refine owp_no rfl rfl rfl rfl ?_) <;> (first | (refine owp_yes rfl rfl ?_; refine o_ld rfl rfl ?_) | refine owp_no rfl rfl rfl rfl ?_) <;> (first | (refine owp_yes rfl rfl ?_; refine o_ln rfl rfl ?_) | refine owp_no rfl rfl rfl rfl ?_) <;> (first | (refine owp_yes rfl rfl ?_; (first | refine o_gtT rfl rfl rfl ?_ | refine o_gtF rfl rfl rfl ?_ | refine o_gtS rfl rfl rfl (fun _ => ?_) fun _ => ?_)) | refine owp_no rfl rfl rfl rfl ?_) <;> (first | refine o_pt rfl rfl rfl ?_ | refine o_pf rfl rfl rfl ?_) <;> refine o_mv rfl rfl ?_ <;> (first | (refine owp_yes rfl rfl ?_; refine o_fa rfl rfl ?_) | refine owp_no rfl rfl rfl rfl ?_) <;> (first | (refine owp_yes rfl rfl ?_; refine o_ld rfl rfl ?_) | refine owp_no rfl rfl rfl rfl ?_) <;> (first | (refine owp_yes rfl rfl ?_; refine o_ls rfl rfl ?_) | refine owp_no rfl rfl rfl rfl ?_) <;> (first | (refine owp_yes rfl rfl ?_; (first | refine o_gtT rfl rfl rfl ?_ | refine o_gtF rfl rfl rfl ?_ | refine o_gtS rfl rfl rfl (fun _ => ?_) fun _ => ?_)) | refine owp_no rfl rfl rfl rfl ?_) <;> (first | refine o_pt rfl rfl rfl ?_ | refine o_pf rfl rfl rfl ?_) <;> refine o_mv rfl rfl ?_ <;> (first | (refine owp_yes rfl rfl ?_; refine o_mv rfl rfl ?_) | refine owp_no rfl rfl rfl rfl ?_) <;> (first | (refine owp_yes rfl rfl ?_; refine o_fa rfl rfl ?_) | refine owp_no rfl rfl rfl rfl ?_) <;> (first | (refine owp_yes rfl rfl ?_; refine o_ld rfl rfl ?_) | refine owp_no rfl rfl rfl rfl ?_))
  all_goals try (
    refine owp_no rfl rfl rfl rfl ?_
    ((first | (refine owp_yes rfl rfl ?_; (first | refine o_nt rfl rfl ?_ | refine o_nf rfl rfl ?_ | refine o_nn rfl rfl ?_)) | refine owp_no rfl rfl rfl rfl ?_) <;> (first | refine o_pt rfl rfl rfl ?_ | refine o_pf rfl rfl rfl ?_) <;> (refine o_z ?_))
    repeat (first | refine e_go ?_ | refine ewp_true rfl ?_ | refine ewp_false rfl ?_)
    ((repeat (first | refine e_go ?_ | refine ewp_true rfl ?_ | refine ewp_false rfl ?_)) <;> (refine o_as rfl rfl ?_ <;> (refine o_z ?_)) <;> (repeat (first | refine e_go ?_ | refine ewp_true rfl ?_ | refine ewp_false rfl ?_)))
    refine ret1 rfl rfl ⟨?_, hE1⟩
    rw [bof_f (fun h => by obtain ⟨h1, h2, h3, ⟨h4, _⟩, _⟩ := h; omega)])
  refine owp_yes rfl rfl ?_
  refine owp_callB rfl rfl (baseProper (hv.ext hE1) (hp.ext hE1)) ?_ ?_
  case refine_2 =>
    intro w2 hP hE2
    ((first | (refine owp_yes rfl rfl ?_; (first | refine o_nt rfl rfl ?_ | refine o_nf rfl rfl ?_ | refine o_nn rfl rfl ?_)) | refine owp_no rfl rfl rfl rfl ?_) <;> (first | refine o_pt rfl rfl rfl ?_ | refine o_pf rfl rfl rfl ?_) <;> (refine o_z ?_))
    repeat (first | refine e_go ?_ | refine ewp_true rfl ?_ | refine ewp_false rfl ?_)
    ((repeat (first | refine e_go ?_ | refine ewp_true rfl ?_ | refine ewp_false rfl ?_)) <;> (refine o_as rfl rfl ?_ <;> (refine o_z ?_)) <;> (repeat (first | refine e_go ?_ | refine ewp_true rfl ?_ | refine ewp_false rfl ?_)))
    refine ret1 rfl rfl ⟨?_, hE1.trans' hE2⟩
    rw [bof_f (fun h => hP h.2.2.2.2.1)]
  intro w2 hpre hE2
  replace hb1 := hb1.ext hE2
  have hE2 : Ext w w2 := hE1.trans' hE2
  ((first | (refine owp_yes rfl rfl ?_; (first | refine o_nt rfl rfl ?_ | refine o_nf rfl rfl ?_ | refine o_nn rfl rfl ?_)) | refine owp_no rfl rfl rfl rfl ?_) <;> (first | refine o_pt rfl rfl rfl ?_ | refine o_pf rfl rfl rfl ?_) <;> (refine o_z ?_))
  repeat (first | refine e_go ?_ | refine ewp_true rfl ?_ | refine ewp_false rfl ?_)
  (refine o_fa rfl rfl ?_ <;> refine o_ld rfl rfl ?_ <;> refine o_ls rfl rfl ?_ <;> refine o_mv rfl rfl ?_ <;> (refine o_z ?_))
  repeat (first | refine e_go ?_ | refine ewp_true rfl ?_ | refine ewp_false rfl ?_)
  refine ewp_range o.name.size hn (fun _ : Unit => [(0, .slice Av vars.length cv), (3, .pointer (some ⟨w.heap.size, 0, none⟩))]) (fun k _ w' => w' = w2 ∧ ∀ i, i < k → ∀ h : i < o.name.size, 32 ≤ (o.name[i]'h).toNat ∧ (o.name[i]'h).toNat ≤ 126) ()
    ⟨rfl, fun i hi => by omega⟩ ⟨rfl, rfl, rfl, rfl, trivial⟩ (fun _ => ⟨rfl, rfl⟩) ⟨rfl, rfl, rfl⟩ ⟨rfl, rfl⟩ ?_ ?_
  · rintro k _ _ hk ⟨rfl, hh⟩
    ((repeat (first | refine e_go ?_ | refine ewp_true rfl ?_ | refine ewp_false rfl ?_)) <;> (refine o_mv rfl rfl ?_ <;> refine o_as rfl rfl ?_ <;> (refine o_z ?_)) <;> (repeat (first | refine e_go ?_ | refine ewp_true rfl ?_ | refine ewp_false rfl ?_)) <;> (refine o_fa rfl rfl ?_ <;> refine o_ld rfl rfl ?_ <;> refine o_mv rfl rfl ?_ <;> refine o_ix rfl rfl rfl (by omega) ?_ <;> (first | refine o_ltT rfl rfl rfl ?_ | refine o_ltF rfl rfl rfl ?_ | refine o_ltS rfl rfl rfl (fun _ => ?_) fun _ => ?_) <;> refine o_mv rfl rfl ?_ <;> (first | (refine owp_yes rfl rfl ?_; refine o_fa rfl rfl ?_) | refine owp_no rfl rfl rfl rfl ?_) <;> (first | (refine owp_yes rfl rfl ?_; refine o_ld rfl rfl ?_) | refine owp_no rfl rfl rfl rfl ?_) <;> (first | (refine owp_yes rfl rfl ?_; refine o_mv rfl rfl ?_) | refine owp_no rfl rfl rfl rfl ?_) <;> (first | (refine owp_yes rfl rfl ?_; refine o_ix rfl rfl rfl (by omega) ?_) | refine owp_no rfl rfl rfl rfl ?_) <;> (first | (refine owp_yes rfl rfl ?_; (first | refine o_gtT rfl rfl rfl ?_ | refine o_gtF rfl rfl rfl ?_ | refine o_gtS rfl rfl rfl (fun _ => ?_) fun _ => ?_)) | refine owp_no rfl rfl rfl rfl ?_) <;> (first | refine o_pt rfl rfl rfl ?_ | refine o_pf rfl rfl rfl ?_) <;> (refine o_z ?_)) <;> (repeat (first | refine e_go ?_ | refine ewp_true rfl ?_ | refine ewp_false rfl ?_)))
    all_goals try (
      ((repeat (first | refine e_go ?_ | refine ewp_true rfl ?_ | refine ewp_false rfl ?_)) <;> (refine o_as rfl rfl ?_ <;> (refine o_z ?_)) <;> (repeat (first | refine e_go ?_ | refine ewp_true rfl ?_ | refine ewp_false rfl ?_)))
      refine ret1 rfl rfl ⟨?_, hE2⟩
      rw [bof_f (fun h => by have := h.2.2.2.1.2 k hk; omega)])
    exact ⟨(), ⟨rfl, rfl, rfl, rfl, trivial⟩, rfl, upto_step hh fun _ => by omega⟩
  rintro _ _ ⟨rfl, hname⟩
  have hnok : NameOk o.name := ⟨by omega, fun i h => hname i h h⟩
  repeat (first | refine e_go ?_ | refine ewp_true rfl ?_ | refine ewp_false rfl ?_)
  ((repeat (first | refine e_go ?_ | refine ewp_true rfl ?_ | refine ewp_false rfl ?_)) <;> (refine o_fa rfl rfl ?_ <;> refine o_ld rfl rfl ?_ <;> refine o_ln rfl rfl ?_ <;> refine o_mv rfl rfl ?_ <;> (refine o_z ?_)) <;> (repeat (first | refine e_go ?_ | refine ewp_true rfl ?_ | refine ewp_false rfl ?_)))
  refine ewp_range o.effs.length (by omega) (fun _ : Unit => [(0, .slice Av vars.length cv), (3, .pointer (some ⟨w.heap.size, 0, none⟩)), (55, .slice Aq o.effs.length cq)]) (fun k _ w' => Ext w w' ∧ ∀ i, i < k → ∀ e, o.effs[i]? = some e → EffOk vars e) ()
    ⟨hE2, fun i hi => by omega⟩ ⟨rfl, rfl, rfl, rfl, rfl, trivial⟩ (fun _ => ⟨rfl, rfl⟩) ⟨rfl, rfl, rfl⟩ ⟨rfl, rfl⟩ ?_ ?_
  · rintro k _ w3 hk ⟨hE3, hh⟩
    obtain ⟨e, he⟩ := some_of_lt hk
    obtain ⟨b2, o2, ce, rfl, _, _, hd1, cv', rfl, hcond, hr1, hr2⟩ := (hq.ext hE3).elem he
    obtain ⟨Ac, cc, rfl⟩ := hcond.form
    ((repeat (first | refine e_go ?_ | refine ewp_true rfl ?_ | refine ewp_false rfl ?_)) <;> (refine o_ia rfl rfl rfl ?_ <;> refine o_la rfl rfl ?_) <;> (repeat (first | refine e_go ?_ | refine ewp_true rfl ?_ | refine ewp_false rfl ?_)))
    refine owp_local rfl rfl rfl (by simp [Value.cells, Value.oneCell']) fun w4 hN4 => ?_
    have hb2 := hN4.blk
    have hE4 : Ext w w4 := hE3.trans' hN4.ext
    ((refine o_z ?_))
    repeat (first | refine e_go ?_ | refine ewp_true rfl ?_ | refine ewp_false rfl ?_)
    (refine o_mv rfl rfl ?_ <;> refine o_fa rfl rfl ?_ <;> refine o_ld rfl rfl ?_)
    refine owp_callB rfl rfl (baseProper (hv.ext hE4) (hcond.ext hN4.ext)) ?_ ?_
    case refine_2 =>
      intro w5 hP hE5
      ((first | refine o_nt rfl rfl ?_ | refine o_nf rfl rfl ?_ | refine o_nn rfl rfl ?_) <;> refine o_mv rfl rfl ?_ <;> (first | (refine owp_yes rfl rfl ?_; refine o_mv rfl rfl ?_) | refine owp_no rfl rfl rfl rfl ?_) <;> (first | (refine owp_yes rfl rfl ?_; refine o_fa rfl rfl ?_) | refine owp_no rfl rfl rfl rfl ?_) <;> (first | (refine owp_yes rfl rfl ?_; refine o_ld rfl rfl ?_) | refine owp_no rfl rfl rfl rfl ?_) <;> (first | (refine owp_yes rfl rfl ?_; refine o_fa rfl rfl ?_) | refine owp_no rfl rfl rfl rfl ?_) <;> (first | (refine owp_yes rfl rfl ?_; refine o_ld rfl rfl ?_) | refine owp_no rfl rfl rfl rfl ?_) <;> (first | (refine owp_yes rfl rfl ?_; refine o_bd rfl rfl rfl ?_) | refine owp_no rfl rfl rfl rfl ?_))
      refine owp_no rfl rfl rfl rfl ?_
      refine owp_no rfl rfl rfl rfl ?_
      ((first | (refine owp_yes rfl rfl ?_; (first | refine o_nt rfl rfl ?_ | refine o_nf rfl rfl ?_ | refine o_nn rfl rfl ?_)) | refine owp_no rfl rfl rfl rfl ?_) <;> (first | refine o_pt rfl rfl rfl ?_ | refine o_pf rfl rfl rfl ?_) <;> (refine o_z ?_))
      repeat (first | refine e_go ?_ | refine ewp_true rfl ?_ | refine ewp_false rfl ?_)
      ((repeat (first | refine e_go ?_ | refine ewp_true rfl ?_ | refine ewp_false rfl ?_)) <;> (refine o_as rfl rfl ?_ <;> (refine o_z ?_)) <;> (repeat (first | refine e_go ?_ | refine ewp_true rfl ?_ | refine ewp_false rfl ?_)))
      refine ret1 rfl rfl ⟨?_, hE4.trans' hE5⟩
      rw [bof_f (fun h => hP (h.2.2.2.2.2 k e he).1)]
    intro w5 hcok hE5
    replace hb2 := hb2.ext hE5
    ((first | refine o_nt rfl rfl ?_ | refine o_nf rfl rfl ?_ | refine o_nn rfl rfl ?_) <;> refine o_mv rfl rfl ?_ <;> (first | (refine owp_yes rfl rfl ?_; refine o_mv rfl rfl ?_) | refine owp_no rfl rfl rfl rfl ?_) <;> (first | (refine owp_yes rfl rfl ?_; refine o_fa rfl rfl ?_) | refine owp_no rfl rfl rfl rfl ?_) <;> (first | (refine owp_yes rfl rfl ?_; refine o_ld rfl rfl ?_) | refine owp_no rfl rfl rfl rfl ?_) <;> (first | (refine owp_yes rfl rfl ?_; refine o_fa rfl rfl ?_) | refine owp_no rfl rfl rfl rfl ?_) <;> (first | (refine owp_yes rfl rfl ?_; refine o_ld rfl rfl ?_) | refine owp_no rfl rfl rfl rfl ?_) <;> (first | (refine owp_yes rfl rfl ?_; refine o_bd rfl rfl rfl ?_) | refine owp_no rfl rfl rfl rfl ?_))
    refine owp_yes rfl rfl ?_
    refine owp_slice rfl rfl rfl (by simp [Value.cells]; rfl) (by decide) rfl fun w6 hN6 => ?_
    have hE6 : Ext w w6 := hE4.trans' (hE5.trans' hN6.ext)
    refine owp_yes rfl rfl ?_
    have hone : V w6 (.slice (some ⟨w5.heap.size, 0, none⟩) 1 1) [(⟨e.var, e.val⟩ : Fct)] :=
      .of_slice ⟨_, 1, [.int .i64 e.var, .int .i64 e.val], rfl, Nat.le_refl _, by omega, .single ⟨rfl, hr1, hr2⟩, fun _ => ⟨_, _, rfl, hN6.blk.lt, hN6.blk.cellsAt⟩⟩
    refine owp_callB rfl rfl (baseProper (hv.ext hE6) hone) ?_ ?_
    case refine_2 =>
      intro w7 hP hE7
      ((first | (refine owp_yes rfl rfl ?_; (first | refine o_nt rfl rfl ?_ | refine o_nf rfl rfl ?_ | refine o_nn rfl rfl ?_)) | refine owp_no rfl rfl rfl rfl ?_) <;> (first | refine o_pt rfl rfl rfl ?_ | refine o_pf rfl rfl rfl ?_) <;> (refine o_z ?_))
      repeat (first | refine e_go ?_ | refine ewp_true rfl ?_ | refine ewp_false rfl ?_)
      ((repeat (first | refine e_go ?_ | refine ewp_true rfl ?_ | refine ewp_false rfl ?_)) <;> (refine o_as rfl rfl ?_ <;> (refine o_z ?_)) <;> (repeat (first | refine e_go ?_ | refine ewp_true rfl ?_ | refine ewp_false rfl ?_)))
      refine ret1 rfl rfl ⟨?_, hE6.trans' hE7⟩
      rw [bof_f (fun h => hP (factsOk_one.2 (h.2.2.2.2.2 k e he).2))]
    intro w7 hfok hE7
    ((first | (refine owp_yes rfl rfl ?_; (first | refine o_nt rfl rfl ?_ | refine o_nf rfl rfl ?_ | refine o_nn rfl rfl ?_)) | refine owp_no rfl rfl rfl rfl ?_) <;> (first | refine o_pt rfl rfl rfl ?_ | refine o_pf rfl rfl rfl ?_) <;> (refine o_z ?_))
    repeat (first | refine e_go ?_ | refine ewp_true rfl ?_ | refine ewp_false rfl ?_)
    exact ⟨(), ⟨rfl, rfl, rfl, rfl, rfl, trivial⟩, hE6.trans' hE7, upto_step hh fun e' he' => by
      rw [he] at he'; injection he' with he'; subst he'; exact ⟨hcok, factsOk_one.1 hfok⟩⟩
  rintro _ w3 ⟨hE3, hh⟩
  repeat (first | refine e_go ?_ | refine ewp_true rfl ?_ | refine ewp_false rfl ?_)
  ((repeat (first | refine e_go ?_ | refine ewp_true rfl ?_ | refine ewp_false rfl ?_)) <;> (refine o_as rfl rfl ?_ <;> (refine o_z ?_)) <;> (repeat (first | refine e_go ?_ | refine ewp_true rfl ?_ | refine ewp_false rfl ?_)))
  refine ret1 rfl rfl ⟨?_, hE3⟩
  rw [bof_t ⟨by omega, by omega, by omega, hnok, hpre, fun i e he => hh i (lt_of_some he) e he⟩]
theorem baseGood {w : World} {tv : Value} {t : Tsk} (ht : V w tv t) :
    Fn Try.prog 23 [tv] w fun v w' => v = .bool (bof (TaskOk t)) ∧ Ext w w' := by
  obtain ⟨cs, rfl, a, b, c, d, rfl, hvars, hinit, hgoal, hops⟩ := ht
  obtain ⟨Av, cv, rfl⟩ := hvars.form
  obtain ⟨Ai, ci, rfl⟩ := hinit.form
  obtain ⟨Ag, cg, rfl⟩ := hgoal.form
  obtain ⟨Ao, co, rfl⟩ := hops.form
  have hvl := hvars.len
  have hol := hops.len
  refine fn_enter Try.func23 rfl Try.ntmps23 rfl ?_
  repeat (first | refine e_go ?_ | refine ewp_true rfl ?_ | refine ewp_false rfl ?_)
  refine owp_box rfl rfl fun w1 hN => ?_
  have hb1 := hN.blk
  have hE1 : Ext w w1 := hN.ext
  (refine o_as rfl rfl ?_ <;> (refine o_z ?_))
  repeat (first | refine e_go ?_ | refine ewp_true rfl ?_ | refine ewp_false rfl ?_)
  ((repeat (first | refine e_go ?_ | refine ewp_true rfl ?_ | refine ewp_false rfl ?_)) <;> (refine o_fa rfl rfl ?_ <;> refine o_ld rfl rfl ?_ <;> refine o_ln rfl rfl ?_ <;> (first | refine o_gtT rfl rfl rfl ?_ | refine o_gtF rfl rfl rfl ?_ | refine o_gtS rfl rfl rfl (fun _ => ?_) fun _ => ?_) <;> refine o_mv rfl rfl ?_ <;> (first | (refine owp_yes rfl rfl ?_; refine o_fa rfl rfl ?_) | refine owp_no rfl rfl rfl rfl ?_) <;> (first | (refine owp_yes rfl rfl ?_; refine o_ld rfl rfl ?_) | refine owp_no rfl rfl rfl rfl ?_) <;> (first | (refine owp_yes rfl rfl ?_; refine o_ln rfl rfl ?_) | refine owp_no rfl rfl rfl rfl ?_) <;> (first | (refine owp_yes rfl rfl ?_; (first | refine o_gtT rfl rfl rfl ?_ | refine o_gtF rfl rfl rfl ?_ | refine o_gtS rfl rfl rfl (fun _ => ?_) fun _ => ?_)) | refine owp_no rfl rfl rfl rfl ?_) <;> (first | refine o_pt rfl rfl rfl ?_ | refine o_pf rfl rfl rfl ?_) <;> (refine o_z ?_)) <;> (repeat (first | refine e_go ?_ | refine ewp_true rfl ?_ | refine ewp_false rfl ?_)))
  all_goals try (
    ((repeat (first | refine e_go ?_ | refine ewp_true rfl ?_ | refine ewp_false rfl ?_)) <;> (refine o_as rfl rfl ?_ <;> (refine o_z ?_)) <;> (repeat (first | refine e_go ?_ | refine ewp_true rfl ?_ | refine ewp_false rfl ?_)))
    refine ret1 rfl rfl ⟨?_, hE1⟩
    rw [bof_f (fun h => by obtain ⟨h1, h2, _⟩ := h; omega)])
  (refine o_fa rfl rfl ?_ <;> refine o_ld rfl rfl ?_ <;> refine o_ln rfl rfl ?_ <;> refine o_mv rfl rfl ?_ <;> (refine o_z ?_))
  repeat (first | refine e_go ?_ | refine ewp_true rfl ?_ | refine ewp_false rfl ?_)
  refine ewp_range t.vars.length (by omega) (fun _ : Unit => [(1, .pointer (some ⟨w.heap.size, 0, none⟩)), (18, .slice Av t.vars.length cv)]) (fun k _ w' => w' = w1 ∧ ∀ i, i < k → ∀ n, t.vars[i]? = some n → 1 ≤ n ∧ n ≤ 64) ()
    ⟨rfl, fun i hi => by omega⟩ ⟨rfl, rfl, rfl, rfl, trivial⟩ (fun _ => ⟨rfl, rfl⟩) ⟨rfl, rfl, rfl⟩ ⟨rfl, rfl⟩ ?_ ?_
  · rintro k _ _ hk ⟨rfl, hh⟩
    obtain ⟨n, hn⟩ := some_of_lt hk
    obtain ⟨b2, o2, ce, rfl, _, _, hd1, rfl, _⟩ := (hvars.ext hE1).elem hn
    ((repeat (first | refine e_go ?_ | refine ewp_true rfl ?_ | refine ewp_false rfl ?_)) <;> (refine o_ia rfl rfl rfl ?_ <;> refine o_ld rfl rfl ?_ <;> refine o_as rfl rfl ?_ <;> (refine o_z ?_)) <;> (repeat (first | refine e_go ?_ | refine ewp_true rfl ?_ | refine ewp_false rfl ?_)) <;> (refine o_mv rfl rfl ?_ <;> (first | refine o_ltT rfl rfl rfl ?_ | refine o_ltF rfl rfl rfl ?_ | refine o_ltS rfl rfl rfl (fun _ => ?_) fun _ => ?_) <;> refine o_mv rfl rfl ?_ <;> (first | (refine owp_yes rfl rfl ?_; refine o_mv rfl rfl ?_) | refine owp_no rfl rfl rfl rfl ?_) <;> (first | (refine owp_yes rfl rfl ?_; (first | refine o_gtT rfl rfl rfl ?_ | refine o_gtF rfl rfl rfl ?_ | refine o_gtS rfl rfl rfl (fun _ => ?_) fun _ => ?_)) | refine owp_no rfl rfl rfl rfl ?_) <;> (first | refine o_pt rfl rfl rfl ?_ | refine o_pf rfl rfl rfl ?_) <;> (refine o_z ?_)) <;> (repeat (first | refine e_go ?_ | refine ewp_true rfl ?_ | refine ewp_false rfl ?_)))
    all_goals try (
      ((repeat (first | refine e_go ?_ | refine ewp_true rfl ?_ | refine ewp_false rfl ?_)) <;> (refine o_as rfl rfl ?_ <;> (refine o_z ?_)) <;> (repeat (first | refine e_go ?_ | refine ewp_true rfl ?_ | refine ewp_false rfl ?_)))
      refine ret1 rfl rfl ⟨?_, hE1⟩
      rw [bof_f (fun h => by have := h.2.2.1 k n hn; omega)])
    exact ⟨(), ⟨rfl, rfl, rfl, rfl, trivial⟩, rfl, upto_step hh fun n' hn' => by rw [hn] at hn'; injection hn' with hn'; omega⟩
  rintro _ _ ⟨rfl, hdom⟩
  repeat (first | refine e_go ?_ | refine ewp_true rfl ?_ | refine ewp_false rfl ?_)
  (refine o_fa rfl rfl ?_ <;> refine o_ld rfl rfl ?_ <;> refine o_fa rfl rfl ?_ <;> refine o_ld rfl rfl ?_)
  refine owp_callB rfl rfl (baseState (hvars.ext hE1) (hinit.ext hE1)) ?_ ?_
  case refine_2 =>
    intro w2 hP hE2
    ((first | refine o_nt rfl rfl ?_ | refine o_nf rfl rfl ?_ | refine o_nn rfl rfl ?_) <;> refine o_mv rfl rfl ?_ <;> (first | (refine owp_yes rfl rfl ?_; refine o_fa rfl rfl ?_) | refine owp_no rfl rfl rfl rfl ?_) <;> (first | (refine owp_yes rfl rfl ?_; refine o_ld rfl rfl ?_) | refine owp_no rfl rfl rfl rfl ?_) <;> (first | (refine owp_yes rfl rfl ?_; refine o_fa rfl rfl ?_) | refine owp_no rfl rfl rfl rfl ?_) <;> (first | (refine owp_yes rfl rfl ?_; refine o_ld rfl rfl ?_) | refine owp_no rfl rfl rfl rfl ?_))
    refine owp_no rfl rfl rfl rfl ?_
    ((first | (refine owp_yes rfl rfl ?_; (first | refine o_nt rfl rfl ?_ | refine o_nf rfl rfl ?_ | refine o_nn rfl rfl ?_)) | refine owp_no rfl rfl rfl rfl ?_) <;> (first | refine o_pt rfl rfl rfl ?_ | refine o_pf rfl rfl rfl ?_) <;> (refine o_z ?_))
    repeat (first | refine e_go ?_ | refine ewp_true rfl ?_ | refine ewp_false rfl ?_)
    ((repeat (first | refine e_go ?_ | refine ewp_true rfl ?_ | refine ewp_false rfl ?_)) <;> (refine o_as rfl rfl ?_ <;> (refine o_z ?_)) <;> (repeat (first | refine e_go ?_ | refine ewp_true rfl ?_ | refine ewp_false rfl ?_)))
    refine ret1 rfl rfl ⟨?_, hE1.trans' hE2⟩
    rw [bof_f (fun h => hP h.2.2.2.1)]
  intro w2 hst hE2
  replace hb1 := hb1.ext hE2
  replace hE2 : Ext w w2 := hE1.trans' hE2
  ((first | refine o_nt rfl rfl ?_ | refine o_nf rfl rfl ?_ | refine o_nn rfl rfl ?_) <;> refine o_mv rfl rfl ?_ <;> (first | (refine owp_yes rfl rfl ?_; refine o_fa rfl rfl ?_) | refine owp_no rfl rfl rfl rfl ?_) <;> (first | (refine owp_yes rfl rfl ?_; refine o_ld rfl rfl ?_) | refine owp_no rfl rfl rfl rfl ?_) <;> (first | (refine owp_yes rfl rfl ?_; refine o_fa rfl rfl ?_) | refine owp_no rfl rfl rfl rfl ?_) <;> (first | (refine owp_yes rfl rfl ?_; refine o_ld rfl rfl ?_) | refine owp_no rfl rfl rfl rfl ?_))
  refine owp_yes rfl rfl ?_
  refine owp_callB rfl rfl (baseProper (hvars.ext hE2) (hgoal.ext hE2)) ?_ ?_
  case refine_2 =>
    intro w3 hP hE3
    ((first | (refine owp_yes rfl rfl ?_; (first | refine o_nt rfl rfl ?_ | refine o_nf rfl rfl ?_ | refine o_nn rfl rfl ?_)) | refine owp_no rfl rfl rfl rfl ?_) <;> (first | refine o_pt rfl rfl rfl ?_ | refine o_pf rfl rfl rfl ?_) <;> (refine o_z ?_))
    repeat (first | refine e_go ?_ | refine ewp_true rfl ?_ | refine ewp_false rfl ?_)
    ((repeat (first | refine e_go ?_ | refine ewp_true rfl ?_ | refine ewp_false rfl ?_)) <;> (refine o_as rfl rfl ?_ <;> (refine o_z ?_)) <;> (repeat (first | refine e_go ?_ | refine ewp_true rfl ?_ | refine ewp_false rfl ?_)))
    refine ret1 rfl rfl ⟨?_, hE2.trans' hE3⟩
    rw [bof_f (fun h => hP h.2.2.2.2.1)]
  intro w3 hgo hE3
  replace hb1 := hb1.ext hE3
  replace hE3 : Ext w w3 := hE2.trans' hE3
  ((first | (refine owp_yes rfl rfl ?_; (first | refine o_nt rfl rfl ?_ | refine o_nf rfl rfl ?_ | refine o_nn rfl rfl ?_)) | refine owp_no rfl rfl rfl rfl ?_) <;> (first | refine o_pt rfl rfl rfl ?_ | refine o_pf rfl rfl rfl ?_) <;> (refine o_z ?_))
  repeat (first | refine e_go ?_ | refine ewp_true rfl ?_ | refine ewp_false rfl ?_)
  ((repeat (first | refine e_go ?_ | refine ewp_true rfl ?_ | refine ewp_false rfl ?_)) <;> (refine o_fa rfl rfl ?_ <;> refine o_ld rfl rfl ?_ <;> refine o_ln rfl rfl ?_ <;> refine o_mv rfl rfl ?_ <;> (refine o_z ?_)) <;> (repeat (first | refine e_go ?_ | refine ewp_true rfl ?_ | refine ewp_false rfl ?_)))
  refine ewp_range t.ops.length (by omega) (fun _ : Unit => [(1, .pointer (some ⟨w.heap.size, 0, none⟩)), (46, .slice Ao t.ops.length co)]) (fun k _ w' => Ext w3 w' ∧ ∀ i, i < k → ∀ o, t.ops[i]? = some o → OpOk t.vars o) ()
    ⟨Below.refl _ _, fun i hi => by omega⟩ ⟨rfl, rfl, rfl, rfl, trivial⟩ (fun _ => ⟨rfl, rfl⟩) ⟨rfl, rfl, rfl⟩ ⟨rfl, rfl⟩ ?_ ?_
  · rintro k _ w4 hk ⟨hE4, hh⟩
    obtain ⟨o, ho⟩ := some_of_lt hk
    replace hb1 := hb1.ext hE4
    have hE34 := hE4
    replace hE4 : Ext w w4 := hE3.trans' hE4
    obtain ⟨b2, o2, ce, rfl, _, _, hd1, hRo⟩ := (hops.ext hE4).elem ho
    obtain ⟨p, q, rfl, hp, hq, hc, hn⟩ := id hRo
    obtain ⟨Ap, cp, rfl⟩ := hp.form
    obtain ⟨Aq, cq, rfl⟩ := hq.form
    ((repeat (first | refine e_go ?_ | refine ewp_true rfl ?_ | refine ewp_false rfl ?_)) <;> (refine o_ia rfl rfl rfl ?_ <;> refine o_la rfl rfl ?_) <;> (repeat (first | refine e_go ?_ | refine ewp_true rfl ?_ | refine ewp_false rfl ?_)))
    refine owp_local rfl rfl rfl (by simp [Value.cells, Value.oneCell']) fun w5 hN5 => ?_
    have hb2 := hN5.blk
    replace hb1 := hb1.ext hN5.ext
    have hE5 : Ext w w5 := hE4.trans' hN5.ext
    ((refine o_z ?_))
    repeat (first | refine e_go ?_ | refine ewp_true rfl ?_ | refine ewp_false rfl ?_)
    (refine o_fa rfl rfl ?_ <;> refine o_ld rfl rfl ?_ <;> refine o_la rfl rfl ?_)
    have hVo : V w4 (.agg #[.string o.name, .int .i64 o.cost, .slice Ap o.pre.length cp, .slice Aq o.effs.length cq]) o := ⟨_, rfl, hRo⟩
    refine owp_callB rfl rfl (baseOperator (hvars.ext hE5) (hVo.ext hN5.ext)) ?_ ?_
    · intro w6 hP hE6
      ((first | refine o_nt rfl rfl ?_ | refine o_nf rfl rfl ?_ | refine o_nn rfl rfl ?_) <;> (refine o_z ?_))
      repeat (first | refine e_go ?_ | refine ewp_true rfl ?_ | refine ewp_false rfl ?_)
      refine ⟨(), ⟨rfl, rfl, rfl, rfl, trivial⟩, ?_, upto_step hh fun o' ho' => by rw [ho] at ho'; injection ho' with ho'; exact ho' ▸ hP⟩
      exact hE34.trans' (hN5.ext.trans' hE6)
    · intro w6 hP hE6
      ((first | refine o_nt rfl rfl ?_ | refine o_nf rfl rfl ?_ | refine o_nn rfl rfl ?_) <;> (refine o_z ?_))
      repeat (first | refine e_go ?_ | refine ewp_true rfl ?_ | refine ewp_false rfl ?_)
      ((repeat (first | refine e_go ?_ | refine ewp_true rfl ?_ | refine ewp_false rfl ?_)) <;> (refine o_as rfl rfl ?_ <;> (refine o_z ?_)) <;> (repeat (first | refine e_go ?_ | refine ewp_true rfl ?_ | refine ewp_false rfl ?_)))
      refine ret1 rfl rfl ⟨?_, hE5.trans' hE6⟩
      rw [bof_f (fun h => hP (h.2.2.2.2.2 k o ho))]
  rintro _ w4 ⟨hE4, hh⟩
  repeat (first | refine e_go ?_ | refine ewp_true rfl ?_ | refine ewp_false rfl ?_)
  ((repeat (first | refine e_go ?_ | refine ewp_true rfl ?_ | refine ewp_false rfl ?_)) <;> (refine o_as rfl rfl ?_ <;> (refine o_z ?_)) <;> (repeat (first | refine e_go ?_ | refine ewp_true rfl ?_ | refine ewp_false rfl ?_)))
  refine ret1 rfl rfl ⟨?_, hE3.trans' hE4⟩
  rw [bof_t ⟨by omega, by omega, fun i n hn => hdom i (lt_of_some hn) n hn, hst, hgo, fun i o ho => hh i (lt_of_some ho) o ho⟩]
/-- The number of states, at most one more than most. -/
def manyF (most : Int) : List Int → Int → Int
  | [], n => n
  | k :: r, n => if most < n * min (max k 0) (most + 1) then most + 1 else manyF most r (n * min (max k 0) (most + 1))
theorem baseMany {w : World} {vv : Value} {vars : List Int} {most : Int} (hv : V w vv vars) (h1 : 1 ≤ most) (h2 : most ≤ 1048576) :
    Fn Try.prog 28 [vv, .int .i64 most] w fun v w' => v = .int .i64 (manyF most vars 1) ∧ Ext w w' := by
  obtain ⟨A, ca, rfl⟩ := hv.form
  have hvl := hv.len
  refine fn_enter Try.func28 rfl Try.ntmps28 rfl ?_
  ((repeat (first | refine e_go ?_ | refine ewp_true rfl ?_ | refine ewp_false rfl ?_)) <;> (refine o_as rfl rfl ?_ <;> (refine o_z ?_)) <;> (repeat (first | refine e_go ?_ | refine ewp_true rfl ?_ | refine ewp_false rfl ?_)) <;> (refine o_as rfl rfl ?_ <;> (refine o_z ?_)) <;> (repeat (first | refine e_go ?_ | refine ewp_true rfl ?_ | refine ewp_false rfl ?_)) <;> (refine o_mv rfl rfl ?_ <;> refine o_ln rfl rfl ?_ <;> refine o_mv rfl rfl ?_ <;> (refine o_z ?_)) <;> (repeat (first | refine e_go ?_ | refine ewp_true rfl ?_ | refine ewp_false rfl ?_)))
  refine ewp_range vars.length (by omega) (fun n : Int => [(1, .int .i64 most), (5, .int .i64 n), (8, .slice A vars.length ca)]) (fun k n w' => w' = w ∧ 0 ≤ n ∧ n ≤ most ∧ manyF most (vars.drop k) n = manyF most vars 1) 1
    ⟨rfl, by omega, h1, rfl⟩ ⟨rfl, rfl, rfl, rfl, rfl, trivial⟩ (fun _ => ⟨rfl, rfl⟩) ⟨rfl, rfl, rfl⟩ ⟨rfl, rfl⟩ ?_ ?_
  · rintro k n _ hk ⟨rfl, hn0, hn1, hh⟩
    obtain ⟨x, hx⟩ := some_of_lt hk
    obtain ⟨b2, o2, ce, rfl, _, _, hd1, rfl, _⟩ := hv.elem hx
    have hd : vars.drop k = x :: vars.drop (k + 1) := by
      rw [List.drop_eq_getElem_cons hk]; congr 1
      rw [List.getElem?_eq_getElem hk] at hx; exact Option.some.inj hx
    rw [hd] at hh
    simp only [manyF] at hh
    have hm0 : 0 ≤ min (max x 0) (most + 1) := by omega
    have hm1 : min (max x 0) (most + 1) ≤ most + 1 := by omega
    have hp0 : 0 ≤ n * min (max x 0) (most + 1) := Int.mul_nonneg hn0 hm0
    have hp1 : n * min (max x 0) (most + 1) ≤ 1048576 * 1048577 := Int.le_trans (Int.mul_le_mul_of_nonneg_right (Int.le_trans hn1 h2) hm0) (Int.mul_le_mul_of_nonneg_left (by omega) (by omega))
    ((repeat (first | refine e_go ?_ | refine ewp_true rfl ?_ | refine ewp_false rfl ?_)) <;> (refine o_ia rfl rfl rfl ?_ <;> refine o_ld rfl rfl ?_ <;> refine o_as rfl rfl ?_ <;> (refine o_z ?_)) <;> (repeat (first | refine e_go ?_ | refine ewp_true rfl ?_ | refine ewp_false rfl ?_)) <;> (refine o_mv rfl rfl ?_ <;> refine o_mv rfl rfl ?_ <;> refine o_max rfl rfl rfl ?_ <;> refine o_mv rfl rfl ?_ <;> (first | refine o_ic rfl rfl ?_ | refine o_ad rfl rfl rfl ?_) <;> refine o_min rfl rfl rfl ?_ <;> refine o_ml rfl rfl rfl ?_ <;> refine o_as rfl rfl ?_ <;> (refine o_z ?_)) <;> (repeat (first | refine e_go ?_ | refine ewp_true rfl ?_ | refine ewp_false rfl ?_)) <;> (refine o_mv rfl rfl ?_ <;> refine o_mv rfl rfl ?_ <;> (first | refine o_gtT rfl rfl rfl ?_ | refine o_gtF rfl rfl rfl ?_ | refine o_gtS rfl rfl rfl (fun _ => ?_) fun _ => ?_) <;> (refine o_z ?_)) <;> (repeat (first | refine e_go ?_ | refine ewp_true rfl ?_ | refine ewp_false rfl ?_)))
    · ((repeat (first | refine e_go ?_ | refine ewp_true rfl ?_ | refine ewp_false rfl ?_)) <;> (refine o_mv rfl rfl ?_ <;> (first | refine o_ic rfl rfl ?_ | refine o_ad rfl rfl rfl ?_) <;> refine o_as rfl rfl ?_ <;> (refine o_z ?_)) <;> (repeat (first | refine e_go ?_ | refine ewp_true rfl ?_ | refine ewp_false rfl ?_)))
      refine ret1 rfl rfl ⟨?_, Below.refl _ _⟩
      rw [if_pos (by assumption)] at hh
      rw [← hh]
    · rw [if_neg (by assumption)] at hh
      exact ⟨n * min (max x 0) (most + 1), ⟨rfl, rfl, rfl, rfl, rfl, trivial⟩, rfl, hp0, by omega, hh⟩
  rintro n _ ⟨rfl, _, _, hh⟩
  repeat (first | refine e_go ?_ | refine ewp_true rfl ?_ | refine ewp_false rfl ?_)
  ((repeat (first | refine e_go ?_ | refine ewp_true rfl ?_ | refine ewp_false rfl ?_)) <;> (refine o_mv rfl rfl ?_ <;> refine o_as rfl rfl ?_ <;> (refine o_z ?_)) <;> (repeat (first | refine e_go ?_ | refine ewp_true rfl ?_ | refine ewp_false rfl ?_)))
  refine ret1 rfl rfl ⟨?_, Below.refl _ _⟩
  rw [← hh, List.drop_length]; rfl
/-- A task is small. -/
def SmallOk (t : Tsk) : Prop := t.vars.length ≤ 12 ∧ t.ops.length ≤ 20 ∧ (∀ (i : Nat) o, t.ops[i]? = some o → o.effs.length ≤ 8) ∧ TaskOk t ∧ manyF 512 t.vars 1 ≤ 512
theorem baseSmall {w : World} {tv : Value} {t : Tsk} (ht : V w tv t) :
    Fn Try.prog 11 [tv] w fun v w' => v = .bool (bof (SmallOk t)) ∧ Ext w w' := by
  have ht0 := ht
  obtain ⟨cs, rfl, a, b, c, d, rfl, hvars, hinit, hgoal, hops⟩ := ht
  obtain ⟨Av, cv, rfl⟩ := hvars.form
  obtain ⟨Ai, ci, rfl⟩ := hinit.form
  obtain ⟨Ag, cg, rfl⟩ := hgoal.form
  obtain ⟨Ao, co, rfl⟩ := hops.form
  have hvl := hvars.len
  have hol := hops.len
  refine fn_enter Try.func11 rfl Try.ntmps11 rfl ?_
  repeat (first | refine e_go ?_ | refine ewp_true rfl ?_ | refine ewp_false rfl ?_)
  refine owp_box rfl rfl fun w1 hN => ?_
  have hb1 := hN.blk
  have hE1 : Ext w w1 := hN.ext
  (refine o_as rfl rfl ?_ <;> (refine o_z ?_))
  repeat (first | refine e_go ?_ | refine ewp_true rfl ?_ | refine ewp_false rfl ?_)
  ((repeat (first | refine e_go ?_ | refine ewp_true rfl ?_ | refine ewp_false rfl ?_)) <;> (refine o_fa rfl rfl ?_ <;> refine o_ld rfl rfl ?_ <;> refine o_ln rfl rfl ?_ <;> (first | refine o_gtT rfl rfl rfl ?_ | refine o_gtF rfl rfl rfl ?_ | refine o_gtS rfl rfl rfl (fun _ => ?_) fun _ => ?_) <;> refine o_mv rfl rfl ?_ <;> (first | (refine owp_yes rfl rfl ?_; refine o_fa rfl rfl ?_) | refine owp_no rfl rfl rfl rfl ?_) <;> (first | (refine owp_yes rfl rfl ?_; refine o_ld rfl rfl ?_) | refine owp_no rfl rfl rfl rfl ?_) <;> (first | (refine owp_yes rfl rfl ?_; refine o_ln rfl rfl ?_) | refine owp_no rfl rfl rfl rfl ?_) <;> (first | (refine owp_yes rfl rfl ?_; (first | refine o_gtT rfl rfl rfl ?_ | refine o_gtF rfl rfl rfl ?_ | refine o_gtS rfl rfl rfl (fun _ => ?_) fun _ => ?_)) | refine owp_no rfl rfl rfl rfl ?_) <;> (first | refine o_pt rfl rfl rfl ?_ | refine o_pf rfl rfl rfl ?_) <;> (refine o_z ?_)) <;> (repeat (first | refine e_go ?_ | refine ewp_true rfl ?_ | refine ewp_false rfl ?_)))
  all_goals try (
    ((repeat (first | refine e_go ?_ | refine ewp_true rfl ?_ | refine ewp_false rfl ?_)) <;> (refine o_as rfl rfl ?_ <;> (refine o_z ?_)) <;> (repeat (first | refine e_go ?_ | refine ewp_true rfl ?_ | refine ewp_false rfl ?_)))
    refine ret1 rfl rfl ⟨?_, hE1⟩
    rw [bof_f (fun h => by obtain ⟨h1, h2, _⟩ := h; omega)])
  ((repeat (first | refine e_go ?_ | refine ewp_true rfl ?_ | refine ewp_false rfl ?_)) <;> (refine o_fa rfl rfl ?_ <;> refine o_ld rfl rfl ?_ <;> refine o_ln rfl rfl ?_ <;> refine o_mv rfl rfl ?_ <;> (refine o_z ?_)) <;> (repeat (first | refine e_go ?_ | refine ewp_true rfl ?_ | refine ewp_false rfl ?_)))
  refine ewp_range t.ops.length (by omega) (fun _ : Unit => [(1, .pointer (some ⟨w.heap.size, 0, none⟩)), (16, .slice Ao t.ops.length co)]) (fun k _ w' => Ext w1 w' ∧ ∀ i, i < k → ∀ o, t.ops[i]? = some o → o.effs.length ≤ 8) ()
    ⟨Below.refl _ _, fun i hi => by omega⟩ ⟨rfl, rfl, rfl, rfl, trivial⟩ (fun _ => ⟨rfl, rfl⟩) ⟨rfl, rfl, rfl⟩ ⟨rfl, rfl⟩ ?_ ?_
  · rintro k _ w4 hk ⟨hE4, hh⟩
    obtain ⟨o, ho⟩ := some_of_lt hk
    obtain ⟨b2, o2, ce, rfl, _, _, hd1, p, q, rfl, hp, hq, hc, hn⟩ := (hops.ext (hE1.trans' hE4)).elem ho
    obtain ⟨Ap, cp, rfl⟩ := hp.form
    obtain ⟨Aq, cq, rfl⟩ := hq.form
    ((repeat (first | refine e_go ?_ | refine ewp_true rfl ?_ | refine ewp_false rfl ?_)) <;> (refine o_ia rfl rfl rfl ?_ <;> refine o_la rfl rfl ?_) <;> (repeat (first | refine e_go ?_ | refine ewp_true rfl ?_ | refine ewp_false rfl ?_)))
    refine owp_local rfl rfl rfl (by simp [Value.cells, Value.oneCell']) fun w5 hN5 => ?_
    have hb2 := hN5.blk
    have hE5 : Ext w1 w5 := hE4.trans' hN5.ext
    ((refine o_z ?_))
    repeat (first | refine e_go ?_ | refine ewp_true rfl ?_ | refine ewp_false rfl ?_)
    ((repeat (first | refine e_go ?_ | refine ewp_true rfl ?_ | refine ewp_false rfl ?_)) <;> (refine o_fa rfl rfl ?_ <;> refine o_ld rfl rfl ?_ <;> refine o_ln rfl rfl ?_ <;> (first | refine o_gtT rfl rfl rfl ?_ | refine o_gtF rfl rfl rfl ?_ | refine o_gtS rfl rfl rfl (fun _ => ?_) fun _ => ?_) <;> (refine o_z ?_)) <;> (repeat (first | refine e_go ?_ | refine ewp_true rfl ?_ | refine ewp_false rfl ?_)))
    · ((repeat (first | refine e_go ?_ | refine ewp_true rfl ?_ | refine ewp_false rfl ?_)) <;> (refine o_as rfl rfl ?_ <;> (refine o_z ?_)) <;> (repeat (first | refine e_go ?_ | refine ewp_true rfl ?_ | refine ewp_false rfl ?_)))
      refine ret1 rfl rfl ⟨?_, hE1.trans' hE5⟩
      rw [bof_f (fun h => by have := h.2.2.1 k o ho; omega)]
    · exact ⟨(), ⟨rfl, rfl, rfl, rfl, trivial⟩, hE5, upto_step hh fun o' ho' => by rw [ho] at ho'; injection ho' with ho'; subst ho'; omega⟩
  rintro _ w4 ⟨hE4, hh⟩
  replace hb1 := hb1.ext hE4
  replace hE4 : Ext w w4 := hE1.trans' hE4
  repeat (first | refine e_go ?_ | refine ewp_true rfl ?_ | refine ewp_false rfl ?_)
  (refine o_la rfl rfl ?_)
  refine owp_callB rfl rfl (baseGood (ht0.ext hE4)) ?_ ?_
  · intro w5 hgood hE5
    replace hb1 := hb1.ext hE5
    replace hE5 : Ext w w5 := hE4.trans' hE5
    (refine o_mv rfl rfl ?_ <;> (first | (refine owp_yes rfl rfl ?_; refine o_fa rfl rfl ?_) | refine owp_no rfl rfl rfl rfl ?_) <;> (first | (refine owp_yes rfl rfl ?_; refine o_ld rfl rfl ?_) | refine owp_no rfl rfl rfl rfl ?_))
    refine owp_yes rfl rfl ?_
    refine owp_call rfl rfl (baseMany (hvars.ext hE5) (by decide) (by decide)) ?_
    rintro _ w6 ⟨rfl, hE6⟩
    ((first | (refine owp_yes rfl rfl ?_; (first | refine o_leT rfl rfl rfl ?_ | refine o_leF rfl rfl rfl ?_ | refine o_leS rfl rfl rfl (fun _ => ?_) fun _ => ?_)) | refine owp_no rfl rfl rfl rfl ?_) <;> (first | refine o_pt rfl rfl rfl ?_ | refine o_pf rfl rfl rfl ?_) <;> refine o_as rfl rfl ?_ <;> (refine o_z ?_))
    all_goals
      repeat (first | refine e_go ?_ | refine ewp_true rfl ?_ | refine ewp_false rfl ?_)
      refine ret1 rfl rfl ⟨?_, hE5.trans' hE6⟩
    · rw [bof_t ⟨by omega, by omega, fun i o ho => hh i (lt_of_some ho) o ho, hgood, by assumption⟩]
    · rw [bof_f (fun h => absurd h.2.2.2.2 (by assumption))]
  · intro w5 hgood hE5
    (refine o_mv rfl rfl ?_ <;> (first | (refine owp_yes rfl rfl ?_; refine o_fa rfl rfl ?_) | refine owp_no rfl rfl rfl rfl ?_) <;> (first | (refine owp_yes rfl rfl ?_; refine o_ld rfl rfl ?_) | refine owp_no rfl rfl rfl rfl ?_))
    refine owp_no rfl rfl rfl rfl ?_
    ((first | (refine owp_yes rfl rfl ?_; (first | refine o_leT rfl rfl rfl ?_ | refine o_leF rfl rfl rfl ?_ | refine o_leS rfl rfl rfl (fun _ => ?_) fun _ => ?_)) | refine owp_no rfl rfl rfl rfl ?_) <;> (first | refine o_pt rfl rfl rfl ?_ | refine o_pf rfl rfl rfl ?_) <;> refine o_as rfl rfl ?_ <;> (refine o_z ?_))
    repeat (first | refine e_go ?_ | refine ewp_true rfl ?_ | refine ewp_false rfl ?_)
    refine ret1 rfl rfl ⟨?_, hE4.trans' hE5⟩
    rw [bof_f (fun h => hgood h.2.2.2.1)]
end
section
open Go Go.RowKit
/-- The state after an operator's effects. -/
def effsOn (s : List Int) : List Eff → List Int → List Int
  | [], out => out
  | e :: r, out => effsOn s r (if holdsB e.cond s = true then out.set e.var.toNat e.val else out)
theorem effsOn_append (s : List Int) : ∀ (a b : List Eff) (out : List Int), effsOn s (a ++ b) out = effsOn s b (effsOn s a out)
  | [], _, _ => rfl
  | e :: a, b, out => by simp [effsOn, effsOn_append s a b]
theorem effsOn_length (s : List Int) : ∀ (a : List Eff) (out : List Int), (effsOn s a out).length = out.length
  | [], _ => rfl
  | e :: a, out => by
    rw [effsOn, effsOn_length s a]
    split <;> simp
theorem effsOn_step (s : List Int) {l : List Eff} {k : Nat} {e : Eff} (h : l[k]? = some e) (out : List Int) : effsOn s (l.take (k + 1)) out = if holdsB e.cond s = true then (effsOn s (l.take k) out).set e.var.toNat e.val else effsOn s (l.take k) out := by
  rw [List.take_add_one, h, effsOn_append]; rfl
/-- The effects name variables of the state. -/
def EffsIn (s : List Int) (l : List Eff) : Prop := ∀ (i : Nat) e, l[i]? = some e → 0 ≤ e.var ∧ e.var < s.length
def succ (o : Opr) (s : List Int) : List Int := effsOn s o.effs s
end
section
open Go Go.RowKit
attribute [local irreducible] ewp owp hwp hwq hws Ev Evg Fn retPost loud loudS Res1
theorem cloneInts {w : World} {sv : Value} {xs : List Int} (hs : V w sv xs) (hl : xs.length * 8 ≤ 140737488355328) :
    Fn Try.prog 34 [sv] w fun v w' => Own w' w.heap.size (All w) 3 v xs ∧ Ext w w' := by
  obtain ⟨A, c, rfl⟩ := hs.form
  refine fn_enter Try.func34 rfl Try.ntmps34 rfl ?_
  cases A with
  | none =>
    have hx : xs = [] := by
      cases xs with
      | nil => rfl
      | cons x xs => obtain ⟨_, _, _, h, _⟩ := hs.elem (k := 0) (x := x) rfl; cases h
    subst hx
    ((repeat (first | refine e_go ?_ | refine ewp_true rfl ?_ | refine ewp_false rfl ?_)) <;> (refine o_as rfl rfl ?_ <;> (refine o_z ?_)) <;> (repeat (first | refine e_go ?_ | refine ewp_true rfl ?_ | refine ewp_false rfl ?_)) <;> (refine o_mv rfl rfl ?_ <;> refine o_sn rfl rfl ?_ <;> (refine o_z ?_)) <;> (repeat (first | refine e_go ?_ | refine ewp_true rfl ?_ | refine ewp_false rfl ?_)) <;> (refine o_as rfl rfl ?_ <;> (refine o_z ?_)) <;> (repeat (first | refine e_go ?_ | refine ewp_true rfl ?_ | refine ewp_false rfl ?_)))
    exact ret1 rfl rfl ⟨Own.nil _ _ _ _, Below.refl _ _⟩
  | some ad =>
    ((repeat (first | refine e_go ?_ | refine ewp_true rfl ?_ | refine ewp_false rfl ?_)) <;> (refine o_as rfl rfl ?_ <;> (refine o_z ?_)) <;> (repeat (first | refine e_go ?_ | refine ewp_true rfl ?_ | refine ewp_false rfl ?_)) <;> (refine o_mv rfl rfl ?_ <;> refine o_sn rfl rfl ?_ <;> (refine o_z ?_)) <;> (repeat (first | refine e_go ?_ | refine ewp_true rfl ?_ | refine ewp_false rfl ?_)))
    refine owp_slice rfl rfl rfl (by simp) (by decide) rfl fun w1 hN => ?_
    have hE := hN.ext
    have hown : Own w1 w.heap.size (All w) 3 (.slice (some ⟨w.heap.size, 0, none⟩) 0 0) ([] : List Int) := Own.made hN rfl rfl (Nat.lt_irrefl _) (by decide)
    (refine o_mv rfl rfl ?_)
    refine owp_appendS rfl rfl rfl hown (fun k hk => Nat.lt_of_lt_of_le hk hE.size) hE.size (Vb.agree hs (hE.agree fun _ h => h)) (by decide) (by simpa using hl) (by simp; omega) rfl fun v' w2 ho hK => ?_
    (refine o_as rfl rfl ?_ <;> (refine o_z ?_))
    repeat (first | refine e_go ?_ | refine ewp_true rfl ?_ | refine ewp_false rfl ?_)
    refine ret1 rfl rfl ⟨by simpa using ho, hE.trans (hown.fits (Nat.le_refl _) hE.size hK)⟩
theorem cloneFacts {w : World} {sv : Value} {xs : List Fct} (hs : V w sv xs) (hl : xs.length * 16 ≤ 140737488355328) :
    Fn Try.prog 43 [sv] w fun v w' => Own w' w.heap.size (All w) 28 v xs ∧ Ext w w' := by
  obtain ⟨A, c, rfl⟩ := hs.form
  refine fn_enter Try.func43 rfl Try.ntmps43 rfl ?_
  cases A with
  | none =>
    have hx : xs = [] := by
      cases xs with
      | nil => rfl
      | cons x xs => obtain ⟨_, _, _, h, _⟩ := hs.elem (k := 0) (x := x) rfl; cases h
    subst hx
    ((repeat (first | refine e_go ?_ | refine ewp_true rfl ?_ | refine ewp_false rfl ?_)) <;> (refine o_as rfl rfl ?_ <;> (refine o_z ?_)) <;> (repeat (first | refine e_go ?_ | refine ewp_true rfl ?_ | refine ewp_false rfl ?_)) <;> (refine o_mv rfl rfl ?_ <;> refine o_sn rfl rfl ?_ <;> (refine o_z ?_)) <;> (repeat (first | refine e_go ?_ | refine ewp_true rfl ?_ | refine ewp_false rfl ?_)) <;> (refine o_as rfl rfl ?_ <;> (refine o_z ?_)) <;> (repeat (first | refine e_go ?_ | refine ewp_true rfl ?_ | refine ewp_false rfl ?_)))
    exact ret1 rfl rfl ⟨Own.nil _ _ _ _, Below.refl _ _⟩
  | some ad =>
    ((repeat (first | refine e_go ?_ | refine ewp_true rfl ?_ | refine ewp_false rfl ?_)) <;> (refine o_as rfl rfl ?_ <;> (refine o_z ?_)) <;> (repeat (first | refine e_go ?_ | refine ewp_true rfl ?_ | refine ewp_false rfl ?_)) <;> (refine o_mv rfl rfl ?_ <;> refine o_sn rfl rfl ?_ <;> (refine o_z ?_)) <;> (repeat (first | refine e_go ?_ | refine ewp_true rfl ?_ | refine ewp_false rfl ?_)))
    refine owp_slice rfl rfl rfl (by simp) (by decide) rfl fun w1 hN => ?_
    have hE := hN.ext
    have hown : Own w1 w.heap.size (All w) 28 (.slice (some ⟨w.heap.size, 0, none⟩) 0 0) ([] : List Fct) := Own.made hN rfl rfl (Nat.lt_irrefl _) (by decide)
    (refine o_mv rfl rfl ?_)
    refine owp_appendS rfl rfl rfl hown (fun k hk => Nat.lt_of_lt_of_le hk hE.size) hE.size (Vb.agree hs (hE.agree fun _ h => h)) (by decide) (by simpa using hl) (by simp; omega) rfl fun v' w2 ho hK => ?_
    (refine o_as rfl rfl ?_ <;> (refine o_z ?_))
    repeat (first | refine e_go ?_ | refine ewp_true rfl ?_ | refine ewp_false rfl ?_)
    refine ret1 rfl rfl ⟨by simpa using ho, hE.trans (hown.fits (Nat.le_refl _) hE.size hK)⟩
/-- The applicable operators, ascending. -/
def applK (t : Tsk) (s : List Int) (k : Nat) : List Int := ((List.range k).filter fun i => match t.ops[i]? with | some o => holdsB o.pre s | none => false).map fun i : Nat => (i : Int)
def appl (t : Tsk) (s : List Int) : List Int := applK t s t.ops.length
theorem applK_step {t : Tsk} {s : List Int} {k : Nat} {o : Opr} (h : t.ops[k]? = some o) : applK t s (k + 1) = applK t s k ++ if holdsB o.pre s = true then [(k : Int)] else [] := by
  unfold applK
  rw [List.range_succ, List.filter_append, List.map_append]
  congr 1
  by_cases hb : holdsB o.pre s = true <;> simp [h, hb]
theorem applK_len (t : Tsk) (s : List Int) (k : Nat) : (applK t s k).length ≤ k := by
  unfold applK
  rw [List.length_map]
  exact Nat.le_trans (List.length_filter_le _ _) (by simp)
theorem refApplicable {w : World} {tv sv : Value} {t : Tsk} {s : List Int} (ht : V w tv t) (hs : V w sv s) (hn : t.ops.length ≤ 1000000) :
    Fn Try.prog 27 [tv, sv] w fun v w' => Own w' w.heap.size (All w) 3 v (appl t s) ∧ Ext w w' := by
  obtain ⟨cs, rfl, a, b, c, d, rfl, hvars, hinit, hgoal, hops⟩ := ht
  obtain ⟨Av, cv, rfl⟩ := hvars.form
  obtain ⟨Ai, ci, rfl⟩ := hinit.form
  obtain ⟨Ag, cg, rfl⟩ := hgoal.form
  obtain ⟨Ao, co, rfl⟩ := hops.form
  obtain ⟨As, cs', rfl⟩ := hs.form
  have hF : ∀ {w'}, Ext w w' → ∀ k, All w k → k < w'.heap.size := fun hE k hk => Nat.lt_of_lt_of_le hk hE.size
  refine fn_enter Try.func27 rfl Try.ntmps27 rfl ?_
  repeat (first | refine e_go ?_ | refine ewp_true rfl ?_ | refine ewp_false rfl ?_)
  refine owp_box rfl rfl fun w1 hN => ?_
  have hb1 := hN.blk
  have hE1 : Ext w w1 := hN.ext
  (refine o_as rfl rfl ?_ <;> (refine o_z ?_))
  repeat (first | refine e_go ?_ | refine ewp_true rfl ?_ | refine ewp_false rfl ?_)
  ((repeat (first | refine e_go ?_ | refine ewp_true rfl ?_ | refine ewp_false rfl ?_)) <;> (refine o_as rfl rfl ?_ <;> (refine o_z ?_)) <;> (repeat (first | refine e_go ?_ | refine ewp_true rfl ?_ | refine ewp_false rfl ?_)) <;> (refine o_fa rfl rfl ?_ <;> refine o_ld rfl rfl ?_ <;> refine o_ln rfl rfl ?_ <;> refine o_mv rfl rfl ?_ <;> (refine o_z ?_)) <;> (repeat (first | refine e_go ?_ | refine ewp_true rfl ?_ | refine ewp_false rfl ?_)))
  refine ewp_range t.ops.length (by omega) (fun v : Value => [(1, .slice As s.length cs'), (2, .pointer (some ⟨w.heap.size, 0, none⟩)), (5, v)]) (fun k v w' => Ext w w' ∧ Blk w' w.heap.size 26 [.slice Av t.vars.length cv, .slice Ai t.init.length ci, .slice Ag t.goal.length cg, .slice Ao t.ops.length co] ∧ Own w' w.heap.size (All w) 3 v (applK t s k)) (.slice none 0 0)
    ⟨hE1, hb1, Own.nil _ _ _ _⟩ ⟨rfl, rfl, rfl, rfl, rfl, trivial⟩ (fun _ => ⟨rfl, rfl⟩) ⟨rfl, rfl, rfl⟩ ⟨rfl, rfl⟩ ?_ ?_
  · rintro k v w2 hk ⟨hE2, hb1, hown⟩
    obtain ⟨o, ho⟩ := some_of_lt hk
    obtain ⟨b2, o2, ce, rfl, hbl, _, hd1, p, q, rfl, hp, hq, hc, hnm⟩ := (hops.ext hE2).elem ho
    obtain ⟨Ap, cp, rfl⟩ := hp.form
    have hln := applK_len t s k
    ((repeat (first | refine e_go ?_ | refine ewp_true rfl ?_ | refine ewp_false rfl ?_)) <;> (refine o_mv rfl rfl ?_ <;> refine o_as rfl rfl ?_ <;> (refine o_z ?_)) <;> (repeat (first | refine e_go ?_ | refine ewp_true rfl ?_ | refine ewp_false rfl ?_)) <;> (refine o_fa rfl rfl ?_ <;> refine o_ld rfl rfl ?_ <;> refine o_mv rfl rfl ?_ <;> refine o_ia rfl rfl rfl ?_ <;> refine o_fa rfl rfl ?_ <;> refine o_ld rfl rfl ?_ <;> refine o_mv rfl rfl ?_) <;> (repeat (first | refine e_go ?_ | refine ewp_true rfl ?_ | refine ewp_false rfl ?_)))
    refine owp_callB rfl rfl (baseHolds hp (hs.ext hE2)) ?_ ?_
    · intro w3 hP hE3
      replace hb1 := hb1.ext hE3
      replace hown := hown.ext hE3 (hF hE2)
      replace hE3 : Ext w w3 := hE2.trans' hE3
      ((refine o_z ?_))
      repeat (first | refine e_go ?_ | refine ewp_true rfl ?_ | refine ewp_false rfl ?_)
      (refine o_mv rfl rfl ?_ <;> refine o_mv rfl rfl ?_)
      refine owp_append1 (a := (k : Int)) rfl rfl rfl hown (hF hE3) hE3.size ⟨rfl, by omega, by omega⟩ (by decide) (by decide) (by omega) (by omega) ⟨rfl, rfl⟩ fun v' w4 hown4 hK => ?_
      (refine o_as rfl rfl ?_ <;> (refine o_z ?_))
      repeat (first | refine e_go ?_ | refine ewp_true rfl ?_ | refine ewp_false rfl ?_)
      exact ⟨v', ⟨rfl, rfl, rfl, rfl, rfl, trivial⟩, hE3.trans (hown.fits (Nat.le_refl _) hE3.size hK), hK.blk hb1 (hown.blk_ne hb1 (by decide)), by rw [applK_step ho, if_pos hP]; exact hown4⟩
    · intro w3 hP hE3
      ((refine o_z ?_))
      repeat (first | refine e_go ?_ | refine ewp_true rfl ?_ | refine ewp_false rfl ?_)
      exact ⟨v, ⟨rfl, rfl, rfl, rfl, rfl, trivial⟩, hE2.trans' hE3, hb1.ext hE3, by rw [applK_step ho, if_neg hP, List.append_nil]; exact hown.ext hE3 (hF hE2)⟩
  rintro v w2 ⟨hE2, hb1, hown⟩
  repeat (first | refine e_go ?_ | refine ewp_true rfl ?_ | refine ewp_false rfl ?_)
  ((repeat (first | refine e_go ?_ | refine ewp_true rfl ?_ | refine ewp_false rfl ?_)) <;> (refine o_mv rfl rfl ?_ <;> refine o_as rfl rfl ?_ <;> (refine o_z ?_)) <;> (repeat (first | refine e_go ?_ | refine ewp_true rfl ?_ | refine ewp_false rfl ?_)))
  exact ret1 rfl rfl ⟨hown, hE2⟩
end
section
open Go Go.RowKit
attribute [local irreducible] ewp owp hwp hwq hws Ev Evg Fn retPost loud loudS Res1
inductive Tr where
  | nil
  | leaf (ops : List Int)
  | node (nx many : Nat) (vals : Nat → Tr) (rest : Tr)
def TrR (w : World) (F : Nat → Prop) : Tr → Value → Prop
  | .nil, p => p = .pointer none
  | .leaf ops, p => ∃ g ov, p = .pointer (some ⟨g, 0, none⟩) ∧ F g ∧ Blk w g 88 [ov, .bool true, .int .i64 0, .slice none 0 0, .pointer none] ∧ Vb w F ov ops
  | .node nx k vals rest, p => ∃ g A c rp, p = .pointer (some ⟨g, 0, none⟩) ∧ F g ∧ Blk w g 88 [.slice none 0 0, .bool false, .int .i64 (nx : Int), .slice A k c, .pointer rp] ∧ TrR w F rest (.pointer rp) ∧
      ∀ i, i < k → ∃ b o q, A = some ⟨b, o, none⟩ ∧ F b ∧ w.cell? ⟨b, o + i, none⟩ = some (.pointer q) ∧ TrR w F (vals i) (.pointer q)
theorem TrR.agree {w w' : World} {F : Nat → Prop} (ha : Agree F w w') : ∀ {T : Tr} {p : Value}, TrR w F T p → TrR w' F T p
  | .nil, _, h => h
  | .leaf ops, _, ⟨g, ov, h1, h2, h3, h4⟩ => ⟨g, ov, h1, h2, h3.keep (ha g h2), h4.agree ha⟩
  | .node nx k vals rest, _, ⟨g, A, c, rp, h1, h2, h3, h4, h5⟩ => ⟨g, A, c, rp, h1, h2, h3.keep (ha g h2), TrR.agree ha h4, fun i hi => by
      obtain ⟨b, o, q, g1, g2, g3, g4⟩ := h5 i hi
      exact ⟨b, o, q, g1, g2, (ha.cell g2).trans g3, TrR.agree ha g4⟩⟩
theorem TrR.mono {w : World} {F G : Nat → Prop} (hk : ∀ k, F k → G k) : ∀ {T : Tr} {p : Value}, TrR w F T p → TrR w G T p
  | .nil, _, h => h
  | .leaf ops, _, ⟨g, ov, h1, h2, h3, h4⟩ => ⟨g, ov, h1, hk _ h2, h3, h4.mono hk⟩
  | .node nx k vals rest, _, ⟨g, A, c, rp, h1, h2, h3, h4, h5⟩ => ⟨g, A, c, rp, h1, hk _ h2, h3, TrR.mono hk h4, fun i hi => by
      obtain ⟨b, o, q, g1, g2, g3, g4⟩ := h5 i hi
      exact ⟨b, o, q, g1, hk _ g2, g3, TrR.mono hk g4⟩⟩
theorem TrR.form {w : World} {F : Nat → Prop} : ∀ {T : Tr} {p : Value}, TrR w F T p → ∃ q, p = .pointer q
  | .nil, _, h => ⟨none, h⟩
  | .leaf _, _, ⟨_, _, h, _⟩ => ⟨_, h⟩
  | .node .., _, ⟨_, _, _, _, h, _⟩ => ⟨_, h⟩
/-- What a tree collects at a state; which variables it looks at; whether the state fits it. -/
def atN (s : List Int) (i : Nat) : Nat := (s[i]?.getD 0).toNat
def coll (s : List Int) : Tr → List Int
  | .nil => []
  | .leaf ops => ops
  | .node nx _ vals rest => coll s (vals (atN s nx)) ++ coll s rest
def look (s : List Int) : Tr → List Bool → List Bool
  | .nil, l => l
  | .leaf _, l => l
  | .node nx _ vals rest, l => look s rest (look s (vals (atN s nx)) (l.set nx true))
def Fits (s : List Int) : Tr → Prop
  | .nil => True
  | .leaf _ => True
  | .node nx k vals rest => (∃ x : Nat, s[nx]? = some (x : Int) ∧ x < k) ∧ Fits s (vals (atN s nx)) ∧ Fits s rest
theorem look_length (s : List Int) : ∀ (T : Tr) (l : List Bool), (look s T l).length = l.length
  | .nil, _ => rfl
  | .leaf _, _ => rfl
  | .node nx k vals rest, l => by rw [look, look_length s rest, look_length s (vals _)]; simp
theorem Own.own_ne {α β : Type} [Rp α] [Rp β] {w : World} {b1 b2 : Nat} {F G : Nat → Prop} {e1 e2 : TypeId} {u v : Value} {xs : List α} {ys : List β} (h : Own w b1 F e1 u xs) (k : Own w b2 G e2 v ys) (hne : e1 ≠ e2) : ∀ g, u.ownBlock = some g → v.ownBlock ≠ some g := by
  intro g hg hv
  obtain ⟨c1, h1, _⟩ := h
  obtain ⟨c2, h2, _⟩ := k
  rcases h1.2 with ⟨rfl, _⟩ | ⟨g1, cap1, cur1, rfl, _, hh1, _⟩
  · simp [Value.ownBlock] at hg
  · rcases h2.2 with ⟨rfl, _⟩ | ⟨g2, cap2, cur2, rfl, _, hh2, _⟩
    · simp [Value.ownBlock] at hv
    · have e1' : g1 = g := by simpa [Value.ownBlock] using hg
      have e2' : g2 = g := by simpa [Value.ownBlock] using hv
      subst e1'; subst e2'
      rw [hh1] at hh2
      injection hh2 with hh2
      injection hh2 with _ ht
      exact hne ht
theorem Own.kept {α : Type} [Rp α] {w w' : World} {base : Nat} {F : Nat → Prop} {e : TypeId} {v u : Value} {xs : List α} (h : Own w base F e v xs) (hK : Kept w w' u) (hF : ∀ k, F k → k < w.heap.size ∧ u.ownBlock ≠ some k) (hne : ∀ g, v.ownBlock = some g → u.ownBlock ≠ some g) : Own w' base F e v xs :=
  h.agree (fun k hk => hK.block k (hF k hk).1 (hF k hk).2) fun g hg => hK.block g (h.lt g hg).2 (hne g hg)
theorem collect (B : Nat) (s : List Int) : ∀ (T : Tr) (w : World) (p ov sv lv : Value) (out : List Int) (looked : List Bool), B ≤ w.heap.size → TrR w (· < B) T p → Vb w (· < B) sv s → Own w B (· < B) 3 ov out → Own w B (· < B) 4 lv looked →
    Fits s T → looked.length = s.length → out.length + (coll s T).length ≤ 1000000 →
    Fn Try.prog 47 [p, ov, sv, lv] w fun v w' => Own w' B (· < B) 3 v (out ++ coll s T) ∧ Own w' B (· < B) 4 lv (look s T looked) ∧ Below B w w' := by
  intro T
  induction T with
  | nil =>
    intro w p ov sv lv out looked hB hT hs ho hl _ _ hlen
    have hp : p = .pointer none := hT
    subst hp
    refine fn_enter Try.func47 rfl Try.ntmps47 rfl ?_
    ((repeat (first | refine e_go ?_ | refine ewp_true rfl ?_ | refine ewp_false rfl ?_)) <;> (refine o_as rfl rfl ?_ <;> (refine o_z ?_)) <;> (repeat (first | refine e_go ?_ | refine ewp_true rfl ?_ | refine ewp_false rfl ?_)) <;> (refine o_mv rfl rfl ?_ <;> refine o_pn rfl rfl ?_ <;> (refine o_z ?_)) <;> (repeat (first | refine e_go ?_ | refine ewp_true rfl ?_ | refine ewp_false rfl ?_)) <;> (refine o_mv rfl rfl ?_ <;> refine o_as rfl rfl ?_ <;> (refine o_z ?_)) <;> (repeat (first | refine e_go ?_ | refine ewp_true rfl ?_ | refine ewp_false rfl ?_)))
    exact ret1 rfl rfl ⟨by simpa [coll] using ho, hl, Below.refl _ _⟩
  | leaf ops =>
    intro w p ov sv lv out looked hB hT hs ho hl _ _ hlen
    obtain ⟨g, opv', rfl, hg, hb1, hops⟩ := hT
    refine fn_enter Try.func47 rfl Try.ntmps47 rfl ?_
    ((repeat (first | refine e_go ?_ | refine ewp_true rfl ?_ | refine ewp_false rfl ?_)) <;> (refine o_as rfl rfl ?_ <;> (refine o_z ?_)) <;> (repeat (first | refine e_go ?_ | refine ewp_true rfl ?_ | refine ewp_false rfl ?_)) <;> (refine o_mv rfl rfl ?_ <;> refine o_pn rfl rfl ?_ <;> (refine o_z ?_)) <;> (repeat (first | refine e_go ?_ | refine ewp_true rfl ?_ | refine ewp_false rfl ?_)) <;> (refine o_mv rfl rfl ?_ <;> refine o_nc rfl rfl ?_ <;> refine o_fa rfl rfl ?_ <;> refine o_ld rfl rfl ?_ <;> (refine o_z ?_)) <;> (repeat (first | refine e_go ?_ | refine ewp_true rfl ?_ | refine ewp_false rfl ?_)) <;> (refine o_mv rfl rfl ?_ <;> refine o_mv rfl rfl ?_ <;> refine o_nc rfl rfl ?_ <;> refine o_fa rfl rfl ?_ <;> refine o_ld rfl rfl ?_) <;> (repeat (first | refine e_go ?_ | refine ewp_true rfl ?_ | refine ewp_false rfl ?_)))
    simp only [coll] at hlen
    refine owp_appendS rfl rfl rfl ho (fun k hk => Nat.lt_of_lt_of_le hk hB) hB hops (by decide) (by omega) (by omega) rfl fun v' w1 ho1 hK => ?_
    (refine o_as rfl rfl ?_ <;> (refine o_z ?_))
    repeat (first | refine e_go ?_ | refine ewp_true rfl ?_ | refine ewp_false rfl ?_)
    refine ret1 rfl rfl ⟨ho1, ?_, ho.fits (Nat.le_refl _) hB hK⟩
    exact hl.kept hK (fun k hk => ⟨Nat.lt_of_lt_of_le hk hB, fun he => by have := (ho.lt k he).1; have : k < B := hk; omega⟩) (fun g hg => hl.own_ne ho (by decide) g hg)
  | node nx k vals rest ih1 ih2 =>
    intro w p ov sv lv out looked hB hT hs ho hl hfit hll hlen
    obtain ⟨g, A, c, rp, rfl, hg, hb1, hrest, hvals⟩ := hT
    obtain ⟨⟨x, hx, hxk⟩, hfit1, hfit2⟩ := hfit
    obtain ⟨bv, ovv, q, rfl, hbv, hcv, hq⟩ := hvals x hxk
    obtain ⟨As, cs, rfl⟩ := hs.form
    obtain ⟨bs, os, ce, rfl, hbs, _, hds, rfl, _⟩ := hs.elem hx
    have hnx := lt_of_some hx
    have hat : atN s nx = x := by simp [atN, hx]
    obtain ⟨gl, capl, _, _, rfl, _⟩ := hl.open (by omega)
    refine fn_enter Try.func47 rfl Try.ntmps47 rfl ?_
    have hll' : nx < looked.length := by omega
    ((repeat (first | refine e_go ?_ | refine ewp_true rfl ?_ | refine ewp_false rfl ?_)) <;> (refine o_as rfl rfl ?_ <;> (refine o_z ?_)) <;> (repeat (first | refine e_go ?_ | refine ewp_true rfl ?_ | refine ewp_false rfl ?_)) <;> (refine o_mv rfl rfl ?_ <;> refine o_pn rfl rfl ?_ <;> (refine o_z ?_)) <;> (repeat (first | refine e_go ?_ | refine ewp_true rfl ?_ | refine ewp_false rfl ?_)) <;> (refine o_mv rfl rfl ?_ <;> refine o_nc rfl rfl ?_ <;> refine o_fa rfl rfl ?_ <;> refine o_ld rfl rfl ?_ <;> (refine o_z ?_)) <;> (repeat (first | refine e_go ?_ | refine ewp_true rfl ?_ | refine ewp_false rfl ?_)) <;> (refine o_mv rfl rfl ?_ <;> refine o_mv rfl rfl ?_ <;> refine o_nc rfl rfl ?_ <;> refine o_fa rfl rfl ?_ <;> refine o_ld rfl rfl ?_ <;> refine o_ia rfl rfl rfl ?_) <;> (repeat (first | refine e_go ?_ | refine ewp_true rfl ?_ | refine ewp_false rfl ?_)))
    refine owp_setElem (i := nx) (a := true) rfl rfl rfl hl hll' (show Vb w (· < B) (.bool true) true from rfl) fun w1 hl1 hK1 hz1 => ?_
    have hB1 : Below B w w1 := hl.fits (Nat.le_refl _) hB hK1
    have ho1 : Own w1 B (· < B) 3 ov out := ho.kept hK1 (fun k hk => ⟨Nat.lt_of_lt_of_le hk hB, fun he => by have := (hl.lt k he).1; have : k < B := hk; omega⟩) (fun g hg => ho.own_ne hl (by decide) g hg)
    ((refine o_z ?_))
    repeat (first | refine e_go ?_ | refine ewp_true rfl ?_ | refine ewp_false rfl ?_)
    have hag : ∀ w', Below B w1 w' → Agree (· < B) w w' := fun w' h k hk => (hB1.trans h).block k hk
    replace hb1 : ∀ w', Below B w1 w' → Blk w' g 88 [.slice none 0 0, .bool false, .int .i64 (nx : Int), .slice (some ⟨bv, ovv, none⟩) k c, .pointer rp] := fun w' h => hb1.keep (hag w' h g hg)
    have hd1 : ∀ w', Below B w1 w' → cellsAt w' bs (os + nx * 1) [.int .i64 (x : Int)] := fun w' h => cellsAt_agree (hag w' h) hbs hds
    have hc1 : ∀ w', Below B w1 w' → w'.cell? ⟨bv, ovv + x * 1, none⟩ = some (.pointer q) := fun w' h => by rw [Nat.mul_one]; exact ((hag w' h).cell hbv).trans hcv
    refine ewp_draw (Below B w1) [(0, true), (1, true), (2, true), (3, true), (4, true), (5, true), (6, true), (7, true), (8, true), (9, true), (10, true), (11, true), (12, true), (13, true), (14, true), (15, true), (16, true), (17, true), (18, true), (19, true), (21, true), (22, true), (20, false), (23, false), (24, true)] (by kernel_rfl) rfl (by kernel_rfl) (Below.refl _ _) ?_
    (refine h_mv rfl rfl rfl ?_ <;> refine h_nc rfl rfl rfl ?_ <;> refine h_fa rfl rfl rfl ?_ <;> (first | refine h_ldB rfl rfl rfl ?_ | refine h_ldC rfl rfl rfl ?_) <;> refine h_mv rfl rfl rfl ?_ <;> refine h_nc rfl rfl rfl ?_ <;> refine h_fa rfl rfl rfl ?_ <;> (first | refine h_ldB rfl rfl rfl ?_ | refine h_ldC rfl rfl rfl ?_) <;> refine h_mv rfl rfl rfl ?_ <;> refine h_mv rfl rfl rfl ?_ <;> refine h_nc rfl rfl rfl ?_ <;> refine h_fa rfl rfl rfl ?_ <;> (first | refine h_ldB rfl rfl rfl ?_ | refine h_ldC rfl rfl rfl ?_) <;> refine h_ia rfl rfl rfl rfl ?_ <;> (first | refine h_ldB rfl rfl rfl ?_ | refine h_ldC rfl rfl rfl ?_) <;> refine h_ia rfl rfl rfl rfl ?_ <;> (first | refine h_ldB rfl rfl rfl ?_ | refine h_ldC rfl rfl rfl ?_) <;> refine h_mv rfl rfl rfl ?_ <;> refine h_mv rfl rfl rfl ?_ <;> refine h_mv rfl rfl rfl ?_ <;> refine h_mv rfl rfl rfl ?_ <;> refine h_mv rfl rfl rfl ?_)
    refine hwp_loud rfl ?_
    simp only [coll, hat, List.length_append] at hlen
    refine owp_call rfl rfl (ih1 x w1 (.pointer q) ov _ _ out (looked.set nx true) (Nat.le_trans hB hB1.size) (TrR.agree (hag w1 (Below.refl _ _)) hq) (hs.agree (hag w1 (Below.refl _ _))) ho1 hl1 (hat ▸ hfit1) (by simpa using hll) (by omega)) ?_
    rintro v2 w2 ⟨ho2, hl2, hB2⟩
    refine owp_loud hB2 ?_
    refine hwp_loud rfl ?_
    refine owp_call rfl rfl (ih2 w2 (.pointer rp) v2 _ _ (out ++ coll s (vals x)) (look s (vals x) (looked.set nx true)) (Nat.le_trans hB (hB1.trans hB2).size) (TrR.agree (hag w2 hB2) hrest) (hs.agree (hag w2 hB2)) ho2 hl2 hfit2 (by rw [look_length]; simpa using hll) (by rw [List.length_append]; omega)) ?_
    rintro v3 w3 ⟨ho3, hl3, hB3⟩
    refine owp_loud (hB2.trans hB3) ?_
    (refine h_as rfl rfl rfl ?_ <;> (refine h_z ?_))
    repeat (first | refine e_go ?_ | refine ewp_true rfl ?_ | refine ewp_false rfl ?_)
    exact ret1 rfl rfl ⟨by simpa [coll, hat] using ho3, by simpa [look, hat] using hl3, hB1.trans (hB2.trans hB3)⟩
end
section
open Go.Shelf
def Try.lays189_ren : Go.Shelf.Ren := ⟨fun | 189 => 48 | 125 => 53 | 257 => 52 | 128 => 64 | 129 => 65 | 294 => 55 | 295 => 56 | 296 => 57 | 297 => 58 | 298 => 59 | 299 => 60 | 216 => 61 | 300 => 62 | 301 => 63 | 328 => 66 | 329 => 67 | 330 => 68 | 331 => 69 | 332 => 70 | 215 => 71 | 343 => 72 | n => n, fun | 28 => 22 | 3 => 3 | 46 => 96 | 0 => 0 | 51 => 108 | 53 => 110 | 4 => 4 | 183 => 100 | 182 => 99 | 131 => 105 | 5 => 5 | 9 => 9 | 218 => 111 | 222 => 115 | 228 => 117 | 229 => 118 | n => n, fun | n => n⟩
theorem Try.lays189 : Go.Proofs.Lays.n189 Try.prog Try.lays189_ren := {
  mixed := by kernel_rfl
  f125 := Try.func53.trans (congrArg some (by kernel_rfl))
  f128 := Try.func64.trans (congrArg some (by kernel_rfl))
  f129 := Try.func65.trans (congrArg some (by kernel_rfl))
  f189 := Try.func48.trans (congrArg some (by kernel_rfl))
  f215 := Try.func71.trans (congrArg some (by kernel_rfl))
  f216 := Try.func61.trans (congrArg some (by kernel_rfl))
  f257 := Try.func52.trans (congrArg some (by kernel_rfl))
  f294 := Try.func55.trans (congrArg some (by kernel_rfl))
  f295 := Try.func56.trans (congrArg some (by kernel_rfl))
  f296 := Try.func57.trans (congrArg some (by kernel_rfl))
  f297 := Try.func58.trans (congrArg some (by kernel_rfl))
  f298 := Try.func59.trans (congrArg some (by kernel_rfl))
  f299 := Try.func60.trans (congrArg some (by kernel_rfl))
  f300 := Try.func62.trans (congrArg some (by kernel_rfl))
  f301 := Try.func63.trans (congrArg some (by kernel_rfl))
  f328 := Try.func66.trans (congrArg some (by kernel_rfl))
  f329 := Try.func67.trans (congrArg some (by kernel_rfl))
  f330 := Try.func68.trans (congrArg some (by kernel_rfl))
  f331 := Try.func69.trans (congrArg some (by kernel_rfl))
  f332 := Try.func70.trans (congrArg some (by kernel_rfl))
  f343 := Try.func72.trans (congrArg some (by kernel_rfl))
  t0 := Try.underlying0
  a0 := Try.isAgg0
  z0 := Try.sizeOf0
  v0 := Try.zeroValue0
  t3 := Try.underlying3
  a3 := Try.isAgg3
  z3 := Try.sizeOf3
  v3 := Try.zeroValue3
  t4 := Try.underlying4
  a4 := Try.isAgg4
  z4 := Try.sizeOf4
  v4 := Try.zeroValue4
  t5 := Try.underlying5
  a5 := Try.isAgg5
  z5 := Try.sizeOf5
  v5 := Try.zeroValue5
  t9 := Try.underlying9
  a9 := Try.isAgg9
  z9 := Try.sizeOf9
  v9 := Try.zeroValue9
  t28 := Try.underlying22
  a28 := Try.isAgg22
  z28 := Try.sizeOf22
  v28 := Try.zeroValue22
  t46 := Try.underlying96
  a46 := Try.isAgg96
  z46 := Try.sizeOf96
  v46 := Try.zeroValue96
  t51 := Try.underlying108
  a51 := Try.isAgg108
  z51 := Try.sizeOf108
  v51 := Try.zeroValue108
  t53 := Try.underlying110
  a53 := Try.isAgg110
  z53 := Try.sizeOf110
  v53 := Try.zeroValue110
  t131 := Try.underlying105
  a131 := Try.isAgg105
  z131 := Try.sizeOf105
  v131 := Try.zeroValue105
  t182 := Try.underlying99
  a182 := Try.isAgg99
  z182 := Try.sizeOf99
  v182 := Try.zeroValue99
  t183 := Try.underlying100
  a183 := Try.isAgg100
  z183 := Try.sizeOf100
  v183 := Try.zeroValue100
  t218 := Try.underlying111
  a218 := Try.isAgg111
  z218 := Try.sizeOf111
  v218 := Try.zeroValue111
  t222 := Try.underlying115
  a222 := Try.isAgg115
  z222 := Try.sizeOf115
  v222 := Try.zeroValue115
  t228 := Try.underlying117
  a228 := Try.isAgg117
  z228 := Try.sizeOf117
  v228 := Try.zeroValue117
  t229 := Try.underlying118
  a229 := Try.isAgg118
  z229 := Try.sizeOf118
  v229 := Try.zeroValue118 }
open Go.Sort Go.RowKit in
theorem Try.slices_Sort_int (blk off cap : Nat) (zs : List Int) (w : World) (hH : Holds (Value.int .i64) w blk off zs.toArray) (hblk : blk < w.heap.size) (hsz : zs.length < 4611686018427387904) :
    Calls Try.prog 48 #[.slice (some ⟨blk, off, none⟩) zs.length cap] w fun e w' =>
      e = .returned (.tuple #[]) ∧ ∃ n os, w' = grow (putRow (Value.int .i64) (Sort.ahead w n) blk off (zs.mergeSort fun x y => decide (x ≤ y)).toArray) os := Any.slices_Sort_int Try.lays189 blk off cap zs w hH hblk hsz
open Go.RowKit Go.Sort in
/-- .. and plain. (LAID: no walk: one application.) -/
theorem Try.slices_Sort_int_none (p : Option Addr) (cap : Nat) (w : World) :
    Calls Try.prog 48 #[.slice p 0 cap] w fun e w' => e = .returned (.tuple #[]) ∧ w' = w := Any.slices_Sort_int_none Try.lays189 p cap w
end
section
open Go Go.RowKit
def sortL (xs : List Int) : List Int := xs.mergeSort fun x y => decide (x ≤ y)
theorem sortL_length (xs : List Int) : (sortL xs).length = xs.length := List.length_mergeSort xs
theorem chunks_int_eq {w : World} {F : Nat → Prop} : ∀ {xs : List Int} {cells : List Value}, Chunks w F cells xs → cells = xs.map (Value.int .i64) ∧ ∀ x ∈ xs, inI64 x
  | [], _, h => ⟨h, fun _ hx => by simp at hx⟩
  | x :: xs, cells, ⟨cs, rest, he, hr, hc⟩ => by
    obtain ⟨h1, h2⟩ := chunks_int_eq hc
    obtain ⟨h3, h4⟩ := hr
    refine ⟨by rw [he, h3, h1]; rfl, fun y hy => ?_⟩
    rcases List.mem_cons.1 hy with rfl | hy
    · exact h4
    · exact h2 y hy
theorem chunks_int_mk {w : World} {F : Nat → Prop} : ∀ {xs : List Int}, (∀ x ∈ xs, inI64 x) → Chunks w F (xs.map (Value.int .i64)) xs
  | [], _ => rfl
  | x :: xs, h => ⟨[.int .i64 x], xs.map (Value.int .i64), rfl, ⟨rfl, h x (by simp)⟩, chunks_int_mk fun y hy => h y (by simp [hy])⟩
theorem sortInts {w : World} {base : Nat} {F : Nat → Prop} {v : Value} {xs : List Int} (h : Own w base F 3 v xs) (hl : xs.length ≤ 1000000) :
    Fn Try.prog 48 [v] w fun r w' => r = .tuple #[] ∧ Own w' base F 3 v (sortL xs) ∧ Kept w w' v := by
  intro d
  rcases Nat.eq_zero_or_pos xs.length with h0 | h0
  · have hx : xs = [] := List.eq_nil_of_length_eq_zero h0
    subst hx
    have hv : ∃ p c, v = .slice p 0 c := by
      obtain ⟨cells, h1, _⟩ := h
      rcases h1.2 with ⟨rfl, _⟩ | ⟨g, cap, cur, rfl, _⟩
      · exact ⟨_, _, rfl⟩
      · exact ⟨_, _, rfl⟩
    obtain ⟨p, c, rfl⟩ := hv
    refine (Try.slices_Sort_int_none p c (dr w d)).mono fun e w' ⟨he, hw⟩ => ⟨_, w, d, he, hw, rfl, by simpa [sortL] using h, ⟨rfl, rfl, rfl, Nat.le_refl _, fun _ _ _ => rfl⟩⟩
  · obtain ⟨g, cap, cells, sp, rfl, hg, hFg, hb, hc, hlen, hnc, hcm, htot⟩ := h.open h0
    obtain ⟨rfl, hin⟩ := chunks_int_eq hc
    have hH : Go.Sort.Holds (Value.int .i64) (dr w d) g 0 xs.toArray := fun j hj => by
      have hj' : j < xs.length := by simpa using hj
      refine ⟨?_, by rw [Nat.zero_add]; exact hb.frozen j⟩
      rw [Nat.zero_add]
      refine hb.cell ?_
      rw [List.getElem?_append_left (by simpa using hj'), List.getElem?_map, List.getElem?_eq_getElem hj']
      simp [hj']
    refine (Try.slices_Sort_int g 0 cap xs (dr w d) hH hb.lt (by omega)).mono fun e w' ⟨he, n, os, hw⟩ => ⟨_, w', w'.drawn, he, rfl, rfl, ?_, ?_⟩
    · have hblk : Blk w' g 3 ((sortL xs).map (Value.int .i64) ++ sp) := by
        subst hw
        unfold Blk at hb ⊢
        have hsz : g < w.heap.size := Blk.lt hb
        show ((w.heap.modify g _) ++ os)[g]? = _
        rw [Array.getElem?_append_left (by simpa using hsz), Array.getElem?_modify, if_pos rfl, hb]
        simp only [Option.map_some, Go.Sort.onCells]
        congr 2
        apply Array.ext
        · simp [Go.Sort.putCells, sortL_length]
        · intro i h1 h2
          simp only [Go.Sort.putCells, Array.getElem_mapIdx, Nat.zero_add, Nat.sub_zero, Nat.zero_le, true_and]
          have e1 : (List.mergeSort xs fun x y => decide (x ≤ y)).length = xs.length := List.length_mergeSort xs
          by_cases hi : i < xs.length
          · rw [if_pos (by simpa [e1] using hi)]
            simp only [List.getElem_toArray]
            rw [List.getElem_append_left (by simpa [sortL_length] using hi), List.getElem_map]
            congr 1
            rw [getElem!_pos _ _ (by simpa [e1] using hi)]
            simp [sortL]
          · rw [if_neg (by simpa [e1] using hi)]
            simp only [List.getElem_toArray]
            rw [List.getElem_append_right (by simp; omega), List.getElem_append_right (by simp [sortL_length]; omega)]
            simp [sortL_length]
      have := Own.close (w := w') (base := base) (cap := cap) hg hFg hblk (chunks_int_mk (F := F) (w := w') fun x hx => hin x (by
        have := (List.mergeSort_perm xs fun x y => decide (x ≤ y)).mem_iff.1 hx
        exact this)) (by rw [sortL_length]; exact hnc) hcm (by simpa [sortL_length] using htot)
      rwa [sortL_length] at this
    · subst hw
      refine ⟨rfl, rfl, rfl, ?_, fun k hk hne => ?_⟩
      · show w.heap.size ≤ ((w.heap.modify g _) ++ os).size
        simp
      · have hkg : g ≠ k := fun e => hne (by simp [Value.ownBlock, e])
        show ((w.heap.modify g _) ++ os)[k]? = _
        rw [Array.getElem?_append_left (by simpa using hk), Array.getElem?_modify, if_neg hkg]
end
section
open Go Go.RowKit
attribute [local irreducible] ewp owp hwp hwq hws Ev Evg Fn retPost loud loudS Res1
/-- A generator in memory: its task and its tree. -/
def GenR (w : World) (F : Nat → Prop) (gv : Value) (t : Tsk) (T : Tr) : Prop :=
  ∃ gb a b c d r, gv = .pointer (some ⟨gb, 0, none⟩) ∧ F gb ∧ Blk w gb 68 [a, b, c, d, r] ∧ Vb w F a t.vars ∧ Vb w F b t.init ∧ Vb w F c t.goal ∧ Vb w F d t.ops ∧ TrR w F T r
theorem made_one (z : Value) (n : Nat) (hz : z.cells = #[z]) : (madeCells z.cells (n * 1)).toList = List.replicate n z := by
  rw [hz, Nat.mul_one]
  apply List.ext_getElem
  · simp [madeCells]
  · intro i h1 h2
    simp [madeCells, Nat.mod_one]
theorem chunks_bools {w : World} {F : Nat → Prop} : ∀ n, Chunks w F (List.replicate n (.bool false)) (List.replicate n false)
  | 0 => rfl
  | n + 1 => ⟨[.bool false], List.replicate n (.bool false), rfl, rfl, chunks_bools n⟩
noncomputable def findL (t : Tsk) (T : Tr) (s : List Int) : List Int := if bof (StateOk t.vars s) = true then sortL (coll s T) else []
noncomputable def findN (t : Tsk) (T : Tr) (s : List Int) : Nat := if bof (StateOk t.vars s) = true then (look s T (List.replicate s.length false)).count true else 0
theorem count_step {l : List Bool} {k : Nat} {b : Bool} (h : l[k]? = some b) : (l.take (k + 1)).count true = (l.take k).count true + if b = true then 1 else 0 := by
  rw [List.take_add_one, h, List.count_append]
  cases b <;> simp
theorem genFind {w : World} {gv sv : Value} {t : Tsk} {T : Tr} {s : List Int} (hg : GenR w (All w) gv t T) (hs : V w sv s) (hfit : StateOk t.vars s → Fits s T) (hlen : (coll s T).length ≤ 1000000) (hsl : s.length ≤ 1000000) :
    Fn Try.prog 32 [gv, sv] w fun v w' => Ext w w' ∧ ∃ u, v = .tuple #[u, .int .i64 (findN t T s : Int)] ∧ Own w' w.heap.size (All w) 3 u (findL t T s) := by
  obtain ⟨gb, a, b, c, d, r, rfl, hgb, hb1, hvars, hinit, hgoal, hops, hT⟩ := hg
  obtain ⟨Av, cv, rfl⟩ := hvars.form
  obtain ⟨As, cs, rfl⟩ := hs.form
  obtain ⟨rp, rfl⟩ := hT.form
  refine fn_enter Try.func32 rfl Try.ntmps32 rfl ?_
  ((repeat (first | refine e_go ?_ | refine ewp_true rfl ?_ | refine ewp_false rfl ?_)) <;> (refine o_as rfl rfl ?_ <;> refine o_as rfl rfl ?_ <;> (refine o_z ?_)) <;> (repeat (first | refine e_go ?_ | refine ewp_true rfl ?_ | refine ewp_false rfl ?_)) <;> (refine o_mv rfl rfl ?_ <;> refine o_pn rfl rfl ?_ <;> refine o_mv rfl rfl ?_ <;> (first | (refine owp_yes rfl rfl ?_; refine o_mv rfl rfl ?_) | refine owp_no rfl rfl rfl rfl ?_) <;> (first | (refine owp_yes rfl rfl ?_; refine o_nc rfl rfl ?_) | refine owp_no rfl rfl rfl rfl ?_) <;> (first | (refine owp_yes rfl rfl ?_; refine o_fa rfl rfl ?_) | refine owp_no rfl rfl rfl rfl ?_) <;> (first | (refine owp_yes rfl rfl ?_; refine o_fa rfl rfl ?_) | refine owp_no rfl rfl rfl rfl ?_) <;> (first | (refine owp_yes rfl rfl ?_; refine o_ld rfl rfl ?_) | refine owp_no rfl rfl rfl rfl ?_) <;> (first | (refine owp_yes rfl rfl ?_; refine o_mv rfl rfl ?_) | refine owp_no rfl rfl rfl rfl ?_)) <;> (repeat (first | refine e_go ?_ | refine ewp_true rfl ?_ | refine ewp_false rfl ?_)))
  refine owp_yes rfl rfl ?_
  refine owp_callB rfl rfl (taskProper hvars hs) ?_ ?_
  case refine_2 =>
    intro w1 hP hE1
    ((first | (refine owp_yes rfl rfl ?_; (first | refine o_nt rfl rfl ?_ | refine o_nf rfl rfl ?_ | refine o_nn rfl rfl ?_)) | refine owp_no rfl rfl rfl rfl ?_) <;> (first | refine o_pt rfl rfl rfl ?_ | refine o_pf rfl rfl rfl ?_) <;> (refine o_z ?_))
    repeat (first | refine e_go ?_ | refine ewp_true rfl ?_ | refine ewp_false rfl ?_)
    ((repeat (first | refine e_go ?_ | refine ewp_true rfl ?_ | refine ewp_false rfl ?_)) <;> (refine o_as rfl rfl ?_ <;> refine o_as rfl rfl ?_ <;> (refine o_z ?_)) <;> (repeat (first | refine e_go ?_ | refine ewp_true rfl ?_ | refine ewp_false rfl ?_)))
    refine ret2 rfl (res_tmp rfl) (res_tmp rfl) ⟨hE1, .slice none 0 0, ?_, ?_⟩
    · rw [findN, bof_f hP]; rfl
    · rw [findL, bof_f hP]; exact Own.nil _ _ _ _
  intro w1 hok hE1
  replace hb1 := hb1.ext hE1
  ((first | (refine owp_yes rfl rfl ?_; (first | refine o_nt rfl rfl ?_ | refine o_nf rfl rfl ?_ | refine o_nn rfl rfl ?_)) | refine owp_no rfl rfl rfl rfl ?_) <;> (first | refine o_pt rfl rfl rfl ?_ | refine o_pf rfl rfl rfl ?_) <;> (refine o_z ?_))
  repeat (first | refine e_go ?_ | refine ewp_true rfl ?_ | refine ewp_false rfl ?_)
  (refine o_mv rfl rfl ?_ <;> refine o_ln rfl rfl ?_)
  refine owp_make rfl rfl (by omega) (by omega) rfl fun w2 hN2 => ?_
  replace hb1 := hb1.ext hN2.ext
  have hE2 : Ext w w2 := hE1.trans' hN2.ext
  have hl2 : Own w2 w.heap.size (· < w.heap.size) 4 (.slice (some ⟨w1.heap.size, 0, none⟩) s.length s.length) (List.replicate s.length false) :=
    (Own.made hN2 (by rw [made_one _ _ rfl]; exact chunks_bools _) (by simp) (by have := hE1.size; omega) (by omega)).lower hE1.size
  (refine o_as rfl rfl ?_ <;> (refine o_z ?_))
  repeat (first | refine e_go ?_ | refine ewp_true rfl ?_ | refine ewp_false rfl ?_)
  (refine o_mv rfl rfl ?_ <;> refine o_nc rfl rfl ?_ <;> refine o_fa rfl rfl ?_ <;> refine o_ld rfl rfl ?_ <;> refine o_mv rfl rfl ?_ <;> refine o_mv rfl rfl ?_)
  refine owp_call rfl rfl (collect w.heap.size s T w2 (.pointer rp) (.slice none 0 0) _ _ [] _ hE2.size (TrR.agree (hE2.agree fun _ h => h) hT) (Vb.agree hs (hE2.agree fun _ h => h)) (Own.nil _ _ _ _) hl2 (hfit hok) (by simp) (by simpa using hlen)) ?_
  rintro v3 w3 ⟨ho3, hl3, hB3⟩
  have hE3 : Ext w w3 := hE2.trans hB3
  rw [List.nil_append] at ho3
  (refine o_as rfl rfl ?_ <;> (refine o_z ?_))
  repeat (first | refine e_go ?_ | refine ewp_true rfl ?_ | refine ewp_false rfl ?_)
  (refine o_mv rfl rfl ?_)
  refine owp_call rfl rfl (sortInts ho3 hlen) ?_
  rintro _ w4 ⟨rfl, ho4, hK4⟩
  have hE4 : Ext w w4 := hE3.trans (ho3.fits (Nat.le_refl _) hE3.size hK4)
  have hl4 := hl3.kept hK4 (fun k hk => ⟨Nat.lt_of_lt_of_le hk hE3.size, fun he => by have := (ho3.lt k he).1; have : k < w.heap.size := hk; omega⟩) (fun g hg => hl3.own_ne ho3 (by decide) g hg)
  have hlv : Vb w4 _ (.slice (some ⟨w1.heap.size, 0, none⟩) s.length s.length) (look s T (List.replicate s.length false)) := hl4.vb
  have hll : (look s T (List.replicate s.length false)).length = s.length := by rw [look_length]; simp
  ((refine o_z ?_))
  repeat (first | refine e_go ?_ | refine ewp_true rfl ?_ | refine ewp_false rfl ?_)
  ((repeat (first | refine e_go ?_ | refine ewp_true rfl ?_ | refine ewp_false rfl ?_)) <;> (refine o_as rfl rfl ?_ <;> (refine o_z ?_)) <;> (repeat (first | refine e_go ?_ | refine ewp_true rfl ?_ | refine ewp_false rfl ?_)) <;> (refine o_mv rfl rfl ?_ <;> refine o_ln rfl rfl ?_ <;> refine o_mv rfl rfl ?_ <;> (refine o_z ?_)) <;> (repeat (first | refine e_go ?_ | refine ewp_true rfl ?_ | refine ewp_false rfl ?_)))
  refine ewp_range s.length (by omega) (fun n : Nat => [(7, v3), (8, .int .i64 (n : Int)), (35, .slice (some ⟨w1.heap.size, 0, none⟩) s.length s.length)]) (fun k n w' => w' = w4 ∧ n = ((look s T (List.replicate s.length false)).take k).count true) 0
    ⟨rfl, by simp⟩ ⟨rfl, rfl, rfl, rfl, rfl, trivial⟩ (fun _ => ⟨rfl, rfl⟩) ⟨rfl, rfl, rfl⟩ ⟨rfl, rfl⟩ ?_ ?_
  · rintro k n _ hk ⟨rfl, hn⟩
    obtain ⟨x, hx⟩ := some_of_lt (l := look s T (List.replicate s.length false)) (k := k) (by omega)
    obtain ⟨b2, o2, ce, he, _, _, hd1, rfl⟩ := hlv.elem hx
    injection he with he
    injection he with he1 he2
    subst he1; subst he2
    have hnl : n ≤ k := by
      rw [hn]
      exact Nat.le_trans List.count_le_length (by rw [List.length_take]; omega)
    have hst := count_step hx
    cases x
    · ((repeat (first | refine e_go ?_ | refine ewp_true rfl ?_ | refine ewp_false rfl ?_)) <;> (refine o_ia rfl rfl rfl ?_ <;> refine o_ld rfl rfl ?_ <;> refine o_as rfl rfl ?_ <;> (refine o_z ?_)) <;> (repeat (first | refine e_go ?_ | refine ewp_true rfl ?_ | refine ewp_false rfl ?_)) <;> (refine o_mv rfl rfl ?_ <;> (refine o_z ?_)) <;> (repeat (first | refine e_go ?_ | refine ewp_true rfl ?_ | refine ewp_false rfl ?_)))
      exact ⟨n, ⟨rfl, rfl, rfl, rfl, rfl, trivial⟩, rfl, by rw [hst, hn]; simp⟩
    · ((repeat (first | refine e_go ?_ | refine ewp_true rfl ?_ | refine ewp_false rfl ?_)) <;> (refine o_ia rfl rfl rfl ?_ <;> refine o_ld rfl rfl ?_ <;> refine o_as rfl rfl ?_ <;> (refine o_z ?_)) <;> (repeat (first | refine e_go ?_ | refine ewp_true rfl ?_ | refine ewp_false rfl ?_)) <;> (refine o_mv rfl rfl ?_ <;> (refine o_z ?_)) <;> (repeat (first | refine e_go ?_ | refine ewp_true rfl ?_ | refine ewp_false rfl ?_)) <;> (refine o_mv rfl rfl ?_ <;> (first | refine o_ic rfl rfl ?_ | refine o_ad rfl rfl rfl ?_) <;> refine o_as rfl rfl ?_ <;> (refine o_z ?_)) <;> (repeat (first | refine e_go ?_ | refine ewp_true rfl ?_ | refine ewp_false rfl ?_)))
      exact ⟨n + 1, ⟨rfl, rfl, rfl, rfl, rfl, trivial⟩, rfl, by rw [hst, hn]; simp⟩
  rintro n _ ⟨rfl, hn⟩
  repeat (first | refine e_go ?_ | refine ewp_true rfl ?_ | refine ewp_false rfl ?_)
  ((repeat (first | refine e_go ?_ | refine ewp_true rfl ?_ | refine ewp_false rfl ?_)) <;> (refine o_mv rfl rfl ?_ <;> refine o_mv rfl rfl ?_ <;> refine o_as rfl rfl ?_ <;> refine o_as rfl rfl ?_ <;> (refine o_z ?_)) <;> (repeat (first | refine e_go ?_ | refine ewp_true rfl ?_ | refine ewp_false rfl ?_)))
  refine ret2 rfl (res_tmp rfl) (res_tmp rfl) ⟨hE4, v3, ?_, ?_⟩
  · rw [findN, bof_t hok, if_pos rfl, hn, List.take_of_length_le (by omega)]
  · rw [findL, bof_t hok, if_pos rfl]
    exact ho4
section
variable {w : World} {gv sv : Value} {t : Tsk} {T : Tr} {s : List Int}
theorem genApplicable (hg : GenR w (All w) gv t T) (hs : V w sv s) (hfit : StateOk t.vars s → Fits s T) (hlen : (coll s T).length ≤ 1000000) (hsl : s.length ≤ 1000000) :
    Fn Try.prog 16 [gv, sv] w fun v w' => Ext w w' ∧ Own w' w.heap.size (All w) 3 v (findL t T s) := by
  refine fn_enter Try.func16 rfl Try.ntmps16 rfl ?_
  ((repeat (first | refine e_go ?_ | refine ewp_true rfl ?_ | refine ewp_false rfl ?_)) <;> (refine o_as rfl rfl ?_ <;> (refine o_z ?_)) <;> (repeat (first | refine e_go ?_ | refine ewp_true rfl ?_ | refine ewp_false rfl ?_)) <;> (refine o_mv rfl rfl ?_ <;> refine o_mv rfl rfl ?_) <;> (repeat (first | refine e_go ?_ | refine ewp_true rfl ?_ | refine ewp_false rfl ?_)))
  refine owp_call rfl rfl (genFind hg hs hfit hlen hsl) ?_
  rintro _ w1 ⟨hE, u, rfl, ho⟩
  (refine o_mv rfl rfl ?_ <;> refine o_ex rfl rfl rfl ?_ <;> refine o_ex rfl rfl rfl ?_ <;> refine o_as rfl rfl ?_ <;> refine o_as rfl rfl ?_ <;> (refine o_z ?_))
  repeat (first | refine e_go ?_ | refine ewp_true rfl ?_ | refine ewp_false rfl ?_)
  ((repeat (first | refine e_go ?_ | refine ewp_true rfl ?_ | refine ewp_false rfl ?_)) <;> (refine o_mv rfl rfl ?_ <;> refine o_as rfl rfl ?_ <;> (refine o_z ?_)) <;> (repeat (first | refine e_go ?_ | refine ewp_true rfl ?_ | refine ewp_false rfl ?_)))
  exact ret1 rfl rfl ⟨hE, ho⟩
theorem Own.form {α : Type} [Rp α] {w : World} {base : Nat} {F : Nat → Prop} {e : TypeId} {v : Value} {xs : List α} (h : Own w base F e v xs) : ∃ A c, v = .slice A xs.length c := h.vb.form
theorem genCount (hg : GenR w (All w) gv t T) (hs : V w sv s) (hfit : StateOk t.vars s → Fits s T) (hlen : (coll s T).length ≤ 1000000) (hsl : s.length ≤ 1000000) :
    Fn Try.prog 19 [gv, sv] w fun v w' => v = .int .i64 ((findL t T s).length : Int) ∧ Ext w w' := by
  refine fn_enter Try.func19 rfl Try.ntmps19 rfl ?_
  ((repeat (first | refine e_go ?_ | refine ewp_true rfl ?_ | refine ewp_false rfl ?_)) <;> (refine o_as rfl rfl ?_ <;> (refine o_z ?_)) <;> (repeat (first | refine e_go ?_ | refine ewp_true rfl ?_ | refine ewp_false rfl ?_)) <;> (refine o_mv rfl rfl ?_ <;> refine o_mv rfl rfl ?_) <;> (repeat (first | refine e_go ?_ | refine ewp_true rfl ?_ | refine ewp_false rfl ?_)))
  refine owp_call rfl rfl (genApplicable hg hs hfit hlen hsl) ?_
  rintro u w1 ⟨hE, ho⟩
  obtain ⟨A, c, rfl⟩ := ho.form
  (refine o_ln rfl rfl ?_ <;> refine o_as rfl rfl ?_ <;> (refine o_z ?_))
  repeat (first | refine e_go ?_ | refine ewp_true rfl ?_ | refine ewp_false rfl ?_)
  exact ret1 rfl rfl ⟨rfl, hE⟩
end
/-- An operator and the state after it. -/
structure Suc where
  op : Int
  state : List Int
instance : Rp Suc where
  isAgg := true
  size := 2
  R w F cs x := ∃ v, cs = [.int .i64 x.op, v] ∧ Vb w F v x.state ∧ inI64 x.op
  len := by rintro w F cs x ⟨v, rfl, _⟩; rfl
  one := by rintro w F cs x ⟨v, rfl, h, _⟩ u hu; simp at hu; rcases hu with rfl | rfl <;> first | rfl | exact Vb.one rfl (by assumption)
  agree := by rintro w w' F cs x ⟨v, rfl, h, h2⟩ ha; exact ⟨v, rfl, h.agree ha, h2⟩
  mono := by rintro w F G cs x ⟨v, rfl, h, h2⟩ ha; exact ⟨v, rfl, h.mono ha, h2⟩
def sucOf (t : Tsk) (s : List Int) (op : Int) : Suc := ⟨op, match t.ops[op.toNat]? with | some o => succ o s | none => s⟩
end
section
open Go Go.RowKit
attribute [local irreducible] ewp owp hwp hwq hws Ev Evg Fn retPost loud loudS Res1
/-- A generator whose tree is not looked at. -/
def GenB (w : World) (F : Nat → Prop) (gv : Value) (t : Tsk) : Prop :=
  ∃ gb a b c d rp, gv = .pointer (some ⟨gb, 0, none⟩) ∧ F gb ∧ Blk w gb 68 [a, b, c, d, .pointer rp] ∧ Vb w F a t.vars ∧ Vb w F b t.init ∧ Vb w F c t.goal ∧ Vb w F d t.ops
theorem GenB.agree {w w' : World} {F : Nat → Prop} {gv : Value} {t : Tsk} (h : GenB w F gv t) (ha : Agree F w w') : GenB w' F gv t := by
  obtain ⟨gb, a, b, c, d, r, h1, h2, h3, h4, h5, h6, h7⟩ := h
  exact ⟨gb, a, b, c, d, r, h1, h2, h3.keep (ha gb h2), h4.agree ha, h5.agree ha, h6.agree ha, h7.agree ha⟩
theorem GenB.mono {w : World} {F G : Nat → Prop} {gv : Value} {t : Tsk} (h : GenB w F gv t) (ha : ∀ k, F k → G k) : GenB w G gv t := by
  obtain ⟨gb, a, b, c, d, r, h1, h2, h3, h4, h5, h6, h7⟩ := h
  exact ⟨gb, a, b, c, d, r, h1, ha _ h2, h3, h4.mono ha, h5.mono ha, h6.mono ha, h7.mono ha⟩
theorem GenB.ext {w w' : World} {gv : Value} {t : Tsk} (h : GenB w (All w) gv t) (hE : Ext w w') : GenB w' (All w') gv t := (h.agree (hE.agree fun _ h => h)).mono fun k hk => Nat.lt_of_lt_of_le hk hE.size
def factOn (l : List Fct) (v : Int) : Option Fct := l.find? fun f => decide (f.var = v)
def factV : Option Fct → Value
  | some f => .tuple #[.agg #[.int .i64 f.var, .int .i64 f.val], .bool true]
  | none => .tuple #[.agg #[.int .i64 0, .int .i64 0], .bool false]
theorem find_some {α : Type} (p : α → Bool) : ∀ {l : List α} {k : Nat} {x : α}, l[k]? = some x → p x = true → (∀ i, i < k → ∀ y, l[i]? = some y → p y = false) → l.find? p = some x
  | [], _, _, h, _, _ => by simp at h
  | y :: l, 0, x, h, hp, _ => by
    have : y = x := by simpa using h
    subst this; simp [hp]
  | y :: l, k + 1, x, h, hp, hn => by
    have hy := hn 0 (by omega) y rfl
    rw [List.find?_cons, hy]
    exact find_some p (k := k) (by simpa using h) hp fun i hi z hz => hn (i + 1) (by omega) z (by simpa using hz)
theorem find_none {α : Type} (p : α → Bool) {l : List α} (hn : ∀ i, i < l.length → ∀ y, l[i]? = some y → p y = false) : l.find? p = none := by
  rw [List.find?_eq_none]
  intro x hx
  obtain ⟨i, hi⟩ := List.getElem?_of_mem hx
  simp [hn i (lt_of_some hi) x hi]
theorem genFact {w : World} {gv : Value} {t : Tsk} {j : Nat} {o : Opr} {v : Int} (hg : GenB w (All w) gv t) (ho : t.ops[j]? = some o) :
    Fn Try.prog 46 [gv, .int .i64 (j : Int), .int .i64 v] w fun r w' => r = factV (factOn o.pre v) ∧ Ext w w' := by
  obtain ⟨gb, a, b, c, d, rp, rfl, hgb, hb0, hvars, hinit, hgoal, hops⟩ := hg
  obtain ⟨Ao, co, rfl⟩ := hops.form
  obtain ⟨b2, o2, ce, rfl, hbl, hjl, hd0, p, q, rfl, hp, hq, hc, hnm⟩ := hops.elem ho
  obtain ⟨Ap, cp, rfl⟩ := hp.form
  have hpl := hp.len
  refine fn_enter Try.func46 rfl Try.ntmps46 rfl ?_
  repeat (first | refine e_go ?_ | refine ewp_true rfl ?_ | refine ewp_false rfl ?_)
  refine owp_alloc rfl fun w1 hN1 => ?_
  have hres := hN1.blk
  have hE1 : Ext w w1 := hN1.ext
  have hb1 := hb0.ext hE1
  have hd1 := cells_ext hd0 hbl hE1
  (refine o_as rfl rfl ?_ <;> (refine o_z ?_))
  repeat (first | refine e_go ?_ | refine ewp_true rfl ?_ | refine ewp_false rfl ?_)
  ((repeat (first | refine e_go ?_ | refine ewp_true rfl ?_ | refine ewp_false rfl ?_)) <;> (refine o_mv rfl rfl ?_ <;> refine o_nc rfl rfl ?_ <;> refine o_fa rfl rfl ?_ <;> refine o_fa rfl rfl ?_ <;> refine o_ld rfl rfl ?_ <;> refine o_mv rfl rfl ?_ <;> refine o_ia rfl rfl rfl ?_ <;> refine o_fa rfl rfl ?_ <;> refine o_ld rfl rfl ?_ <;> refine o_ln rfl rfl ?_ <;> refine o_mv rfl rfl ?_ <;> (refine o_z ?_)) <;> (repeat (first | refine e_go ?_ | refine ewp_true rfl ?_ | refine ewp_false rfl ?_)))
  refine ewp_range o.pre.length (by omega) (fun _ : Unit => [(2, .int .i64 v), (6, .pointer (some ⟨w.heap.size, 0, none⟩)), (18, .slice Ap o.pre.length cp)]) (fun k _ w' => Ext w1 w' ∧ ∀ i, i < k → ∀ f, o.pre[i]? = some f → decide (f.var = v) = false) ()
    ⟨Below.refl _ _, fun i hi => by omega⟩ ⟨rfl, rfl, rfl, rfl, rfl, trivial⟩ (fun _ => ⟨rfl, rfl⟩) ⟨rfl, rfl, rfl⟩ ⟨rfl, rfl⟩ ?_ ?_
  · rintro k _ w2 hk ⟨hE2, hh⟩
    obtain ⟨f, hf⟩ := some_of_lt hk
    obtain ⟨b3, o3, ce, rfl, _, _, hd1, rfl, hr1, hr2⟩ := (hp.ext (hE1.trans' hE2)).elem hf
    ((repeat (first | refine e_go ?_ | refine ewp_true rfl ?_ | refine ewp_false rfl ?_)) <;> (refine o_ia rfl rfl rfl ?_ <;> refine o_la rfl rfl ?_) <;> (repeat (first | refine e_go ?_ | refine ewp_true rfl ?_ | refine ewp_false rfl ?_)))
    refine owp_local rfl rfl rfl (by simp [Value.cells, Value.oneCell']) fun w3 hN3 => ?_
    have hb2 := hN3.blk
    have hE3 : Ext w1 w3 := hE2.trans' hN3.ext
    replace hres := hres.ext hE3
    ((refine o_z ?_))
    repeat (first | refine e_go ?_ | refine ewp_true rfl ?_ | refine ewp_false rfl ?_)
    ((repeat (first | refine e_go ?_ | refine ewp_true rfl ?_ | refine ewp_false rfl ?_)) <;> (refine o_fa rfl rfl ?_ <;> refine o_ld rfl rfl ?_ <;> refine o_mv rfl rfl ?_ <;> (first | refine o_eeT rfl rfl rfl ?_ | refine o_eeF rfl rfl rfl ?_ | refine o_eeS rfl rfl rfl (fun _ => ?_) fun _ => ?_) <;> (refine o_z ?_)) <;> (repeat (first | refine e_go ?_ | refine ewp_true rfl ?_ | refine ewp_false rfl ?_)))
    · (refine o_la rfl rfl ?_)
      refine owp_store rfl rfl hres rfl (Nat.le_refl _) (by simp [Value.cells, Value.oneCell']) fun w4 hU => ?_
      (refine o_as rfl rfl ?_ <;> (refine o_z ?_))
      repeat (first | refine e_go ?_ | refine ewp_true rfl ?_ | refine ewp_false rfl ?_)
      refine ret2 rfl (res_cell rfl rfl hU.blk.cellsAt) (res_tmp rfl) ⟨?_, hE1.trans ((hE3.mono hE1.size).trans (hU.below (Nat.le_refl _)))⟩
      rw [factOn, find_some _ hf (by simpa using ‹f.var = v›) hh]
      rfl
    · exact ⟨(), ⟨rfl, rfl, rfl, rfl, rfl, trivial⟩, hE3, upto_step hh fun f' hf' => by rw [hf] at hf'; injection hf' with hf'; subst hf'; simpa using ‹¬ f.var = v›⟩
  rintro _ w2 ⟨hE2, hh⟩
  replace hres := hres.ext hE2
  repeat (first | refine e_go ?_ | refine ewp_true rfl ?_ | refine ewp_false rfl ?_)
  (refine o_bd rfl rfl rfl ?_)
  refine owp_store rfl rfl hres rfl (Nat.le_refl _) (by simp [Value.cells, Value.oneCell', setParts]) fun w4 hU => ?_
  (refine o_as rfl rfl ?_ <;> (refine o_z ?_))
  repeat (first | refine e_go ?_ | refine ewp_true rfl ?_ | refine ewp_false rfl ?_)
  refine ret2 rfl (res_cell rfl rfl hU.blk.cellsAt) (res_tmp rfl) ⟨?_, hE1.trans ((hE2.mono hE1.size).trans (hU.below (Nat.le_refl _)))⟩
  rw [factOn, find_none _ hh]
  rfl
theorem genBuild1 {w : World} {gv : Value} {t : Tsk} {j : Nat} {o : Opr} {v : Int} {g1 g2 : Nat} {r1 r2 : TypeId} (hg : GenB w (All w) gv t) (ho : t.ops[j]? = some o) (h1 : Blk w g1 r1 [gv]) (h2 : Blk w g2 r2 [.int .i64 v]) :
    Fn Try.prog 45 ([.int .i64 (j : Int)] ++ [.pointer (some ⟨g1, 0, none⟩), .pointer (some ⟨g2, 0, none⟩)]) w fun r w' => r = .bool (factOn o.pre v).isSome ∧ Ext w w' := by
  have hb1 := h1
  have hb2 := h2
  refine fn_enter Try.func45 rfl Try.ntmps45 rfl ?_
  ((repeat (first | refine e_go ?_ | refine ewp_true rfl ?_ | refine ewp_false rfl ?_)) <;> (refine o_as rfl rfl ?_ <;> (refine o_z ?_)) <;> (repeat (first | refine e_go ?_ | refine ewp_true rfl ?_ | refine ewp_false rfl ?_)) <;> (refine o_ld rfl rfl ?_ <;> refine o_mv rfl rfl ?_ <;> refine o_ld rfl rfl ?_) <;> (repeat (first | refine e_go ?_ | refine ewp_true rfl ?_ | refine ewp_false rfl ?_)))
  refine owp_call rfl rfl (genFact hg ho) ?_
  rintro _ w1 ⟨rfl, hE1⟩
  cases hf : factOn o.pre v with
  | none =>
    simp only [factV]
    (refine o_mv rfl rfl ?_ <;> refine o_ex rfl rfl rfl ?_ <;> refine o_ex rfl rfl rfl ?_)
    refine owp_local rfl rfl rfl (by simp [Value.cells, Value.oneCell']) fun w2 hN2 => ?_
    (refine o_as rfl rfl ?_ <;> (refine o_z ?_))
    repeat (first | refine e_go ?_ | refine ewp_true rfl ?_ | refine ewp_false rfl ?_)
    ((repeat (first | refine e_go ?_ | refine ewp_true rfl ?_ | refine ewp_false rfl ?_)) <;> (refine o_mv rfl rfl ?_ <;> refine o_as rfl rfl ?_ <;> (refine o_z ?_)) <;> (repeat (first | refine e_go ?_ | refine ewp_true rfl ?_ | refine ewp_false rfl ?_)))
    exact ret1 rfl rfl ⟨rfl, hE1.trans' hN2.ext⟩
  | some f =>
    simp only [factV]
    (refine o_mv rfl rfl ?_ <;> refine o_ex rfl rfl rfl ?_ <;> refine o_ex rfl rfl rfl ?_)
    refine owp_local rfl rfl rfl (by simp [Value.cells, Value.oneCell']) fun w2 hN2 => ?_
    (refine o_as rfl rfl ?_ <;> (refine o_z ?_))
    repeat (first | refine e_go ?_ | refine ewp_true rfl ?_ | refine ewp_false rfl ?_)
    ((repeat (first | refine e_go ?_ | refine ewp_true rfl ?_ | refine ewp_false rfl ?_)) <;> (refine o_mv rfl rfl ?_ <;> refine o_as rfl rfl ?_ <;> (refine o_z ?_)) <;> (repeat (first | refine e_go ?_ | refine ewp_true rfl ?_ | refine ewp_false rfl ?_)))
    exact ret1 rfl rfl ⟨rfl, hE1.trans' hN2.ext⟩
end
section
open Go Go.RowKit
attribute [local irreducible] ewp owp hwp hwq hws Ev Evg Fn retPost loud loudS Res1
/-- All conditions of a task. -/
def opConds (o : Opr) : List (List Fct) := o.pre :: o.effs.map (·.cond)
def conds (t : Tsk) : List (List Fct) := t.goal :: t.ops.flatMap opConds
theorem take_flat {α β : Type} (f : α → List β) {l : List α} {k : Nat} {x : α} (h : l[k]? = some x) : (l.take (k + 1)).flatMap f = (l.take k).flatMap f ++ f x := by
  rw [List.take_add_one, h]; simp
theorem take_map {α β : Type} (f : α → β) {l : List α} {k : Nat} {x : α} (h : l[k]? = some x) : (l.take (k + 1)).map f = (l.take k).map f ++ [f x] := by
  rw [List.take_add_one, h]; simp
theorem flat_le {t : Tsk} (h : ∀ (i : Nat) o, t.ops[i]? = some o → o.effs.length ≤ 64) (k : Nat) : ((t.ops.take k).flatMap opConds).length ≤ k * 65 := by
  induction k with
  | zero => simp
  | succ k ih =>
    cases hx : t.ops[k]? with
    | none =>
      have hl := List.getElem?_eq_none_iff.1 hx
      rw [List.take_of_length_le hl] at ih
      rw [List.take_of_length_le (by omega)]
      omega
    | some o =>
      rw [take_flat opConds hx, List.length_append]
      have := h k o hx
      simp only [opConds, List.length_cons, List.length_map] at *
      omega
theorem taskConditions {w : World} {tv : Value} {t : Tsk} (ht : V w tv t) (hn : t.ops.length ≤ 4096) (hm : ∀ (i : Nat) o, t.ops[i]? = some o → o.effs.length ≤ 64) :
    Fn Try.prog 39 [tv] w fun v w' => V w' v (conds t) ∧ Ext w w' := by
  obtain ⟨cs, rfl, a, b, c, d, rfl, hvars, hinit, hgoal, hops⟩ := ht
  obtain ⟨Av, cv, rfl⟩ := hvars.form
  obtain ⟨Ai, ci, rfl⟩ := hinit.form
  obtain ⟨Ag, cg, rfl⟩ := hgoal.form
  obtain ⟨Ao, co, rfl⟩ := hops.form
  have hF : ∀ {w'}, Ext w w' → ∀ k, All w k → k < w'.heap.size := fun hE k hk => Nat.lt_of_lt_of_le hk hE.size
  refine fn_enter Try.func39 rfl Try.ntmps39 rfl ?_
  repeat (first | refine e_go ?_ | refine ewp_true rfl ?_ | refine ewp_false rfl ?_)
  refine owp_box rfl rfl fun w1 hN => ?_
  have hb1 := hN.blk
  have hE1 : Ext w w1 := hN.ext
  (refine o_as rfl rfl ?_ <;> (refine o_z ?_))
  repeat (first | refine e_go ?_ | refine ewp_true rfl ?_ | refine ewp_false rfl ?_)
  (refine o_fa rfl rfl ?_ <;> refine o_ld rfl rfl ?_)
  refine owp_slice rfl rfl rfl (by simp [Value.cells]) (by decide) rfl fun w2 hN2 => ?_
  replace hb1 := hb1.ext hN2.ext
  have hE2 : Ext w w2 := hE1.trans' hN2.ext
  have hown : Own w2 w.heap.size (All w) 23 (.slice (some ⟨w1.heap.size, 0, none⟩) 1 1) [t.goal] :=
    (Own.made hN2 (xs := [t.goal]) (.single (Vb.agree hgoal (hE2.agree fun _ h => h))) rfl (fun h => by have : w1.heap.size < w.heap.size := h; have := hE1.size; omega) (by simp)).lower hE1.size
  (refine o_as rfl rfl ?_ <;> (refine o_z ?_))
  repeat (first | refine e_go ?_ | refine ewp_true rfl ?_ | refine ewp_false rfl ?_)
  ((repeat (first | refine e_go ?_ | refine ewp_true rfl ?_ | refine ewp_false rfl ?_)) <;> (refine o_fa rfl rfl ?_ <;> refine o_ld rfl rfl ?_ <;> refine o_ln rfl rfl ?_ <;> refine o_mv rfl rfl ?_ <;> (refine o_z ?_)) <;> (repeat (first | refine e_go ?_ | refine ewp_true rfl ?_ | refine ewp_false rfl ?_)))
  refine ewp_range t.ops.length (by omega) (fun v : Value => [(1, .pointer (some ⟨w.heap.size, 0, none⟩)), (3, v), (12, .slice Ao t.ops.length co)]) (fun k v w' => Ext w w' ∧ Blk w' w.heap.size 26 [.slice Av t.vars.length cv, .slice Ai t.init.length ci, .slice Ag t.goal.length cg, .slice Ao t.ops.length co] ∧ Own w' w.heap.size (All w) 23 v (t.goal :: (t.ops.take k).flatMap opConds)) _
    ⟨hE2, hb1, hown⟩ ⟨rfl, rfl, rfl, rfl, rfl, trivial⟩ (fun _ => ⟨rfl, rfl⟩) ⟨rfl, rfl, rfl⟩ ⟨rfl, rfl⟩ ?_ ?_
  · rintro k v w3 hk ⟨hE3, hb1, hown⟩
    have hlk := flat_le hm k
    obtain ⟨o, ho⟩ := some_of_lt hk
    obtain ⟨b2, o2, ce, rfl, _, _, hd1, p, q, rfl, hp, hq, hc, hnm⟩ := Vb.elem (Vb.agree hops (hE3.agree fun _ h => h)) ho
    obtain ⟨Ap, cp, rfl⟩ := hp.form
    obtain ⟨Aq, cq, rfl⟩ := hq.form
    have hql := hm k o ho
    ((repeat (first | refine e_go ?_ | refine ewp_true rfl ?_ | refine ewp_false rfl ?_)) <;> (refine o_ia rfl rfl rfl ?_ <;> refine o_la rfl rfl ?_) <;> (repeat (first | refine e_go ?_ | refine ewp_true rfl ?_ | refine ewp_false rfl ?_)))
    refine owp_local rfl rfl rfl (by simp [Value.cells, Value.oneCell']) fun w4 hN4 => ?_
    have hb2 := hN4.blk
    replace hb1 := hb1.ext hN4.ext
    have hE4 : Ext w w4 := hE3.trans' hN4.ext
    replace hown := hown.ext hN4.ext (hF hE3)
    replace hp := hp.agree (hN4.ext.agree (hF hE3))
    replace hq := hq.agree (hN4.ext.agree (hF hE3))
    ((refine o_z ?_))
    repeat (first | refine e_go ?_ | refine ewp_true rfl ?_ | refine ewp_false rfl ?_)
    (refine o_mv rfl rfl ?_ <;> refine o_fa rfl rfl ?_ <;> refine o_ld rfl rfl ?_)
    refine owp_append1 rfl rfl rfl hown (hF hE4) hE4.size hp (by decide) (by decide) (by simp only [List.length_cons, List.length_append, List.length_map, List.length_take]; omega) (by simp only [List.length_cons, List.length_append, List.length_map, List.length_take]; omega) ⟨rfl, rfl⟩ fun v' w5 hown5 hK => ?_
    replace hb1 := hK.blk hb1 (hown.blk_ne hb1 (by decide))
    replace hb2 := hK.blk hb2 (hown.blk_ne hb2 (by decide))
    have hB5 : Below w.heap.size w4 w5 := hown.fits (Nat.le_refl _) hE4.size hK
    have hE5 : Ext w w5 := hE4.trans hB5
    replace hq := hq.below hB5
    (refine o_as rfl rfl ?_ <;> (refine o_z ?_))
    repeat (first | refine e_go ?_ | refine ewp_true rfl ?_ | refine ewp_false rfl ?_)
    ((repeat (first | refine e_go ?_ | refine ewp_true rfl ?_ | refine ewp_false rfl ?_)) <;> (refine o_fa rfl rfl ?_ <;> refine o_ld rfl rfl ?_ <;> refine o_ln rfl rfl ?_ <;> refine o_mv rfl rfl ?_ <;> (refine o_z ?_)) <;> (repeat (first | refine e_go ?_ | refine ewp_true rfl ?_ | refine ewp_false rfl ?_)))
    refine ewp_range o.effs.length (by omega) (fun v : Value => [(1, .pointer (some ⟨w.heap.size, 0, none⟩)), (3, v), (12, .slice (some ⟨b2, o2, none⟩) t.ops.length co), (13, .int .i64 (t.ops.length : Int)), (14, .int .i64 (k : Int)), (24, .slice Aq o.effs.length cq)]) (fun j v w' => Ext w w' ∧ Blk w' w.heap.size 26 [.slice Av t.vars.length cv, .slice Ai t.init.length ci, .slice Ag t.goal.length cg, .slice (some ⟨b2, o2, none⟩) t.ops.length co] ∧ Vb w' (All w) (.slice Aq o.effs.length cq) o.effs ∧ Own w' w.heap.size (All w) 23 v ((t.goal :: (t.ops.take k).flatMap opConds) ++ o.pre :: (o.effs.take j).map (·.cond))) _
      ⟨hE5, hb1, hq, by simpa using hown5⟩ ⟨rfl, rfl, rfl, rfl, rfl, rfl, rfl, rfl, trivial⟩ (fun _ => ⟨rfl, rfl⟩) ⟨rfl, rfl, rfl⟩ ⟨rfl, rfl⟩ ?_ ?_
    · rintro j v6 w6 hj ⟨hE6, hb1, hq, hown⟩
      obtain ⟨e, he⟩ := some_of_lt hj
      obtain ⟨b3, o3, ce, rfl, _, _, hd1, cv', rfl, hcond, hr1, hr2⟩ := hq.elem he
      obtain ⟨Ac, cc, rfl⟩ := hcond.form
      ((repeat (first | refine e_go ?_ | refine ewp_true rfl ?_ | refine ewp_false rfl ?_)) <;> (refine o_ia rfl rfl rfl ?_ <;> refine o_la rfl rfl ?_) <;> (repeat (first | refine e_go ?_ | refine ewp_true rfl ?_ | refine ewp_false rfl ?_)))
      refine owp_local rfl rfl rfl (by simp [Value.cells, Value.oneCell']) fun w7 hN7 => ?_
      have hb2 := hN7.blk
      replace hb1 := hb1.ext hN7.ext
      have hE7 : Ext w w7 := hE6.trans' hN7.ext
      replace hown := hown.ext hN7.ext (hF hE6)
      replace hcond := hcond.agree (hN7.ext.agree (hF hE6))
      replace hq := hq.agree (hN7.ext.agree (hF hE6))
      ((refine o_z ?_))
      repeat (first | refine e_go ?_ | refine ewp_true rfl ?_ | refine ewp_false rfl ?_)
      (refine o_mv rfl rfl ?_ <;> refine o_fa rfl rfl ?_ <;> refine o_ld rfl rfl ?_)
      refine owp_append1 rfl rfl rfl hown (hF hE7) hE7.size hcond (by decide) (by decide) (by simp only [List.length_cons, List.length_append, List.length_map, List.length_take]; omega) (by simp only [List.length_cons, List.length_append, List.length_map, List.length_take]; omega) ⟨rfl, rfl⟩ fun v' w8 hown8 hK => ?_
      have hB8 : Below w.heap.size w7 w8 := hown.fits (Nat.le_refl _) hE7.size hK
      (refine o_as rfl rfl ?_ <;> (refine o_z ?_))
      exact ⟨v', ⟨rfl, rfl, rfl, rfl, rfl, rfl, rfl, rfl, trivial⟩, hE7.trans hB8, hK.blk hb1 (hown.blk_ne hb1 (by decide)), hq.below hB8, by rw [take_map _ he]; simpa using hown8⟩
    rintro v6 w6 ⟨hE6, hb1, hq, hown⟩
    repeat (first | refine e_go ?_ | refine ewp_true rfl ?_ | refine ewp_false rfl ?_)
    exact ⟨v6, ⟨rfl, rfl, rfl, rfl, rfl, trivial⟩, hE6, hb1, by rw [take_flat opConds ho]; simpa [opConds] using hown⟩
  rintro v w3 ⟨hE3, hb1, hown⟩
  repeat (first | refine e_go ?_ | refine ewp_true rfl ?_ | refine ewp_false rfl ?_)
  ((repeat (first | refine e_go ?_ | refine ewp_true rfl ?_ | refine ewp_false rfl ?_)) <;> (refine o_mv rfl rfl ?_ <;> refine o_as rfl rfl ?_ <;> (refine o_z ?_)) <;> (repeat (first | refine e_go ?_ | refine ewp_true rfl ?_ | refine ewp_false rfl ?_)))
  refine ret1 rfl rfl ⟨?_, hE3⟩
  rw [List.take_length] at hown
  exact hown.vb.mono fun k hk => by
    rcases hk with hk | hk
    · exact hF hE3 k hk
    · exact (hown.lt k hk).2
theorem indexFuncFacts {w : World} {sv : Value} {xs : List (List Fct)} {g : FuncId} [Callable Try.prog g] {caps : List Value} {p : List Fct → Prop} (hs : V w sv xs)
    (hg : ∀ v x w', x ∈ xs → Ext w w' → V w' v x → Fn Try.prog g ([v] ++ caps) w' fun r w'' => r = .bool (bof (p x)) ∧ Ext w' w'') :
    Fn Try.prog 54 [sv, .func (.func g) #[] caps.toArray] w fun v w' => ((∃ k : Nat, v = .int .i64 (k : Int) ∧ ∃ x ∈ xs, p x) ∨ (v = .int .i64 (-1) ∧ ∀ x ∈ xs, ¬ p x)) ∧ Ext w w' := by
  obtain ⟨A, c, rfl⟩ := hs.form
  have hl := hs.len
  refine fn_enter Try.func54 rfl Try.ntmps54 rfl ?_
  ((repeat (first | refine e_go ?_ | refine ewp_true rfl ?_ | refine ewp_false rfl ?_)) <;> (refine o_as rfl rfl ?_ <;> (refine o_z ?_)) <;> (repeat (first | refine e_go ?_ | refine ewp_true rfl ?_ | refine ewp_false rfl ?_)) <;> (refine o_mv rfl rfl ?_ <;> refine o_ln rfl rfl ?_ <;> refine o_mv rfl rfl ?_ <;> (refine o_z ?_)) <;> (repeat (first | refine e_go ?_ | refine ewp_true rfl ?_ | refine ewp_false rfl ?_)))
  refine ewp_range xs.length (by omega) (fun _ : Unit => [(0, .slice A xs.length c), (1, .func (.func g) #[] caps.toArray)]) (fun k _ w' => Ext w w' ∧ ∀ i, i < k → ∀ x, xs[i]? = some x → ¬ p x) ()
    ⟨Below.refl _ _, fun i hi => by omega⟩ ⟨rfl, rfl, rfl, rfl, trivial⟩ (fun _ => ⟨rfl, rfl⟩) ⟨rfl, rfl, rfl⟩ ⟨rfl, rfl⟩ ?_ ?_
  · rintro k _ w1 hk ⟨hE, hh⟩
    obtain ⟨x, hx⟩ := some_of_lt hk
    obtain ⟨b, o, ce, rfl, _, _, hd1, hR⟩ := (hs.ext hE).elem hx
    obtain ⟨v, rfl⟩ := List.length_eq_one_iff.1 (Rp.len hR)
    ((repeat (first | refine e_go ?_ | refine ewp_true rfl ?_ | refine ewp_false rfl ?_)) <;> (refine o_mv rfl rfl ?_ <;> refine o_as rfl rfl ?_ <;> (refine o_z ?_)) <;> (repeat (first | refine e_go ?_ | refine ewp_true rfl ?_ | refine ewp_false rfl ?_)) <;> (refine o_mv rfl rfl ?_ <;> refine o_mv rfl rfl ?_ <;> refine o_mv rfl rfl ?_ <;> refine o_ia rfl rfl rfl ?_ <;> refine o_ld rfl rfl ?_) <;> (repeat (first | refine e_go ?_ | refine ewp_true rfl ?_ | refine ewp_false rfl ?_)))
    refine owp_callv rfl rfl rfl (hg v x w1 (List.mem_of_getElem? hx) hE hR) ?_
    rintro _ w2 ⟨rfl, hE2⟩
    by_cases hp : p x
    · rw [bof_t hp]
      ((refine o_z ?_))
      repeat (first | refine e_go ?_ | refine ewp_true rfl ?_ | refine ewp_false rfl ?_)
      ((repeat (first | refine e_go ?_ | refine ewp_true rfl ?_ | refine ewp_false rfl ?_)) <;> (refine o_mv rfl rfl ?_ <;> refine o_as rfl rfl ?_ <;> (refine o_z ?_)) <;> (repeat (first | refine e_go ?_ | refine ewp_true rfl ?_ | refine ewp_false rfl ?_)))
      exact ret1 rfl rfl ⟨.inl ⟨k, rfl, x, List.mem_of_getElem? hx, hp⟩, hE.trans' hE2⟩
    · rw [bof_f hp]
      ((refine o_z ?_))
      repeat (first | refine e_go ?_ | refine ewp_true rfl ?_ | refine ewp_false rfl ?_)
      exact ⟨(), ⟨rfl, rfl, rfl, rfl, trivial⟩, hE.trans' hE2, upto_step hh fun x' hx' => by rw [hx] at hx'; injection hx' with hx'; exact hx' ▸ hp⟩
  rintro _ w1 ⟨hE, hh⟩
  repeat (first | refine e_go ?_ | refine ewp_true rfl ?_ | refine ewp_false rfl ?_)
  ((repeat (first | refine e_go ?_ | refine ewp_true rfl ?_ | refine ewp_false rfl ?_)) <;> (refine o_as rfl rfl ?_ <;> (refine o_z ?_)) <;> (repeat (first | refine e_go ?_ | refine ewp_true rfl ?_ | refine ewp_false rfl ?_)))
  refine ret1 rfl rfl ⟨.inr ⟨rfl, fun x hx => ?_⟩, hE⟩
  obtain ⟨i, hi⟩ := List.getElem?_of_mem hx
  exact hh i (lt_of_some hi) x hi
theorem containsFuncFacts {w : World} {sv : Value} {xs : List (List Fct)} {g : FuncId} [Callable Try.prog g] {caps : List Value} {p : List Fct → Prop} (hs : V w sv xs)
    (hg : ∀ v x w', x ∈ xs → Ext w w' → V w' v x → Fn Try.prog g ([v] ++ caps) w' fun r w'' => r = .bool (bof (p x)) ∧ Ext w' w'') :
    Fn Try.prog 49 [sv, .func (.func g) #[] caps.toArray] w fun v w' => v = .bool (bof (∃ x ∈ xs, p x)) ∧ Ext w w' := by
  refine fn_enter Try.func49 rfl Try.ntmps49 rfl ?_
  ((repeat (first | refine e_go ?_ | refine ewp_true rfl ?_ | refine ewp_false rfl ?_)) <;> (refine o_as rfl rfl ?_ <;> (refine o_z ?_)) <;> (repeat (first | refine e_go ?_ | refine ewp_true rfl ?_ | refine ewp_false rfl ?_)) <;> (refine o_mv rfl rfl ?_ <;> refine o_mv rfl rfl ?_) <;> (repeat (first | refine e_go ?_ | refine ewp_true rfl ?_ | refine ewp_false rfl ?_)))
  refine owp_call rfl rfl (indexFuncFacts hs hg) ?_
  rintro v w1 ⟨h, hE⟩
  rcases h with ⟨k, rfl, h⟩ | ⟨rfl, h⟩
  · ((first | refine o_geT rfl rfl rfl ?_ | refine o_geF rfl rfl rfl ?_) <;> refine o_as rfl rfl ?_ <;> (refine o_z ?_))
    repeat (first | refine e_go ?_ | refine ewp_true rfl ?_ | refine ewp_false rfl ?_)
    exact ret1 rfl rfl ⟨by rw [bof_t h], hE⟩
  · ((first | refine o_geT rfl rfl rfl ?_ | refine o_geF rfl rfl rfl ?_) <;> refine o_as rfl rfl ?_ <;> (refine o_z ?_))
    repeat (first | refine e_go ?_ | refine ewp_true rfl ?_ | refine ewp_false rfl ?_)
    exact ret1 rfl rfl ⟨by rw [bof_f (fun ⟨x, hx, hp⟩ => h x hx hp)], hE⟩
theorem taskLarge1 {w : World} {v : Value} {f : List Fct} (hf : V w v f) : Fn Try.prog 50 ([v] ++ []) w fun r w' => r = .bool (bof (64 < f.length)) ∧ Ext w w' := by
  obtain ⟨A, c, rfl⟩ := hf.form
  refine fn_enter Try.func50 rfl Try.ntmps50 rfl ?_
  by_cases h : 64 < f.length
  · ((repeat (first | refine e_go ?_ | refine ewp_true rfl ?_ | refine ewp_false rfl ?_)) <;> (refine o_as rfl rfl ?_ <;> (refine o_z ?_)) <;> (repeat (first | refine e_go ?_ | refine ewp_true rfl ?_ | refine ewp_false rfl ?_)) <;> (refine o_mv rfl rfl ?_ <;> refine o_ln rfl rfl ?_ <;> (first | refine o_gtT rfl rfl rfl ?_ | refine o_gtF rfl rfl rfl ?_) <;> refine o_as rfl rfl ?_ <;> (refine o_z ?_)) <;> (repeat (first | refine e_go ?_ | refine ewp_true rfl ?_ | refine ewp_false rfl ?_)))
    exact ret1 rfl rfl ⟨by rw [bof_t h], Below.refl _ _⟩
  · ((repeat (first | refine e_go ?_ | refine ewp_true rfl ?_ | refine ewp_false rfl ?_)) <;> (refine o_as rfl rfl ?_ <;> (refine o_z ?_)) <;> (repeat (first | refine e_go ?_ | refine ewp_true rfl ?_ | refine ewp_false rfl ?_)) <;> (refine o_mv rfl rfl ?_ <;> refine o_ln rfl rfl ?_ <;> (first | refine o_gtT rfl rfl rfl ?_ | refine o_gtF rfl rfl rfl ?_) <;> refine o_as rfl rfl ?_ <;> (refine o_z ?_)) <;> (repeat (first | refine e_go ?_ | refine ewp_true rfl ?_ | refine ewp_false rfl ?_)))
    exact ret1 rfl rfl ⟨by rw [bof_f h], Below.refl _ _⟩
/-- A task is beyond the limits. -/
def Large (t : Tsk) : Prop := 64 < t.vars.length ∨ 4096 < t.ops.length ∨ (∃ (i : Nat) (o : Opr), t.ops[i]? = some o ∧ 64 < o.effs.length) ∨ ∃ f ∈ conds t, 64 < f.length
theorem taskLarge {w : World} {tv : Value} {t : Tsk} (ht : V w tv t) : Fn Try.prog 37 [tv] w fun v w' => v = .bool (bof (Large t)) ∧ Ext w w' := by
  have ht0 := ht
  obtain ⟨cs, rfl, a, b, c, d, rfl, hvars, hinit, hgoal, hops⟩ := ht
  obtain ⟨Av, cv, rfl⟩ := hvars.form
  obtain ⟨Ai, ci, rfl⟩ := hinit.form
  obtain ⟨Ag, cg, rfl⟩ := hgoal.form
  obtain ⟨Ao, co, rfl⟩ := hops.form
  have hol := hops.len
  refine fn_enter Try.func37 rfl Try.ntmps37 rfl ?_
  repeat (first | refine e_go ?_ | refine ewp_true rfl ?_ | refine ewp_false rfl ?_)
  refine owp_box rfl rfl fun w1 hN => ?_
  have hb1 := hN.blk
  have hE1 : Ext w w1 := hN.ext
  (refine o_as rfl rfl ?_ <;> (refine o_z ?_))
  repeat (first | refine e_go ?_ | refine ewp_true rfl ?_ | refine ewp_false rfl ?_)
  ((repeat (first | refine e_go ?_ | refine ewp_true rfl ?_ | refine ewp_false rfl ?_)) <;> (refine o_fa rfl rfl ?_ <;> refine o_ld rfl rfl ?_ <;> refine o_ln rfl rfl ?_ <;> (first | refine o_gtT rfl rfl rfl ?_ | refine o_gtF rfl rfl rfl ?_ | refine o_gtS rfl rfl rfl (fun _ => ?_) fun _ => ?_) <;> refine o_mv rfl rfl ?_ <;> (first | (refine owp_yes rfl rfl ?_; refine o_fa rfl rfl ?_) | refine owp_no rfl rfl rfl rfl ?_) <;> (first | (refine owp_yes rfl rfl ?_; refine o_ld rfl rfl ?_) | refine owp_no rfl rfl rfl rfl ?_) <;> (first | (refine owp_yes rfl rfl ?_; refine o_ln rfl rfl ?_) | refine owp_no rfl rfl rfl rfl ?_) <;> (first | (refine owp_yes rfl rfl ?_; (first | refine o_gtT rfl rfl rfl ?_ | refine o_gtF rfl rfl rfl ?_ | refine o_gtS rfl rfl rfl (fun _ => ?_) fun _ => ?_)) | refine owp_no rfl rfl rfl rfl ?_) <;> (first | refine o_pt rfl rfl rfl ?_ | refine o_pf rfl rfl rfl ?_) <;> (refine o_z ?_)) <;> (repeat (first | refine e_go ?_ | refine ewp_true rfl ?_ | refine ewp_false rfl ?_)))
  all_goals try (
    ((repeat (first | refine e_go ?_ | refine ewp_true rfl ?_ | refine ewp_false rfl ?_)) <;> (refine o_as rfl rfl ?_ <;> (refine o_z ?_)) <;> (repeat (first | refine e_go ?_ | refine ewp_true rfl ?_ | refine ewp_false rfl ?_)))
    refine ret1 rfl rfl ⟨?_, hE1⟩
    rw [bof_t (by first | exact .inl (by omega) | exact .inr (.inl (by omega)))])
  ((repeat (first | refine e_go ?_ | refine ewp_true rfl ?_ | refine ewp_false rfl ?_)) <;> (refine o_fa rfl rfl ?_ <;> refine o_ld rfl rfl ?_ <;> refine o_ln rfl rfl ?_ <;> refine o_mv rfl rfl ?_ <;> (refine o_z ?_)) <;> (repeat (first | refine e_go ?_ | refine ewp_true rfl ?_ | refine ewp_false rfl ?_)))
  refine ewp_range t.ops.length (by omega) (fun _ : Unit => [(1, .pointer (some ⟨w.heap.size, 0, none⟩)), (16, .slice Ao t.ops.length co)]) (fun k _ w' => Ext w1 w' ∧ ∀ i, i < k → ∀ o, t.ops[i]? = some o → o.effs.length ≤ 64) ()
    ⟨Below.refl _ _, fun i hi => by omega⟩ ⟨rfl, rfl, rfl, rfl, trivial⟩ (fun _ => ⟨rfl, rfl⟩) ⟨rfl, rfl, rfl⟩ ⟨rfl, rfl⟩ ?_ ?_
  · rintro k _ w4 hk ⟨hE4, hh⟩
    obtain ⟨o, ho⟩ := some_of_lt hk
    obtain ⟨b2, o2, ce, rfl, _, _, hd1, p, q, rfl, hp, hq, hc, hn⟩ := (hops.ext (hE1.trans' hE4)).elem ho
    obtain ⟨Ap, cp, rfl⟩ := hp.form
    obtain ⟨Aq, cq, rfl⟩ := hq.form
    ((repeat (first | refine e_go ?_ | refine ewp_true rfl ?_ | refine ewp_false rfl ?_)) <;> (refine o_ia rfl rfl rfl ?_ <;> refine o_la rfl rfl ?_) <;> (repeat (first | refine e_go ?_ | refine ewp_true rfl ?_ | refine ewp_false rfl ?_)))
    refine owp_local rfl rfl rfl (by simp [Value.cells, Value.oneCell']) fun w5 hN5 => ?_
    have hb2 := hN5.blk
    have hE5 : Ext w1 w5 := hE4.trans' hN5.ext
    ((refine o_z ?_))
    repeat (first | refine e_go ?_ | refine ewp_true rfl ?_ | refine ewp_false rfl ?_)
    ((repeat (first | refine e_go ?_ | refine ewp_true rfl ?_ | refine ewp_false rfl ?_)) <;> (refine o_fa rfl rfl ?_ <;> refine o_ld rfl rfl ?_ <;> refine o_ln rfl rfl ?_ <;> (first | refine o_gtT rfl rfl rfl ?_ | refine o_gtF rfl rfl rfl ?_ | refine o_gtS rfl rfl rfl (fun _ => ?_) fun _ => ?_) <;> (refine o_z ?_)) <;> (repeat (first | refine e_go ?_ | refine ewp_true rfl ?_ | refine ewp_false rfl ?_)))
    · ((repeat (first | refine e_go ?_ | refine ewp_true rfl ?_ | refine ewp_false rfl ?_)) <;> (refine o_as rfl rfl ?_ <;> (refine o_z ?_)) <;> (repeat (first | refine e_go ?_ | refine ewp_true rfl ?_ | refine ewp_false rfl ?_)))
      refine ret1 rfl rfl ⟨?_, hE1.trans' hE5⟩
      rw [bof_t (.inr (.inr (.inl ⟨k, o, ho, by omega⟩)))]
    · exact ⟨(), ⟨rfl, rfl, rfl, rfl, trivial⟩, hE5, upto_step hh fun o' ho' => by rw [ho] at ho'; injection ho' with ho'; subst ho'; omega⟩
  rintro _ w4 ⟨hE4, hh⟩
  replace hb1 := hb1.ext hE4
  replace hE4 : Ext w w4 := hE1.trans' hE4
  have hm : ∀ (i : Nat) o, t.ops[i]? = some o → o.effs.length ≤ 64 := fun i o ho => hh i (lt_of_some ho) o ho
  repeat (first | refine e_go ?_ | refine ewp_true rfl ?_ | refine ewp_false rfl ?_)
  (refine o_la rfl rfl ?_)
  refine owp_call rfl rfl (taskConditions (ht0.ext hE4) (by omega) hm) ?_
  rintro v5 w5 ⟨hv5, hE5⟩
  refine owp_call rfl rfl (containsFuncFacts (p := fun f => 64 < f.length) (caps := []) hv5 (fun v x w' _ _ hx => taskLarge1 hx)) ?_
  rintro v6 w6 ⟨rfl, hE6⟩
  (refine o_as rfl rfl ?_ <;> (refine o_z ?_))
  repeat (first | refine e_go ?_ | refine ewp_true rfl ?_ | refine ewp_false rfl ?_)
  refine ret1 rfl rfl ⟨?_, hE4.trans' (hE5.trans' hE6)⟩
  congr 1
  refine bof_eq ⟨fun h => .inr (.inr (.inr h)), fun h => ?_⟩
  rcases h with h | h | ⟨i, o, ho, h⟩ | h
  · omega
  · omega
  · have := hm i o ho; omega
  · exact h
end
section
open Go Go.RowKit
/-- An error by its number; 0 is nil. -/
def errV (n : Int) : Value := if n = 0 then .nilIface else .iface 76 (.int .i64 n)
theorem errV_zero : errV 0 = .nilIface := by unfold errV; rfl
theorem errV_pos {n : Int} (h : n ≠ 0) : errV n = .iface 76 (.int .i64 n) := by unfold errV; rw [if_neg h]
theorem errV_one (n : Int) : (errV n).oneCell' = true := by unfold errV; split <;> rfl
structure Err where
  n : Int
instance : Rp Err where
  isAgg := false
  size := 1
  R _ _ cs x := cs = [errV x.n] ∧ inI64 x.n
  len := by rintro w F cs x ⟨rfl, _⟩; rfl
  one := by
    rintro w F cs x ⟨rfl, _⟩ u hu
    have : u = errV x.n := by simpa using hu
    subst this; exact errV_one _
  agree := fun h _ => h
  mono := fun h _ => h
theorem Vb.err {w : World} {F : Nat → Prop} {v : Value} {x : Err} (h : Vb w F v x) : v = errV x.n ∧ inI64 x.n := by
  obtain ⟨h1, h2⟩ := h
  exact ⟨by simpa using h1, h2⟩
theorem vErr {w : World} {F : Nat → Prop} {n : Int} (h : inI64 n) : Vb w F (errV n) (⟨n⟩ : Err) := ⟨rfl, h⟩
theorem vErr0 {w : World} {F : Nat → Prop} : Vb w F .nilIface (⟨0⟩ : Err) := ⟨by rw [errV_zero], by decide⟩
end
section
open Go Go.RowKit
attribute [local irreducible] ewp owp hwp hwq hws Ev Evg Fn retPost loud loudS Res1
/-- An error by its number. -/
def VarsOk (t : Tsk) : Prop := ∀ (i : Nat) n, t.vars[i]? = some n → 1 ≤ n ∧ n ≤ 64
def CostsOk (t : Tsk) : Prop := ∀ (i : Nat) o, t.ops[i]? = some o → 0 ≤ o.cost ∧ o.cost ≤ 1048576
def CondsOk (t : Tsk) : Prop := ∀ (i : Nat) f, (conds t)[i]? = some f → FactsOk t.vars f
def EffsOk (t : Tsk) : Prop := ∀ (i : Nat) o, t.ops[i]? = some o → ∀ (j : Nat) e, o.effs[j]? = some e → FactOk t.vars ⟨e.var, e.val⟩
def NamesOk (t : Tsk) : Prop := ∀ (i : Nat) o, t.ops[i]? = some o → NameOk o.name
/-- The number of a task's first error. -/
noncomputable def checkN (t : Tsk) : Int :=
  if bof (Large t) = true then 5 else if bof (VarsOk t ∧ CostsOk t) = false then 1 else if bof (StateOk t.vars t.init ∧ CondsOk t ∧ EffsOk t) = false then 2 else if bof (NamesOk t) = false then 8 else 0
theorem taskCheck {w : World} {tv : Value} {t : Tsk} (ht : V w tv t) : Fn Try.prog 25 [tv] w fun v w' => v = errV (checkN t) ∧ Ext w w' := by
  have ht0 := ht
  obtain ⟨cs, rfl, a, b, c, d, rfl, hvars, hinit, hgoal, hops⟩ := ht
  obtain ⟨Av, cv, rfl⟩ := hvars.form
  obtain ⟨Ai, ci, rfl⟩ := hinit.form
  obtain ⟨Ag, cg, rfl⟩ := hgoal.form
  obtain ⟨Ao, co, rfl⟩ := hops.form
  have hvl := hvars.len
  have hol := hops.len
  refine fn_enter Try.func25 rfl Try.ntmps25 rfl ?_
  repeat (first | refine e_go ?_ | refine ewp_true rfl ?_ | refine ewp_false rfl ?_)
  refine owp_box rfl rfl fun w1 hN => ?_
  have hb1 := hN.blk
  have hE1 : Ext w w1 := hN.ext
  (refine o_as rfl rfl ?_ <;> (refine o_z ?_))
  repeat (first | refine e_go ?_ | refine ewp_true rfl ?_ | refine ewp_false rfl ?_)
  (refine o_la rfl rfl ?_)
  refine owp_callB rfl rfl (taskLarge (ht0.ext hE1)) ?_ ?_
  case refine_1 =>
    intro w2 hP hE2
    ((refine o_z ?_))
    repeat (first | refine e_go ?_ | refine ewp_true rfl ?_ | refine ewp_false rfl ?_)
    ((repeat (first | refine e_go ?_ | refine ewp_true rfl ?_ | refine ewp_false rfl ?_)) <;> (refine o_mi rfl rfl ?_ <;> refine o_as rfl rfl ?_ <;> (refine o_z ?_)) <;> (repeat (first | refine e_go ?_ | refine ewp_true rfl ?_ | refine ewp_false rfl ?_)))
    refine ret1 rfl rfl ⟨?_, hE1.trans' hE2⟩
    rw [checkN, bof_t hP]; rfl
  intro w2 hlarge hE2
  replace hb1 := hb1.ext hE2
  replace hE2 : Ext w w2 := hE1.trans' hE2
  have hm : ∀ (i : Nat) o, t.ops[i]? = some o → o.effs.length ≤ 64 := fun i o ho => Nat.le_of_not_lt fun h => hlarge (.inr (.inr (.inl ⟨i, o, ho, h⟩)))
  have hn4 : t.ops.length ≤ 4096 := Nat.le_of_not_lt fun h => hlarge (.inr (.inl h))
  have c1 : checkN t = if bof (VarsOk t ∧ CostsOk t) = false then 1 else if bof (StateOk t.vars t.init ∧ CondsOk t ∧ EffsOk t) = false then 2 else if bof (NamesOk t) = false then 8 else 0 := by rw [checkN, bof_f hlarge]; rfl
  ((refine o_z ?_))
  repeat (first | refine e_go ?_ | refine ewp_true rfl ?_ | refine ewp_false rfl ?_)
  ((repeat (first | refine e_go ?_ | refine ewp_true rfl ?_ | refine ewp_false rfl ?_)) <;> (refine o_fa rfl rfl ?_ <;> refine o_ld rfl rfl ?_ <;> refine o_ln rfl rfl ?_ <;> refine o_mv rfl rfl ?_ <;> (refine o_z ?_)) <;> (repeat (first | refine e_go ?_ | refine ewp_true rfl ?_ | refine ewp_false rfl ?_)))
  refine ewp_range t.vars.length (by omega) (fun _ : Unit => [(1, .pointer (some ⟨w.heap.size, 0, none⟩)), (19, .slice Av t.vars.length cv)]) (fun k _ w' => w' = w2 ∧ ∀ i, i < k → ∀ n, t.vars[i]? = some n → 1 ≤ n ∧ n ≤ 64) ()
    ⟨rfl, fun i hi => by omega⟩ ⟨rfl, rfl, rfl, rfl, trivial⟩ (fun _ => ⟨rfl, rfl⟩) ⟨rfl, rfl, rfl⟩ ⟨rfl, rfl⟩ ?_ ?_
  · rintro k _ _ hk ⟨rfl, hh⟩
    obtain ⟨n, hn⟩ := some_of_lt hk
    obtain ⟨b2, o2, ce, rfl, _, _, hd1, rfl, _⟩ := (hvars.ext hE2).elem hn
    ((repeat (first | refine e_go ?_ | refine ewp_true rfl ?_ | refine ewp_false rfl ?_)) <;> (refine o_ia rfl rfl rfl ?_ <;> refine o_ld rfl rfl ?_ <;> refine o_as rfl rfl ?_ <;> (refine o_z ?_)) <;> (repeat (first | refine e_go ?_ | refine ewp_true rfl ?_ | refine ewp_false rfl ?_)) <;> (refine o_mv rfl rfl ?_ <;> (first | refine o_ltT rfl rfl rfl ?_ | refine o_ltF rfl rfl rfl ?_ | refine o_ltS rfl rfl rfl (fun _ => ?_) fun _ => ?_) <;> refine o_mv rfl rfl ?_ <;> (first | (refine owp_yes rfl rfl ?_; refine o_mv rfl rfl ?_) | refine owp_no rfl rfl rfl rfl ?_) <;> (first | (refine owp_yes rfl rfl ?_; (first | refine o_gtT rfl rfl rfl ?_ | refine o_gtF rfl rfl rfl ?_ | refine o_gtS rfl rfl rfl (fun _ => ?_) fun _ => ?_)) | refine owp_no rfl rfl rfl rfl ?_) <;> (first | refine o_pt rfl rfl rfl ?_ | refine o_pf rfl rfl rfl ?_) <;> (refine o_z ?_)) <;> (repeat (first | refine e_go ?_ | refine ewp_true rfl ?_ | refine ewp_false rfl ?_)))
    all_goals try (
      ((repeat (first | refine e_go ?_ | refine ewp_true rfl ?_ | refine ewp_false rfl ?_)) <;> (refine o_mi rfl rfl ?_ <;> refine o_as rfl rfl ?_ <;> (refine o_z ?_)) <;> (repeat (first | refine e_go ?_ | refine ewp_true rfl ?_ | refine ewp_false rfl ?_)))
      refine ret1 rfl rfl ⟨?_, hE2⟩
      rw [c1, bof_f (fun h => by have := h.1 k n hn; omega)]; rfl)
    exact ⟨(), ⟨rfl, rfl, rfl, rfl, trivial⟩, rfl, upto_step hh fun n' hn' => by rw [hn] at hn'; injection hn' with hn'; omega⟩
  rintro _ _ ⟨rfl, hdom⟩
  replace hdom : VarsOk t := fun i n hn => hdom i (lt_of_some hn) n hn
  repeat (first | refine e_go ?_ | refine ewp_true rfl ?_ | refine ewp_false rfl ?_)
  ((repeat (first | refine e_go ?_ | refine ewp_true rfl ?_ | refine ewp_false rfl ?_)) <;> (refine o_fa rfl rfl ?_ <;> refine o_ld rfl rfl ?_ <;> refine o_ln rfl rfl ?_ <;> refine o_mv rfl rfl ?_ <;> (refine o_z ?_)) <;> (repeat (first | refine e_go ?_ | refine ewp_true rfl ?_ | refine ewp_false rfl ?_)))
  refine ewp_range t.ops.length (by omega) (fun _ : Unit => [(1, .pointer (some ⟨w.heap.size, 0, none⟩)), (34, .slice Ao t.ops.length co)]) (fun k _ w' => Ext w w' ∧ Blk w' w.heap.size 26 [.slice Av t.vars.length cv, .slice Ai t.init.length ci, .slice Ag t.goal.length cg, .slice Ao t.ops.length co] ∧ ∀ i, i < k → ∀ o, t.ops[i]? = some o → 0 ≤ o.cost ∧ o.cost ≤ 1048576) ()
    ⟨hE2, hb1, fun i hi => by omega⟩ ⟨rfl, rfl, rfl, rfl, trivial⟩ (fun _ => ⟨rfl, rfl⟩) ⟨rfl, rfl, rfl⟩ ⟨rfl, rfl⟩ ?_ ?_
  · rintro k _ w4 hk ⟨hE4, hb1, hh⟩
    obtain ⟨o, ho⟩ := some_of_lt hk
    obtain ⟨b2, o2, ce, rfl, _, _, hd1, p, q, rfl, hp, hq, hc, hn⟩ := (hops.ext hE4).elem ho
    obtain ⟨Ap, cp, rfl⟩ := hp.form
    obtain ⟨Aq, cq, rfl⟩ := hq.form
    ((repeat (first | refine e_go ?_ | refine ewp_true rfl ?_ | refine ewp_false rfl ?_)) <;> (refine o_ia rfl rfl rfl ?_ <;> refine o_la rfl rfl ?_) <;> (repeat (first | refine e_go ?_ | refine ewp_true rfl ?_ | refine ewp_false rfl ?_)))
    refine owp_local rfl rfl rfl (by simp [Value.cells, Value.oneCell']) fun w5 hN5 => ?_
    replace hb1 := hb1.ext hN5.ext
    have hb2 := hN5.blk
    have hE5 : Ext w w5 := hE4.trans' hN5.ext
    ((refine o_z ?_))
    repeat (first | refine e_go ?_ | refine ewp_true rfl ?_ | refine ewp_false rfl ?_)
    ((repeat (first | refine e_go ?_ | refine ewp_true rfl ?_ | refine ewp_false rfl ?_)) <;> (refine o_fa rfl rfl ?_ <;> refine o_ld rfl rfl ?_ <;> (first | refine o_ltT rfl rfl rfl ?_ | refine o_ltF rfl rfl rfl ?_ | refine o_ltS rfl rfl rfl (fun _ => ?_) fun _ => ?_) <;> refine o_mv rfl rfl ?_ <;> (first | (refine owp_yes rfl rfl ?_; refine o_fa rfl rfl ?_) | refine owp_no rfl rfl rfl rfl ?_) <;> (first | (refine owp_yes rfl rfl ?_; refine o_ld rfl rfl ?_) | refine owp_no rfl rfl rfl rfl ?_) <;> (first | (refine owp_yes rfl rfl ?_; (first | refine o_gtT rfl rfl rfl ?_ | refine o_gtF rfl rfl rfl ?_ | refine o_gtS rfl rfl rfl (fun _ => ?_) fun _ => ?_)) | refine owp_no rfl rfl rfl rfl ?_) <;> (first | refine o_pt rfl rfl rfl ?_ | refine o_pf rfl rfl rfl ?_) <;> (refine o_z ?_)) <;> (repeat (first | refine e_go ?_ | refine ewp_true rfl ?_ | refine ewp_false rfl ?_)))
    all_goals try (
      ((repeat (first | refine e_go ?_ | refine ewp_true rfl ?_ | refine ewp_false rfl ?_)) <;> (refine o_mi rfl rfl ?_ <;> refine o_as rfl rfl ?_ <;> (refine o_z ?_)) <;> (repeat (first | refine e_go ?_ | refine ewp_true rfl ?_ | refine ewp_false rfl ?_)))
      refine ret1 rfl rfl ⟨?_, hE5⟩
      rw [c1, bof_f (fun h => by have := h.2 k o ho; omega)]; rfl)
    exact ⟨(), ⟨rfl, rfl, rfl, rfl, trivial⟩, hE5, hb1, upto_step hh fun o' ho' => by rw [ho] at ho'; injection ho' with ho'; subst ho'; omega⟩
  rintro _ w3 ⟨hE3, hb1, hcost⟩
  replace hcost : CostsOk t := fun i o ho => hcost i (lt_of_some ho) o ho
  have c2 : checkN t = if bof (StateOk t.vars t.init ∧ CondsOk t ∧ EffsOk t) = false then 2 else if bof (NamesOk t) = false then 8 else 0 := by rw [c1, bof_t ⟨hdom, hcost⟩]; rfl
  repeat (first | refine e_go ?_ | refine ewp_true rfl ?_ | refine ewp_false rfl ?_)
  (refine o_fa rfl rfl ?_ <;> refine o_ld rfl rfl ?_ <;> refine o_fa rfl rfl ?_ <;> refine o_ld rfl rfl ?_)
  refine owp_callB rfl rfl (taskProper (hvars.ext hE3) (hinit.ext hE3)) ?_ ?_
  case refine_2 =>
    intro w4 hP hE4
    ((first | refine o_nt rfl rfl ?_ | refine o_nf rfl rfl ?_ | refine o_nn rfl rfl ?_) <;> (refine o_z ?_))
    repeat (first | refine e_go ?_ | refine ewp_true rfl ?_ | refine ewp_false rfl ?_)
    ((repeat (first | refine e_go ?_ | refine ewp_true rfl ?_ | refine ewp_false rfl ?_)) <;> (refine o_mi rfl rfl ?_ <;> refine o_as rfl rfl ?_ <;> (refine o_z ?_)) <;> (repeat (first | refine e_go ?_ | refine ewp_true rfl ?_ | refine ewp_false rfl ?_)))
    refine ret1 rfl rfl ⟨?_, hE3.trans' hE4⟩
    rw [c2, bof_f (fun h => hP h.1)]; rfl
  intro w4 hst hE4
  replace hb1 := hb1.ext hE4
  replace hE4 : Ext w w4 := hE3.trans' hE4
  ((first | refine o_nt rfl rfl ?_ | refine o_nf rfl rfl ?_ | refine o_nn rfl rfl ?_) <;> (refine o_z ?_))
  repeat (first | refine e_go ?_ | refine ewp_true rfl ?_ | refine ewp_false rfl ?_)
  (refine o_la rfl rfl ?_)
  refine owp_call rfl rfl (taskConditions (ht0.ext hE4) hn4 hm) ?_
  rintro v5 w5 ⟨hv5, hE5⟩
  obtain ⟨Ac, cc, rfl⟩ := hv5.form
  have hcl := hv5.len
  replace hb1 := hb1.ext hE5
  replace hE5 : Ext w w5 := hE4.trans' hE5
  (refine o_ln rfl rfl ?_ <;> refine o_mv rfl rfl ?_ <;> (refine o_z ?_))
  repeat (first | refine e_go ?_ | refine ewp_true rfl ?_ | refine ewp_false rfl ?_)
  refine ewp_range (conds t).length (by omega) (fun _ : Unit => [(1, .pointer (some ⟨w.heap.size, 0, none⟩)), (58, .slice Ac (conds t).length cc)]) (fun k _ w' => Ext w5 w' ∧ ∀ i, i < k → ∀ f, (conds t)[i]? = some f → FactsOk t.vars f) ()
    ⟨Below.refl _ _, fun i hi => by omega⟩ ⟨rfl, rfl, rfl, rfl, trivial⟩ (fun _ => ⟨rfl, rfl⟩) ⟨rfl, rfl, rfl⟩ ⟨rfl, rfl⟩ ?_ ?_
  · rintro k _ w6 hk ⟨hE6, hh⟩
    obtain ⟨f, hf⟩ := some_of_lt hk
    have hb1 := hb1.ext hE6
    obtain ⟨b2, o2, ce, rfl, _, _, hd1, v, rfl, hR⟩ := (hv5.ext hE6).elem hf
    ((repeat (first | refine e_go ?_ | refine ewp_true rfl ?_ | refine ewp_false rfl ?_)) <;> (refine o_ia rfl rfl rfl ?_ <;> refine o_ld rfl rfl ?_ <;> refine o_as rfl rfl ?_ <;> (refine o_z ?_)) <;> (repeat (first | refine e_go ?_ | refine ewp_true rfl ?_ | refine ewp_false rfl ?_)) <;> (refine o_fa rfl rfl ?_ <;> refine o_ld rfl rfl ?_ <;> refine o_mv rfl rfl ?_) <;> (repeat (first | refine e_go ?_ | refine ewp_true rfl ?_ | refine ewp_false rfl ?_)))
    refine owp_callB rfl rfl (taskFacts (hvars.ext (hE5.trans' hE6)) (Vb.of_slice hR)) ?_ ?_
    · intro w7 hP hE7
      ((first | refine o_nt rfl rfl ?_ | refine o_nf rfl rfl ?_ | refine o_nn rfl rfl ?_) <;> (refine o_z ?_))
      repeat (first | refine e_go ?_ | refine ewp_true rfl ?_ | refine ewp_false rfl ?_)
      exact ⟨(), ⟨rfl, rfl, rfl, rfl, trivial⟩, hE6.trans' hE7, upto_step hh fun f' hf' => by rw [hf] at hf'; injection hf' with hf'; exact hf' ▸ hP⟩
    · intro w7 hP hE7
      ((first | refine o_nt rfl rfl ?_ | refine o_nf rfl rfl ?_ | refine o_nn rfl rfl ?_) <;> (refine o_z ?_))
      repeat (first | refine e_go ?_ | refine ewp_true rfl ?_ | refine ewp_false rfl ?_)
      ((repeat (first | refine e_go ?_ | refine ewp_true rfl ?_ | refine ewp_false rfl ?_)) <;> (refine o_mi rfl rfl ?_ <;> refine o_as rfl rfl ?_ <;> (refine o_z ?_)) <;> (repeat (first | refine e_go ?_ | refine ewp_true rfl ?_ | refine ewp_false rfl ?_)))
      refine ret1 rfl rfl ⟨?_, hE5.trans' (hE6.trans' hE7)⟩
      rw [c2, bof_f (fun h => hP (h.2.1 k f hf))]; rfl
  rintro _ w6 ⟨hE6, hcond⟩
  replace hcond : CondsOk t := fun i f hf => hcond i (lt_of_some hf) f hf
  replace hb1 := hb1.ext hE6
  replace hE6 : Ext w w6 := hE5.trans' hE6
  repeat (first | refine e_go ?_ | refine ewp_true rfl ?_ | refine ewp_false rfl ?_)
  ((repeat (first | refine e_go ?_ | refine ewp_true rfl ?_ | refine ewp_false rfl ?_)) <;> (refine o_fa rfl rfl ?_ <;> refine o_ld rfl rfl ?_ <;> refine o_ln rfl rfl ?_ <;> refine o_mv rfl rfl ?_ <;> (refine o_z ?_)) <;> (repeat (first | refine e_go ?_ | refine ewp_true rfl ?_ | refine ewp_false rfl ?_)))
  refine ewp_range t.ops.length (by omega) (fun _ : Unit => [(1, .pointer (some ⟨w.heap.size, 0, none⟩)), (72, .slice Ao t.ops.length co)]) (fun k _ w' => Ext w6 w' ∧ ∀ i, i < k → ∀ o, t.ops[i]? = some o → ∀ (j : Nat) e, o.effs[j]? = some e → FactOk t.vars ⟨e.var, e.val⟩) ()
    ⟨Below.refl _ _, fun i hi => by omega⟩ ⟨rfl, rfl, rfl, rfl, trivial⟩ (fun _ => ⟨rfl, rfl⟩) ⟨rfl, rfl, rfl⟩ ⟨rfl, rfl⟩ ?_ ?_
  · rintro k _ w7 hk ⟨hE7, hh⟩
    obtain ⟨o, ho⟩ := some_of_lt hk
    have hb1 := hb1.ext hE7
    obtain ⟨b2, o2, ce, rfl, _, _, hd1, p, q, rfl, hp, hq, hc, hn⟩ := (hops.ext (hE6.trans' hE7)).elem ho
    obtain ⟨Ap, cp, rfl⟩ := hp.form
    obtain ⟨Aq, cq, rfl⟩ := hq.form
    have hql := hq.len
    ((repeat (first | refine e_go ?_ | refine ewp_true rfl ?_ | refine ewp_false rfl ?_)) <;> (refine o_ia rfl rfl rfl ?_ <;> refine o_la rfl rfl ?_) <;> (repeat (first | refine e_go ?_ | refine ewp_true rfl ?_ | refine ewp_false rfl ?_)))
    refine owp_local rfl rfl rfl (by simp [Value.cells, Value.oneCell']) fun w8 hN8 => ?_
    replace hb1 := hb1.ext hN8.ext
    have hb2 := hN8.blk
    have hE8 : Ext w6 w8 := hE7.trans' hN8.ext
    replace hq := hq.ext hN8.ext
    ((refine o_z ?_))
    repeat (first | refine e_go ?_ | refine ewp_true rfl ?_ | refine ewp_false rfl ?_)
    ((repeat (first | refine e_go ?_ | refine ewp_true rfl ?_ | refine ewp_false rfl ?_)) <;> (refine o_fa rfl rfl ?_ <;> refine o_ld rfl rfl ?_ <;> refine o_ln rfl rfl ?_ <;> refine o_mv rfl rfl ?_ <;> (refine o_z ?_)) <;> (repeat (first | refine e_go ?_ | refine ewp_true rfl ?_ | refine ewp_false rfl ?_)))
    refine ewp_range o.effs.length (by omega) (fun _ : Unit => [(1, .pointer (some ⟨w.heap.size, 0, none⟩)), (72, .slice (some ⟨b2, o2, none⟩) t.ops.length co), (73, .int .i64 (t.ops.length : Int)), (74, .int .i64 (k : Int)), (79, .slice Aq o.effs.length cq)]) (fun j _ w' => Ext w8 w' ∧ ∀ i, i < j → ∀ e, o.effs[i]? = some e → FactOk t.vars ⟨e.var, e.val⟩) ()
      ⟨Below.refl _ _, fun i hi => by omega⟩ ⟨rfl, rfl, rfl, rfl, rfl, rfl, rfl, trivial⟩ (fun _ => ⟨rfl, rfl⟩) ⟨rfl, rfl, rfl⟩ ⟨rfl, rfl⟩ ?_ ?_
    · rintro j _ w9 hj ⟨hE9, hh9⟩
      obtain ⟨e, he⟩ := some_of_lt hj
      have hb1 := hb1.ext hE9
      obtain ⟨b3, o3, ce, rfl, _, _, hd1, cv', rfl, hcn, hr1, hr2⟩ := (hq.ext hE9).elem he
      obtain ⟨Acn, ccn, rfl⟩ := hcn.form
      ((repeat (first | refine e_go ?_ | refine ewp_true rfl ?_ | refine ewp_false rfl ?_)) <;> (refine o_ia rfl rfl rfl ?_ <;> refine o_la rfl rfl ?_) <;> (repeat (first | refine e_go ?_ | refine ewp_true rfl ?_ | refine ewp_false rfl ?_)))
      refine owp_local rfl rfl rfl (by simp [Value.cells, Value.oneCell']) fun w10 hN10 => ?_
      have hb3 := hN10.blk
      replace hb1 := hb1.ext hN10.ext
      have hE10 : Ext w w10 := hE6.trans' (hE8.trans' (hE9.trans' hN10.ext))
      ((refine o_z ?_))
      repeat (first | refine e_go ?_ | refine ewp_true rfl ?_ | refine ewp_false rfl ?_)
      (refine o_fa rfl rfl ?_ <;> refine o_ld rfl rfl ?_ <;> refine o_fa rfl rfl ?_ <;> refine o_ld rfl rfl ?_ <;> refine o_fa rfl rfl ?_ <;> refine o_ld rfl rfl ?_ <;> refine o_bd rfl rfl rfl ?_)
      refine owp_slice rfl rfl rfl (by simp [Value.cells]; rfl) (by decide) rfl fun w11 hN11 => ?_
      have hE11 : Ext w w11 := hE10.trans' hN11.ext
      have hone : V w11 (.slice (some ⟨w10.heap.size, 0, none⟩) 1 1) [(⟨e.var, e.val⟩ : Fct)] := Vb.made hN11 (.single ⟨rfl, hr1, hr2⟩) rfl hN11.blk.lt (by decide)
      refine owp_callB rfl rfl (taskFacts (hvars.ext hE11) hone) ?_ ?_
      · intro w12 hP hE12
        ((first | refine o_nt rfl rfl ?_ | refine o_nf rfl rfl ?_ | refine o_nn rfl rfl ?_) <;> (refine o_z ?_))
        repeat (first | refine e_go ?_ | refine ewp_true rfl ?_ | refine ewp_false rfl ?_)
        exact ⟨(), ⟨rfl, rfl, rfl, rfl, rfl, rfl, rfl, trivial⟩, hE9.trans' (hN10.ext.trans' (hN11.ext.trans' hE12)), upto_step hh9 fun e' he' => by rw [he] at he'; injection he' with he'; subst he'; exact factsOk_one.1 hP⟩
      · intro w12 hP hE12
        ((first | refine o_nt rfl rfl ?_ | refine o_nf rfl rfl ?_ | refine o_nn rfl rfl ?_) <;> (refine o_z ?_))
        repeat (first | refine e_go ?_ | refine ewp_true rfl ?_ | refine ewp_false rfl ?_)
        ((repeat (first | refine e_go ?_ | refine ewp_true rfl ?_ | refine ewp_false rfl ?_)) <;> (refine o_mi rfl rfl ?_ <;> refine o_as rfl rfl ?_ <;> (refine o_z ?_)) <;> (repeat (first | refine e_go ?_ | refine ewp_true rfl ?_ | refine ewp_false rfl ?_)))
        refine ret1 rfl rfl ⟨?_, hE11.trans' hE12⟩
        rw [c2, bof_f (fun h => hP (factsOk_one.2 (h.2.2 k o ho j e he)))]; rfl
    rintro _ w9 ⟨hE9, hh9⟩
    repeat (first | refine e_go ?_ | refine ewp_true rfl ?_ | refine ewp_false rfl ?_)
    exact ⟨(), ⟨rfl, rfl, rfl, rfl, trivial⟩, hE8.trans' hE9, upto_step hh fun o' ho' j e he => by rw [ho] at ho'; injection ho' with ho'; subst ho'; exact hh9 j (lt_of_some he) e he⟩
  rintro _ w7 ⟨hE7, heff⟩
  replace heff : EffsOk t := fun i o ho => heff i (lt_of_some ho) o ho
  have c3 : checkN t = if bof (NamesOk t) = false then 8 else 0 := by rw [c2, bof_t ⟨hst, hcond, heff⟩]; rfl
  replace hb1 := hb1.ext hE7
  replace hE7 : Ext w w7 := hE6.trans' hE7
  repeat (first | refine e_go ?_ | refine ewp_true rfl ?_ | refine ewp_false rfl ?_)
  ((repeat (first | refine e_go ?_ | refine ewp_true rfl ?_ | refine ewp_false rfl ?_)) <;> (refine o_fa rfl rfl ?_ <;> refine o_ld rfl rfl ?_ <;> refine o_ln rfl rfl ?_ <;> refine o_mv rfl rfl ?_ <;> (refine o_z ?_)) <;> (repeat (first | refine e_go ?_ | refine ewp_true rfl ?_ | refine ewp_false rfl ?_)))
  refine ewp_range t.ops.length (by omega) (fun _ : Unit => [(1, .pointer (some ⟨w.heap.size, 0, none⟩)), (99, .slice Ao t.ops.length co)]) (fun k _ w' => Ext w w' ∧ ∀ i, i < k → ∀ o, t.ops[i]? = some o → NameOk o.name) ()
    ⟨hE7, fun i hi => by omega⟩ ⟨rfl, rfl, rfl, rfl, trivial⟩ (fun _ => ⟨rfl, rfl⟩) ⟨rfl, rfl, rfl⟩ ⟨rfl, rfl⟩ ?_ ?_
  · rintro k _ w8 hk ⟨hE8, hh⟩
    obtain ⟨o, ho⟩ := some_of_lt hk
    obtain ⟨b2, o2, ce, rfl, _, _, hd1, p, q, rfl, hp, hq, hc, hn⟩ := (hops.ext hE8).elem ho
    obtain ⟨Ap, cp, rfl⟩ := hp.form
    obtain ⟨Aq, cq, rfl⟩ := hq.form
    ((repeat (first | refine e_go ?_ | refine ewp_true rfl ?_ | refine ewp_false rfl ?_)) <;> (refine o_ia rfl rfl rfl ?_ <;> refine o_la rfl rfl ?_) <;> (repeat (first | refine e_go ?_ | refine ewp_true rfl ?_ | refine ewp_false rfl ?_)))
    refine owp_local rfl rfl rfl (by simp [Value.cells, Value.oneCell']) fun w9 hN9 => ?_
    have hb2 := hN9.blk
    have hE9 : Ext w w9 := hE8.trans' hN9.ext
    ((refine o_z ?_))
    repeat (first | refine e_go ?_ | refine ewp_true rfl ?_ | refine ewp_false rfl ?_)
    (refine o_fa rfl rfl ?_ <;> refine o_ld rfl rfl ?_)
    refine owp_callB rfl rfl (taskNamed hn) ?_ ?_
    · intro w10 hP hE10
      ((first | refine o_nt rfl rfl ?_ | refine o_nf rfl rfl ?_ | refine o_nn rfl rfl ?_) <;> (refine o_z ?_))
      repeat (first | refine e_go ?_ | refine ewp_true rfl ?_ | refine ewp_false rfl ?_)
      exact ⟨(), ⟨rfl, rfl, rfl, rfl, trivial⟩, hE9.trans' hE10, upto_step hh fun o' ho' => by rw [ho] at ho'; injection ho' with ho'; exact ho' ▸ hP⟩
    · intro w10 hP hE10
      ((first | refine o_nt rfl rfl ?_ | refine o_nf rfl rfl ?_ | refine o_nn rfl rfl ?_) <;> (refine o_z ?_))
      repeat (first | refine e_go ?_ | refine ewp_true rfl ?_ | refine ewp_false rfl ?_)
      ((repeat (first | refine e_go ?_ | refine ewp_true rfl ?_ | refine ewp_false rfl ?_)) <;> (refine o_mi rfl rfl ?_ <;> refine o_as rfl rfl ?_ <;> (refine o_z ?_)) <;> (repeat (first | refine e_go ?_ | refine ewp_true rfl ?_ | refine ewp_false rfl ?_)))
      refine ret1 rfl rfl ⟨?_, hE9.trans' hE10⟩
      rw [c3, bof_f (fun h => hP (h k o ho))]; rfl
  rintro _ w8 ⟨hE8, hnames⟩
  repeat (first | refine e_go ?_ | refine ewp_true rfl ?_ | refine ewp_false rfl ?_)
  ((repeat (first | refine e_go ?_ | refine ewp_true rfl ?_ | refine ewp_false rfl ?_)) <;> (refine o_as rfl rfl ?_ <;> (refine o_z ?_)) <;> (repeat (first | refine e_go ?_ | refine ewp_true rfl ?_ | refine ewp_false rfl ?_)))
  refine ret1 rfl rfl ⟨?_, hE8⟩
  rw [c3, bof_t (show NamesOk t from fun i o ho => hnames i (lt_of_some ho) o ho)]; rfl
end
section
open Go Go.RowKit
attribute [local irreducible] ewp owp hwp hwq hws Ev Evg Fn retPost loud loudS Res1
theorem indexFuncInts {w : World} {sv : Value} {xs : List (Int)} {g : FuncId} [Callable Try.prog g] {caps : List Value} {p : Int → Prop} (hs : V w sv xs)
    (hg : ∀ v x w', x ∈ xs → Ext w w' → V w' v x → Fn Try.prog g ([v] ++ caps) w' fun r w'' => r = .bool (bof (p x)) ∧ Ext w' w'') :
    Fn Try.prog 51 [sv, .func (.func g) #[] caps.toArray] w fun v w' => ((∃ k : Nat, v = .int .i64 (k : Int) ∧ ∃ x ∈ xs, p x) ∨ (v = .int .i64 (-1) ∧ ∀ x ∈ xs, ¬ p x)) ∧ Ext w w' := by
  obtain ⟨A, c, rfl⟩ := hs.form
  have hl := hs.len
  refine fn_enter Try.func51 rfl Try.ntmps51 rfl ?_
  ((repeat (first | refine e_go ?_ | refine ewp_true rfl ?_ | refine ewp_false rfl ?_)) <;> (refine o_as rfl rfl ?_ <;> (refine o_z ?_)) <;> (repeat (first | refine e_go ?_ | refine ewp_true rfl ?_ | refine ewp_false rfl ?_)) <;> (refine o_mv rfl rfl ?_ <;> refine o_ln rfl rfl ?_ <;> refine o_mv rfl rfl ?_ <;> (refine o_z ?_)) <;> (repeat (first | refine e_go ?_ | refine ewp_true rfl ?_ | refine ewp_false rfl ?_)))
  refine ewp_range xs.length (by omega) (fun _ : Unit => [(0, .slice A xs.length c), (1, .func (.func g) #[] caps.toArray)]) (fun k _ w' => Ext w w' ∧ ∀ i, i < k → ∀ x, xs[i]? = some x → ¬ p x) ()
    ⟨Below.refl _ _, fun i hi => by omega⟩ ⟨rfl, rfl, rfl, rfl, trivial⟩ (fun _ => ⟨rfl, rfl⟩) ⟨rfl, rfl, rfl⟩ ⟨rfl, rfl⟩ ?_ ?_
  · rintro k _ w1 hk ⟨hE, hh⟩
    obtain ⟨x, hx⟩ := some_of_lt hk
    obtain ⟨b, o, ce, rfl, _, _, hd1, hR⟩ := (hs.ext hE).elem hx
    obtain ⟨v, rfl⟩ := List.length_eq_one_iff.1 (Rp.len hR)
    ((repeat (first | refine e_go ?_ | refine ewp_true rfl ?_ | refine ewp_false rfl ?_)) <;> (refine o_mv rfl rfl ?_ <;> refine o_as rfl rfl ?_ <;> (refine o_z ?_)) <;> (repeat (first | refine e_go ?_ | refine ewp_true rfl ?_ | refine ewp_false rfl ?_)) <;> (refine o_mv rfl rfl ?_ <;> refine o_mv rfl rfl ?_ <;> refine o_mv rfl rfl ?_ <;> refine o_ia rfl rfl rfl ?_ <;> refine o_ld rfl rfl ?_) <;> (repeat (first | refine e_go ?_ | refine ewp_true rfl ?_ | refine ewp_false rfl ?_)))
    refine owp_callv rfl rfl rfl (hg v x w1 (List.mem_of_getElem? hx) hE hR) ?_
    rintro _ w2 ⟨rfl, hE2⟩
    by_cases hp : p x
    · rw [bof_t hp]
      ((refine o_z ?_))
      repeat (first | refine e_go ?_ | refine ewp_true rfl ?_ | refine ewp_false rfl ?_)
      ((repeat (first | refine e_go ?_ | refine ewp_true rfl ?_ | refine ewp_false rfl ?_)) <;> (refine o_mv rfl rfl ?_ <;> refine o_as rfl rfl ?_ <;> (refine o_z ?_)) <;> (repeat (first | refine e_go ?_ | refine ewp_true rfl ?_ | refine ewp_false rfl ?_)))
      exact ret1 rfl rfl ⟨.inl ⟨k, rfl, x, List.mem_of_getElem? hx, hp⟩, hE.trans' hE2⟩
    · rw [bof_f hp]
      ((refine o_z ?_))
      repeat (first | refine e_go ?_ | refine ewp_true rfl ?_ | refine ewp_false rfl ?_)
      exact ⟨(), ⟨rfl, rfl, rfl, rfl, trivial⟩, hE.trans' hE2, upto_step hh fun x' hx' => by rw [hx] at hx'; injection hx' with hx'; exact hx' ▸ hp⟩
  rintro _ w1 ⟨hE, hh⟩
  repeat (first | refine e_go ?_ | refine ewp_true rfl ?_ | refine ewp_false rfl ?_)
  ((repeat (first | refine e_go ?_ | refine ewp_true rfl ?_ | refine ewp_false rfl ?_)) <;> (refine o_as rfl rfl ?_ <;> (refine o_z ?_)) <;> (repeat (first | refine e_go ?_ | refine ewp_true rfl ?_ | refine ewp_false rfl ?_)))
  refine ret1 rfl rfl ⟨.inr ⟨rfl, fun x hx => ?_⟩, hE⟩
  obtain ⟨i, hi⟩ := List.getElem?_of_mem hx
  exact hh i (lt_of_some hi) x hi
theorem containsFuncInts {w : World} {sv : Value} {xs : List (Int)} {g : FuncId} [Callable Try.prog g] {caps : List Value} {p : Int → Prop} (hs : V w sv xs)
    (hg : ∀ v x w', x ∈ xs → Ext w w' → V w' v x → Fn Try.prog g ([v] ++ caps) w' fun r w'' => r = .bool (bof (p x)) ∧ Ext w' w'') :
    Fn Try.prog 44 [sv, .func (.func g) #[] caps.toArray] w fun v w' => v = .bool (bof (∃ x ∈ xs, p x)) ∧ Ext w w' := by
  refine fn_enter Try.func44 rfl Try.ntmps44 rfl ?_
  ((repeat (first | refine e_go ?_ | refine ewp_true rfl ?_ | refine ewp_false rfl ?_)) <;> (refine o_as rfl rfl ?_ <;> (refine o_z ?_)) <;> (repeat (first | refine e_go ?_ | refine ewp_true rfl ?_ | refine ewp_false rfl ?_)) <;> (refine o_mv rfl rfl ?_ <;> refine o_mv rfl rfl ?_) <;> (repeat (first | refine e_go ?_ | refine ewp_true rfl ?_ | refine ewp_false rfl ?_)))
  refine owp_call rfl rfl (indexFuncInts hs hg) ?_
  rintro v w1 ⟨h, hE⟩
  rcases h with ⟨k, rfl, h⟩ | ⟨rfl, h⟩
  · ((first | refine o_geT rfl rfl rfl ?_ | refine o_geF rfl rfl rfl ?_) <;> refine o_as rfl rfl ?_ <;> (refine o_z ?_))
    repeat (first | refine e_go ?_ | refine ewp_true rfl ?_ | refine ewp_false rfl ?_)
    exact ret1 rfl rfl ⟨by rw [bof_t h], hE⟩
  · ((first | refine o_geT rfl rfl rfl ?_ | refine o_geF rfl rfl rfl ?_) <;> refine o_as rfl rfl ?_ <;> (refine o_z ?_))
    repeat (first | refine e_go ?_ | refine ewp_true rfl ?_ | refine ewp_false rfl ?_)
    exact ret1 rfl rfl ⟨by rw [bof_f (fun ⟨x, hx, hp⟩ => h x hx hp)], hE⟩
end
section
open Go Go.RowKit
attribute [local irreducible] ewp owp hwp hwq hws Ev Evg Fn retPost loud loudS Res1
def preOf (t : Tsk) (op : Int) : List Fct := match t.ops[op.toNat]? with | some o => o.pre | none => []
def tests (t : Tsk) (ops : List Int) (v : Nat) : Bool := ops.any fun op => (factOn (preOf t op) (v : Int)).isSome
/-- The first variable from v on that is tested. -/
def nextF (t : Tsk) (ops : List Int) : Nat → Nat → Nat
  | 0, v => v
  | k + 1, v => if tests t ops v = true then v else nextF t ops k (v + 1)
def nextV (t : Tsk) (ops : List Int) (v : Nat) : Nat := nextF t ops (t.vars.length - v) v
def valB (t : Tsk) (u : Nat) (x : Nat) (op : Int) : Bool := match factOn (preOf t op) (u : Int) with | some f => decide (f.val = (x : Int)) | none => false
def restB (t : Tsk) (u : Nat) (op : Int) : Bool := (factOn (preOf t op) (u : Int)).isNone
def mkT (t : Tsk) : Nat → List Int → Nat → Tr
  | 0, _, _ => .nil
  | fuel + 1, ops, v =>
    if ops.isEmpty then .nil
    else if nextV t ops v = t.vars.length then .leaf ops
    else .node (nextV t ops v) (t.vars[nextV t ops v]?.getD 0).toNat (fun x => mkT t fuel (ops.filter (valB t (nextV t ops v) x)) (nextV t ops v + 1)) (mkT t fuel (ops.filter (restB t (nextV t ops v))) (nextV t ops v + 1))
theorem nextF_spec (t : Tsk) (ops : List Int) : ∀ (k v : Nat), v ≤ nextF t ops k v ∧ nextF t ops k v ≤ v + k ∧ (∀ u, v ≤ u → u < nextF t ops k v → tests t ops u = false) ∧ (nextF t ops k v < v + k → tests t ops (nextF t ops k v) = true)
  | 0, v => by simp [nextF]; intro u h1 h2; omega
  | k + 1, v => by
    by_cases h : tests t ops v = true
    · simp only [nextF, h, if_true]
      exact ⟨Nat.le_refl _, by omega, fun u h1 h2 => by omega, fun _ => trivial⟩
    · obtain ⟨h1, h2, h3, h4⟩ := nextF_spec t ops k (v + 1)
      simp only [nextF, h]
      refine ⟨by simp; omega, by simp; omega, fun u hu1 hu2 => ?_, fun hlt => h4 (by simp at hlt; omega)⟩
      by_cases he : u = v
      · subst he; simpa using h
      · exact h3 u (by omega) (by simpa using hu2)
theorem nextV_eq (t : Tsk) (ops : List Int) {v u : Nat} (h1 : v ≤ u) (h2 : u ≤ t.vars.length) (h3 : ∀ x, v ≤ x → x < u → tests t ops x = false) (h4 : u < t.vars.length → tests t ops u = true) : nextV t ops v = u := by
  obtain ⟨g1, g2, g3, g4⟩ := nextF_spec t ops (t.vars.length - v) v
  unfold nextV
  rcases Nat.lt_trichotomy (nextF t ops (t.vars.length - v) v) u with h | h | h
  · have := h3 _ g1 h
    rw [g4 (by omega)] at this; cases this
  · exact h
  · have := g3 u h1 h
    rw [h4 (by omega)] at this; cases this
/-- What the operators need to be. -/
def OpsIn (t : Tsk) (ops : List Int) : Prop := ∀ op ∈ ops, 0 ≤ op ∧ op < t.ops.length
def FitsVals (t : Tsk) : Prop := ∀ (i : Nat) o, t.ops[i]? = some o → ∀ (v : Nat) f, factOn o.pre (v : Int) = some f → v < t.vars.length → 0 ≤ f.val ∧ ∃ n, t.vars[v]? = some n ∧ f.val < n
/-- The rows by value, and the row of the rest, as they grow. -/
structure ByInv (w : World) (base gby : Nat) (vals : List Value) (rv : Value) (L : Nat → List Int) (R : List Int) (m : Nat) : Prop where
  len : vals.length = m
  blk : Blk w gby 22 vals
  own : ∀ (i : Nat) (u : Value), vals[i]? = some u → Own w base (fun _ => False) 3 u (L i)
  rest : Own w base (fun _ => False) 3 rv R
  apart : ∀ (i j : Nat) (u u' : Value), i ≠ j → vals[i]? = some u → vals[j]? = some u' → ∀ g, u.ownBlock = some g → u'.ownBlock ≠ some g
  apartR : ∀ (i : Nat) (u : Value), vals[i]? = some u → ∀ g, u.ownBlock = some g → rv.ownBlock ≠ some g
theorem ByInv.ext {w w' : World} {base gby : Nat} {vals : List Value} {rv : Value} {L : Nat → List Int} {R : List Int} {m : Nat} (h : ByInv w base gby vals rv L R m) (hE : Ext w w') : ByInv w' base gby vals rv L R m :=
  ⟨h.len, h.blk.ext hE, fun i u hu => (h.own i u hu).ext hE fun _ hk => hk.elim, h.rest.ext hE fun _ hk => hk.elim, h.apart, h.apartR⟩
theorem ByInv.putRest {w w' : World} {base gby : Nat} {vals : List Value} {rv rv' : Value} {L : Nat → List Int} {R R' : List Int} {m : Nat} (h : ByInv w base gby vals rv L R m) (hK : Kept w w' rv) (ho : Own w' base (fun _ => False) 3 rv' R')
    (hat : rv'.ownBlock = rv.ownBlock ∨ ∃ g, rv'.ownBlock = some g ∧ w.heap.size ≤ g) : ByInv w' base gby vals rv' L R' m := by
  refine ⟨h.len, hK.blk h.blk (h.rest.blk_ne h.blk (by decide)), fun i u hu => (h.own i u hu).kept hK (fun _ hk => hk.elim) (h.apartR i u hu), ho, h.apart, fun i u hu g hg he => ?_⟩
  rcases hat with hat | ⟨g', hat, hge⟩
  · exact h.apartR i u hu g hg (hat ▸ he)
  · have := ((h.own i u hu).lt g hg).2
    rw [hat] at he; injection he with he; omega
theorem ByInv.putVal {w w' w'' : World} {base gby : Nat} {vals : List Value} {rv u v' : Value} {L : Nat → List Int} {R : List Int} {m i : Nat} {xs : List Int} (h : ByInv w base gby vals rv L R m) (hu : vals[i]? = some u) (hK : Kept w w' u) (ho : Own w' base (fun _ => False) 3 v' xs)
    (hat : v'.ownBlock = u.ownBlock ∨ ∃ g, v'.ownBlock = some g ∧ w.heap.size ≤ g) (hU : Upd w' w'' gby 22 (vals.set i v')) : ByInv w'' base gby (vals.set i v') rv (fun j => if j = i then xs else L j) R m := by
  have hi : i < vals.length := (List.getElem?_eq_some_iff.1 hu).1
  have key : ∀ {v : Value} {ys : List Int}, Own w' base (fun _ => False) 3 v ys → Own w'' base (fun _ => False) 3 v ys := fun hv => by
    have hne := hv.blk_ne (hK.blk h.blk ((h.own i u hu).blk_ne h.blk (by decide))) (by decide)
    exact hv.agree (fun _ hk => hk.elim) fun g hg => hU.other g fun he => hne (he ▸ hg)
  have sep : ∀ {y : Value} {ys : List Int}, Own w base (fun _ => False) 3 y ys → (∀ g, u.ownBlock = some g → y.ownBlock ≠ some g) → ∀ g, v'.ownBlock = some g → y.ownBlock ≠ some g := fun hy hsep g hg he => by
    rcases hat with hat | ⟨g', hat, hge⟩
    · exact hsep g (hat ▸ hg) he
    · have := (hy.lt g he).2
      rw [hat] at hg; injection hg with hg; omega
  refine ⟨by rw [List.length_set]; exact h.len, hU.blk, fun j y hy => ?_, key (h.rest.kept hK (fun _ hk => hk.elim) fun g hg he => h.apartR i u hu g he hg), fun j k y y' hjk hy hy' g hg => ?_, fun j y hy g hg => ?_⟩
  · by_cases hj : j = i
    · subst hj
      rw [List.getElem?_set_self hi] at hy
      injection hy with hy; subst hy
      rw [if_pos rfl]; exact key ho
    · rw [List.getElem?_set_ne (Ne.symm hj)] at hy
      rw [if_neg hj]
      exact key ((h.own j y hy).kept hK (fun _ hk => hk.elim) (h.apart j i y u hj hy hu))
  · by_cases hj : j = i
    · subst hj
      rw [List.getElem?_set_self hi] at hy
      injection hy with hy; subst hy
      rw [List.getElem?_set_ne hjk] at hy'
      exact sep (h.own k y' hy') (h.apart j k u y' hjk hu hy') g hg
    · rw [List.getElem?_set_ne (Ne.symm hj)] at hy
      by_cases hk : k = i
      · subst hk
        rw [List.getElem?_set_self hi] at hy'
        injection hy' with hy'; subst hy'
        intro he
        exact sep (h.own j y hy) (h.apart k j u y (Ne.symm hj) hu hy) g he hg
      · rw [List.getElem?_set_ne (Ne.symm hk)] at hy'
        exact h.apart j k y y' hjk hy hy' g hg
  · by_cases hj : j = i
    · subst hj
      rw [List.getElem?_set_self hi] at hy
      injection hy with hy; subst hy
      exact sep h.rest (h.apartR j u hu) g hg
    · rw [List.getElem?_set_ne (Ne.symm hj)] at hy
      exact h.apartR j y hy g hg
instance : Rp Tr where
  isAgg := false
  size := 1
  R w F cs T := ∃ q, cs = [.pointer q] ∧ TrR w F T (.pointer q)
  len := by rintro w F cs x ⟨v, rfl, _⟩; rfl
  one := by rintro w F cs x ⟨v, rfl, h⟩ u hu; simp at hu; subst hu; rfl
  agree := by rintro w w' F cs x ⟨v, rfl, h⟩ ha; exact ⟨v, rfl, TrR.agree ha h⟩
  mono := by rintro w F G cs x ⟨v, rfl, h⟩ ha; exact ⟨v, rfl, TrR.mono ha h⟩
/-- What was allowed, and what is new. -/
def more (F : Nat → Prop) (w w' : World) : Nat → Prop := fun k => F k ∨ w.heap.size ≤ k ∧ k < w'.heap.size
theorem filter_step {p : Int → Bool} {l : List Int} {k : Nat} {x : Int} (h : l[k]? = some x) : (l.take (k + 1)).filter p = (l.take k).filter p ++ if p x = true then [x] else [] := by
  rw [List.take_add_one, h, List.filter_append]
  cases hp : p x <;> simp [hp]
theorem made_nils (n : Nat) : (madeCells (Value.slice none 0 0).cells (n * 1)).toList = List.replicate n (.slice none 0 0) := made_one _ n rfl
theorem genBuild (t : Tsk) (hdom : VarsOk t) (hfv : FitsVals t) (hvl : t.vars.length ≤ 64) : ∀ (fuel : Nat) (w : World) (gv opsv : Value) (ops : List Int) (v : Nat) (F : Nat → Prop), GenB w (All w) gv t → Vb w F opsv ops → (∀ k, F k → k < w.heap.size) → OpsIn t ops → ops.length ≤ 4096 →
    v ≤ t.vars.length → t.vars.length < fuel + v → Fn Try.prog 31 [gv, opsv, .int .i64 (v : Int)] w fun p w' => TrR w' (more F w w') (mkT t fuel ops v) p ∧ Ext w w' := by
  intro fuel
  induction fuel with
  | zero => intro w gv opsv ops v F _ _ _ _ _ h1 h2; omega
  | succ fuel ih =>
    intro w gv opsv ops v F hg0 hops hF hin hlen hvn hfuel
    obtain ⟨gb, a, b, c, d, rp, rfl, hgb, hbg, hvars, hinit, hgoal, hopsv⟩ := id hg0
    obtain ⟨Av, cv, rfl⟩ := hvars.form
    obtain ⟨Ax, cx, rfl⟩ := hops.form
    refine fn_enter Try.func31 rfl Try.ntmps31 rfl ?_
    repeat (first | refine e_go ?_ | refine ewp_true rfl ?_ | refine ewp_false rfl ?_)
    refine owp_box rfl rfl fun w1 hN1 => ?_
    refine owp_box rfl rfl fun w2 hN2 => ?_
    have hE2 : Ext w w2 := hN1.ext.trans' hN2.ext
    have hb1 : Blk w2 w.heap.size 35 [.pointer (some ⟨gb, 0, none⟩)] := hN1.blk.ext hN2.ext
    have hb2 : Blk w2 w1.heap.size 3 [.int .i64 (v : Int)] := hN2.blk
    have hg12 : w1.heap.size ≠ w.heap.size := by rw [hN1.size]; omega
    have hg2w : w.heap.size ≤ w1.heap.size := hN1.ext.size
    have hz1 : w1.heap.size = w.heap.size + 1 := hN1.size
    have hz2 : w2.heap.size = w1.heap.size + 1 := hN2.size
    (refine o_as rfl rfl ?_ <;> (refine o_z ?_))
    repeat (first | refine e_go ?_ | refine ewp_true rfl ?_ | refine ewp_false rfl ?_)
    by_cases hemp : ops.length = 0
    · have : ops = [] := List.eq_nil_of_length_eq_zero hemp
      subst this
      ((repeat (first | refine e_go ?_ | refine ewp_true rfl ?_ | refine ewp_false rfl ?_)) <;> (refine o_mv rfl rfl ?_ <;> refine o_ln rfl rfl ?_ <;> (first | refine o_eeT rfl rfl rfl ?_ | refine o_eeF rfl rfl rfl ?_) <;> (refine o_z ?_)) <;> (repeat (first | refine e_go ?_ | refine ewp_true rfl ?_ | refine ewp_false rfl ?_)) <;> (refine o_as rfl rfl ?_ <;> (refine o_z ?_)) <;> (repeat (first | refine e_go ?_ | refine ewp_true rfl ?_ | refine ewp_false rfl ?_)))
      exact ret1 rfl rfl ⟨rfl, hE2⟩
    have hemp' : ops.isEmpty = false := by cases ops <;> simp at *
    (refine o_mv rfl rfl ?_ <;> refine o_ln rfl rfl ?_ <;> (first | refine o_eeT rfl rfl rfl ?_ | refine o_eeF rfl rfl rfl ?_) <;> (refine o_z ?_))
    refine ewp_false rfl (ewp_skip ?_)
    refine ewp_cut (fun l' w' => ∃ u : Nat, subs l' [(1, .slice Ax ops.length cx), (3, .pointer (some ⟨w.heap.size, 0, none⟩)), (5, .pointer (some ⟨w1.heap.size, 0, none⟩))] ∧ Ext w w' ∧ Blk w' w.heap.size 35 [.pointer (some ⟨gb, 0, none⟩)] ∧ Blk w' w1.heap.size 3 [.int .i64 (u : Int)] ∧
      v ≤ u ∧ u ≤ t.vars.length ∧ (∀ x, v ≤ x → x < u → tests t ops x = false) ∧ (u < t.vars.length → tests t ops u = true)) ?_ ?_
    · repeat (first | refine e_go ?_ | refine ewp_true rfl ?_ | refine ewp_false rfl ?_)
      refine ewp_for (fun _ : Nat => [(1, .slice Ax ops.length cx), (3, .pointer (some ⟨w.heap.size, 0, none⟩)), (5, .pointer (some ⟨w1.heap.size, 0, none⟩))]) (fun u w' => Ext w w' ∧ Blk w' w.heap.size 35 [.pointer (some ⟨gb, 0, none⟩)] ∧ Blk w' w1.heap.size 3 [.int .i64 (u : Int)] ∧
        v ≤ u ∧ u ≤ t.vars.length ∧ ∀ x, v ≤ x → x < u → tests t ops x = false) (fun u => t.vars.length - u) v ⟨hE2, hb1, hb2, Nat.le_refl _, hvn, fun x h1 h2 => by omega⟩ ⟨rfl, rfl, rfl, trivial⟩ ?_
      rintro u w3 ⟨hE3, hb1, hb2, hvu, hun, hno⟩
      have hb3 := hbg.ext hE3
      repeat (first | refine e_go ?_ | refine ewp_true rfl ?_ | refine ewp_false rfl ?_)
      refine ewp_draw (Ext w3) [(0, true), (1, true), (2, true), (3, true), (4, true), (5, true), (6, true), (7, true), (8, true), (9, true), (10, true), (11, false), (12, true), (13, true)] (by kernel_rfl) rfl (by kernel_rfl) (Below.refl _ _) ?_
      by_cases hlt : u < t.vars.length
      · (refine h_ldE rfl rfl rfl ?_ <;> refine h_ldE rfl rfl rfl ?_ <;> refine h_nc rfl rfl rfl ?_ <;> refine h_fa rfl rfl rfl ?_ <;> refine h_fa rfl rfl rfl ?_ <;> refine h_ldE rfl rfl rfl ?_ <;> refine h_ln rfl rfl rfl ?_ <;> (first | refine h_ltT rfl rfl rfl rfl ?_ | refine h_ltF rfl rfl rfl rfl ?_ | refine h_ltS rfl rfl rfl rfl (fun _ => ?_) fun _ => ?_) <;> refine h_mv rfl rfl rfl ?_ <;> (refine hwp_o rfl ?_; (first | (refine hwq_yes rfl rfl ?_; refine g_mv rfl rfl ?_) | refine hwq_no rfl rfl rfl rfl ?_)) <;> (refine hwp_o rfl ?_; (first | (refine hwq_yes rfl rfl ?_; refine g_mf rfl rfl rfl ?_) | refine hwq_no rfl rfl rfl rfl ?_)))
        refine hwp_loud rfl ?_
        refine owp_yes rfl rfl ?_
        have hV3 : V w3 (.slice Ax ops.length cx) ops := Vb.mono (Vb.agree hops (hE3.agree hF)) fun k hk => Nat.lt_of_lt_of_le (hF k hk) hE3.size
        have hex : (∃ x ∈ ops, (factOn (preOf t x) (u : Int)).isSome = true) ↔ tests t ops u = true := by unfold tests; rw [List.any_eq_true]
        refine owp_callB rfl rfl (containsFuncInts (g := 45) (caps := [.pointer (some ⟨w.heap.size, 0, none⟩), .pointer (some ⟨w1.heap.size, 0, none⟩)]) (p := fun op => (factOn (preOf t op) (u : Int)).isSome = true) hV3 ?_) ?_ ?_
        · intro vx x w' hx hE' hvx
          obtain ⟨hvx, _⟩ := hvx
          obtain rfl : vx = .int .i64 x := by simpa using hvx
          obtain ⟨hx0, hx1⟩ := hin x hx
          obtain ⟨j, rfl⟩ := Int.eq_ofNat_of_zero_le hx0
          obtain ⟨o, ho⟩ := some_of_lt (l := t.ops) (k := j) (by omega)
          refine (genBuild1 (hg0.ext (hE3.trans' hE')) ho (hb1.ext hE') (hb2.ext hE')).mono fun r w'' ⟨hr, hE''⟩ => ⟨?_, hE''⟩
          rw [hr, bof_b]
          simp [preOf, ho]
        · intro w4 hp hE4
          refine owp_loud hE4 ?_
          ((refine hwp_o rfl ?_; (first | (refine hwq_yes rfl rfl ?_; (first | refine g_nt rfl rfl ?_ | refine g_nf rfl rfl ?_ | refine g_nn rfl rfl ?_)) | refine hwq_no rfl rfl rfl rfl ?_)) <;> (first | refine h_pt rfl rfl rfl rfl ?_ | refine h_pf rfl rfl rfl rfl ?_) <;> (refine h_z ?_))
          repeat (first | refine e_go ?_ | refine ewp_true rfl ?_ | refine ewp_false rfl ?_)
          exact ⟨u, ⟨rfl, rfl, rfl, trivial⟩, hE3.trans' hE4, hb1.ext hE4, hb2.ext hE4, hvu, hun, hno, fun _ => hex.1 hp⟩
        · intro w4 hp hE4
          refine owp_loud hE4 ?_
          ((refine hwp_o rfl ?_; (first | (refine hwq_yes rfl rfl ?_; (first | refine g_nt rfl rfl ?_ | refine g_nf rfl rfl ?_ | refine g_nn rfl rfl ?_)) | refine hwq_no rfl rfl rfl rfl ?_)) <;> (first | refine h_pt rfl rfl rfl rfl ?_ | refine h_pf rfl rfl rfl rfl ?_) <;> (refine h_z ?_))
          repeat (first | refine e_go ?_ | refine ewp_true rfl ?_ | refine ewp_false rfl ?_)
          replace hb1 := hb1.ext hE4
          replace hb2 := hb2.ext hE4
          (refine o_ld rfl rfl ?_ <;> (first | refine o_ic rfl rfl ?_ | refine o_ad rfl rfl rfl ?_))
          refine owp_store rfl rfl hb2 rfl (Nat.le_refl _) (by simp [Value.cells, Value.oneCell']) fun w5 hU => ?_
          ((refine o_z ?_))
          refine ⟨u + 1, ⟨rfl, rfl, rfl, trivial⟩, ⟨(hE3.trans' hE4).trans (hU.below hg2w), hb1.keep (hU.other _ (fun h => hg12 h.symm)), hU.blk, by omega, by omega, fun x h1 h2 => ?_⟩, by omega⟩
          by_cases he : x = u
          · subst he
            cases hq : tests t ops x
            · rfl
            · exact absurd (hex.2 hq) hp
          · exact hno x h1 (by omega)
      · (refine h_ldE rfl rfl rfl ?_ <;> refine h_ldE rfl rfl rfl ?_ <;> refine h_nc rfl rfl rfl ?_ <;> refine h_fa rfl rfl rfl ?_ <;> refine h_fa rfl rfl rfl ?_ <;> refine h_ldE rfl rfl rfl ?_ <;> refine h_ln rfl rfl rfl ?_ <;> (first | refine h_ltT rfl rfl rfl rfl ?_ | refine h_ltF rfl rfl rfl rfl ?_ | refine h_ltS rfl rfl rfl rfl (fun _ => ?_) fun _ => ?_) <;> refine h_mv rfl rfl rfl ?_ <;> (refine hwp_o rfl ?_; (first | (refine hwq_yes rfl rfl ?_; refine g_mv rfl rfl ?_) | refine hwq_no rfl rfl rfl rfl ?_)) <;> (refine hwp_o rfl ?_; (first | (refine hwq_yes rfl rfl ?_; refine g_mf rfl rfl rfl ?_) | refine hwq_no rfl rfl rfl rfl ?_)))
        refine hwp_loud rfl ?_
        refine owp_no rfl rfl rfl rfl ?_
        refine owp_loud (Below.refl _ _) ?_
        ((refine hwp_o rfl ?_; (first | (refine hwq_yes rfl rfl ?_; (first | refine g_nt rfl rfl ?_ | refine g_nf rfl rfl ?_ | refine g_nn rfl rfl ?_)) | refine hwq_no rfl rfl rfl rfl ?_)) <;> (first | refine h_pt rfl rfl rfl rfl ?_ | refine h_pf rfl rfl rfl rfl ?_) <;> (refine h_z ?_))
        repeat (first | refine e_go ?_ | refine ewp_true rfl ?_ | refine ewp_false rfl ?_)
        exact ⟨u, ⟨rfl, rfl, rfl, trivial⟩, hE3, hb1, hb2, hvu, hun, hno, fun h => absurd h hlt⟩
    rintro l' w3 ⟨u, hsub, hE3, hb1, hb2, hvu, hun, hno, hyes⟩
    refine ewp_sub _ hsub ?_
    clear hsub
    have hnx : nextV t ops v = u := nextV_eq t ops hvu hun hno hyes
    have hb3 := hbg.ext hE3
    have hV3 : Vb w3 F (.slice Ax ops.length cx) ops := Vb.agree hops (hE3.agree hF)
    repeat (first | refine e_go ?_ | refine ewp_true rfl ?_ | refine ewp_false rfl ?_)
    refine ewp_draw (· = w3) [(0, true), (1, true), (2, true), (3, true), (4, true), (5, true), (6, true), (7, true)] (by kernel_rfl) rfl (by kernel_rfl) rfl ?_
    by_cases hlast : u = t.vars.length
    · (refine h_ldA rfl rfl rfl ?_ <;> refine h_ldA rfl rfl rfl ?_ <;> refine h_nc rfl rfl rfl ?_ <;> refine h_fa rfl rfl rfl ?_ <;> refine h_fa rfl rfl rfl ?_ <;> refine h_ldA rfl rfl rfl ?_ <;> refine h_ln rfl rfl rfl ?_ <;> (first | refine h_eeT rfl rfl rfl rfl ?_ | refine h_eeF rfl rfl rfl rfl ?_ | refine h_eeS rfl rfl rfl rfl (fun _ => ?_) fun _ => ?_) <;> (refine h_z ?_)) <;> (repeat (first | refine e_go ?_ | refine ewp_true rfl ?_ | refine ewp_false rfl ?_))
      (refine o_mv rfl rfl ?_ <;> refine o_bd rfl rfl rfl ?_)
      refine owp_box rfl rfl fun w4 hN4 => ?_
      (refine o_as rfl rfl ?_ <;> (refine o_z ?_))
      repeat (first | refine e_go ?_ | refine ewp_true rfl ?_ | refine ewp_false rfl ?_)
      have hE4 : Ext w w4 := hE3.trans' hN4.ext
      have hT : mkT t (fuel + 1) ops v = .leaf ops := by simp only [mkT, hemp', hnx, hlast]; simp
      rw [hT]
      refine ret1 rfl rfl ⟨⟨w3.heap.size, .slice Ax ops.length cx, rfl, .inr ⟨hE3.size, hN4.blk.lt⟩, hN4.blk, ?_⟩, hE4⟩
      exact Vb.mono (Vb.agree hV3 (hN4.ext.agree fun k hk => Nat.lt_of_lt_of_le (hF k hk) hE3.size)) fun k hk => .inl hk
    have hun' : u < t.vars.length := by omega
    obtain ⟨n, hn⟩ := some_of_lt hun'
    have hn1 := hdom u n hn
    obtain ⟨m, rfl⟩ := Int.eq_ofNat_of_zero_le (show 0 ≤ n by omega)
    have hT : mkT t (fuel + 1) ops v = .node u m (fun x => mkT t fuel (ops.filter (valB t u x)) (u + 1)) (mkT t fuel (ops.filter (restB t u)) (u + 1)) := by
      simp only [mkT, hemp', hnx, hlast, hn]; simp
    rw [hT]
    clear hT hnx
    (refine h_ldA rfl rfl rfl ?_ <;> refine h_ldA rfl rfl rfl ?_ <;> refine h_nc rfl rfl rfl ?_ <;> refine h_fa rfl rfl rfl ?_ <;> refine h_fa rfl rfl rfl ?_ <;> refine h_ldA rfl rfl rfl ?_ <;> refine h_ln rfl rfl rfl ?_ <;> (first | refine h_eeT rfl rfl rfl rfl ?_ | refine h_eeF rfl rfl rfl rfl ?_ | refine h_eeS rfl rfl rfl rfl (fun _ => ?_) fun _ => ?_) <;> (refine h_z ?_)) <;> (repeat (first | refine e_go ?_ | refine ewp_true rfl ?_ | refine ewp_false rfl ?_))
    obtain ⟨bv, ov, ce, rfl, hbv, _, hdv, rfl, _⟩ := hvars.elem hn
    refine ewp_draw (Ext w3) [(0, true), (1, true), (2, true), (3, true), (4, true), (5, true), (6, true), (7, true), (8, false), (9, true)] (by kernel_rfl) rfl (by kernel_rfl) (Below.refl _ _) ?_
    have hb1s := hb1
    have hb2s := hb2
    replace hb1 : ∀ w', Ext w3 w' → Blk w' w.heap.size 35 [.pointer (some ⟨gb, 0, none⟩)] := fun w' h => hb1s.ext h
    replace hb2 : ∀ w', Ext w3 w' → Blk w' w1.heap.size 3 [.int .i64 (u : Int)] := fun w' h => hb2s.ext h
    have hb3s := hb3
    replace hb3 : ∀ w', Ext w3 w' → Blk w' gb 68 [.slice (some ⟨bv, ov, none⟩) t.vars.length cv, b, c, d, .pointer rp] := fun w' h => hb3s.ext h
    have hd1 : ∀ w', Ext w3 w' → cellsAt w' bv (ov + u * 1) [.int .i64 (m : Int)] := fun w' h => cells_ext hdv hbv (hE3.trans' h)
    ((first | refine h_ldB rfl rfl rfl ?_ | refine h_ldC rfl rfl rfl ?_) <;> refine h_nc rfl rfl rfl ?_ <;> refine h_fa rfl rfl rfl ?_ <;> refine h_fa rfl rfl rfl ?_ <;> (first | refine h_ldB rfl rfl rfl ?_ | refine h_ldC rfl rfl rfl ?_) <;> (first | refine h_ldB rfl rfl rfl ?_ | refine h_ldC rfl rfl rfl ?_) <;> refine h_ia rfl rfl rfl rfl ?_ <;> (first | refine h_ldB rfl rfl rfl ?_ | refine h_ldC rfl rfl rfl ?_))
    refine hwp_loud rfl ?_
    refine owp_make rfl rfl (by omega) (by omega) rfl fun w4 hN4 => ?_
    refine owp_loud hN4.ext ?_
    (refine h_as rfl rfl rfl ?_ <;> (refine h_z ?_))
    have hE4 : Ext w w4 := hE3.trans' hN4.ext
    have hw23 : w2.heap.size ≤ w3.heap.size := by have := hb2s.lt; omega
    replace hb1 := hb1s.ext hN4.ext
    replace hb2 := hb2s.ext hN4.ext
    clear hb3 hd1
    repeat (first | refine e_go ?_ | refine ewp_true rfl ?_ | refine ewp_false rfl ?_)
    ((repeat (first | refine e_go ?_ | refine ewp_true rfl ?_ | refine ewp_false rfl ?_)) <;> (refine o_as rfl rfl ?_ <;> (refine o_z ?_)) <;> (repeat (first | refine e_go ?_ | refine ewp_true rfl ?_ | refine ewp_false rfl ?_)) <;> (refine o_mv rfl rfl ?_ <;> refine o_ln rfl rfl ?_ <;> refine o_mv rfl rfl ?_ <;> (refine o_z ?_)) <;> (repeat (first | refine e_go ?_ | refine ewp_true rfl ?_ | refine ewp_false rfl ?_)))
    have hby0 : ByInv w4 w2.heap.size w3.heap.size (List.replicate m (.slice none 0 0)) (.slice none 0 0) (fun i => ((ops.take 0).filter (valB t u i))) ((ops.take 0).filter (restB t u)) m := by
      have hget : ∀ (i : Nat) (x : Value), (List.replicate m (Value.slice none 0 0))[i]? = some x → x = .slice none 0 0 := fun i x h => by
        rw [List.getElem?_replicate] at h; split at h <;> simp at h; exact h.symm
      refine ⟨by simp, by have := hN4.blk; rwa [made_nils] at this, fun i x h => ?_, by simpa using Own.nil _ _ _ _, fun i j x y _ hx _ g hg => ?_, fun i x hx g hg => ?_⟩
      · rw [hget i x h]; simpa using Own.nil _ _ _ _
      · rw [hget i x hx] at hg; simp [Value.ownBlock] at hg
      · rw [hget i x hx] at hg; simp [Value.ownBlock] at hg
    refine ewp_range ops.length (by omega) (fun x : List Value × Value => [(1, .slice Ax ops.length cx), (3, .pointer (some ⟨w.heap.size, 0, none⟩)), (5, .pointer (some ⟨w1.heap.size, 0, none⟩)), (7, .slice (some ⟨w3.heap.size, 0, none⟩) m m), (8, x.2), (55, .slice Ax ops.length cx)])
      (fun k x w' => Ext w w' ∧ Blk w' w.heap.size 35 [.pointer (some ⟨gb, 0, none⟩)] ∧ Blk w' w1.heap.size 3 [.int .i64 (u : Int)] ∧ ByInv w' w2.heap.size w3.heap.size x.1 x.2 (fun i => ((ops.take k).filter (valB t u i))) ((ops.take k).filter (restB t u)) m) (List.replicate m (.slice none 0 0), .slice none 0 0)
      ⟨hE4, hb1, hb2, hby0⟩ ⟨rfl, rfl, rfl, rfl, rfl, rfl, rfl, rfl, trivial⟩ (fun _ => ⟨rfl, rfl⟩) ⟨rfl, rfl, rfl⟩ ⟨rfl, rfl⟩ ?_ ?_
    · rintro k ⟨vals, rv⟩ w5 hk ⟨hE5, hb1, hb2, hby⟩
      dsimp only at hby
      obtain ⟨x, hx⟩ := some_of_lt hk
      obtain ⟨hx0, hx1⟩ := hin x (List.mem_of_getElem? hx)
      obtain ⟨j, rfl⟩ := Int.eq_ofNat_of_zero_le hx0
      obtain ⟨o, ho⟩ := some_of_lt (l := t.ops) (k := j) (by omega)
      have hpre : preOf t (j : Int) = o.pre := by simp [preOf, ho]
      obtain ⟨b2, o2, ce, rfl, hbF, _, hd0, rfl, hxin⟩ := hops.elem hx
      have hd1 := cells_ext hd0 (hF _ hbF) hE5
      ((repeat (first | refine e_go ?_ | refine ewp_true rfl ?_ | refine ewp_false rfl ?_)) <;> (refine o_ia rfl rfl rfl ?_ <;> refine o_ld rfl rfl ?_ <;> refine o_as rfl rfl ?_ <;> (refine o_z ?_)) <;> (repeat (first | refine e_go ?_ | refine ewp_true rfl ?_ | refine ewp_false rfl ?_)) <;> (refine o_ld rfl rfl ?_ <;> refine o_mv rfl rfl ?_ <;> refine o_ld rfl rfl ?_) <;> (repeat (first | refine e_go ?_ | refine ewp_true rfl ?_ | refine ewp_false rfl ?_)))
      refine owp_call rfl rfl (genFact (hg0.ext hE5) ho) ?_
      rintro _ w6 ⟨rfl, hE6⟩
      replace hb1 := hb1.ext hE6
      replace hb2 := hb2.ext hE6
      replace hby := hby.ext hE6
      have hE06 : Ext w w6 := hE5.trans' hE6
      have hkl : ((ops.take k).filter (restB t u)).length ≤ 4096 := Nat.le_trans (List.length_filter_le _ _) (by rw [List.length_take]; omega)
      cases hf : factOn o.pre (u : Int) with
      | none =>
        simp only [factV]
        (refine o_mv rfl rfl ?_ <;> refine o_ex rfl rfl rfl ?_ <;> refine o_ex rfl rfl rfl ?_)
        refine owp_local rfl rfl rfl (by simp [Value.cells, Value.oneCell']) fun w7 hN7 => ?_
        replace hb1 := hb1.ext hN7.ext
        replace hb2 := hb2.ext hN7.ext
        replace hby := hby.ext hN7.ext
        have hE7 : Ext w w7 := hE06.trans' hN7.ext
        (refine o_as rfl rfl ?_ <;> (refine o_z ?_))
        repeat (first | refine e_go ?_ | refine ewp_true rfl ?_ | refine ewp_false rfl ?_)
        ((repeat (first | refine e_go ?_ | refine ewp_true rfl ?_ | refine ewp_false rfl ?_)) <;> (refine o_mv rfl rfl ?_ <;> (refine o_z ?_)) <;> (repeat (first | refine e_go ?_ | refine ewp_true rfl ?_ | refine ewp_false rfl ?_)))
        (refine o_mv rfl rfl ?_ <;> refine o_mv rfl rfl ?_)
        have hl2 := hb2.lt
        refine owp_append1x (a := (j : Int)) rfl rfl rfl hby.rest (fun _ h => h.elim) (by omega) ⟨rfl, hxin⟩ (by decide) (by decide) (by omega) (by omega) ⟨rfl, rfl⟩ fun rv' w8 ho8 hK8 hat => ?_
        have hB8 : Below w2.heap.size w7 w8 := hby.rest.fits (Nat.le_refl _) (by omega) hK8
        have hby8 := hby.putRest hK8 ho8 hat
        (refine o_as rfl rfl ?_ <;> (refine o_z ?_))
        repeat (first | refine e_go ?_ | refine ewp_true rfl ?_ | refine ewp_false rfl ?_)
        refine ⟨(vals, rv'), ⟨rfl, rfl, rfl, rfl, rfl, rfl, rfl, rfl, trivial⟩, hE7.trans (hB8.mono (by omega)), hb1.keep (hB8.block _ (by omega)), hb2.keep (hB8.block _ (by omega)), ?_⟩
        have e1 : ∀ i, (ops.take (k + 1)).filter (valB t u i) = (ops.take k).filter (valB t u i) := fun i => by rw [filter_step hx]; simp [valB, hpre, hf]
        have e2 : (ops.take (k + 1)).filter (restB t u) = (ops.take k).filter (restB t u) ++ [(j : Int)] := by rw [filter_step hx]; simp [restB, hpre, hf]
        dsimp only
        rw [e2]
        simp only [e1]
        exact hby8
      | some f =>
        obtain ⟨hf0, n', hn', hf1⟩ := hfv j o ho u f hf hun'
        rw [hn] at hn'; injection hn' with hn'; subst hn'
        obtain ⟨x0, hj1⟩ := Int.eq_ofNat_of_zero_le hf0
        have hx0m : x0 < m := by omega
        obtain ⟨u0, hu0⟩ := some_of_lt (l := vals) (k := x0) (by rw [hby.len]; exact hx0m)
        simp only [factV]
        (refine o_mv rfl rfl ?_ <;> refine o_ex rfl rfl rfl ?_ <;> refine o_ex rfl rfl rfl ?_)
        refine owp_local rfl rfl rfl (by simp [Value.cells, Value.oneCell']) fun w7 hN7 => ?_
        replace hb1 := hb1.ext hN7.ext
        replace hb2 := hb2.ext hN7.ext
        replace hby := hby.ext hN7.ext
        have hE7 : Ext w w7 := hE06.trans' hN7.ext
        have hbf := hN7.blk
        (refine o_as rfl rfl ?_ <;> (refine o_z ?_))
        repeat (first | refine e_go ?_ | refine ewp_true rfl ?_ | refine ewp_false rfl ?_)
        ((repeat (first | refine e_go ?_ | refine ewp_true rfl ?_ | refine ewp_false rfl ?_)) <;> (refine o_mv rfl rfl ?_ <;> (refine o_z ?_)) <;> (repeat (first | refine e_go ?_ | refine ewp_true rfl ?_ | refine ewp_false rfl ?_)))
        have hl2 := hb2.lt
        have hown0 := hby.own x0 u0 hu0
        have hkl0 : ((ops.take k).filter (valB t u x0)).length ≤ 4096 := Nat.le_trans (List.length_filter_le _ _) (by rw [List.length_take]; omega)
        refine ewp_draw (fun w' => Blk w' w6.heap.size 28 [.int .i64 f.var, .int .i64 f.val] ∧ Blk w' w3.heap.size 22 vals) [(0, true), (1, true), (2, true), (3, true), (4, true), (5, true), (6, true), (7, true), (8, true), (9, false), (10, false), (11, true), (12, false)] (by kernel_rfl) rfl (by kernel_rfl) ⟨hbf, hby.blk⟩ ?_
        have hb1s := hb1
        have hb2s := hb2
        clear hb2
        replace hb1 : ∀ w', (Blk w' w6.heap.size 28 [.int .i64 f.var, .int .i64 f.val] ∧ Blk w' w3.heap.size 22 vals) → Blk w' w6.heap.size 28 [.int .i64 f.var, .int .i64 f.val] := fun _ h => h.1
        have hc1 : ∀ w', (Blk w' w6.heap.size 28 [.int .i64 f.var, .int .i64 f.val] ∧ Blk w' w3.heap.size 22 vals) → w'.cell? ⟨w3.heap.size, 0 + x0 * 1, none⟩ = some u0 := fun _ h => h.2.cell (by rw [Nat.zero_add, Nat.mul_one]; exact hu0)
        (refine h_mv rfl rfl rfl ?_ <;> refine h_fa rfl rfl rfl ?_ <;> (first | refine h_ldB rfl rfl rfl ?_ | refine h_ldC rfl rfl rfl ?_) <;> refine h_mv rfl rfl rfl ?_ <;> refine h_fa rfl rfl rfl ?_ <;> (first | refine h_ldB rfl rfl rfl ?_ | refine h_ldC rfl rfl rfl ?_) <;> refine h_ia rfl rfl rfl rfl ?_ <;> (first | refine h_ldB rfl rfl rfl ?_ | refine h_ldC rfl rfl rfl ?_) <;> refine h_mv rfl rfl rfl ?_)
        refine hwp_loud rfl ?_
        refine owp_slice rfl rfl rfl (by simp [Value.cells]) (by decide) rfl fun w8 hN8 => ?_
        refine owp_loud ⟨hbf.ext hN8.ext, hby.blk.ext hN8.ext⟩ ?_
        refine hwp_loud rfl ?_
        refine owp_append (α := Int) (A := some ⟨w7.heap.size, 0, none⟩) (c := 1) (ys := [(j : Int)]) (cells := [.int .i64 (j : Int)]) rfl rfl (hown0.ext hN8.ext fun _ h => h.elim) (fun _ h => h.elim) (by have := hN8.size; omega) (.single ⟨rfl, hxin⟩) (fun _ => ⟨_, _, rfl, hN8.blk.cellsAt⟩) (by decide) (by rw [List.length_singleton]; omega) (by rw [List.length_singleton]; omega) rfl fun v' w9 ho9 hg9 hat => ?_
        have hK9 : Kept w7 w9 u0 := ⟨hg9.os.trans hN8.ext.os, hg9.tape.trans hN8.ext.tape, hg9.output.trans hN8.ext.output, Nat.le_trans hN8.ext.size hg9.size, fun k hk hne => by rw [hg9.block k (Nat.lt_of_lt_of_le hk hN8.ext.size) (fun he => hne he.symm), hN8.ext.block k hk]⟩
        have hbf9 := hK9.blk hbf (hown0.blk_ne hbf (by decide))
        have hby9 := hK9.blk hby.blk (hown0.blk_ne hby.blk (by decide))
        have hB9 : Below w2.heap.size w7 w9 := hown0.fits (Nat.le_refl _) (by omega) hK9
        refine owp_loud ⟨hbf9, hby9⟩ ?_
        (refine h_ia rfl rfl rfl rfl ?_)
        refine hwp_loud rfl ?_
        obtain ⟨A9, c9, rfl⟩ := ho9.form
        refine owp_store (g := w3.heap.size) (o := 0 + x0 * 1) rfl rfl hby9 rfl (by rw [hby.len]; show 0 + x0 * 1 + 1 ≤ m; omega) (by simp [Value.cells, Value.oneCell']) fun w10 hU => ?_
        have hset : setFrom vals (0 + x0 * 1) [.slice A9 (List.filter (valB t u x0) (List.take k ops) ++ [(j : Int)]).length c9] = vals.set x0 (.slice A9 (List.filter (valB t u x0) (List.take k ops) ++ [(j : Int)]).length c9) := by rw [Nat.zero_add, Nat.mul_one]; rfl
        have hU' : Upd w9 w10 w3.heap.size 22 (vals.set x0 (.slice A9 (List.filter (valB t u x0) (List.take k ops) ++ [(j : Int)]).length c9)) := hset ▸ hU
        have hby10 := hby.putVal hu0 hK9 ho9 (by
          rcases hat with hat | hat
          · exact .inl hat
          · exact .inr ⟨_, hat, hN8.ext.size⟩) hU'
        have hB10 : Below w2.heap.size w9 w10 := hU.below hw23
        refine owp_loudE ?_
        ((refine h_z ?_))
        repeat (first | refine e_go ?_ | refine ewp_true rfl ?_ | refine ewp_false rfl ?_)
        refine ⟨(vals.set x0 (.slice A9 (List.filter (valB t u x0) (List.take k ops) ++ [(j : Int)]).length c9), rv), ⟨rfl, rfl, rfl, rfl, rfl, rfl, rfl, rfl, trivial⟩, hE7.trans ((hB9.trans hB10).mono (by omega)), hb1s.keep ((hB9.trans hB10).block _ (by omega)), hb2s.keep ((hB9.trans hB10).block _ (by omega)), ?_⟩
        have e1 : ∀ i, (ops.take (k + 1)).filter (valB t u i) = if i = x0 then (ops.take k).filter (valB t u x0) ++ [(j : Int)] else (ops.take k).filter (valB t u i) := fun i => by
          rw [filter_step hx]
          by_cases hi : i = x0
          · subst hi; simp [valB, hpre, hf, hj1]
          · have : ¬ (f.val = (i : Int)) := by omega
            simp [valB, hpre, hf, hi, this]
        have e2 : (ops.take (k + 1)).filter (restB t u) = (ops.take k).filter (restB t u) := by rw [filter_step hx]; simp [restB, hpre, hf]
        dsimp only
        rw [e2]
        simp only [e1]
        exact hby10
    rintro ⟨vals, rv⟩ w5 ⟨hE5, hb1, hb2, hby⟩
    dsimp only at hby
    rw [List.take_length] at hby
    have hl2 := hb2.lt
    have hb1s := hb1
    have hb2s := hb2
    have hflt : ∀ p : Int → Bool, OpsIn t (ops.filter p) ∧ (ops.filter p).length ≤ 4096 := fun p => ⟨fun x hx => hin x (List.mem_filter.1 hx).1, Nat.le_trans (List.length_filter_le _ _) hlen⟩
    have hrv : Vb w5 (fun k => rv.ownBlock = some k) rv (ops.filter (restB t u)) := hby.rest.vb.mono fun k hk => hk.resolve_left id
    repeat (first | refine e_go ?_ | refine ewp_true rfl ?_ | refine ewp_false rfl ?_)
    refine ewp_draw (Ext w5) [(0, true), (1, true), (2, true), (3, true), (4, true), (5, false), (6, true), (7, false), (8, true)] (by kernel_rfl) rfl (by kernel_rfl) (Below.refl _ _) ?_
    (refine h_ldE rfl rfl rfl ?_ <;> refine h_ldE rfl rfl rfl ?_ <;> refine h_mv rfl rfl rfl ?_ <;> refine h_ldE rfl rfl rfl ?_ <;> (first | refine h_ic rfl rfl rfl ?_ | refine h_ad rfl rfl rfl rfl ?_))
    refine hwp_loud rfl ?_
    refine owp_call rfl rfl (ih w5 _ rv _ (u + 1) (fun k => rv.ownBlock = some k) (hg0.ext hE5) hrv (fun k hk => (hby.rest.lt k hk).2) (hflt _).1 (hflt _).2 (by omega) (by omega)) ?_
    rintro p6 w6 ⟨hT6, hE6⟩
    obtain ⟨q6, rfl⟩ := hT6.form
    refine owp_loud hE6 ?_
    (refine h_bd rfl rfl rfl rfl ?_)
    refine hwp_loud rfl ?_
    refine owp_box rfl rfl fun w7 hN7 => ?_
    refine owp_loud (hE6.trans' hN7.ext) ?_
    (refine h_as rfl rfl rfl ?_ <;> (refine h_z ?_))
    have hnode : Blk w7 w6.heap.size 88 [.slice none 0 0, .bool false, .int .i64 (u : Int), .slice none 0 0, .pointer q6] := hN7.blk
    have hby6 := hby.ext hE6
    repeat (first | refine e_go ?_ | refine ewp_true rfl ?_ | refine ewp_false rfl ?_)
    ((repeat (first | refine e_go ?_ | refine ewp_true rfl ?_ | refine ewp_false rfl ?_)) <;> (refine o_mv rfl rfl ?_ <;> refine o_ln rfl rfl ?_ <;> refine o_mv rfl rfl ?_ <;> (refine o_z ?_)) <;> (repeat (first | refine e_go ?_ | refine ewp_true rfl ?_ | refine ewp_false rfl ?_)))
    refine ewp_range m (by omega) (fun x : Value => [(3, .pointer (some ⟨w.heap.size, 0, none⟩)), (5, .pointer (some ⟨w1.heap.size, 0, none⟩)), (13, .pointer (some ⟨w6.heap.size, 0, none⟩)), (94, .slice (some ⟨w3.heap.size, 0, none⟩) m m)])
      (fun k x w' => Ext w6 w' ∧ Blk w' w6.heap.size 88 [.slice none 0 0, .bool false, .int .i64 (u : Int), x, .pointer q6] ∧ ∃ G : Nat → Prop, (∀ k, G k → k < w'.heap.size ∧ w2.heap.size ≤ k) ∧ ¬ G w6.heap.size ∧ Own w' w7.heap.size G 66 x ((List.range k).map fun i => mkT t fuel (ops.filter (valB t u i)) (u + 1))) (.slice none 0 0)
      ⟨hN7.ext, hnode, fun _ => False, fun _ h => h.elim, id, Own.nil _ _ _ _⟩ ⟨rfl, rfl, rfl, rfl, rfl, rfl, trivial⟩ (fun _ => ⟨rfl, rfl⟩) ⟨rfl, rfl, rfl⟩ ⟨rfl, rfl⟩ ?_ ?_
    · rintro k xv w8 hk ⟨hE8, hnd, G, hG, hGn, hown⟩
      obtain ⟨u0, hu0⟩ := some_of_lt (l := vals) (k := k) (by rw [hby.len]; exact hk)
      have hby8 := hby6.ext hE8
      have hE58 : Ext w5 w8 := hE6.trans' hE8
      have hE08 : Ext w w8 := hE5.trans' hE58
      have hc1 : w8.cell? ⟨w3.heap.size, 0 + k * 1, none⟩ = some u0 := hby8.blk.cell (by rw [Nat.zero_add, Nat.mul_one]; exact hu0)
      have hown0 := hby8.own k u0 hu0
      obtain ⟨Ak, ck, rfl⟩ := hown0.form
      obtain ⟨Ax', cx', rfl⟩ := hown.form
      have hz78 : w7.heap.size ≤ w8.heap.size := by have := hnd.lt; have := hN7.size; omega
      ((repeat (first | refine e_go ?_ | refine ewp_true rfl ?_ | refine ewp_false rfl ?_)) <;> (refine o_ia rfl rfl rfl ?_ <;> refine o_ld rfl rfl ?_ <;> refine o_as rfl rfl ?_ <;> (refine o_z ?_)) <;> (repeat (first | refine e_go ?_ | refine ewp_true rfl ?_ | refine ewp_false rfl ?_)))
      refine ewp_draw (fun w' => Blk w' w6.heap.size 88 [.slice none 0 0, .bool false, .int .i64 (u : Int), .slice Ax' ((List.range k).map fun i => mkT t fuel (ops.filter (valB t u i)) (u + 1)).length cx', .pointer q6] ∧ Blk w' w.heap.size 35 [.pointer (some ⟨gb, 0, none⟩)] ∧ Blk w' w1.heap.size 3 [.int .i64 (u : Int)]) [(0, true), (1, true), (2, true), (3, true), (4, true), (5, true), (6, true), (7, true), (8, true), (9, false), (10, false), (11, false), (12, true), (13, true), (14, false)] (by kernel_rfl) rfl (by kernel_rfl) ⟨hnd, hb1s.ext hE58, hb2s.ext hE58⟩ ?_
      have hS8 : ∀ w', Ext w8 w' → Blk w' w6.heap.size 88 [.slice none 0 0, .bool false, .int .i64 (u : Int), .slice Ax' ((List.range k).map fun i => mkT t fuel (ops.filter (valB t u i)) (u + 1)).length cx', .pointer q6] ∧ Blk w' w.heap.size 35 [.pointer (some ⟨gb, 0, none⟩)] ∧ Blk w' w1.heap.size 3 [.int .i64 (u : Int)] := fun w' h => ⟨hnd.ext h, (hb1s.ext hE58).ext h, (hb2s.ext hE58).ext h⟩
      clear hb1 hb2 hc1
      have hb1 : ∀ w', (Blk w' w6.heap.size 88 [.slice none 0 0, .bool false, .int .i64 (u : Int), .slice Ax' ((List.range k).map fun i => mkT t fuel (ops.filter (valB t u i)) (u + 1)).length cx', .pointer q6] ∧ Blk w' w.heap.size 35 [.pointer (some ⟨gb, 0, none⟩)] ∧ Blk w' w1.heap.size 3 [.int .i64 (u : Int)]) → Blk w' w6.heap.size 88 [.slice none 0 0, .bool false, .int .i64 (u : Int), .slice Ax' ((List.range k).map fun i => mkT t fuel (ops.filter (valB t u i)) (u + 1)).length cx', .pointer q6] := fun _ h => h.1
      have hb2 : ∀ w', (Blk w' w6.heap.size 88 [.slice none 0 0, .bool false, .int .i64 (u : Int), .slice Ax' ((List.range k).map fun i => mkT t fuel (ops.filter (valB t u i)) (u + 1)).length cx', .pointer q6] ∧ Blk w' w.heap.size 35 [.pointer (some ⟨gb, 0, none⟩)] ∧ Blk w' w1.heap.size 3 [.int .i64 (u : Int)]) → Blk w' w.heap.size 35 [.pointer (some ⟨gb, 0, none⟩)] := fun _ h => h.2.1
      have hb3 : ∀ w', (Blk w' w6.heap.size 88 [.slice none 0 0, .bool false, .int .i64 (u : Int), .slice Ax' ((List.range k).map fun i => mkT t fuel (ops.filter (valB t u i)) (u + 1)).length cx', .pointer q6] ∧ Blk w' w.heap.size 35 [.pointer (some ⟨gb, 0, none⟩)] ∧ Blk w' w1.heap.size 3 [.int .i64 (u : Int)]) → Blk w' w1.heap.size 3 [.int .i64 (u : Int)] := fun _ h => h.2.2
      (refine h_mv rfl rfl rfl ?_ <;> refine h_mv rfl rfl rfl ?_ <;> refine h_nc rfl rfl rfl ?_ <;> refine h_fa rfl rfl rfl ?_ <;> (first | refine h_ldB rfl rfl rfl ?_ | refine h_ldC rfl rfl rfl ?_) <;> (first | refine h_ldB rfl rfl rfl ?_ | refine h_ldC rfl rfl rfl ?_) <;> refine h_mv rfl rfl rfl ?_ <;> (first | refine h_ldB rfl rfl rfl ?_ | refine h_ldC rfl rfl rfl ?_) <;> (first | refine h_ic rfl rfl rfl ?_ | refine h_ad rfl rfl rfl rfl ?_))
      refine hwp_loud rfl ?_
      have hu0v : Vb w8 (fun q => (Value.slice Ak (ops.filter (valB t u k)).length ck).ownBlock = some q) (.slice Ak (ops.filter (valB t u k)).length ck) (ops.filter (valB t u k)) := hown0.vb.mono fun q hq => hq.resolve_left id
      refine owp_call rfl rfl (ih w8 _ _ _ (u + 1) _ (hg0.ext hE08) hu0v (fun q hq => (hown0.lt q hq).2) (hflt _).1 (hflt _).2 (by omega) (by omega)) ?_
      rintro p9 w9 ⟨hT9, hE9⟩
      obtain ⟨q9, rfl⟩ := hT9.form
      refine owp_loud (hS8 w9 hE9) ?_
      refine hwp_loud rfl ?_
      refine owp_slice rfl rfl rfl (by simp [Value.cells]) (by decide) rfl fun w10 hN10 => ?_
      have hE10 : Ext w8 w10 := hE9.trans' hN10.ext
      refine owp_loud (hS8 w10 hE10) ?_
      have hG' : ∀ q, (G q ∨ (Value.slice Ak (ops.filter (valB t u k)).length ck).ownBlock = some q ∨ w8.heap.size ≤ q ∧ q < w9.heap.size) → q < w9.heap.size ∧ w2.heap.size ≤ q := fun q hq => by
        have h9 := hE9.size
        have h6 := hE6.size
        have h7 := hN7.size
        rcases hq with hq | hq | hq
        · have := hG q hq; exact ⟨by omega, this.2⟩
        · have := hown0.lt q hq; exact ⟨by omega, this.1⟩
        · exact ⟨hq.2, by omega⟩
      have hGx : ∀ g, (Value.slice Ax' ((List.range k).map fun i => mkT t fuel (ops.filter (valB t u i)) (u + 1)).length cx').ownBlock = some g → ¬ (G g ∨ (Value.slice Ak (ops.filter (valB t u k)).length ck).ownBlock = some g ∨ w8.heap.size ≤ g ∧ g < w9.heap.size) := fun g hg h => by
        rcases h with h | h | h
        · obtain ⟨_, _, _, h3⟩ := hown; exact h3 g hg h
        · exact hown.own_ne hown0 (by decide) g hg h
        · have := (hown.lt g hg).2; omega
      have hownG : Own w9 w7.heap.size (fun q => G q ∨ (Value.slice Ak (ops.filter (valB t u k)).length ck).ownBlock = some q ∨ w8.heap.size ≤ q ∧ q < w9.heap.size) 66 _ _ := (hown.ext hE9 fun q hq => (hG q hq).1).mono (fun q hq => .inl hq) hGx
      have hch : Chunks w10 (fun q => G q ∨ (Value.slice Ak (ops.filter (valB t u k)).length ck).ownBlock = some q ∨ w8.heap.size ≤ q ∧ q < w9.heap.size) [.pointer q9] [mkT t fuel (ops.filter (valB t u k)) (u + 1)] :=
        .single (show Rp.R w10 _ [.pointer q9] _ from ⟨q9, rfl, TrR.agree (hN10.ext.agree fun q hq => (hG' q hq).1) (TrR.mono (fun q hq => by
          rcases hq with hq | hq
          · exact .inr (.inl hq)
          · exact .inr (.inr hq)) hT9)⟩)
      refine hwp_loud rfl ?_
      have hmk : ((List.range k).map fun i => mkT t fuel (ops.filter (valB t u i)) (u + 1)).length ≤ 64 := by simp; omega
      refine owp_append (α := Tr) (A := some ⟨w9.heap.size, 0, none⟩) (c := 1) (ys := [mkT t fuel (ops.filter (valB t u k)) (u + 1)]) (cells := [.pointer q9]) rfl rfl (hownG.ext hN10.ext fun q hq => (hG' q hq).1) (fun q hq => Nat.lt_of_lt_of_le (hG' q hq).1 hN10.ext.size) (by have := hE10.size; omega) hch (fun _ => ⟨_, _, rfl, hN10.blk.cellsAt⟩) (by decide) (by rw [List.length_singleton]; omega) (by rw [List.length_singleton]; omega) rfl fun v' w11 ho11 hg11 hat => ?_
      have hown10 := hown.ext hE10 fun q hq => (hG q hq).1
      have hK11 : Kept w8 w11 (.slice Ax' ((List.range k).map fun i => mkT t fuel (ops.filter (valB t u i)) (u + 1)).length cx') := ⟨hg11.os.trans hE10.os, hg11.tape.trans hE10.tape, hg11.output.trans hE10.output, Nat.le_trans hE10.size hg11.size, fun q hq hne => by rw [hg11.block q (Nat.lt_of_lt_of_le hq hE10.size) (fun he => hne he.symm), hE10.block q hq]⟩
      have hB11 : Below w7.heap.size w8 w11 := hown.fits (Nat.le_refl _) hz78 hK11
      have hnd11 := hK11.blk hnd (hown.blk_ne hnd (by decide))
      have hz67 := hN7.size
      refine owp_loud ⟨hnd11, (hb1s.ext hE58).keep (hB11.block _ (by have := hE6.size; omega)), (hb2s.ext hE58).keep (hB11.block _ (by have := hE6.size; omega))⟩ ?_
      (refine h_nc rfl rfl rfl ?_ <;> refine h_fa rfl rfl rfl ?_)
      refine hwp_loud rfl ?_
      obtain ⟨A11, c11, rfl⟩ := ho11.form
      refine owp_store (g := w6.heap.size) rfl rfl hnd11 rfl (show 0 + 3 + 1 ≤ 5 by decide) (by simp [Value.cells, Value.oneCell']) fun w12 hU => ?_
      refine owp_loudE ?_
      ((refine h_z ?_))
      repeat (first | refine e_go ?_ | refine ewp_true rfl ?_ | refine ewp_false rfl ?_)
      refine ⟨_, ⟨rfl, rfl, rfl, rfl, rfl, rfl, trivial⟩, ?_, hU.blk, (fun q => G q ∨ (Value.slice Ak (ops.filter (valB t u k)).length ck).ownBlock = some q ∨ w8.heap.size ≤ q ∧ q < w9.heap.size), ?_, ?_, ?_⟩
      · exact hE8.trans ((hB11.mono (by omega)).trans (hU.below (Nat.le_refl _)))
      · intro q hq
        have := hG' q hq
        have h1 := hN10.ext.size
        have h2 := hg11.size
        exact ⟨by rw [hU.size]; omega, this.2⟩
      · rintro (h | h | h)
        · exact hGn h
        · exact hown0.blk_ne hnd (by decide) h
        · have := hnd.lt; omega
      · rw [List.range_succ, List.map_append]
        have hne : (Value.slice A11 (((List.range k).map fun i => mkT t fuel (ops.filter (valB t u i)) (u + 1)) ++ [mkT t fuel (ops.filter (valB t u k)) (u + 1)]).length c11).ownBlock ≠ some w6.heap.size := ho11.blk_ne hnd11 (by decide)
        exact ho11.agree (hU.agree (by
          rintro (h | h | h)
          · exact hGn h
          · exact hown0.blk_ne hnd (by decide) h
          · have := hnd.lt; omega)) fun g hg => hU.other g fun he => hne (he ▸ hg)
    rintro xv w8 ⟨hE8, hnd, G, hG, hGn, hown⟩
    repeat (first | refine e_go ?_ | refine ewp_true rfl ?_ | refine ewp_false rfl ?_)
    ((repeat (first | refine e_go ?_ | refine ewp_true rfl ?_ | refine ewp_false rfl ?_)) <;> (refine o_mv rfl rfl ?_ <;> refine o_as rfl rfl ?_ <;> (refine o_z ?_)) <;> (repeat (first | refine e_go ?_ | refine ewp_true rfl ?_ | refine ewp_false rfl ?_)))
    have hE08 : Ext w w8 := hE5.trans' (hE6.trans' hE8)
    obtain ⟨Ax', cx', rfl⟩ := hown.form
    have hxl : ((List.range m).map fun i => mkT t fuel (ops.filter (valB t u i)) (u + 1)).length = m := by simp
    rw [hxl] at hnd
    refine ret1 rfl rfl ⟨⟨w6.heap.size, Ax', cx', q6, rfl, .inr ⟨by have := hE5.size; have := hE6.size; omega, hnd.lt⟩, hnd, ?_, fun i hi => ?_⟩, hE08⟩
    · refine TrR.mono (fun q hq => ?_) (TrR.agree (hE8.agree fun q hq => ?_) hT6)
      · rcases hq with hq | hq
        · have := hby.rest.lt q hq; have := hE6.size; have := hE8.size; exact .inr ⟨by omega, by omega⟩
        · have := hE8.size; have := hE5.size; exact .inr ⟨by omega, by omega⟩
      · rcases hq with hq | hq
        · have := hby.rest.lt q hq; have := hE6.size; omega
        · exact hq.2
    · have hvb := hown.vb
      obtain ⟨b9, o9, cs9, hA, hF9, _, hc9, q9, rfl, hT9⟩ := hvb.elem (k := i) (x := mkT t fuel (ops.filter (valB t u i)) (u + 1)) (by rw [List.getElem?_map, List.getElem?_range hi]; rfl)
      have hsub : ∀ q, (G q ∨ (Value.slice Ax' ((List.range m).map fun i => mkT t fuel (ops.filter (valB t u i)) (u + 1)).length cx').ownBlock = some q) → more F w w8 q := fun q hq => by
        rcases hq with hq | hq
        · have := hG q hq; exact .inr ⟨by omega, this.1⟩
        · have h1 := hown.lt q hq; have := hN7.size; have := hE6.size; exact .inr ⟨by omega, h1.2⟩
      exact ⟨b9, o9, q9, hA, hsub _ hF9, by have := hc9.1; rwa [show i * Rp.size Tr = i from Nat.mul_one i] at this, TrR.mono hsub hT9⟩
end
end Go.Proofs.Ytfbcjknlihopcaa

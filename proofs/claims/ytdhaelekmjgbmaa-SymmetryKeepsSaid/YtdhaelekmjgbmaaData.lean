/- Own text: the planner's plain data (facts, effects, operators, tasks) and how they stand in memory. -/
import Derived.Test.YtdhaelekmjgbmaaShort
namespace Go.Proofs.Ytdhaelekmjgbmaa
open Go Go.RowKit
structure Fct where
  var : Int
  val : Int
structure Eff where
  cond : List Fct
  var : Int
  val : Int
structure Opr where
  name : ByteArray
  cost : Int
  pre : List Fct
  effs : List Eff
structure Tsk where
  vars : List Int
  init : List Int
  goal : List Fct
  ops : List Opr
theorem Vb.one {α : Type} [Rp α] (hb : Rp.isAgg α = false) {w : World} {F : Nat → Prop} {v : Value} {x : α} (h : Vb w F v x) : v.oneCell' = true := by
  unfold Vb at h; rw [hb] at h; exact Rp.one h v (by simp)
instance : Rp Fct where
  isAgg := true
  size := 2
  R _ _ cs f := cs = [.int .i64 f.var, .int .i64 f.val] ∧ inI64 f.var ∧ inI64 f.val
  len := by rintro w F cs x ⟨rfl, _⟩; rfl
  one := by rintro w F cs x ⟨rfl, _⟩ u hu; simp at hu; rcases hu with rfl | rfl <;> rfl
  agree := fun h _ => h
  mono := fun h _ => h
instance : Rp Eff where
  isAgg := true
  size := 3
  R w F cs e := ∃ v, cs = [v, .int .i64 e.var, .int .i64 e.val] ∧ Vb w F v e.cond ∧ inI64 e.var ∧ inI64 e.val
  len := by rintro w F cs x ⟨v, rfl, _⟩; rfl
  one := by rintro w F cs x ⟨v, rfl, h, _⟩ u hu; simp at hu; rcases hu with rfl | rfl | rfl <;> first | rfl | exact Vb.one rfl (by assumption)
  agree := by rintro w w' F cs x ⟨v, rfl, h, h2⟩ ha; exact ⟨v, rfl, h.agree ha, h2⟩
  mono := by rintro w F G cs x ⟨v, rfl, h, h2⟩ ha; exact ⟨v, rfl, h.mono ha, h2⟩
instance : Rp Opr where
  isAgg := true
  size := 4
  R w F cs o := ∃ p q, cs = [.string o.name, .int .i64 o.cost, p, q] ∧ Vb w F p o.pre ∧ Vb w F q o.effs ∧ inI64 o.cost ∧ o.name.size ≤ 9223372036854775807
  len := by rintro w F cs x ⟨p, q, rfl, _⟩; rfl
  one := by rintro w F cs x ⟨p, q, rfl, h, k, _⟩ u hu; simp at hu; rcases hu with rfl | rfl | rfl | rfl <;> first | rfl | exact Vb.one rfl (by assumption)
  agree := by rintro w w' F cs x ⟨p, q, rfl, h, k, h2⟩ ha; exact ⟨p, q, rfl, h.agree ha, k.agree ha, h2⟩
  mono := by rintro w F G cs x ⟨p, q, rfl, h, k, h2⟩ ha; exact ⟨p, q, rfl, h.mono ha, k.mono ha, h2⟩
instance : Rp Tsk where
  isAgg := true
  size := 4
  R w F cs t := ∃ a b c d, cs = [a, b, c, d] ∧ Vb w F a t.vars ∧ Vb w F b t.init ∧ Vb w F c t.goal ∧ Vb w F d t.ops
  len := by rintro w F cs x ⟨a, b, c, d, rfl, _⟩; rfl
  one := by rintro w F cs x ⟨a, b, c, d, rfl, h1, h2, h3, h4⟩ u hu; simp at hu; rcases hu with rfl | rfl | rfl | rfl <;> first | rfl | exact Vb.one rfl (by assumption)
  agree := by rintro w w' F cs x ⟨a, b, c, d, rfl, h1, h2, h3, h4⟩ ha; exact ⟨a, b, c, d, rfl, h1.agree ha, h2.agree ha, h3.agree ha, h4.agree ha⟩
  mono := by rintro w F G cs x ⟨a, b, c, d, rfl, h1, h2, h3, h4⟩ ha; exact ⟨a, b, c, d, rfl, h1.mono ha, h2.mono ha, h3.mono ha, h4.mono ha⟩
end Go.Proofs.Ytdhaelekmjgbmaa

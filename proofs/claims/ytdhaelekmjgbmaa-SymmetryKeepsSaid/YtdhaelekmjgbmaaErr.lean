/- Own text: errors as numbers, and generators as what they mean. -/
import Derived.Test.YtdhaelekmjgbmaaMod
import Derived.Test.YtdhaelekmjgbmaaTypes
namespace Go.Proofs.Ytdhaelekmjgbmaa
open Go Go.RowKit
/-- An error by its number; 0 is nil. -/
def errV (n : Int) : Value := if n = 0 then .nilIface else .iface 40 (.int .i64 n)
theorem errV_zero : errV 0 = .nilIface := by unfold errV; rfl
theorem errV_pos {n : Int} (h : n ≠ 0) : errV n = .iface 40 (.int .i64 n) := by unfold errV; rw [if_neg h]
theorem errV_one (n : Int) : (errV n).oneCell' = true := by unfold errV; split <;> rfl
structure Err where
  n : Int
instance : Rp Err where
  isAgg := false
  size := 1
  R _ _ cs x := cs = [errV x.n] ∧ inI64 x.n
  len := by rintro w F cs x ⟨rfl, _⟩; rfl
  one := by
    rintro w F cs x ⟨rfl, _⟩ u hu
    have : u = errV x.n := by simpa using hu
    subst this; exact errV_one _
  agree := fun h _ => h
  mono := fun h _ => h
theorem Vb.err {w : World} {F : Nat → Prop} {v : Value} {x : Err} (h : Vb w F v x) : v = errV x.n ∧ inI64 x.n := by
  obtain ⟨h1, h2⟩ := h
  exact ⟨by simpa using h1, h2⟩
theorem vErr {w : World} {F : Nat → Prop} {n : Int} (h : inI64 n) : Vb w F (errV n) (⟨n⟩ : Err) := ⟨rfl, h⟩
theorem vErr0 {w : World} {F : Nat → Prop} : Vb w F .nilIface (⟨0⟩ : Err) := ⟨by rw [errV_zero], by decide⟩
end Go.Proofs.Ytdhaelekmjgbmaa

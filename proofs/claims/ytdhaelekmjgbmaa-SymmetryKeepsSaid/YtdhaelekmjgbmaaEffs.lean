/- Own text: the state after an operator's effects. Plain, no program in sight. -/
import Derived.Test.YtdhaelekmjgbmaaHolds
namespace Go.Proofs.Ytdhaelekmjgbmaa
open Go Go.RowKit
/-- The state after an operator's effects. -/
def effsOn (s : List Int) : List Eff → List Int → List Int
  | [], out => out
  | e :: r, out => effsOn s r (if holdsB e.cond s = true then out.set e.var.toNat e.val else out)
theorem effsOn_append (s : List Int) : ∀ (a b : List Eff) (out : List Int), effsOn s (a ++ b) out = effsOn s b (effsOn s a out)
  | [], _, _ => rfl
  | e :: a, b, out => by simp [effsOn, effsOn_append s a b]
theorem effsOn_length (s : List Int) : ∀ (a : List Eff) (out : List Int), (effsOn s a out).length = out.length
  | [], _ => rfl
  | e :: a, out => by
    rw [effsOn, effsOn_length s a]
    split <;> simp
theorem effsOn_step (s : List Int) {l : List Eff} {k : Nat} {e : Eff} (h : l[k]? = some e) (out : List Int) : effsOn s (l.take (k + 1)) out = if holdsB e.cond s = true then (effsOn s (l.take k) out).set e.var.toNat e.val else effsOn s (l.take k) out := by
  rw [List.take_add_one, h, effsOn_append]; rfl
/-- The effects name variables of the state. -/
def EffsIn (s : List Int) (l : List Eff) : Prop := ∀ (i : Nat) e, l[i]? = some e → 0 ≤ e.var ∧ e.var < s.length
def succ (o : Opr) (s : List Int) : List Int := effsOn s o.effs s
end Go.Proofs.Ytdhaelekmjgbmaa

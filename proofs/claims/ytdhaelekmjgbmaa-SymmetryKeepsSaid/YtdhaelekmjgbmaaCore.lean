/- Own text: a small calculus of symbolic execution over the model's rules: what a frame knows is a list of slots with values, worlds are taken up to the count of draws. It holds for every program. -/
import Derived.Tactics
import Derived.Below
import Derived.OrdersHeld
import Derived.KernelRfl
namespace Go.Proofs.Ytdhaelekmjgbmaa
open Go Go.RowKit

/-- What is known of a frame: slots with values, the newest first. -/
abbrev Env := List (Nat × Value)
def lk : Env → Nat → Option Value
  | [], _ => none
  | (i, v) :: l, j => match Nat.beq i j with
    | true => some v
    | false => lk l j
def opv (l : Env) : Operand → Option Value
  | .tmp t => lk l t
  | .const v => some v
  | .global g => some (.pointer (some ⟨g, 0, none⟩))
  | .func f => some (.func (.func f) #[] #[])
def opvs (l : Env) : List Operand → Option (List Value)
  | [] => some []
  | x :: r => match opv l x with
    | some v => match opvs l r with
      | some vs => some (v :: vs)
      | none => none
    | none => none

/-- A frame of n slots, with no deferred call, that has the known values. -/
structure Ok (n : Nat) (a : Act) (l : Env) : Prop where
  size : a.tmps.size = n
  defers : a.defers = []
  knows : ∀ i v, lk l i = some v → a.tmps.getD i undef = v

theorem Ok.put {n d : Nat} {a : Act} {l : Env} (h : Ok n a l) (hd : Nat.blt d n = true) (v : Value) : Ok n (a.put (some d) v) ((d, v) :: l) := by
  have hd' : d < n := by simpa using hd
  refine ⟨by simp [Act.put, h.size], h.defers, fun i u hu => ?_⟩
  simp only [lk] at hu
  cases hb : Nat.beq d i with
  | true =>
    rw [hb] at hu
    have : d = i := Nat.eq_of_beq_eq_true hb
    subst this
    have hlt : d < a.tmps.size := by rw [h.size]; exact hd'
    simp only [Act.put, Array.getD_eq_getD_getElem?, Array.getElem?_setIfInBounds, hlt, if_true, Option.getD_some]
    simpa using hu
  | false =>
    rw [hb] at hu
    have hne : d ≠ i := Nat.ne_of_beq_eq_false hb
    have := h.knows i u hu
    simp only [Act.put, Array.getD_eq_getD_getElem?, Array.getElem?_setIfInBounds, hne, if_false] at this ⊢
    exact this
theorem Ok.put_none {n : Nat} {a : Act} {l : Env} (h : Ok n a l) (v : Value) : Ok n (a.put none v) l := h
theorem Ok.eval {n : Nat} {a : Act} {l : Env} (h : Ok n a l) {x : Operand} {v : Value} (hx : opv l x = some v) : a.eval x = v := by
  cases x with
  | tmp t => exact h.knows t v hx
  | const u => simpa [opv, Act.eval] using hx
  | global g => simpa [opv, Act.eval] using hx
  | func f => simpa [opv, Act.eval] using hx
theorem Ok.evals {n : Nat} {a : Act} {l : Env} (h : Ok n a l) : ∀ {xs : List Operand} {vs : List Value}, opvs l xs = some vs → xs.map a.eval = vs
  | [], vs, hx => by simpa [opvs] using hx
  | x :: r, vs, hx => by
    simp only [opvs] at hx
    cases hv : opv l x with
    | none => rw [hv] at hx; simp at hx
    | some v =>
      rw [hv] at hx
      cases hr : opvs l r with
      | none => rw [hr] at hx; simp at hx
      | some us =>
        rw [hr] at hx
        have hx' : v :: us = vs := by simpa using hx
        rw [List.map_cons, h.eval hv, h.evals hr, hx']
def subs (l : Env) : Env → Prop
  | [] => True
  | (i, v) :: r => lk l i = some v ∧ subs l r
theorem subs_lk {l : Env} : ∀ {l' : Env}, subs l l' → ∀ i v, lk l' i = some v → lk l i = some v
  | [], _, i, v, h => by simp [lk] at h
  | (j, u) :: r, hs, i, v, h => by
    simp only [lk] at h
    cases hb : Nat.beq j i with
    | true =>
      rw [hb] at h
      have : j = i := Nat.eq_of_beq_eq_true hb
      subst this
      have : u = v := by simpa using h
      subst this
      exact hs.1
    | false => rw [hb] at h; exact subs_lk hs.2 i v h
theorem Ok.sub {n : Nat} {a : Act} {l l' : Env} (h : Ok n a l) (hs : subs l l') : Ok n a l' := ⟨h.size, h.defers, fun i v hv => h.knows i v (subs_lk hs i v hv)⟩

/-- A world at another count of draws. -/
def dr (w : World) (d : Nat) : World := { w with drawn := d }
theorem dr_dr (w : World) (d e : Nat) : dr (dr w d) e = dr w e := rfl
theorem dr_self (w : World) : dr w w.drawn = w := rfl
theorem dr_heap (w : World) (d : Nat) : (dr w d).heap = w.heap := rfl
theorem dr_cell (w : World) (d : Nat) (a : Addr) : (dr w d).cell? a = w.cell? a := rfl
theorem dr_frozen (w : World) (d : Nat) (a : Addr) : (dr w d).frozen? a = w.frozen? a := rfl

abbrev Post := Exit → Env → World → Prop
def noPanic : Exit → Prop
  | .panic _ => False
  | .outgrown => False
  | _ => True
def lift (n : Nat) (Q : Post) (e : Exit) (a : Act) (w : World) : Prop := noPanic e ∧ ∃ l w₀ d, w = dr w₀ d ∧ Ok n a l ∧ Q e l w₀
theorem lift_mk {n : Nat} {Q : Post} {e : Exit} {a : Act} {w : World} {l : Env} {d : Nat} (he : noPanic e) (h : Ok n a l) (hq : Q e l w) : lift n Q e a (dr w d) := ⟨he, l, w, d, rfl, h, hq⟩

/-- The code's weakest precondition from what is known. -/
def ewp (P : Program) (n : Nat) (c : Code) (Q : Post) (l : Env) (w : World) : Prop := ∀ a d, Ok n a l → c.wp P (lift n Q) a (dr w d)
def owp (P : Program) (n : Nat) (ops : Array Oper) (Q : Post) (rest : List Oper) (l : Env) (w : World) : Prop := ∀ a d, Ok n a l → wpList P ops (lift n Q) rest a (dr w d)

section code
variable {P : Program} {n : Nat} {Q : Post} {l : Env} {w : World}
def thn (K : Env → World → Prop) (Q : Post) : Post
  | .normal, l, w => K l w
  | e, l, w => Q e l w
theorem ewp_mono {c : Code} {Q' : Post} (hq : ∀ e l w, Q e l w → Q' e l w) (h : ewp P n c Q l w) : ewp P n c Q' l w :=
  fun a d ha => Code.wp_mono (fun _ _ _ ⟨hn, l, w, d, hw, ho, q⟩ => ⟨hn, l, w, d, hw, ho, hq _ _ _ q⟩) (h a d ha)
theorem ewp_seq {x y : Code} (h : ewp P n x (thn (ewp P n y Q) Q) l w) : ewp P n (.seq x y) Q l w := fun a d ha =>
  wp_seq (Code.wp_mono (fun e a w hl => by
    obtain ⟨hn, l', w', d', rfl, ho, hq⟩ := hl
    cases e with
    | normal => exact hq a d' ho
    | panic c => exact hn.elim
    | outgrown => exact hn.elim
    | exit i => exact ⟨trivial, l', w', d', rfl, ho, hq⟩
    | goto i => exact ⟨trivial, l', w', d', rfl, ho, hq⟩
    | ret => exact ⟨trivial, l', w', d', rfl, ho, hq⟩) (h a d ha))
/-- A sequence, cut at what holds in between. -/
theorem ewp_cut {x y : Code} (M : Env → World → Prop) (h : ewp P n x (thn M Q) l w) (k : ∀ l' w', M l' w' → ewp P n y Q l' w') : ewp P n (.seq x y) Q l w :=
  ewp_seq (ewp_mono (fun e l w q => by cases e <;> first | exact k _ _ q | exact q) h)
theorem ewp_skip (h : Q .normal l w) : ewp P n .skip Q l w := fun _ _ ha => wp_skip (lift_mk trivial ha h)
theorem ewp_exit {i : Nat} (h : Q (.exit i) l w) : ewp P n (.exit i) Q l w := fun _ _ ha => wp_exit (lift_mk trivial ha h)
theorem ewp_ret (h : Q .ret l w) : ewp P n .ret Q l w := fun _ _ ha => wp_ret (lift_mk trivial ha h)
theorem ewp_true {c : Operand} {x y : Code} (hc : opv l c = some (.bool true)) (h : ewp P n x Q l w) : ewp P n (.cond c x y) Q l w := fun a d ha => wp_cond_true (ha.eval hc) (h a d ha)
theorem ewp_false {c : Operand} {x y : Code} (hc : opv l c = some (.bool false)) (h : ewp P n y Q l w) : ewp P n (.cond c x y) Q l w := fun a d ha => wp_cond_false (ha.eval hc) (h a d ha)
theorem ewp_cond {c : Operand} {x y : Code} {b : Bool} (hc : opv l c = some (.bool b)) (ht : b = true → ewp P n x Q l w) (hf : b = false → ewp P n y Q l w) : ewp P n (.cond c x y) Q l w := by
  cases b
  · exact ewp_false hc (hf rfl)
  · exact ewp_true hc (ht rfl)
def inBlk (id : Nat) (Q : Post) : Post
  | .exit i, l, w => match Nat.beq i id with
    | true => Q .normal l w
    | false => Q (.exit i) l w
  | e, l, w => Q e l w
theorem ewp_block {id : Nat} {c : Code} (h : ewp P n c (inBlk id Q) l w) : ewp P n (.block id c) Q l w := fun a d ha =>
  wp_block (Code.wp_mono (fun e a w hl => by
    obtain ⟨hn, l', w', d', rfl, ho, hq⟩ := hl
    cases e with
    | exit i =>
      simp only [Exit.inBlock]
      simp only [inBlk] at hq
      by_cases hi : i = id
      · subst hi
        have hb : Nat.beq i i = true := Nat.beq_refl i
        rw [hb] at hq
        rw [if_pos rfl]
        exact ⟨trivial, l', w', d', rfl, ho, hq⟩
      · have hb : Nat.beq i id = false := by
          cases hx : Nat.beq i id
          · rfl
          · exact absurd (Nat.eq_of_beq_eq_true hx) hi
        rw [hb] at hq
        rw [if_neg hi]
        exact ⟨trivial, l', w', d', rfl, ho, hq⟩
    | panic c => exact hn.elim
    | outgrown => exact hn.elim
    | normal => exact ⟨trivial, l', w', d', rfl, ho, hq⟩
    | goto i => exact ⟨trivial, l', w', d', rfl, ho, hq⟩
    | ret => exact ⟨trivial, l', w', d', rfl, ho, hq⟩) (h a d ha))
/-- Forget all but some slots. -/
theorem ewp_sub {c : Code} (l' : Env) (hs : subs l l') (h : ewp P n c Q l' w) : ewp P n c Q l w := fun a d ha => h a d (ha.sub hs)
/-- A loop: a type of states, what each knows, what holds, and a measure. -/
theorem ewp_loop {c : Code} {X : Type} (E : X → Env) (I : X → World → Prop) (μ : X → Nat) (x₀ : X) (hs : subs l (E x₀)) (h₀ : I x₀ w)
    (round : ∀ x w, I x w → ewp P n c (thn (fun l' w' => ∃ x', subs l' (E x') ∧ I x' w' ∧ μ x' < μ x) Q) (E x) w) : ewp P n (.loop c) Q l w := by
  intro a d ha
  have key : ∀ (m : Nat) (x : X) (a : Act) (w : World) (d : Nat), μ x ≤ m → Ok n a (E x) → I x w → (Code.loop c).wp P (lift n Q) a (dr w d) := by
    intro m x a w d hm hok hI
    refine wp_loop (fun a' w' => ∃ x' w₀ d', w' = dr w₀ d' ∧ Ok n a' (E x') ∧ I x' w₀) (fun a' w' => Classical.epsilon fun k => ∃ x' w₀ d', w' = dr w₀ d' ∧ Ok n a' (E x') ∧ I x' w₀ ∧ μ x' = k ∧
      ∀ x'' w₁ d'', w' = dr w₁ d'' → Ok n a' (E x'') → I x'' w₁ → k ≤ μ x'') ⟨x, w, d, rfl, hok, hI⟩ ?_
    have least : ∀ a' w', (∃ x' w₀ d', w' = dr w₀ d' ∧ Ok n a' (E x') ∧ I x' w₀) → ∃ k, ∃ x' w₀ d', w' = dr w₀ d' ∧ Ok n a' (E x') ∧ I x' w₀ ∧ μ x' = k ∧
        ∀ x'' w₁ d'', w' = dr w₁ d'' → Ok n a' (E x'') → I x'' w₁ → k ≤ μ x'' := by
      intro a' w' ⟨x', w₀, d', hw, ho, hI'⟩
      have : ∀ m x' w₀ d', μ x' ≤ m → w' = dr w₀ d' → Ok n a' (E x') → I x' w₀ → ∃ k, ∃ x' w₀ d', w' = dr w₀ d' ∧ Ok n a' (E x') ∧ I x' w₀ ∧ μ x' = k ∧
          ∀ x'' w₁ d'', w' = dr w₁ d'' → Ok n a' (E x'') → I x'' w₁ → k ≤ μ x'' := by
        intro m
        induction m with
        | zero => exact fun x' w₀ d' hm hw ho hI => ⟨μ x', x', w₀, d', hw, ho, hI, rfl, fun _ _ _ _ _ _ => by omega⟩
        | succ m ih =>
          intro x' w₀ d' hm hw ho hI
          by_cases hex : ∃ x'' w₁ d'', w' = dr w₁ d'' ∧ Ok n a' (E x'') ∧ I x'' w₁ ∧ μ x'' ≤ m
          · obtain ⟨x'', w₁, d'', h1, h2, h3, h4⟩ := hex
            exact ih x'' w₁ d'' h4 h1 h2 h3
          · refine ⟨μ x', x', w₀, d', hw, ho, hI, rfl, fun x'' w₁ d'' h1 h2 h3 => ?_⟩
            rcases Nat.lt_or_ge (μ x'') (μ x') with h | h
            · exact absurd ⟨x'', w₁, d'', h1, h2, h3, by omega⟩ hex
            · exact h
      exact this _ x' w₀ d' (Nat.le_refl _) hw ho hI'
    intro a' w' hinv
    have hk := Classical.epsilon_spec (least a' w' hinv)
    obtain ⟨x', w₀, d', rfl, ho, hI', hμ, hmin⟩ := hk
    refine Code.wp_mono (fun e a'' w'' hl => ?_) (round x' w₀ hI' a' d' ho)
    obtain ⟨hn, l', w₁, d₁, rfl, ho', hq⟩ := hl
    cases e with
    | normal =>
      obtain ⟨x₂, hs₂, hI₂, hlt⟩ := hq
      have ho₂ := ho'.sub hs₂
      refine ⟨⟨x₂, w₁, d₁, rfl, ho₂, hI₂⟩, ?_⟩
      have hk₂ := Classical.epsilon_spec (least a'' (dr w₁ d₁) ⟨x₂, w₁, d₁, rfl, ho₂, hI₂⟩)
      obtain ⟨x₃, w₃, d₃, hw₃, ho₃, hI₃, hμ₃, hmin₃⟩ := hk₂
      have hle := hmin₃ x₂ w₁ d₁ rfl ho₂ hI₂
      exact Nat.lt_of_le_of_lt hle (Nat.lt_of_lt_of_eq hlt hμ)
    | panic c => exact hn.elim
    | outgrown => exact hn.elim
    | exit i => exact ⟨trivial, l', w₁, d₁, rfl, ho', hq⟩
    | goto i => exact ⟨trivial, l', w₁, d₁, rfl, ho', hq⟩
    | ret => exact ⟨trivial, l', w₁, d₁, rfl, ho', hq⟩
  exact key _ x₀ a w d (Nat.le_refl _) (ha.sub hs) h₀
theorem ewp_region {id : Nat} {L : List Oper} (h : owp P n L.toArray Q L l w) : ewp P n (.region id L.toArray false) Q l w := fun a d ha => wp_region_lit (h a d ha)
end code

/-- What an operation yields, leaving the world as it is. -/
def Ev (P : Program) (o : Oper) (l : Env) (w : World) (v : Value) : Prop := ∀ n a d, Ok n a l → (execOp a.eval o).run P (dr w d) = .ok (.value v) (dr w d)

def gdst (ops : Array Oper) (j : Nat) : Option Tmp := (ops[j]?).bind (·.dst)
theorem Ok.yielded {n : Nat} {a : Act} {l : Env} (h : Ok n a l) {ops : Array Oper} {j dj : Nat} {b : Bool} (hj : gdst ops j = some dj) (hl : lk l dj = some (.bool b)) : Go.yielded ops a.tmps j = some b := by
  have h1 := h.knows dj _ hl
  unfold Go.yielded
  unfold gdst at hj
  rw [hj]
  simp only [Option.bind_some]
  rw [Array.getD_eq_getD_getElem?] at h1
  cases hx : a.tmps[dj]? with
  | none => rw [hx] at h1; simp [undef] at h1
  | some u => rw [hx] at h1; simp only [Option.getD_some] at h1; subst h1; rfl

def isB : Value → Bool → Bool
  | .bool true, true => true
  | .bool false, false => true
  | _, _ => false
theorem Ok.unwanted {n : Nat} {a : Act} {l : Env} (h : Ok n a l) {ops : Array Oper} {j dj : Nat} {u : Value} {b : Bool} (hj : gdst ops j = some dj) (hl : lk l dj = some u) (hu : isB u b = false) : (Go.yielded ops a.tmps j == some b) = false := by
  have h1 := h.knows dj _ hl
  unfold Go.yielded
  unfold gdst at hj
  rw [hj]
  simp only [Option.bind_some]
  rw [Array.getD_eq_getD_getElem?] at h1
  cases hx : a.tmps[dj]? with
  | none => rfl
  | some x =>
    rw [hx] at h1
    simp only [Option.getD_some] at h1
    subst h1
    cases x <;> first | rfl | (rename_i c; cases c <;> cases b <;> first | rfl | (simp [isB] at hu))

section ops
variable {P : Program} {n : Nat} {ops : Array Oper} {Q : Post} {rest : List Oper} {l : Env} {w : World}
theorem owp_nil (h : Q .normal l w) : owp P n ops Q [] l w := fun _ _ ha => wpList_nil (lift_mk trivial ha h)
theorem owp_run {dst : Option Tmp} {op : Op} {ty : TypeId} {pos : String} {aft : Array Edge}
    (h : ∀ a d, Ok n a l → ∀ K : Act → World → Prop, (∀ a' w', wpList P ops (lift n Q) rest a' w' → K a' w') → (⟨dst, op, ty, pos, aft, none⟩ : Oper).wp P a (dr w d) K (lift n Q)) : owp P n ops Q (⟨dst, op, ty, pos, aft, none⟩ :: rest) l w :=
  fun a d ha => wpList_plain rfl fun K hK => h a d ha K hK
theorem owp_ev {d : Tmp} {op : Op} {ty : TypeId} {pos : String} {aft : Array Edge} {v : Value} (he : Ev P ⟨some d, op, ty, pos, aft, none⟩ l w v) (hd : Nat.blt d n = true)
    (h : owp P n ops Q rest ((d, v) :: l) w) : owp P n ops Q (⟨some d, op, ty, pos, aft, none⟩ :: rest) l w :=
  owp_run fun a e ha K hK => by
    unfold Oper.wp
    rw [he n a e ha]
    exact hK _ _ (h _ _ (ha.put hd v))
/-- An operation that changes the world by one run. -/
theorem owp_eff {dst : Option Tmp} {op : Op} {ty : TypeId} {pos : String} {aft : Array Edge} {l' : Env} {w' : World}
    (he : ∀ a d, Ok n a l → (∃ v d', (execOp a.eval ⟨dst, op, ty, pos, aft, none⟩).run P (dr w d) = .ok (.value v) (dr w' d') ∧ Ok n (a.put dst v) l') ∨ (∃ d', (execOp a.eval ⟨dst, op, ty, pos, aft, none⟩).run P (dr w d) = .ok .skip (dr w' d') ∧ Ok n (a.put dst undef) l'))
    (h : owp P n ops Q rest l' w') : owp P n ops Q (⟨dst, op, ty, pos, aft, none⟩ :: rest) l w :=
  owp_run fun a e ha K hK => by
    unfold Oper.wp
    rcases he a e ha with ⟨v, d', hr, ho⟩ | ⟨d', hr, ho⟩
    · rw [hr]; exact hK _ _ (h _ _ ho)
    · rw [hr]; exact hK _ _ (h _ _ ho)
theorem owp_yes {dst : Option Tmp} {op : Op} {ty : TypeId} {pos : String} {aft : Array Edge} {j dj : Nat} {b : Bool} (hj : gdst ops j = some dj) (hl : lk l dj = some (.bool b))
    (h : owp P n ops Q (⟨dst, op, ty, pos, aft, none⟩ :: rest) l w) : owp P n ops Q (⟨dst, op, ty, pos, aft, some (j, b)⟩ :: rest) l w := fun a d ha => by
  have h1 := h a d ha
  have hy := ha.yielded hj hl
  unfold wpList at h1 ⊢
  rw [if_pos (by simp [Region.wanted])] at h1
  rw [if_pos (by simp [Region.wanted, hy])]
  exact h1
theorem owp_no {d : Tmp} {op : Op} {ty : TypeId} {pos : String} {aft : Array Edge} {j dj : Nat} {b : Bool} {u : Value} (hj : gdst ops j = some dj) (hl : lk l dj = some u) (hu : isB u b = false) (hd : Nat.blt d n = true)
    (h : owp P n ops Q rest ((d, undef) :: l) w) : owp P n ops Q (⟨some d, op, ty, pos, aft, some (j, b)⟩ :: rest) l w := fun a e ha => by
  have hy := ha.unwanted (b := b) hj hl hu
  unfold wpList
  rw [if_neg (by simpa [Region.wanted] using hy)]
  exact h _ _ (ha.put hd undef)
theorem owp_no0 {op : Op} {ty : TypeId} {pos : String} {aft : Array Edge} {j dj : Nat} {b : Bool} {u : Value} (hj : gdst ops j = some dj) (hl : lk l dj = some u) (hu : isB u b = false)
    (h : owp P n ops Q rest l w) : owp P n ops Q (⟨none, op, ty, pos, aft, some (j, b)⟩ :: rest) l w := fun a e ha => by
  have hy := ha.unwanted (b := b) hj hl hu
  unfold wpList
  rw [if_neg (by simpa [Region.wanted] using hy)]
  exact h _ _ ha
end ops
end Go.Proofs.Ytdhaelekmjgbmaa

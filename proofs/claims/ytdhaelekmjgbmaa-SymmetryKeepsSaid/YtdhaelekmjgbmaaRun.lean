/- Own text: decided and split tests, a function's end, and what is shut against unfolding, for the calculus of XCore. It holds for every program. -/
import Derived.Test.YtdhaelekmjgbmaaDraw
namespace Go.Proofs.Ytdhaelekmjgbmaa
open Go Go.RowKit
section
variable {P : Program} {n : Nat} {ops : Array Oper} {Q : Post} {K : Env → World → Prop} {S : World → Prop} {rest : List Oper} {l : Env} {w : World} {d : Tmp} {op : Op} {ty : TypeId} {pos : String} {aft : Array Edge}
theorem owp_nilT (h : K l w) : owp P n ops (thn K Q) [] l w := owp_nil h
theorem owp_nilB {i : Nat} (h : K l w) : owp P n ops (inBlk i (thn K Q)) [] l w := owp_nil h
theorem hwp_nilB {i : Nat} (h : K l w) : hwp P n ops (inBlk i (thn K Q)) S [] l w := hwp_nil h
theorem owp_nilBB {i j : Nat} (h : K l w) : owp P n ops (inBlk i (inBlk j (thn K Q))) [] l w := owp_nil h
theorem hwp_nilT (h : K l w) : hwp P n ops (thn K Q) S [] l w := hwp_nil h
theorem owp_loud {r : List (Nat × Bool)} (h1 : S w) (h2 : hwp P n ops Q S r l w) : owp P n ops (loud P n ops Q S r) [] l w := owp_nil ⟨fun _ => h1, h2⟩
theorem owp_loudE (h2 : hwp P n ops Q S [] l w) : owp P n ops (loud P n ops Q S []) [] l w := owp_nil ⟨fun h => absurd rfl h, h2⟩
theorem owp_split {p : Prop} [Decidable p] (he : Ev P ⟨some d, op, ty, pos, aft, none⟩ l w (.bool (decide p))) (hd : Nat.blt d n = true) (ht : p → owp P n ops Q rest ((d, .bool true) :: l) w) (hf : ¬ p → owp P n ops Q rest ((d, .bool false) :: l) w) :
    owp P n ops Q (⟨some d, op, ty, pos, aft, none⟩ :: rest) l w := by
  by_cases h : p
  · exact owp_ev (by simpa [h] using he) hd (ht h)
  · exact owp_ev (by simpa [h] using he) hd (hf h)
theorem owp_dT {p : Prop} [Decidable p] (he : Ev P ⟨some d, op, ty, pos, aft, none⟩ l w (.bool (decide p))) (hd : Nat.blt d n = true) (h : p) (ht : owp P n ops Q rest ((d, .bool true) :: l) w) : owp P n ops Q (⟨some d, op, ty, pos, aft, none⟩ :: rest) l w := owp_ev (by simpa [h] using he) hd ht
theorem owp_dF {p : Prop} [Decidable p] (he : Ev P ⟨some d, op, ty, pos, aft, none⟩ l w (.bool (decide p))) (hd : Nat.blt d n = true) (h : ¬ p) (hf : owp P n ops Q rest ((d, .bool false) :: l) w) : owp P n ops Q (⟨some d, op, ty, pos, aft, none⟩ :: rest) l w := owp_ev (by simpa [h] using he) hd hf
/-- The operation that comes next, laid open. -/
def hwq (P : Program) (n : Nat) (ops : Array Oper) (Q : Post) (S : World → Prop) (o : Oper) (r : List (Nat × Bool)) (l : Env) (w : World) : Prop :=
  ∃ d v, o.dst = some d ∧ Nat.blt d n = true ∧ Evg P ops o l S v ∧ hwp P n ops Q S r ((d, v) :: l) w
theorem hwp_o {i : Nat} {o : Oper} {r : List (Nat × Bool)} (hi : ops[i]? = some o) (h : hwq P n ops Q S o r l w) : hwp P n ops Q S ((i, true) :: r) l w := by
  obtain ⟨d, v, h1, h2, h3, h4⟩ := h
  exact hwp_q hi h1 h2 h3 h4
theorem hwq_ev {r : List (Nat × Bool)} {v : Value} (he : ∀ w', S w' → Ev P ⟨some d, op, ty, pos, aft, none⟩ l w' v) (hn : Nat.blt d n = true) (h : hwp P n ops Q S r ((d, v) :: l) w) : hwq P n ops Q S ⟨some d, op, ty, pos, aft, none⟩ r l w := ⟨d, v, rfl, hn, evg he, h⟩
theorem hwq_A {w₀ : World} {r : List (Nat × Bool)} {v : Value} (he : Ev P ⟨some d, op, ty, pos, aft, none⟩ l w₀ v) (hn : Nat.blt d n = true) (h : hwp P n ops Q (· = w₀) r ((d, v) :: l) w) : hwq P n ops Q (· = w₀) ⟨some d, op, ty, pos, aft, none⟩ r l w := ⟨d, v, rfl, hn, evg fun _ e => e ▸ he, h⟩
theorem hwq_no {r : List (Nat × Bool)} {j dj : Nat} {b : Bool} {u : Value} (hj : gdst ops j = some dj) (hl : lk l dj = some u) (hu : isB u b = false) (hn : Nat.blt d n = true) (h : hwp P n ops Q S r ((d, undef) :: l) w) : hwq P n ops Q S ⟨some d, op, ty, pos, aft, some (j, b)⟩ r l w := ⟨d, _, rfl, hn, evg_no hj hl hu, h⟩
theorem hwq_yes {r : List (Nat × Bool)} {j dj : Nat} {b : Bool} (hj : gdst ops j = some dj) (hl : lk l dj = some (.bool b)) (h : hwq P n ops Q S ⟨some d, op, ty, pos, aft, none⟩ r l w) : hwq P n ops Q S ⟨some d, op, ty, pos, aft, some (j, b)⟩ r l w := by
  obtain ⟨d', v, h1, h2, h3, h4⟩ := h
  refine ⟨d', v, h1, h2, fun m a ha => ?_, h4⟩
  rcases h3 m a ha with ⟨_, hv⟩ | ⟨hw, _⟩
  · exact .inl ⟨by simp [Region.wanted, ha.yielded hj hl], hv⟩
  · simp [Region.wanted] at hw
theorem hwq_split {p : Prop} [Decidable p] {r : List (Nat × Bool)} (he : ∀ w', S w' → Ev P ⟨some d, op, ty, pos, aft, none⟩ l w' (.bool (decide p))) (hn : Nat.blt d n = true) (ht : p → hwp P n ops Q S r ((d, .bool true) :: l) w) (hf : ¬ p → hwp P n ops Q S r ((d, .bool false) :: l) w) :
    hwq P n ops Q S ⟨some d, op, ty, pos, aft, none⟩ r l w := by
  by_cases h : p
  · exact hwq_ev (by simpa [h] using he) hn (ht h)
  · exact hwq_ev (by simpa [h] using he) hn (hf h)
theorem hwq_dT {p : Prop} [Decidable p] {r : List (Nat × Bool)} (he : ∀ w', S w' → Ev P ⟨some d, op, ty, pos, aft, none⟩ l w' (.bool (decide p))) (hn : Nat.blt d n = true) (h : p) (ht : hwp P n ops Q S r ((d, .bool true) :: l) w) : hwq P n ops Q S ⟨some d, op, ty, pos, aft, none⟩ r l w := hwq_ev (by simpa [h] using he) hn ht
theorem hwq_dF {p : Prop} [Decidable p] {r : List (Nat × Bool)} (he : ∀ w', S w' → Ev P ⟨some d, op, ty, pos, aft, none⟩ l w' (.bool (decide p))) (hn : Nat.blt d n = true) (h : ¬ p) (hf : hwp P n ops Q S r ((d, .bool false) :: l) w) : hwq P n ops Q S ⟨some d, op, ty, pos, aft, none⟩ r l w := hwq_ev (by simpa [h] using he) hn hf
/-- A drawn region by what has come up so far: for regions in which two acting operations may come up at once. -/
def hws (P : Program) (n : Nat) (ops : Array Oper) (Q : Post) (S : World → Prop) (fuel : Nat) (listed : Array Bool) (l : Env) (w : World) : Prop :=
  Closed ops listed → ∀ a d, Ok n a l → wpAnyG P ops (lift n Q) (fun w' => ∃ d', S (dr w' d')) fuel listed a (dr w d)
def loudS (P : Program) (n : Nat) (ops : Array Oper) (Q : Post) (S : World → Prop) (i : Nat) (fuel : Nat) (listed : Array Bool) : Post
  | .normal, l, w => (isLast ops i = false → S w) ∧ hws P n ops Q S fuel (listed.setIfInBounds i true) l w
  | _, _, _ => False
theorem hws_q {fuel i : Nat} {o : Oper} {v : Value} {listed : Array Bool} (hi : ops[i]? = some o) (hs : Region.noSelect ops = true) (hf : Region.free .any ops listed i = true) (hr : (Region.ready .any ops listed).contains i = true) (hd : o.dst = some d) (hn : Nat.blt d n = true) (he : Evg P ops o l S v) (hS : S w)
    (h : hws P n ops Q S fuel (listed.setIfInBounds i true) ((d, v) :: l) w) : hws P n ops Q S (fuel + 1) listed l w := fun hcl a e ha => by
  have hr' : i ∈ Region.ready .any ops listed := by simpa using hr
  refine wpAnyG_first hi (Region.noSelect_spec hs) (fun c a w hq => hq.1.elim) fuel listed a _ hcl (Region.free_spec hi hf) hr' (he n a ha) ⟨w.drawn, hS⟩ ?_
  rw [hd]
  exact h (hcl.set hr') _ _ (ha.put hn v)
theorem loudS_op {fuel i : Nat} {o : Oper} {listed : Array Bool} (hi : ops[i]? = some o) (hr : i ∈ Region.ready .any ops listed) (h : owp P n ops (loudS P n ops Q S i fuel listed) [o] l w) (hcl : Closed ops listed) (a : Act) (e : Nat) (ha : Ok n a l) :
    wpOp P ops (lift n Q) i (fun a' w' => (isLast ops i = false → ∃ d', S (dr w' d')) ∧ wpAnyG P ops (lift n Q) (fun w' => ∃ d', S (dr w' d')) fuel (listed.setIfInBounds i true) a' w') a (dr w e) := by
  have h1 := h a e ha
  unfold wpList at h1
  unfold wpOp
  simp only [hi]
  have conv : ∀ a' w', lift n (loudS P n ops Q S i fuel listed) .normal a' w' → (isLast ops i = false → ∃ d', S (dr w' d')) ∧ wpAnyG P ops (lift n Q) (fun w' => ∃ d', S (dr w' d')) fuel (listed.setIfInBounds i true) a' w' := by
    rintro a' w' ⟨_, l', w₀, d', rfl, ho, hS, hh⟩
    exact ⟨fun hl => ⟨w₀.drawn, hS hl⟩, hh (hcl.set hr) a' d' ho⟩
  have nope : ∀ e' a' w', lift n (loudS P n ops Q S i fuel listed) e' a' w' → e' = .normal := by
    rintro e' a' w' ⟨hn, l', w₀, d', rfl, ho, hh⟩
    cases e' <;> first | rfl | exact hh.elim
  by_cases hw : Region.wanted o (yielded ops a.tmps) = true
  · rw [if_pos hw] at h1
    rw [if_pos hw]
    rcases h1 with h1 | ⟨h1, a0, w0, h2⟩
    · refine .inl ?_
      unfold Oper.wp at *
      generalize (execOp a.eval o).run P (dr w e) = res at *
      cases res with
      | ok nx w' =>
        cases nx <;> simp only [Oper.upon] at h1 ⊢ <;>
          first
            | exact conv _ _ h1
            | exact Calls.mono h1 (fun en w'' he => by
                cases en with
                | returned v => exact conv _ _ he
                | panicked c => exact absurd (nope _ _ _ he) (by simp)
                | outgrown => obtain ⟨a0, w0, hq⟩ := he; exact absurd (nope _ _ _ hq) (by simp))
            | exact Rows.mono h1 (fun _ _ he => conv _ _ he)
            | exact h1.elim
      | halt x w' => cases x <;> simp only [Oper.upon] at h1 ⊢ <;> first | exact h1.elim | exact absurd (nope _ _ _ h1) (by simp)
    · exact absurd (nope _ _ _ h2) (by simp)
  · rw [if_neg hw] at h1
    rw [if_neg hw]
    exact conv _ _ h1
theorem hws_two {fuel i j : Nat} {oi oj : Oper} {listed : Array Bool} (hr : Region.ready .any ops listed = [i, j]) (hi : ops[i]? = some oi) (hj : ops[j]? = some oj)
    (h1 : owp P n ops (loudS P n ops Q S i fuel listed) [oi] l w) (h2 : owp P n ops (loudS P n ops Q S j fuel listed) [oj] l w) : hws P n ops Q S (fuel + 1) listed l w := fun hcl a e ha => by
  refine ⟨fun h0 => by rw [hr] at h0; simp at h0, fun k hk => ?_⟩
  have hk' := hk
  rw [hr] at hk
  have : k = i ∨ k = j := by simpa using hk
  rcases this with rfl | rfl
  · exact loudS_op hi hk' h1 hcl a e ha
  · exact loudS_op hj hk' h2 hcl a e ha
theorem owp_loudS {fuel i : Nat} {listed : Array Bool} (h1 : S w) (h2 : hws P n ops Q S fuel (listed.setIfInBounds i true) l w) : owp P n ops (loudS P n ops Q S i fuel listed) [] l w := owp_nil ⟨fun _ => h1, h2⟩
/-- From there on one order. -/
theorem hws_ord {fuel : Nat} {listed : Array Bool} (ord : List (Nat × Bool)) (hs : Region.noSelect ops = true) (hl : ord.length = fuel) (hc : ordOk ops listed ord = true) (hS : S w) (h : hwp P n ops Q S ord l w) : hws P n ops Q S fuel listed l w := fun hcl a e ha => by
  subst hl
  exact wpOrd_sound (P := P) hs (Q := lift n Q) (S := fun w' => ∃ d', S (dr w' d')) (fun c a w hq => hq.1) ord listed a (dr w e) hcl hc (fun _ => ⟨w.drawn, hS⟩) (h a e ha)
theorem ewp_drawS [hm : Mixed P] {id : Nat} {L : List Oper} (S : World → Prop) (h : hws P n L.toArray Q S L.toArray.size (Array.replicate L.toArray.size false) l w) : ewp P n (.region id L.toArray true) Q l w := fun a d ha =>
  wp_region_any hm.eq (wpAny_of_G _ _ _ _ (h (fun m om hm => by
      simp only [Array.getD_eq_getD_getElem?, Array.getElem?_replicate] at hm
      split at hm <;> simp at hm) a (d + 1) ha))
/-- The truth of a statement as a Bool. -/
noncomputable def bof (p : Prop) : Bool := @decide p (Classical.propDecidable p)
theorem bof_t {p : Prop} (h : p) : bof p = true := by unfold bof; exact @decide_eq_true p (Classical.propDecidable p) h
theorem bof_f {p : Prop} (h : ¬ p) : bof p = false := by unfold bof; exact @decide_eq_false p (Classical.propDecidable p) h
theorem bof_eq {p q : Prop} (h : p ↔ q) : bof p = bof q := by
  by_cases hp : p
  · rw [bof_t hp, bof_t (h.1 hp)]
  · rw [bof_f hp, bof_f (fun hq => hp (h.2 hq))]
theorem bof_b (b : Bool) : bof (b = true) = b := by
  cases b
  · exact bof_f (by simp)
  · exact bof_t rfl
/-- A call that answers a Bool, split. -/
theorem owp_callB {f : FuncId} [Callable P f] {xs : List Operand} {vs : List Value} {ts : Array TypeId} {p : Prop} {R : World → Prop} (hx : opvs l xs = some vs) (hd : Nat.blt d n = true) (hc : Fn P f vs w fun v w' => v = .bool (bof p) ∧ R w')
    (ht : ∀ w', p → R w' → owp P n ops Q rest ((d, .bool true) :: l) w') (hf : ∀ w', ¬ p → R w' → owp P n ops Q rest ((d, .bool false) :: l) w') : owp P n ops Q (⟨some d, .call { callee := .value (.func f), args := xs.toArray, argTypes := ts }, ty, pos, aft, none⟩ :: rest) l w :=
  owp_call hx hd hc fun v w' ⟨hv, hR⟩ => by
    subst hv
    by_cases h : p
    · rw [bof_t h]; exact ht w' h hR
    · rw [bof_f h]; exact hf w' h hR
/-- A local variable: made and set at once. -/
theorem owp_local {t : TypeId} {z : Value} {size bytes : Nat} [hi : TInfo P t z size bytes] {ty2 : TypeId} {pos2 : String} {aft2 : Array Edge} {y : Operand} {v : Value} (hd : Nat.blt d n = true) (hy : opv ((d, .pointer (some ⟨w.heap.size, 0, none⟩)) :: l) y = some v) (hsz : v.cells.toList.length = size) (h1 : ∀ u ∈ v.cells.toList, u.oneCell' = true)
    (h : ∀ w', New w w' t v.cells.toList → owp P n ops Q rest ((d, .pointer (some ⟨w.heap.size, 0, none⟩)) :: l) w') :
    owp P n ops Q (⟨some d, .alloc t, ty, pos, aft, none⟩ :: ⟨none, .store t (.tmp d) y, ty2, pos2, aft2, none⟩ :: rest) l w := by
  have hz : z.cells.toList.length = size := by simpa using hi.sz
  refine owp_alloc hd fun w1 hN => ?_
  refine owp_store (g := w.heap.size) (o := 0) (by simp [opv, lk]) hy hN.blk hsz (by omega) h1 fun w2 hU => h w2 ?_
  refine ⟨hN.ext.trans (hU.below (Nat.le_refl _)), by rw [hU.size, hN.size], ?_⟩
  have h2 := setFrom_mid v.cells.toList [] z.cells.toList [] (by omega)
  have h3 := hU.blk
  simp only [List.nil_append, List.append_nil, List.length_nil] at h2
  rw [h2] at h3
  exact h3
theorem ev_ne {dst : Option Tmp} {t u : TypeId} {x y : Operand} {k : IntKind} {a b : Int} (hx : opv l x = some (.int k a)) (hy : opv l y = some (.int k b)) : Ev P ⟨dst, .binOp .neq t x y u, ty, pos, aft, none⟩ l w (.bool (decide (a ≠ b))) := by
  have := ev_neq (P := P) (w := w) (dst := dst) (t := t) (u := u) (ty := ty) (pos := pos) (aft := aft) hx hy
  by_cases h : a = b <;> simpa [h] using this
theorem ret1 {fn : Func} {R : Value → World → Prop} {t : Tmp} {v : Value} (hr : fn.results = #[.tmp t]) (hl : lk l t = some v) (h : R v w) : retPost P fn R .ret l w := ⟨v, res1 hr (res_tmp hl), h⟩
theorem ret1v {fn : Func} {R : Value → World → Prop} {r : ResultVar} {v : Value} (hr : fn.results = #[r]) (hl : Res1 P l w r v) (h : R v w) : retPost P fn R .ret l w := ⟨v, res1 hr hl, h⟩
theorem ret2 {fn : Func} {R : Value → World → Prop} {r s : ResultVar} {v u : Value} (hr : fn.results = #[r, s]) (h1 : Res1 P l w r v) (h2 : Res1 P l w s u) (h : R (.tuple #[v, u]) w) : retPost P fn R .ret l w := ⟨_, res2 hr h1 h2, h⟩
theorem ret3 {fn : Func} {R : Value → World → Prop} {r s q : ResultVar} {v u x : Value} (hr : fn.results = #[r, s, q]) (h1 : Res1 P l w r v) (h2 : Res1 P l w s u) (h3 : Res1 P l w q x) (h : R (.tuple #[v, u, x]) w) : retPost P fn R .ret l w := ⟨_, res3 hr h1 h2 h3, h⟩
/-- The round of a loop that counts a natural number. -/
theorem ewp_for {c : Code} {X : Type} (E : X → Env) (I : X → World → Prop) (μ : X → Nat) (x₀ : X) (h₀ : I x₀ w) (hs : subs l (E x₀))
    (round : ∀ x w, I x w → ewp P n c (thn (fun l' w' => ∃ x', subs l' (E x') ∧ I x' w' ∧ μ x' < μ x) Q) (E x) w) : ewp P n (.loop c) Q l w := ewp_loop E I μ x₀ hs h₀ round
end
end Go.Proofs.Ytdhaelekmjgbmaa

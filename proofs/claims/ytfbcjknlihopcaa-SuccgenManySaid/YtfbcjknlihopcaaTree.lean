/- Own text: the decision trees of succgen in memory; contracts of (*Generator).fact and (*node).collect. -/
import Derived.Test.YtfbcjknlihopcaaApply
namespace Go.Proofs.Ytfbcjknlihopcaa
open Go Go.RowKit
attribute [local irreducible] ewp owp hwp hwq hws Ev Evg Fn retPost loud loudS Res1
inductive Tr where
  | nil
  | leaf (ops : List Int)
  | node (nx many : Nat) (vals : Nat → Tr) (rest : Tr)
def TrR (w : World) (F : Nat → Prop) : Tr → Value → Prop
  | .nil, p => p = .pointer none
  | .leaf ops, p => ∃ g ov, p = .pointer (some ⟨g, 0, none⟩) ∧ F g ∧ Blk w g 88 [ov, .bool true, .int .i64 0, .slice none 0 0, .pointer none] ∧ Vb w F ov ops
  | .node nx k vals rest, p => ∃ g A c rp, p = .pointer (some ⟨g, 0, none⟩) ∧ F g ∧ Blk w g 88 [.slice none 0 0, .bool false, .int .i64 (nx : Int), .slice A k c, .pointer rp] ∧ TrR w F rest (.pointer rp) ∧
      ∀ i, i < k → ∃ b o q, A = some ⟨b, o, none⟩ ∧ F b ∧ w.cell? ⟨b, o + i, none⟩ = some (.pointer q) ∧ TrR w F (vals i) (.pointer q)
theorem TrR.agree {w w' : World} {F : Nat → Prop} (ha : Agree F w w') : ∀ {T : Tr} {p : Value}, TrR w F T p → TrR w' F T p
  | .nil, _, h => h
  | .leaf ops, _, ⟨g, ov, h1, h2, h3, h4⟩ => ⟨g, ov, h1, h2, h3.keep (ha g h2), h4.agree ha⟩
  | .node nx k vals rest, _, ⟨g, A, c, rp, h1, h2, h3, h4, h5⟩ => ⟨g, A, c, rp, h1, h2, h3.keep (ha g h2), TrR.agree ha h4, fun i hi => by
      obtain ⟨b, o, q, g1, g2, g3, g4⟩ := h5 i hi
      exact ⟨b, o, q, g1, g2, (ha.cell g2).trans g3, TrR.agree ha g4⟩⟩
theorem TrR.mono {w : World} {F G : Nat → Prop} (hk : ∀ k, F k → G k) : ∀ {T : Tr} {p : Value}, TrR w F T p → TrR w G T p
  | .nil, _, h => h
  | .leaf ops, _, ⟨g, ov, h1, h2, h3, h4⟩ => ⟨g, ov, h1, hk _ h2, h3, h4.mono hk⟩
  | .node nx k vals rest, _, ⟨g, A, c, rp, h1, h2, h3, h4, h5⟩ => ⟨g, A, c, rp, h1, hk _ h2, h3, TrR.mono hk h4, fun i hi => by
      obtain ⟨b, o, q, g1, g2, g3, g4⟩ := h5 i hi
      exact ⟨b, o, q, g1, hk _ g2, g3, TrR.mono hk g4⟩⟩
theorem TrR.form {w : World} {F : Nat → Prop} : ∀ {T : Tr} {p : Value}, TrR w F T p → ∃ q, p = .pointer q
  | .nil, _, h => ⟨none, h⟩
  | .leaf _, _, ⟨_, _, h, _⟩ => ⟨_, h⟩
  | .node .., _, ⟨_, _, _, _, h, _⟩ => ⟨_, h⟩
/-- What a tree collects at a state; which variables it looks at; whether the state fits it. -/
def atN (s : List Int) (i : Nat) : Nat := (s[i]?.getD 0).toNat
def coll (s : List Int) : Tr → List Int
  | .nil => []
  | .leaf ops => ops
  | .node nx _ vals rest => coll s (vals (atN s nx)) ++ coll s rest
def look (s : List Int) : Tr → List Bool → List Bool
  | .nil, l => l
  | .leaf _, l => l
  | .node nx _ vals rest, l => look s rest (look s (vals (atN s nx)) (l.set nx true))
def Fits (s : List Int) : Tr → Prop
  | .nil => True
  | .leaf _ => True
  | .node nx k vals rest => (∃ x : Nat, s[nx]? = some (x : Int) ∧ x < k) ∧ Fits s (vals (atN s nx)) ∧ Fits s rest
theorem look_length (s : List Int) : ∀ (T : Tr) (l : List Bool), (look s T l).length = l.length
  | .nil, _ => rfl
  | .leaf _, _ => rfl
  | .node nx k vals rest, l => by rw [look, look_length s rest, look_length s (vals _)]; simp
theorem Own.own_ne {α β : Type} [Rp α] [Rp β] {w : World} {b1 b2 : Nat} {F G : Nat → Prop} {e1 e2 : TypeId} {u v : Value} {xs : List α} {ys : List β} (h : Own w b1 F e1 u xs) (k : Own w b2 G e2 v ys) (hne : e1 ≠ e2) : ∀ g, u.ownBlock = some g → v.ownBlock ≠ some g := by
  intro g hg hv
  obtain ⟨c1, h1, _⟩ := h
  obtain ⟨c2, h2, _⟩ := k
  rcases h1.2 with ⟨rfl, _⟩ | ⟨g1, cap1, cur1, rfl, _, hh1, _⟩
  · simp [Value.ownBlock] at hg
  · rcases h2.2 with ⟨rfl, _⟩ | ⟨g2, cap2, cur2, rfl, _, hh2, _⟩
    · simp [Value.ownBlock] at hv
    · have e1' : g1 = g := by simpa [Value.ownBlock] using hg
      have e2' : g2 = g := by simpa [Value.ownBlock] using hv
      subst e1'; subst e2'
      rw [hh1] at hh2
      injection hh2 with hh2
      injection hh2 with _ ht
      exact hne ht
theorem Own.kept {α : Type} [Rp α] {w w' : World} {base : Nat} {F : Nat → Prop} {e : TypeId} {v u : Value} {xs : List α} (h : Own w base F e v xs) (hK : Kept w w' u) (hF : ∀ k, F k → k < w.heap.size ∧ u.ownBlock ≠ some k) (hne : ∀ g, v.ownBlock = some g → u.ownBlock ≠ some g) : Own w' base F e v xs :=
  h.agree (fun k hk => hK.block k (hF k hk).1 (hF k hk).2) fun g hg => hK.block g (h.lt g hg).2 (hne g hg)

theorem collect (B : Nat) (s : List Int) : ∀ (T : Tr) (w : World) (p ov sv lv : Value) (out : List Int) (looked : List Bool), B ≤ w.heap.size → TrR w (· < B) T p → Vb w (· < B) sv s → Own w B (· < B) 3 ov out → Own w B (· < B) 4 lv looked →
    Fits s T → looked.length = s.length → out.length + (coll s T).length ≤ 1000000 →
    Fn Try.prog 47 [p, ov, sv, lv] w fun v w' => Own w' B (· < B) 3 v (out ++ coll s T) ∧ Own w' B (· < B) 4 lv (look s T looked) ∧ Below B w w' := by
  intro T
  induction T with
  | nil =>
    intro w p ov sv lv out looked hB hT hs ho hl _ _ hlen
    have hp : p = .pointer none := hT
    subst hp
    refine fn_enter Try.func47 rfl Try.ntmps47 rfl ?_
    ((repeat (first | refine ewp_seq ?_ | refine ewp_block ?_ | refine ewp_region ?_ | refine ewp_skip ?_ | refine ewp_exit ?_ | refine ewp_ret ?_ | refine ewp_true rfl ?_ | refine ewp_false rfl ?_)) <;> (refine o_as rfl rfl ?_ <;> (first | refine owp_nilT ?_ | refine owp_nilB ?_ | refine owp_nilBB ?_ | refine owp_nil ?_)) <;> (repeat (first | refine ewp_seq ?_ | refine ewp_block ?_ | refine ewp_region ?_ | refine ewp_skip ?_ | refine ewp_exit ?_ | refine ewp_ret ?_ | refine ewp_true rfl ?_ | refine ewp_false rfl ?_)) <;> (refine o_mv rfl rfl ?_ <;> refine o_pn rfl rfl ?_ <;> (first | refine owp_nilT ?_ | refine owp_nilB ?_ | refine owp_nilBB ?_ | refine owp_nil ?_)) <;> (repeat (first | refine ewp_seq ?_ | refine ewp_block ?_ | refine ewp_region ?_ | refine ewp_skip ?_ | refine ewp_exit ?_ | refine ewp_ret ?_ | refine ewp_true rfl ?_ | refine ewp_false rfl ?_)) <;> (refine o_mv rfl rfl ?_ <;> refine o_as rfl rfl ?_ <;> (first | refine owp_nilT ?_ | refine owp_nilB ?_ | refine owp_nilBB ?_ | refine owp_nil ?_)) <;> (repeat (first | refine ewp_seq ?_ | refine ewp_block ?_ | refine ewp_region ?_ | refine ewp_skip ?_ | refine ewp_exit ?_ | refine ewp_ret ?_ | refine ewp_true rfl ?_ | refine ewp_false rfl ?_)))
    exact ret1 rfl rfl ⟨by simpa [coll] using ho, hl, Below.refl _ _⟩
  | leaf ops =>
    intro w p ov sv lv out looked hB hT hs ho hl _ _ hlen
    obtain ⟨g, opv', rfl, hg, hb1, hops⟩ := hT
    refine fn_enter Try.func47 rfl Try.ntmps47 rfl ?_
    ((repeat (first | refine ewp_seq ?_ | refine ewp_block ?_ | refine ewp_region ?_ | refine ewp_skip ?_ | refine ewp_exit ?_ | refine ewp_ret ?_ | refine ewp_true rfl ?_ | refine ewp_false rfl ?_)) <;> (refine o_as rfl rfl ?_ <;> (first | refine owp_nilT ?_ | refine owp_nilB ?_ | refine owp_nilBB ?_ | refine owp_nil ?_)) <;> (repeat (first | refine ewp_seq ?_ | refine ewp_block ?_ | refine ewp_region ?_ | refine ewp_skip ?_ | refine ewp_exit ?_ | refine ewp_ret ?_ | refine ewp_true rfl ?_ | refine ewp_false rfl ?_)) <;> (refine o_mv rfl rfl ?_ <;> refine o_pn rfl rfl ?_ <;> (first | refine owp_nilT ?_ | refine owp_nilB ?_ | refine owp_nilBB ?_ | refine owp_nil ?_)) <;> (repeat (first | refine ewp_seq ?_ | refine ewp_block ?_ | refine ewp_region ?_ | refine ewp_skip ?_ | refine ewp_exit ?_ | refine ewp_ret ?_ | refine ewp_true rfl ?_ | refine ewp_false rfl ?_)) <;> (refine o_mv rfl rfl ?_ <;> refine o_nc rfl rfl ?_ <;> refine o_fa rfl rfl ?_ <;> refine o_ld rfl rfl ?_ <;> (first | refine owp_nilT ?_ | refine owp_nilB ?_ | refine owp_nilBB ?_ | refine owp_nil ?_)) <;> (repeat (first | refine ewp_seq ?_ | refine ewp_block ?_ | refine ewp_region ?_ | refine ewp_skip ?_ | refine ewp_exit ?_ | refine ewp_ret ?_ | refine ewp_true rfl ?_ | refine ewp_false rfl ?_)) <;> (refine o_mv rfl rfl ?_ <;> refine o_mv rfl rfl ?_ <;> refine o_nc rfl rfl ?_ <;> refine o_fa rfl rfl ?_ <;> refine o_ld rfl rfl ?_) <;> (repeat (first | refine ewp_seq ?_ | refine ewp_block ?_ | refine ewp_region ?_ | refine ewp_skip ?_ | refine ewp_exit ?_ | refine ewp_ret ?_ | refine ewp_true rfl ?_ | refine ewp_false rfl ?_)))
    simp only [coll] at hlen
    refine owp_appendS rfl rfl rfl ho (fun k hk => Nat.lt_of_lt_of_le hk hB) hB hops (by decide) (by omega) (by omega) rfl fun v' w1 ho1 hK => ?_
    (refine o_as rfl rfl ?_ <;> (first | refine owp_nilT ?_ | refine owp_nilB ?_ | refine owp_nilBB ?_ | refine owp_nil ?_))
    repeat (first | refine ewp_seq ?_ | refine ewp_block ?_ | refine ewp_region ?_ | refine ewp_skip ?_ | refine ewp_exit ?_ | refine ewp_ret ?_ | refine ewp_true rfl ?_ | refine ewp_false rfl ?_)
    refine ret1 rfl rfl ⟨ho1, ?_, ho.fits (Nat.le_refl _) hB hK⟩
    exact hl.kept hK (fun k hk => ⟨Nat.lt_of_lt_of_le hk hB, fun he => by have := (ho.lt k he).1; have : k < B := hk; omega⟩) (fun g hg => hl.own_ne ho (by decide) g hg)
  | node nx k vals rest ih1 ih2 =>
    intro w p ov sv lv out looked hB hT hs ho hl hfit hll hlen
    obtain ⟨g, A, c, rp, rfl, hg, hb1, hrest, hvals⟩ := hT
    obtain ⟨⟨x, hx, hxk⟩, hfit1, hfit2⟩ := hfit
    obtain ⟨bv, ovv, q, rfl, hbv, hcv, hq⟩ := hvals x hxk
    obtain ⟨As, cs, rfl⟩ := hs.form
    obtain ⟨bs, os, ce, rfl, hbs, _, hds, rfl, _⟩ := hs.elem hx
    have hnx := lt_of_some hx
    have hat : atN s nx = x := by simp [atN, hx]
    obtain ⟨gl, capl, _, _, rfl, _⟩ := hl.open (by omega)
    refine fn_enter Try.func47 rfl Try.ntmps47 rfl ?_
    have hll' : nx < looked.length := by omega
    ((repeat (first | refine ewp_seq ?_ | refine ewp_block ?_ | refine ewp_region ?_ | refine ewp_skip ?_ | refine ewp_exit ?_ | refine ewp_ret ?_ | refine ewp_true rfl ?_ | refine ewp_false rfl ?_)) <;> (refine o_as rfl rfl ?_ <;> (first | refine owp_nilT ?_ | refine owp_nilB ?_ | refine owp_nilBB ?_ | refine owp_nil ?_)) <;> (repeat (first | refine ewp_seq ?_ | refine ewp_block ?_ | refine ewp_region ?_ | refine ewp_skip ?_ | refine ewp_exit ?_ | refine ewp_ret ?_ | refine ewp_true rfl ?_ | refine ewp_false rfl ?_)) <;> (refine o_mv rfl rfl ?_ <;> refine o_pn rfl rfl ?_ <;> (first | refine owp_nilT ?_ | refine owp_nilB ?_ | refine owp_nilBB ?_ | refine owp_nil ?_)) <;> (repeat (first | refine ewp_seq ?_ | refine ewp_block ?_ | refine ewp_region ?_ | refine ewp_skip ?_ | refine ewp_exit ?_ | refine ewp_ret ?_ | refine ewp_true rfl ?_ | refine ewp_false rfl ?_)) <;> (refine o_mv rfl rfl ?_ <;> refine o_nc rfl rfl ?_ <;> refine o_fa rfl rfl ?_ <;> refine o_ld rfl rfl ?_ <;> (first | refine owp_nilT ?_ | refine owp_nilB ?_ | refine owp_nilBB ?_ | refine owp_nil ?_)) <;> (repeat (first | refine ewp_seq ?_ | refine ewp_block ?_ | refine ewp_region ?_ | refine ewp_skip ?_ | refine ewp_exit ?_ | refine ewp_ret ?_ | refine ewp_true rfl ?_ | refine ewp_false rfl ?_)) <;> (refine o_mv rfl rfl ?_ <;> refine o_mv rfl rfl ?_ <;> refine o_nc rfl rfl ?_ <;> refine o_fa rfl rfl ?_ <;> refine o_ld rfl rfl ?_ <;> refine o_ia rfl rfl rfl ?_) <;> (repeat (first | refine ewp_seq ?_ | refine ewp_block ?_ | refine ewp_region ?_ | refine ewp_skip ?_ | refine ewp_exit ?_ | refine ewp_ret ?_ | refine ewp_true rfl ?_ | refine ewp_false rfl ?_)))
    refine owp_setElem (i := nx) (a := true) rfl rfl rfl hl hll' (show Vb w (· < B) (.bool true) true from rfl) fun w1 hl1 hK1 hz1 => ?_
    have hB1 : Below B w w1 := hl.fits (Nat.le_refl _) hB hK1
    have ho1 : Own w1 B (· < B) 3 ov out := ho.kept hK1 (fun k hk => ⟨Nat.lt_of_lt_of_le hk hB, fun he => by have := (hl.lt k he).1; have : k < B := hk; omega⟩) (fun g hg => ho.own_ne hl (by decide) g hg)
    ((first | refine owp_nilT ?_ | refine owp_nilB ?_ | refine owp_nilBB ?_ | refine owp_nil ?_))
    repeat (first | refine ewp_seq ?_ | refine ewp_block ?_ | refine ewp_region ?_ | refine ewp_skip ?_ | refine ewp_exit ?_ | refine ewp_ret ?_ | refine ewp_true rfl ?_ | refine ewp_false rfl ?_)
    have hag : ∀ w', Below B w1 w' → Agree (· < B) w w' := fun w' h k hk => (hB1.trans h).block k hk
    replace hb1 : ∀ w', Below B w1 w' → Blk w' g 88 [.slice none 0 0, .bool false, .int .i64 (nx : Int), .slice (some ⟨bv, ovv, none⟩) k c, .pointer rp] := fun w' h => hb1.keep (hag w' h g hg)
    have hd1 : ∀ w', Below B w1 w' → cellsAt w' bs (os + nx * 1) [.int .i64 (x : Int)] := fun w' h => cellsAt_agree (hag w' h) hbs hds
    have hc1 : ∀ w', Below B w1 w' → w'.cell? ⟨bv, ovv + x * 1, none⟩ = some (.pointer q) := fun w' h => by rw [Nat.mul_one]; exact ((hag w' h).cell hbv).trans hcv
    refine ewp_draw (Below B w1) [(0, true), (1, true), (2, true), (3, true), (4, true), (5, true), (6, true), (7, true), (8, true), (9, true), (10, true), (11, true), (12, true), (13, true), (14, true), (15, true), (16, true), (17, true), (18, true), (19, true), (21, true), (22, true), (20, false), (23, false), (24, true)] (by kernel_rfl) rfl (by kernel_rfl) (Below.refl _ _) ?_
    (refine h_mv rfl rfl rfl ?_ <;> refine h_nc rfl rfl rfl ?_ <;> refine h_fa rfl rfl rfl ?_ <;> (first | refine h_ldB rfl rfl rfl ?_ | refine h_ldC rfl rfl rfl ?_) <;> refine h_mv rfl rfl rfl ?_ <;> refine h_nc rfl rfl rfl ?_ <;> refine h_fa rfl rfl rfl ?_ <;> (first | refine h_ldB rfl rfl rfl ?_ | refine h_ldC rfl rfl rfl ?_) <;> refine h_mv rfl rfl rfl ?_ <;> refine h_mv rfl rfl rfl ?_ <;> refine h_nc rfl rfl rfl ?_ <;> refine h_fa rfl rfl rfl ?_ <;> (first | refine h_ldB rfl rfl rfl ?_ | refine h_ldC rfl rfl rfl ?_) <;> refine h_ia rfl rfl rfl rfl ?_ <;> (first | refine h_ldB rfl rfl rfl ?_ | refine h_ldC rfl rfl rfl ?_) <;> refine h_ia rfl rfl rfl rfl ?_ <;> (first | refine h_ldB rfl rfl rfl ?_ | refine h_ldC rfl rfl rfl ?_) <;> refine h_mv rfl rfl rfl ?_ <;> refine h_mv rfl rfl rfl ?_ <;> refine h_mv rfl rfl rfl ?_ <;> refine h_mv rfl rfl rfl ?_ <;> refine h_mv rfl rfl rfl ?_)
    refine hwp_loud rfl ?_
    simp only [coll, hat, List.length_append] at hlen
    refine owp_call rfl rfl (ih1 x w1 (.pointer q) ov _ _ out (looked.set nx true) (Nat.le_trans hB hB1.size) (TrR.agree (hag w1 (Below.refl _ _)) hq) (hs.agree (hag w1 (Below.refl _ _))) ho1 hl1 (hat ▸ hfit1) (by simpa using hll) (by omega)) ?_
    rintro v2 w2 ⟨ho2, hl2, hB2⟩
    refine owp_loud hB2 ?_
    refine hwp_loud rfl ?_
    refine owp_call rfl rfl (ih2 w2 (.pointer rp) v2 _ _ (out ++ coll s (vals x)) (look s (vals x) (looked.set nx true)) (Nat.le_trans hB (hB1.trans hB2).size) (TrR.agree (hag w2 hB2) hrest) (hs.agree (hag w2 hB2)) ho2 hl2 hfit2 (by rw [look_length]; simpa using hll) (by rw [List.length_append]; omega)) ?_
    rintro v3 w3 ⟨ho3, hl3, hB3⟩
    refine owp_loud (hB2.trans hB3) ?_
    (refine h_as rfl rfl rfl ?_ <;> (first | refine hwp_nilT ?_ | refine hwp_nilB ?_ | refine hwp_nil ?_))
    repeat (first | refine ewp_seq ?_ | refine ewp_block ?_ | refine ewp_region ?_ | refine ewp_skip ?_ | refine ewp_exit ?_ | refine ewp_ret ?_ | refine ewp_true rfl ?_ | refine ewp_false rfl ?_)
    exact ret1 rfl rfl ⟨by simpa [coll, hat] using ho3, by simpa [look, hat] using hl3, hB1.trans (hB2.trans hB3)⟩
end Go.Proofs.Ytfbcjknlihopcaa

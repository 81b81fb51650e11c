/- SuccgenKeeps returns true for every task, and the task reads behind the call as before. No conditions. -/
import Derived.Test.YtfbcjknlihopcaaKpC
import Derived.Test.YtfbcjknlihopcaaRows
set_option linter.unusedVariables false
set_option linter.unusedSimpArgs false
namespace Go.Proofs.Ytfbcjknlihopcaa
open Go Go.RowKit
section
open Go Go.RowKit
theorem rngN_go {σ ρ β : Type} {f : Nat → σ → Option (Ctl σ ρ)} {N : Nat} {s₀ : σ} {k : Fin σ ρ → Option β} {r : Option β} (I : Nat → σ → Prop) (h0 : I 0 s₀) (h : ∀ i s, i < N → I i s → ∃ s', f i s = some (.next s') ∧ I (i + 1) s') (hb : ∀ s, I N s → k (.done s) = r) : bnd (rngN f N s₀) k = r := by
  obtain ⟨s', h1, h2⟩ := rngN_all I h0 h
  rw [h1, bnd_some]; exact hb s' h2
theorem rngN_exk {σ ρ β : Type} {f : Nat → σ → Option (Ctl σ ρ)} {N : Nat} {s₀ : σ} {k : Fin σ ρ → Option β} {P : β → Prop} (I : Nat → σ → Prop) (h0 : I 0 s₀) (h : ∀ i s, i < N → I i s → ∃ s', f i s = some (.next s') ∧ I (i + 1) s') (hb : ∀ s, I N s → ∃ r, k (.done s) = some r ∧ P r) : ∃ r, bnd (rngN f N s₀) k = some r ∧ P r := by
  obtain ⟨s', h1, h2⟩ := rngN_all I h0 h
  rw [h1, bnd_some]; exact hb s' h2
theorem rng_exk {α σ ρ β : Type} {f : Nat → α → σ → Option (Ctl σ ρ)} {xs : List α} {s₀ : σ} {k : Fin σ ρ → Option β} {P : β → Prop} (I : Nat → σ → Prop) (h0 : I 0 s₀) (h : ∀ i x s, xs[i]? = some x → I i s → ∃ s', f i x s = some (.next s') ∧ I (i + 1) s') (hb : ∀ s, I xs.length s → ∃ r, k (.done s) = some r ∧ P r) : ∃ r, bnd (rng f xs 0 s₀) k = some r ∧ P r := by
  obtain ⟨s', h1, h2⟩ := rng_all I h0 h
  rw [h1, bnd_some]; exact hb s' h2
theorem nxt_of {σ ρ : Type} {x : Option (Ctl σ ρ)} {J : σ → Prop} (h : ∃ r, x = some r ∧ ∃ s', r = .next s' ∧ J s') : ∃ s', x = some (.next s') ∧ J s' := by
  obtain ⟨r, h, s', e, j⟩ := h
  exact ⟨s', by rw [h, e], j⟩
theorem succ_nr {t : Tsk} {s : List Int} (hok : TaskOk t) (hl : s.length ≤ 1000000) : m_succgen_Generator_Successors_nr (some ⟨t⟩) s = some ((appS t s).map (sucOf t s)) := by
  have := succ_eq hok hl
  unfold m_succgen_Generator_Successors at this
  unfold m_succgen_Generator_Successors_nr
  exact this
theorem keeps_eq (t : Tsk) : m_law24_SuccgenKeeps t = some true := by
  unfold m_law24_SuccgenKeeps
  by_cases h : SmallOk t
  case neg => rw [small_f h, bnd_some, if_f, bnd_some, if_t, awake_eq, bnd_some, if_t, bnd_some]
  have hok := h.ok
  have hv := hok.1
  have hol := hok.2.1
  rw [small_t h, bnd_some, if_t, awake_eq, bnd_some, if_t, bnd_some, if_f, appI_eq (by simp; omega) (by simp; omega), bnd_some, List.nil_append]
  rw [rng_from (fun k => t.ops.take k) (by simp) (fun k o hk => by
    have hlt := lt_of_get hk
    have h1 := factsOk_len (hok.pre k o hk)
    have h2 := (hok.2.2.2.2.2 k o hk).2.2.1
    rw [appI_eq (by simp; omega) (by simp; omega), bnd_some, appI_eq (by simp; omega) (by simp; omega), bnd_some, List.nil_append, List.nil_append, appI_eq (by simp; omega) (by simp; omega), bnd_some, List.take_add_one, hk]
    rfl)]
  rw [bnd_some, fin_d, List.take_length]
  show bnd (m_succgen_New t) _ = _
  rw [new_ok hok, bnd_some, if_neg (by simp)]
  refine rngN_go (fun _ s => s.length = t.ops.length) rfl (fun k s hk hI => ?_) (fun s _ => ?_)
  · obtain ⟨a, ha⟩ := some_of_lt (l := s) (k := k) (by omega)
    refine nxt_of ?_
    rw [ha, bnd_some]
    refine rng_exk (fun _ s' => s'.length = t.ops.length ∧ ∃ b, s'[k]? = some b ∧ b.pre.length = a.pre.length) ⟨hI, a, ha, rfl⟩ (fun i x s' hx hs' => ?_) (fun s' hs' => ?_)
    · obtain ⟨hl, b, hb, hbl⟩ := hs'
      obtain ⟨f, hf⟩ := some_of_lt (l := b.pre) (k := i) (by have := lt_of_get hx; omega)
      rw [hb, bnd_some, hf, bnd_some, bnd_some]
      exact ⟨_, rfl, by simp [hl], _, List.getElem?_set_self (by omega), by simp [hbl]⟩
    · obtain ⟨hl, b, hb, _⟩ := hs'
      rw [fin_d, hb, bnd_some]
      refine rng_exk (fun _ s'' => s''.length = t.ops.length ∧ ∃ c, s''[k]? = some c ∧ c.effs.length = b.effs.length) ⟨hl, b, hb, rfl⟩ (fun i x s'' hx hs'' => ?_) (fun s'' hs'' => ?_)
      · obtain ⟨hl2, c, hc, hcl⟩ := hs''
        obtain ⟨f, hf⟩ := some_of_lt (l := c.effs) (k := i) (by have := lt_of_get hx; omega)
        rw [hc, bnd_some, hf, bnd_some]
        exact ⟨_, rfl, by simp [hl2], _, List.getElem?_set_self (by omega), by simp [hcl]⟩
      · exact ⟨_, rfl, s'', rfl, hs''.1⟩
  rw [fin_d, states_small h, bnd_some, rng_unit, bnd_some, fin_d]
  intro k s hk
  have hs := mem_statesL.1 (List.mem_of_getElem? hk)
  have hl := state_len hok hs
  have hal := appS_len t s
  rw [succ_nr hok hl, bnd_some]
  refine rngN_go (fun _ q => q.length = ((appS t s).map (sucOf t s)).length) rfl (fun i q hi hq => ?_) (fun q _ => ?_)
  · obtain ⟨a, ha⟩ := some_of_lt (l := q) (k := i) (by omega)
    refine nxt_of ?_
    rw [ha, bnd_some]
    refine rngN_exk (fun _ u => u.length = a.state.length) rfl (fun j u hj hu => ?_) (fun u _ => ?_)
    · obtain ⟨x, hx⟩ := some_of_lt (l := u) (k := j) (by omega)
      rw [hx, bnd_some, bnd_some]
      exact ⟨_, rfl, by simp [hu]⟩
    · exact ⟨_, rfl, _, rfl, by simp [hq]⟩
  rw [fin_d, appl_ok hs hl, bnd_some]
  have hn : (appl t s).length ≤ 4096 := by rw [← appS_ok hs]; omega
  refine lop_bnd (fun u => 0 ≤ u.1 ∧ u.2.length = (appl t s).length) (fun _ => True) (fun u => ((appl t s).length - u.1).toNat) ⟨by simp, rfl⟩ (fun u hu => ?_) (fun u _ => ?_)
  · obtain ⟨h1, h2⟩ := hu
    by_cases hc : u.1 < ((appl t s).length : Int)
    · obtain ⟨j, hj⟩ := Int.eq_ofNat_of_zero_le h1
      obtain ⟨x, hx⟩ := some_of_lt (l := u.2) (k := j) (by omega)
      rw [if_pos hc, hj, atI_eq, hx, bnd_some, wr_eq (by unfold inI64; omega)]
      exact .inl ⟨_, rfl, ⟨by simp only; omega, by simp [h2]⟩, by simp only; omega⟩
    · rw [if_neg hc]; exact .inr ⟨_, rfl, trivial⟩
  rw [fin_d, right_eq hok hs, bnd_some, if_t]
end
section
open Go Go.RowKit Go.ChangeShapes Go.WideShapes Go.Deep
theorem lawKeeps {w : World} {v0 : Value} {a0 : Tsk} (h0 : V w v0 a0) : Fn Try.prog 7 [v0] w fun v w' => v = .bool true ∧ Ext w w' :=
  (c_law24_SuccgenKeeps (fun _ h => h) h0 (keeps_eq a0)).mono fun _ _ h => ⟨h.2.bool, h.1⟩
set_option maxRecDepth 100000 in
theorem succgenKeeps_lifted (os : Os) (started : os.Started) (H : Type) (enc : TypeId × Value → H) :
    ReturnsInHanded {} Try.checked os 7 .any (Rows.succgenKeepsSpec.pre6 enc Try.prog Try.f7 Rows.succgenKeepsRow.domain false) (Rows.succgenKeepsSpec.post enc Try.prog Try.f7 false true false false) := by
  refine returnsInHanded_of_change (C := Try.checked) ownTry started (by kernel_rfl) Try.func7 (ChangeSpec.witness6 (enc := enc) (C := Try.checked) false ⟨#[], #[(.agg #[.slice none 0 0, .slice none 0 0, .slice none 0 0, .slice none 0 0])], []⟩ 8 (by kernel_rfl) (by kernel_rfl) (by kernel_rfl) (by kernel_rfl)) ?_
  intro W base args ds gs before hval hW _ _
  have hopen : ∀ p, DataW.TrodAll enc Try.prog W 0 (fun _ => true) true Try.f7.params.toList args.toList ds p → ∃ v0 d0, args = #[v0] ∧ ds = [d0] ∧ (∃ a : Tsk, V W v0 a) := by
    intro p hA
    rw [Try.params7] at hA
    replace hval : ∀ (j : Nat) t v, (#[26] : Array TypeId)[j]? = some t → args[j]? = some v → Value.okWide Try.prog W .any base t v := by rw [← Try.params7]; exact hval
    obtain ⟨v0, vs0, d0, ds0, p0, q0, g0, e0, _, h0, r0⟩ := trodAll_cons hA
    obtain ⟨g, e, _⟩ := trodAll_nil r0
    rw [g] at g0; rw [e] at e0
    obtain rfl : args = #[v0] := by cases args; simp_all
    exact ⟨v0, d0, rfl, e0, (by first | exact openAgg rfl (hval 0 26 v0 rfl rfl) h0 | exact openOne rfl (hval 0 26 v0 rfl rfl) h0)⟩
  refine lawPost rfl (by kernel_rfl) (by rw [Try.params7]; exact of_decide_eq_true (by kernel_rfl)) hW ?_ ?_
  · intro p hA
    obtain ⟨v0, d0, _, rfl, _⟩ := hopen p hA
    rfl
  · intro p hA
    obtain ⟨v0, d0, rfl, _, ⟨a0, h0⟩⟩ := hopen p hA
    exact lawKeeps h0
theorem succgenKeeps_holds : Rows.SuccgenKeepsSaid :=
  OpenClaim.holds_of_wide 7 Try.f7 rfl rfl rfl rfl rfl rfl rfl ⟨rfl, rfl, rfl, rfl, rfl⟩ rfl rfl rfl rfl rfl (by kernel_rfl) Try.func7 (by kernel_rfl)
    (of_decide_eq_true (by kernel_rfl)) (by unfold Func.isWrapper; first | (rw [if_pos (by decide +kernel)]; kernel_rfl) | (rw [if_neg (by decide +kernel)]; exact ⟨rfl, rfl⟩))
    (fun os started H enc _ => succgenKeeps_lifted os started H enc)
#print axioms succgenKeeps_holds
end
end Go.Proofs.Ytfbcjknlihopcaa

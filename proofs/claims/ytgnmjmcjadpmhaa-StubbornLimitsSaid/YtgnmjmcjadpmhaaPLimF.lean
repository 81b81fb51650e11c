/- StubbornLimits returns true for every task and every limit, and the task reads behind the call as before. No conditions. -/
import Derived.Test.YtgnmjmcjadpmhaaPLimE
import Derived.Test.YtgnmjmcjadpmhaaRows
namespace Go.Proofs.Ytgnmjmcjadpmhaa
open Go Go.RowKit
section
open Go Go.RowKit
theorem costL_pos {t : Tsk} (h : TaskOk t) : ∀ ks : List Nat, 0 ≤ costL t ks
  | [] => by simp [costL]
  | k :: ks => by
    have h1 := costL_pos h ks
    simp only [costL]
    cases ho : t.ops[k]? with
    | none => simp; exact h1
    | some o => have := (h.2.2.2.2.2 k o ho).1; simp; omega
theorem walkS_run {t : Tsk} (h : TaskOk t) : ∀ (n : Nat) {s s' : List Int} {ks : List Nat}, ks.length ≤ n → StateOk t.vars s → Run t s ks s' → holdsB t.goal s' = true → ∃ C, C ≤ costL t ks ∧ WalkS t (stubL t) s C := by
  intro n
  induction n with
  | zero =>
    intro s s' ks hn hs hr hg
    have : ks = [] := List.length_eq_zero_iff.1 (by omega)
    subst this
    cases hr
    exact ⟨0, by simp [costL], .goal hg⟩
  | succ n ih =>
    intro s s' ks hn hs hr hg
    by_cases hgs : holdsB t.goal s = true
    · exact ⟨0, costL_pos h ks, .goal hgs⟩
    · obtain ⟨k, o, ks', ho, hclo, hp, hrun, hperm⟩ := safe h hs (by simpa using hgs) hr hg
      have hll := hperm.length_eq
      simp only [List.length_cons] at hll
      obtain ⟨C, c1, c2⟩ := ih (by omega) (succ_ok h hs ho) hrun hg
      refine ⟨C + o.cost, ?_, .step ho ?_ c2⟩
      · rw [← costL_perm hperm]
        simp only [costL, ho, Option.map_some, Option.getD_some]
        omega
      · unfold stubL
        exact mem_pick.2 ⟨k, rfl, lt_of_get ho, by rw [bof_t hclo, ho]; simp [hp]⟩
theorem walkS_of {t : Tsk} (h : TaskOk t) {s : List Int} (hs : StateOk t.vars s) {C : Int} (hw : Walk t s C) : ∃ C', C' ≤ C ∧ WalkS t (stubL t) s C' := by
  obtain ⟨n, ks, s', hr, hg, hc, _⟩ := walk2_of hw
  obtain ⟨C', c1, c2⟩ := walkS_run h ks.length (Nat.le_refl _) hs hr hg
  exact ⟨C', by omega, c2⟩
theorem tApply_eq {t : Tsk} (h : TaskOk t) {s : List Int} (hs : StateOk t.vars s) {k : Nat} {o : Opr} (ho : t.ops[k]? = some o) (hp : holdsB o.pre s = true) : m_task_Apply t s (k : Int) = some (succ o s, ⟨0⟩) := by
  unfold m_task_Apply
  rw [check_t h, bnd_some, if_neg (by simp)]
  have : m_task_apply t s (k : Int) = some (succ o s, ⟨0⟩) := by
    have hkl := lt_of_get ho
    unfold m_task_apply
    rw [if_neg (by omega), if_neg (by omega), bnd_some, if_f]
    unfold m_task_Proper
    rw [bnd_some, bof_t hs, if_t, atI_eq, ho, bnd_some, tholds_eq, bnd_some]
    have hc : m_slices_Clone_Lint_int s = some s := if_pos ⟨by have := hs.1; have := h.1; omega, by have := hs.1; have := h.1; omega⟩
    rw [if_pos hp, hc, bnd_some, bnd_some, effs_run (h.effs hs k o ho) m_task_Holds tholds_eq s rfl, bnd_some, fin_d]
    rfl
  rw [this, bnd_some]
theorem few_states {t : Tsk} (hs : SmallOk t) {r : Reg} {L : List (List Int)} (h : RegI t.vars r L) : L.length ≤ 512 := by
  refine Nat.le_trans (nodup_sub (b := statesL t.vars) ?_ fun s hm => ?_) hs.many
  · rw [List.nodup_iff_pairwise_ne, List.pairwise_iff_getElem]
    intro i j hi hj hij he
    have := h.nodup i j L[i] (List.getElem?_eq_getElem hi) (by rw [he]; exact List.getElem?_eq_getElem hj)
    omega
  · obtain ⟨i, hi⟩ := List.getElem?_of_mem hm
    exact mem_statesL.2 (h.st i s hi)
/-- What is true of a search at all times. -/
structure SchI (t : Tsk) (D : Nat → Int → Prop) (ord : Nat → Nat) (L : List (List Int)) (N : Nat) (x : Sch) : Prop where
  tt : x.t = t
  reg : RegI t.vars x.states L
  inv : SrI t (stubL t) D L (links x.states) x.costs x.fin x.que.heap ord x.exp.toNat
  exp0 : 0 ≤ x.exp
  heap : HeapOk x.que.heap
  nxt0 : 0 ≤ x.que.next
  nxt : x.que.next ≤ (N : Int)
  qlen : x.que.heap.length ≤ N
theorem SchI.exp {t : Tsk} (hs : SmallOk t) {D : Nat → Int → Prop} {ord : Nat → Nat} {L : List (List Int)} {N : Nat} {x : Sch} (h : SchI t D ord L N x) : x.exp ≤ 512 := by
  have h1 := h.inv.num
  have h2 := cnt_le x.fin
  have h3 := h.inv.lenf
  have h4 := few_states hs h.reg
  have := h.exp0
  omega
theorem reach_tail {t : Tsk} {y : Sch} {L : List (List Int)} (hr : RegI t.vars y.states L) {i : Nat} (hi : i < L.length) {p q : Nat} (hp : p < L.length) {c : Int} (hh : HeapOk y.que.heap) (hl : y.que.heap.length ≤ 20000) (hn0 : 0 ≤ y.que.next) (hn : y.que.next ≤ 20000) :
    ∃ (reg' : Reg) (que' : Que), (bnd (m_registry_Registry_SetLink y.states (i : Int) (p : Int) (q : Int) c) fun q266 => if q266.1.n ≠ 0 then (some ((⟨q266.1.n⟩ : Err), (⟨(⟨y.t.vars, y.t.init, y.t.goal, y.t.ops⟩ : Tsk), q266.2, y.que, (y.costs.set ((i : Int)).toNat c), y.fin, y.exp⟩ : Sch))) else (bnd (m_pqueue_Queue_Push y.que c 0 (i : Int)) fun q282 => some ((⟨q282.1.n⟩ : Err), (⟨(⟨y.t.vars, y.t.init, y.t.goal, y.t.ops⟩ : Tsk), q266.2, q282.2, (y.costs.set ((i : Int)).toNat c), y.fin, y.exp⟩ : Sch)))) = some (⟨0⟩, ⟨y.t, reg', que', y.costs.set i c, y.fin, y.exp⟩) ∧ RegI t.vars reg' L ∧ links reg' = (links y.states).set i ⟨(p : Int), (q : Int), c⟩ ∧ HeapOk que'.heap ∧ que'.heap.Perm (⟨c, 0, (i : Int), y.que.next⟩ :: y.que.heap) ∧ que'.next = y.que.next + 1 := by
  obtain ⟨reg', s1, s2, s3⟩ := setLink_eq hr hi (p := (p : Int)) (o := (q : Int)) (c := c) (.inr ⟨p, rfl, hp⟩)
  obtain ⟨⟨er, que'⟩, u1, u2, u3, u4, u5⟩ := push_eq hh (by omega) ⟨hn0, by omega⟩ c 0 (i : Int)
  dsimp only at u2 u3 u4 u5
  subst u2
  refine ⟨reg', que', ?_, s2, s3, u3, u4, u5⟩
  rw [s1, bnd_some, if_neg (by simp), u1, bnd_some, Int.toNat_natCast]
theorem links_len {vars : List Int} {r : Reg} {L : List (List Int)} (h : RegI vars r L) : (links r).length = L.length := by unfold links; rw [List.length_map, h.len]
theorem reach_eq {t : Tsk} (hs : SmallOk t) {D : Nat → Int → Prop} {ord : Nat → Nat} {L : List (List Int)} {N : Nat} {x : Sch} (h : SchI t D ord L N x) (hN : N ≤ 20000) {p q : Nat} {o : Opr} {sp : List Int} {cp : Int} (ho : t.ops[q]? = some o) (hsp : L[p]? = some sp) (hfp : x.fin[p]? = some true) (hpre : holdsB o.pre sp = true) (hgp : x.costs[p]? = some cp)
    (hmax : ∀ (j : Nat) c, x.fin[j]? = some true → x.costs[j]? = some c → c ≤ cp) (hcb : cp ≤ (x.exp - 1) * 1048576) :
    ∃ r, m_stubborn_search_reach x (succ o sp) (p : Int) (q : Int) (cp + o.cost) = some r ∧ r.1 = ⟨0⟩ ∧ ∃ L', SchI t D ord L' (N + 1) r.2 ∧ r.2.exp = x.exp ∧ L'[p]? = some sp ∧ r.2.fin[p]? = some true ∧ r.2.costs[p]? = some cp ∧ (∀ (j : Nat) c, r.2.fin[j]? = some true → r.2.costs[j]? = some c → c ≤ cp) ∧
      ∃ (i : Nat) (c' : Int), L'[i]? = some (succ o sp) ∧ r.2.costs[i]? = some c' ∧ c' ≤ cp + o.cost := by
  have hok := hs.ok
  have hvl := hok.1
  have hoo := hok.2.2.2.2.2 q o ho
  have ho1 := hoo.1
  have ho2 := hoo.2.1
  have hE := h.exp hs
  have hE0 := h.exp0
  have hL := few_states hs h.reg
  have hcp := (h.inv.bound p cp hgp).1
  have hsok : StateOk t.vars (succ o sp) := succ_ok hok (h.reg.st p sp hsp) ho
  have hxE : cp + o.cost ≤ ((x.exp.toNat : Nat) : Int) * 1048576 := by rw [Int.toNat_of_nonneg hE0]; omega
  have hlq := h.qlen
  have hnx := h.nxt
  unfold m_stubborn_search_reach
  rcases regAdd_eq hvl h.reg hsok (by omega) with ⟨i, hi, hadd⟩ | ⟨hno, r', hadd, hr', hlk⟩
  · have hil := lt_of_get hi
    obtain ⟨ci, hci⟩ := some_of_lt (l := x.costs) (k := i) (by rw [h.inv.leng]; exact hil)
    rw [hadd, bnd_some, if_neg (by simp)]
    dsimp only
    rw [if_f, bnd_some]
    dsimp only
    rw [atI_eq, hci, bnd_some]
    by_cases hle : ci ≤ cp + o.cost
    · rw [if_pos hle]
      exact ⟨_, rfl, rfl, L, ⟨h.tt, h.reg, h.inv, h.exp0, h.heap, h.nxt0, by have := h.nxt; dsimp only; omega, by have := h.qlen; dsimp only; omega⟩, rfl, hsp, hfp, hgp, hmax, i, ci, hi, hci, hle⟩
    · rw [if_neg hle, bnd_some]
      obtain ⟨reg', que', e1, e2, e3, e4, e5, e6⟩ := reach_tail (t := t) (y := x) h.reg hil (p := p) (q := q) (lt_of_get hsp) (c := cp + o.cost) h.heap (by omega) h.nxt0 (by omega)
      have hfi : x.fin[i]? = some false := by
        obtain ⟨b, hb⟩ := some_of_lt (l := x.fin) (k := i) (by rw [h.inv.lenf]; exact hil)
        cases b with
        | false => exact hb
        | true => have := hmax i ci hb hci; omega
      have hip : p ≠ i := fun e => by subst e; rw [hfp] at hfi; cases hfi
      refine ⟨_, e1, rfl, L, ⟨h.tt, e2, ?_, h.exp0, e4, by have := h.nxt0; dsimp only; omega, by dsimp only; omega, by have := e5.length_eq; simp at this; dsimp only; omega⟩, rfl, hsp, hfp, ?_, ?_, i, cp + o.cost, hi, ?_, by omega⟩
      · dsimp only
        rw [e3]
        have hcl := h.inv.leng
        have hkl := links_len h.reg
        exact h.inv.upd hok (i := i) (upl_same hi) (upl_set (by omega)) (upl_set (by omega)) (upl_same hfi) e5 rfl rfl (by simp; omega) (by simp; omega) h.inv.lenf (by omega) rfl (.inr ⟨hi, hfi, fun c hc => by rw [hci] at hc; have := Option.some.inj hc; omega⟩) ho hsp hfp hpre rfl hgp rfl hmax hxE
      · show (x.costs.set i _)[p]? = _
        rw [List.getElem?_set_ne (by omega)]; exact hgp
      · intro j c hj hc
        change x.fin[j]? = some true at hj
        change (x.costs.set i _)[j]? = some c at hc
        have hij : i ≠ j := fun e => by subst e; rw [hfi] at hj; cases hj
        rw [List.getElem?_set_ne hij] at hc
        exact hmax j c hj hc
      · show (x.costs.set i _)[i]? = _
        rw [List.getElem?_set_self (lt_of_get hci)]
  · have hcl := h.inv.leng
    have hfl := h.inv.lenf
    rw [hadd, bnd_some, if_neg (by simp)]
    dsimp only
    rw [if_t, appI_eq (by simp; omega) (by simp; omega), bnd_some, appI_eq (by simp; omega) (by simp; omega), bnd_some, bnd_some]
    dsimp only
    have hnew : (x.costs ++ [(1125899906842624 : Int)])[L.length]? = some 1125899906842624 := by rw [← hcl]; simp
    rw [atI_eq, hnew, bnd_some, if_neg (by omega), bnd_some]
    obtain ⟨reg', que', e1, e2, e3, e4, e5, e6⟩ := reach_tail (t := t) (y := ⟨x.t, r', x.que, x.costs ++ [(1125899906842624 : Int)], x.fin ++ [false], x.exp⟩) (i := L.length) hr' (by simp) (p := p) (q := q) (by have := lt_of_get hsp; simp; omega) (c := cp + o.cost) h.heap (by dsimp only; omega) h.nxt0 (by dsimp only; omega)
    dsimp only at e1 e3 e5 e6
    have hpl := lt_of_get hsp
    have hpf := lt_of_get hfp
    have hlkl := links_len h.reg
    have sc : (x.costs ++ [(1125899906842624 : Int)]).set L.length (cp + o.cost) = x.costs ++ [cp + o.cost] := by rw [← hcl]; simp
    refine ⟨_, e1, rfl, L ++ [succ o sp], ⟨h.tt, e2, ?_, h.exp0, e4, by have := h.nxt0; dsimp only; omega, by dsimp only; omega, by have := e5.length_eq; simp at this; dsimp only; omega⟩, rfl, by rw [List.getElem?_append_left hpl]; exact hsp, ?_, ?_, ?_, L.length, cp + o.cost, by simp, ?_, by omega⟩
    · dsimp only
      rw [e3, hlk, sc]
      have sk : (links x.states ++ [(⟨-1, -1, 0⟩ : RLk)]).set L.length ⟨(p : Int), (q : Int), cp + o.cost⟩ = links x.states ++ [⟨(p : Int), (q : Int), cp + o.cost⟩] := by rw [← hlkl]; simp
      rw [sk]
      have u1 : UpL L.length (succ o sp) L (L ++ [succ o sp]) := upl_app
      have u2 : UpL L.length (⟨(p : Int), (q : Int), cp + o.cost⟩ : RLk) (links x.states) (links x.states ++ [⟨(p : Int), (q : Int), cp + o.cost⟩]) := by rw [← hlkl]; exact upl_app
      have u3 : UpL L.length (cp + o.cost) x.costs (x.costs ++ [cp + o.cost]) := by rw [← hcl]; exact upl_app
      have u4 : UpL L.length false x.fin (x.fin ++ [false]) := by rw [← hfl]; exact upl_app
      exact h.inv.upd hok u1 u2 u3 u4 e5 rfl rfl (by simp; omega) (by simp; omega) (by simp; omega) (by simp) (cnt_app _) (.inl (List.getElem?_eq_none (Nat.le_refl _))) ho hsp hfp hpre rfl hgp rfl hmax hxE
    · show (x.fin ++ [false])[p]? = _
      rw [List.getElem?_append_left hpf]; exact hfp
    · show ((x.costs ++ [_]).set L.length _)[p]? = _
      rw [sc, List.getElem?_append_left (lt_of_get hgp)]; exact hgp
    · intro j c hj hc
      change (x.fin ++ [false])[j]? = some true at hj
      change ((x.costs ++ [_]).set L.length _)[j]? = some c at hc
      rw [sc] at hc
      rcases app_get hj with hj | ⟨_, hj⟩
      · rcases app_get hc with hc | ⟨hc, _⟩
        · exact hmax j c hj hc
        · have := lt_of_get hj; omega
      · cases hj
    · show ((x.costs ++ [_]).set L.length _)[L.length]? = _
      rw [sc, ← hcl]; simp
theorem tsk_eta (t : Tsk) : (⟨t.vars, t.init, t.goal, t.ops⟩ : Tsk) = t := rfl
theorem take_last {α : Type} {l : List α} {m : Nat} {x y : α} (h : l[m]? = some x) (hy : y ∈ l.take (m + 1)) : y ∈ l.take m ∨ y = x := (take_mem h).1 hy
theorem expand_eq {t : Tsk} (hs : SmallOk t) {ord : Nat → Nat} {L : List (List Int)} {N : Nat} {x : Sch} {i : Nat} {s : List Int} {c : Int} (htt : x.t = t) (hreg : RegI t.vars x.states L) (hinv : SrI t (stubL t) (fun j _ => j ≠ i) L (links x.states) x.costs (x.fin.set i true) x.que.heap ord (x.exp.toNat + 1)) (he0 : 0 ≤ x.exp) (he : x.exp ≤ 512) (hh : HeapOk x.que.heap) (hn0 : 0 ≤ x.que.next) (hn : x.que.next ≤ (N : Int)) (hl : x.que.heap.length ≤ N) (hN : N ≤ 19000)
    (hi : L[i]? = some s) (hc : x.costs[i]? = some c) (hcb : c ≤ x.exp * 1048576) (hmax : ∀ (j : Nat) c', (x.fin.set i true)[j]? = some true → x.costs[j]? = some c' → c' ≤ c) :
    ∃ r, m_stubborn_search_expand x (i : Int) s = some r ∧ r.1 = ⟨0⟩ ∧ r.2.exp = x.exp + 1 ∧ ∃ L', SchI t (fun _ _ => True) ord L' (N + 20) r.2 := by
  have hok := hs.ok
  have hops : t.ops.length ≤ 20 := hs.2.1
  have hsok := hreg.st i s hi
  have hil : i < x.fin.length := by have := hinv.lenf; rw [List.length_set] at this; rw [this]; exact lt_of_get hi
  obtain ⟨b, hb⟩ := some_of_lt (l := x.fin) (k := i) hil
  have hpl : (stubL t s).length ≤ 20 := by unfold stubL; exact Nat.le_trans (pick_len _ _) hops
  unfold m_stubborn_search_expand
  rw [atI_eq, hb, bnd_some, chkI_eq (by unfold inI64; omega), bnd_some, tsk_eta, htt, set_eq hok hsok, bnd_some, Int.toNat_natCast]
  refine rng_ex (fun m y => ∃ L', SchI t (fun j q => j ≠ i ∨ q ∈ (stubL t s).take m) ord L' (N + m) y ∧ y.exp = x.exp + 1 ∧ L'[i]? = some s ∧ y.fin[i]? = some true ∧ y.costs[i]? = some c ∧ ∀ (j : Nat) c', y.fin[j]? = some true → y.costs[j]? = some c' → c' ≤ c) (fun _ => False)
    ⟨L, ⟨rfl, hreg, ?_, by dsimp only; omega, hh, hn0, hn, hl⟩, rfl, hi, ?_, hc, hmax⟩ ?_ ?_ (fun q hq => hq.elim)
  · dsimp only
    rw [show (x.exp + 1).toNat = x.exp.toNat + 1 from by omega]
    exact { hinv with rel := fun j s' q hj hs' hq hd => hinv.rel j s' q hj hs' hq (by rcases hd with hd | hd; exact hd; simp at hd) }
  · exact List.getElem?_set_self hil
  · rintro m a y hm ⟨L', hy, hye, hyi, hyf, hyc, hymax⟩
    refine .inl (ex_next ?_)
    have ham := List.mem_of_getElem? hm
    unfold stubL at ham
    obtain ⟨k, rfl, hkl, hkp⟩ := mem_pick.1 ham
    simp only [Bool.and_eq_true] at hkp
    obtain ⟨o, ho, hph⟩ := any_some hkp.2
    have hoo := hok.2.2.2.2.2 k o ho
    have ho1 := hoo.1
    have ho2 := hoo.2.1
    have hc0 := (hy.inv.bound i c hyc).1
    have hmlt := lt_of_get hm
    rw [tsk_eta, hy.tt, tApply_eq hok hsok ho hph, bnd_some, if_neg (by simp), atI_eq, hyc, bnd_some, atI_eq, ho, bnd_some, chkI_eq (by unfold inI64; omega), bnd_some]
    obtain ⟨r, r1, r2, L'', r3, r4, r5, r6, r7, r8, i', c', r9, r10, r11⟩ := reach_eq hs hy (by omega) ho hyi hyf hph hyc hymax (by rw [hye]; omega)
    rw [r1, bnd_some, r2, if_neg (by simp)]
    refine ⟨_, rfl, _, rfl, L'', ?_, by rw [r4, hye], r5, r6, r7, r8⟩
    exact { r3 with
      inv := r3.inv.more (j₀ := i) (q₀ := (k : Int)) (fun j q hd => by
        rcases hd with hd | hd
        · exact .inl (.inl hd)
        · rcases take_last hm hd with hd | hd
          · exact .inl (.inr hd)
          · by_cases e1 : j = i
            · exact .inr ⟨e1, hd⟩
            · exact .inl (.inl e1)) r5 rfl ho r9 r7 r10 r11
      nxt := by have := r3.nxt; omega
      qlen := by have := r3.qlen; omega }
  · rintro y ⟨L', hy, hye, hyi, hyf, hyc, hymax⟩
    refine ⟨_, rfl, rfl, hye, L', ?_⟩
    exact { hy with
      inv := { hy.inv with rel := fun j s' q hj hs' hq _ => hy.inv.rel j s' q hj hs' hq (by
        by_cases e1 : j = i
        · subst e1
          rw [hyi] at hs'
          obtain rfl := Option.some.inj hs'
          right
          rw [List.take_length]; exact hq
        · exact .inl e1) }
      nxt := by have := hy.nxt; dsimp only; omega
      qlen := by have := hy.qlen; dsimp only; omega }
noncomputable def runF (x1 : Int) : Int × Sch → Option (Ctl (Int × Sch) (Rsl × Sch)) :=
  fun (s17 : Int × Sch) => bnd (m_pqueue_Queue_Len s17.2.que) fun q71 => if 0 < q71 then (bnd (m_pqueue_Queue_Pop s17.2.que) fun q82 => bnd (if q82.2.2.2.1.n ≠ 0 then (some true) else (bnd (atI s17.2.fin q82.2.2.1) fun a112 => if a112 = true then (some true) else (bnd (atI s17.2.costs q82.2.2.1) fun a129 => if q82.1 ≠ a129 then (some true) else (some false))) : Option Bool) fun y102 => if y102 = true then (some (.next (s17.1, (⟨(⟨s17.2.t.vars, s17.2.t.init, s17.2.t.goal, s17.2.t.ops⟩ : Tsk), s17.2.states, q82.2.2.2.2, s17.2.costs, s17.2.fin, s17.2.exp⟩ : Sch)))) else (bnd (m_registry_Registry_State ((⟨(⟨s17.2.t.vars, s17.2.t.init, s17.2.t.goal, s17.2.t.ops⟩ : Tsk), s17.2.states, q82.2.2.2.2, s17.2.costs, s17.2.fin, s17.2.exp⟩ : Sch).states) q82.2.2.1) fun q194 => if q194.2.n ≠ 0 then (some (.brk (s17.1, (⟨(⟨s17.2.t.vars, s17.2.t.init, s17.2.t.goal, s17.2.t.ops⟩ : Tsk), s17.2.states, q82.2.2.2.2, s17.2.costs, s17.2.fin, s17.2.exp⟩ : Sch)))) else (bnd (m_task_Holds ((⟨(⟨s17.2.t.vars, s17.2.t.init, s17.2.t.goal, s17.2.t.ops⟩ : Tsk), s17.2.states, q82.2.2.2.2, s17.2.costs, s17.2.fin, s17.2.exp⟩ : Sch).t.goal) q194.1) fun q215 => if q215 = true then bnd (m_registry_Registry_Path ((⟨(⟨s17.2.t.vars, s17.2.t.init, s17.2.t.goal, s17.2.t.ops⟩ : Tsk), s17.2.states, q82.2.2.2.2, s17.2.costs, s17.2.fin, s17.2.exp⟩ : Sch).states) q82.2.2.1) fun q294 => if q294.2.n ≠ 0 then (some (.brk (s17.1, (⟨(⟨s17.2.t.vars, s17.2.t.init, s17.2.t.goal, s17.2.t.ops⟩ : Tsk), s17.2.states, q82.2.2.2.2, s17.2.costs, s17.2.fin, s17.2.exp⟩ : Sch)))) else (some (.ret ((⟨1, q294.1, q82.1, (⟨(⟨s17.2.t.vars, s17.2.t.init, s17.2.t.goal, s17.2.t.ops⟩ : Tsk), s17.2.states, q82.2.2.2.2, s17.2.costs, s17.2.fin, s17.2.exp⟩ : Sch).exp⟩ : Rsl), (⟨(⟨s17.2.t.vars, s17.2.t.init, s17.2.t.goal, s17.2.t.ops⟩ : Tsk), s17.2.states, q82.2.2.2.2, s17.2.costs, s17.2.fin, s17.2.exp⟩ : Sch)))) else if x1 ≤ ((⟨(⟨s17.2.t.vars, s17.2.t.init, s17.2.t.goal, s17.2.t.ops⟩ : Tsk), s17.2.states, q82.2.2.2.2, s17.2.costs, s17.2.fin, s17.2.exp⟩ : Sch).exp) then (some (.ret ((⟨3, ([] : List Int), 0, (⟨(⟨s17.2.t.vars, s17.2.t.init, s17.2.t.goal, s17.2.t.ops⟩ : Tsk), s17.2.states, q82.2.2.2.2, s17.2.costs, s17.2.fin, s17.2.exp⟩ : Sch).exp⟩ : Rsl), (⟨(⟨s17.2.t.vars, s17.2.t.init, s17.2.t.goal, s17.2.t.ops⟩ : Tsk), s17.2.states, q82.2.2.2.2, s17.2.costs, s17.2.fin, s17.2.exp⟩ : Sch)))) else (bnd (m_stubborn_search_expand (⟨(⟨s17.2.t.vars, s17.2.t.init, s17.2.t.goal, s17.2.t.ops⟩ : Tsk), s17.2.states, q82.2.2.2.2, s17.2.costs, s17.2.fin, s17.2.exp⟩ : Sch) q82.2.2.1 q194.1) fun q237 => if q237.1.n ≠ 0 then (some (.ret ((⟨3, ([] : List Int), 0, q237.2.exp⟩ : Rsl), q237.2))) else (some (.next ((⟨(⟨s17.2.t.vars, s17.2.t.init, s17.2.t.goal, s17.2.t.ops⟩ : Tsk), s17.2.states, q82.2.2.2.2, s17.2.costs, s17.2.fin, s17.2.exp⟩ : Sch).exp, q237.2))))))) else (some (.brk (s17.1, s17.2)))
theorem run_unf (x : Sch) (lim : Int) : m_stubborn_search_run x lim = bnd (lop (runF lim) (0, x)) fun res15 => fin res15 fun (s331 : Int × Sch) => some ((⟨2, ([] : List Int), 0, s331.2.exp⟩ : Rsl), s331.2) := rfl
/-- Between two steps of the search. -/
def Inv (t : Tsk) (y : Sch) : Prop := ∃ ord L N, SchI t (fun _ _ => True) ord L N y ∧ (N : Int) ≤ 1 + 20 * y.exp
theorem step_eq {t : Tsk} (hs : SmallOk t) {s : Int × Sch} (hI : Inv t s.2) :
    (∃ s', (∀ lim, runF lim s = some (.next s')) ∧ Inv t s'.2 ∧ s'.2.exp = s.2.exp ∧ s'.2.que.heap.length < s.2.que.heap.length) ∨
    ((∀ lim, runF lim s = some (.brk s)) ∧ s.2.que.heap.length = 0) ∨
    (∃ p c y, (∀ lim, runF lim s = some (.ret (⟨1, p, c, s.2.exp⟩, y))) ∧ p.length ≤ 512 ∧ (∃ s', PlanR t t.init p s' c ∧ holdsB t.goal s' = true) ∧ ∀ C, Walk t t.init C → c ≤ C) ∨
    (∃ s' y, (∀ lim, runF lim s = if lim ≤ s.2.exp then some (.ret (⟨3, [], 0, s.2.exp⟩, y)) else some (.next s')) ∧ Inv t s'.2 ∧ s'.2.exp = s.2.exp + 1 ∧ holdsB t.goal t.init = false) := by
  obtain ⟨z, x⟩ := s
  obtain ⟨ord, L, N, h, hN⟩ := hI
  dsimp only at h hN ⊢
  have hok := hs.ok
  have hE := h.exp hs
  have hE0 := h.exp0
  by_cases h0 : x.que.heap.length = 0
  · refine .inr (.inl ⟨fun lim => ?_, h0⟩)
    unfold runF m_pqueue_Queue_Len
    dsimp only
    rw [bnd_some, if_neg (by omega)]
  have hlq := h.qlen
  obtain ⟨pr, p1, e, q', rfl, p3, p4, p5, p6⟩ := pop_eq h.heap (by omega) (by omega)
  have hem : e ∈ x.que.heap := p4.mem_iff.2 List.mem_cons_self
  obtain ⟨i, hei, hil, hek⟩ := h.inv.ent e hem
  obtain ⟨s, hsi⟩ := some_of_lt (l := L) (k := i) hil
  obtain ⟨b, hb⟩ := some_of_lt (l := x.fin) (k := i) (by rw [h.inv.lenf]; exact hil)
  obtain ⟨c, hc⟩ := some_of_lt (l := x.costs) (k := i) (by rw [h.inv.leng]; exact hil)
  have hpl := p4.length_eq
  simp only [List.length_cons] at hpl
  have start : ∀ lim, runF lim (z, x) = bnd (if b = true then (some true) else (if e.key ≠ c then (some true) else (some false)) : Option Bool) fun y102 => if y102 = true then (some (.next (z, (⟨x.t, x.states, q', x.costs, x.fin, x.exp⟩ : Sch)))) else bnd (m_registry_Registry_State x.states (i : Int)) fun q194 => if q194.2.n ≠ 0 then (some (.brk (z, (⟨x.t, x.states, q', x.costs, x.fin, x.exp⟩ : Sch)))) else (bnd (m_task_Holds x.t.goal q194.1) fun q215 => if q215 = true then bnd (m_registry_Registry_Path x.states (i : Int)) fun q294 => if q294.2.n ≠ 0 then (some (.brk (z, (⟨x.t, x.states, q', x.costs, x.fin, x.exp⟩ : Sch)))) else (some (.ret ((⟨1, q294.1, e.key, x.exp⟩ : Rsl), (⟨x.t, x.states, q', x.costs, x.fin, x.exp⟩ : Sch)))) else if lim ≤ x.exp then (some (.ret ((⟨3, ([] : List Int), 0, x.exp⟩ : Rsl), (⟨x.t, x.states, q', x.costs, x.fin, x.exp⟩ : Sch)))) else (bnd (m_stubborn_search_expand (⟨x.t, x.states, q', x.costs, x.fin, x.exp⟩ : Sch) (i : Int) q194.1) fun q237 => if q237.1.n ≠ 0 then (some (.ret ((⟨3, ([] : List Int), 0, q237.2.exp⟩ : Rsl), q237.2))) else (some (.next (x.exp, q237.2))))) := by
    intro lim
    unfold runF m_pqueue_Queue_Len
    dsimp only
    rw [bnd_some, if_pos (by omega), p1, bnd_some, if_neg (by simp)]
    dsimp only
    rw [hei, atI_eq, hb, bnd_some]
    cases b with
    | true => rfl
    | false => rw [if_f, if_f, atI_eq, hc, bnd_some]
  have hdrop : (b = true ∨ e.key ≠ c) → Inv t (⟨x.t, x.states, q', x.costs, x.fin, x.exp⟩ : Sch) := fun hd => by
    refine ⟨ord, L, N, ⟨h.tt, h.reg, h.inv.drop p4 hei ?_, h.exp0, p3, by dsimp only; have := h.nxt0; omega, by dsimp only; have := h.nxt; omega, by dsimp only; omega⟩, hN⟩
    rcases hd with hd | hd
    · exact .inl (by rw [hb, hd])
    · exact .inr (by rw [hc]; exact fun hh => hd (Option.some.inj hh).symm)
  by_cases hb1 : b = true
  · refine .inl ⟨(z, ⟨x.t, x.states, q', x.costs, x.fin, x.exp⟩), fun lim => ?_, hdrop (.inl hb1), rfl, by dsimp only; omega⟩
    rw [start, if_pos hb1, bnd_some, if_t]
  by_cases hkc : e.key = c
  case neg =>
    refine .inl ⟨(z, ⟨x.t, x.states, q', x.costs, x.fin, x.exp⟩), fun lim => ?_, hdrop (.inr hkc), rfl, by dsimp only; omega⟩
    rw [start, if_neg hb1, if_pos hkc, bnd_some, if_t]
  have hbf : x.fin[i]? = some false := by rw [hb]; simpa using hb1
  have start2 : ∀ lim, runF lim (z, x) = if holdsB t.goal s = true then bnd (m_registry_Registry_Path x.states (i : Int)) fun q294 => if q294.2.n ≠ 0 then (some (.brk (z, (⟨x.t, x.states, q', x.costs, x.fin, x.exp⟩ : Sch)))) else (some (.ret ((⟨1, q294.1, e.key, x.exp⟩ : Rsl), (⟨x.t, x.states, q', x.costs, x.fin, x.exp⟩ : Sch)))) else if lim ≤ x.exp then (some (.ret ((⟨3, ([] : List Int), 0, x.exp⟩ : Rsl), (⟨x.t, x.states, q', x.costs, x.fin, x.exp⟩ : Sch)))) else (bnd (m_stubborn_search_expand (⟨x.t, x.states, q', x.costs, x.fin, x.exp⟩ : Sch) (i : Int) s) fun q237 => if q237.1.n ≠ 0 then (some (.ret ((⟨3, ([] : List Int), 0, q237.2.exp⟩ : Rsl), q237.2))) else (some (.next (x.exp, q237.2)))) := by
    intro lim
    rw [start, if_neg hb1, if_neg (by omega), bnd_some, if_f, regState_eq hok.1 h.reg hsi, bnd_some, if_neg (by simp), tholds_eq, bnd_some, h.tt]
  have hckey : x.costs[i]? = some e.key := by rw [hc, hkc]
  by_cases hg : holdsB t.goal s = true
  · obtain ⟨p, g1, g2, g3⟩ := h.inv.path hsi hckey
    have hL := few_states hs h.reg
    have hnum := h.inv.num
    have hcl := cnt_le x.fin
    have hfl := h.inv.lenf
    refine .inr (.inr (.inl ⟨p, e.key, ⟨x.t, x.states, q', x.costs, x.fin, x.exp⟩, fun lim => ?_, by omega, ⟨s, g2, hg⟩, fun C hw => ?_⟩))
    · rw [start2, if_pos hg, path_eq h.reg (by omega) g1 (by omega), bnd_some, if_neg (by simp)]
    · obtain ⟨C', c1, c2⟩ := walkS_of hok (h.reg.st 0 _ h.inv.root) hw
      obtain ⟨e', m, k1⟩ := h.inv.front hok c2 0 0 h.inv.root h.inv.root0
      have := nb_key (p5 e' m)
      omega
  · have hgf : holdsB t.goal s = false := by simpa using hg
    have hm := h.inv.mark p4 p5 hei hbf hckey hsi hgf
    have hbd := h.inv.bound i e.key hckey
    rw [Int.toNat_of_nonneg hE0] at hbd
    have hfl : i < x.fin.length := lt_of_get hbf
    obtain ⟨r, r1, r2, r3, L', r4⟩ := expand_eq hs (x := ⟨x.t, x.states, q', x.costs, x.fin, x.exp⟩) (N := N) (i := i) (s := s) (c := e.key) h.tt h.reg hm hE0 hE p3 (by dsimp only; have := h.nxt0; omega) (by dsimp only; have := h.nxt; omega) (by dsimp only; omega) (by omega) hsi hckey hbd.2 (fun j c' hj hc' => by
      dsimp only at hj hc'
      by_cases e1 : i = j
      · subst e1; rw [hckey] at hc'; have := Option.some.inj hc'; omega
      · rw [List.getElem?_set_ne e1] at hj
        exact h.inv.lower j c' hj hc' e hem)
    dsimp only at r3
    refine .inr (.inr (.inr ⟨(x.exp, r.2), ⟨x.t, x.states, q', x.costs, x.fin, x.exp⟩, fun lim => ?_, ⟨_, L', N + 20, r4, by dsimp only; rw [r3]; omega⟩, r3, ?_⟩))
    · rw [start2, if_neg hg]
      by_cases hlim : lim ≤ x.exp
      · rw [if_pos hlim, if_pos hlim]
      · rw [if_neg hlim, if_neg hlim, r1, bnd_some, r2, if_neg (by simp)]
    · cases hgi : holdsB t.goal t.init with
      | false => rfl
      | true =>
        exfalso
        by_cases hE1 : 0 < x.exp.toNat
        · have := h.inv.nogoal 0 _ (h.inv.first hE1) h.inv.root
          rw [hgi] at this; cases this
        · obtain ⟨k, hk⟩ := some_of_lt (l := links x.states) (k := i) (by rw [h.inv.lenk]; exact hil)
          rcases h.inv.link i s k _ hsi hk hckey with ⟨rfl, _⟩ | ⟨p', _, _, _, _, _, _, _, _, a5, _⟩
          · rw [h.inv.root] at hsi
            rw [Option.some.inj hsi] at hgi
            exact hg hgi
          · have := cnt_pos a5
            rw [h.inv.num] at this
            omega
/-- What a search returns. -/
def ResOk (t : Tsk) (lim : Int) (r : Rsl) : Prop := 0 ≤ r.expanded ∧ r.expanded ≤ lim ∧ (∃ L : List (List Int), (∀ (i j : Nat) s, L[i]? = some s → L[j]? = some s → i = j) ∧ (∀ s ∈ L, Rch t s) ∧ r.expanded ≤ (L.length : Int)) ∧
  ((r.verdict = 1 ∧ r.plan.length ≤ 512 ∧ (∃ s', PlanR t t.init r.plan s' r.cost ∧ holdsB t.goal s' = true) ∧ ∀ C, Walk t t.init C → r.cost ≤ C) ∨ (r.verdict = 2 ∧ r.plan = [] ∧ r.cost = 0 ∧ ∀ C, ¬ Walk t t.init C) ∨ (r.verdict = 3 ∧ r.plan = [] ∧ r.cost = 0 ∧ lim ≤ r.expanded ∧ holdsB t.goal t.init = false))
theorem Inv.many {t : Tsk} (hs : SmallOk t) {y : Sch} (h : Inv t y) : 0 ≤ y.exp ∧ y.exp ≤ 512 ∧ y.que.heap.length ≤ 20000 ∧ ∃ L : List (List Int), (∀ (i j : Nat) s, L[i]? = some s → L[j]? = some s → i = j) ∧ (∀ s ∈ L, Rch t s) ∧ y.exp ≤ (L.length : Int) := by
  obtain ⟨ord, L, N, h, hN⟩ := h
  have h1 := h.exp hs
  have h2 := h.qlen
  have h3 := h.exp0
  have h4 := h.inv.num
  have h5 := cnt_le y.fin
  have h6 := h.inv.lenf
  exact ⟨h3, h1, by omega, L, h.reg.nodup, fun s hm => by obtain ⟨i, hi⟩ := List.getElem?_of_mem hm; exact h.inv.rch i s hi, by omega⟩
theorem mu_step {M K a q q' n : Nat} (ha : a < M) (h : (M - a) * K + q < n + 1) (hq : q' < K) : (M - (a + 1)) * K + q' < n := by
  obtain ⟨b, hb⟩ : ∃ b, M - a = b + 1 := ⟨M - a - 1, by omega⟩
  have hb' : M - (a + 1) = b := by omega
  rw [hb, Nat.add_mul, Nat.one_mul] at h
  rw [hb']
  omega
/-- The result of a loop's end. -/
def outR : Fin (Int × Sch) (Rsl × Sch) → Rsl
  | .done s => ⟨2, [], 0, s.2.exp⟩
  | .ret r => r.1
theorem run_all {t : Tsk} (hs : SmallOk t) (lim : Int) : ∀ (n : Nat) (s : Int × Sch), Inv t s.2 → s.2.exp ≤ lim → (513 - s.2.exp.toNat) * 100000 + s.2.que.heap.length < n → ∃ f, lop (runF lim) s = some f ∧ ResOk t lim (outR f) ∧ s.2.exp ≤ (outR f).expanded ∧ ∀ lim', (outR f).verdict ≠ 3 → (outR f).expanded ≤ lim' → lop (runF lim') s = some f := by
  intro n
  induction n with
  | zero => intro s _ _ hn; omega
  | succ n ih =>
    intro s hI hsl hn
    obtain ⟨e0, e1, e2, hL⟩ := hI.many hs
    rcases step_eq hs hI with ⟨s', h1, h2, h3, h4⟩ | ⟨h1, h2⟩ | ⟨p, c, y, h1, h2, h3, h4⟩ | ⟨s', y, h1, h2, h3, h4⟩
    · obtain ⟨f, f1, f2, f3, f4⟩ := ih s' h2 (by omega) (by rw [h3]; omega)
      refine ⟨f, by rw [lop_eq, h1]; exact f1, f2, by omega, fun lim' hv hl => ?_⟩
      rw [lop_eq, h1]; exact f4 lim' hv hl
    · refine ⟨.done s, by rw [lop_eq, h1], ⟨e0, hsl, hL, .inr (.inl ⟨rfl, rfl, rfl, fun C hw => ?_⟩)⟩, Int.le_refl _, fun lim' _ _ => by rw [lop_eq, h1]⟩
      obtain ⟨ord, L, N, h, _⟩ := hI
      obtain ⟨C', c1, c2⟩ := walkS_of hs.ok (h.reg.st 0 _ h.inv.root) hw
      obtain ⟨e', m, _⟩ := h.inv.front hs.ok c2 0 0 h.inv.root h.inv.root0
      have := List.length_pos_of_mem m
      omega
    · exact ⟨.ret (⟨1, p, c, s.2.exp⟩, y), by rw [lop_eq, h1], ⟨e0, hsl, hL, .inl ⟨rfl, h2, h3, h4⟩⟩, Int.le_refl _, fun lim' _ _ => by rw [lop_eq, h1]⟩
    · by_cases hlim : lim ≤ s.2.exp
      · exact ⟨.ret (⟨3, [], 0, s.2.exp⟩, y), by rw [lop_eq, h1, if_pos hlim], ⟨e0, hsl, hL, .inr (.inr ⟨rfl, rfl, rfl, hlim, h4⟩)⟩, Int.le_refl _, fun lim' hv _ => absurd rfl hv⟩
      · have hmany := (h2.many hs).2.2.1
        have hexp := (h2.many hs).2.1
        obtain ⟨f, f1, f2, f3, f4⟩ := ih s' h2 (by omega) (by
          have : s'.2.exp.toNat = s.2.exp.toNat + 1 := by omega
          rw [this]; exact mu_step (by omega) hn (by omega))
        refine ⟨f, by rw [lop_eq, h1, if_neg hlim]; exact f1, f2, by omega, fun lim' hv hl => ?_⟩
        rw [lop_eq, h1, if_neg (by omega)]; exact f4 lim' hv hl
theorem out_eq {x : Sch} {lim : Int} {f : Fin (Int × Sch) (Rsl × Sch)} (h : lop (runF lim) (0, x) = some f) : ∃ r, m_stubborn_search_run x lim = some r ∧ r.1 = outR f := by
  rw [run_unf, h, bnd_some]
  cases f with
  | done s => exact ⟨_, rfl, rfl⟩
  | ret r => exact ⟨_, rfl, rfl⟩
/-- The search begins. -/
theorem begin_eq {t : Tsk} (hs : SmallOk t) {reg : Reg} (hr : RegI t.vars reg []) (hlk : links reg = []) : ∃ r, m_stubborn_search_reach ⟨t, reg, ⟨[], 0⟩, [], [], 0⟩ t.init (-1) (-1) 0 = some r ∧ r.1 = ⟨0⟩ ∧ r.2.exp = 0 ∧ Inv t r.2 := by
  have hok := hs.ok
  unfold m_stubborn_search_reach
  rcases regAdd_eq hok.1 hr hok.2.2.2.1 (by simp) with ⟨i, hi, _⟩ | ⟨_, r', hadd, hr', hlk'⟩
  · simp at hi
  rw [hadd, bnd_some, if_neg (by simp)]
  dsimp only
  rw [if_t, appI_eq (by simp) (by simp), bnd_some, appI_eq (by simp) (by simp), bnd_some, bnd_some]
  dsimp only
  have a0 : atI ([] ++ [(1125899906842624 : Int)]) ((([] : List (List Int)).length : Nat) : Int) = some 1125899906842624 := rfl
  rw [a0, bnd_some, if_neg (by omega), bnd_some]
  obtain ⟨r'', s1, s2, s3⟩ := setLink_eq hr' (i := 0) (by simp) (p := -1) (o := -1) (c := 0) (.inl rfl)
  obtain ⟨⟨er, que'⟩, u1, u2, u3, u4, u5⟩ := push_eq (q := ⟨[], 0⟩) (fun j x y _ hx => by simp at hx) (by simp) ⟨by simp, by simp⟩ 0 0 0
  dsimp only at u2 u3 u4 u5
  subst u2
  have s1' : m_registry_Registry_SetLink r' ((([] : List (List Int)).length : Nat) : Int) (-1) (-1) 0 = some (⟨0⟩, r'') := s1
  have u1' : m_pqueue_Queue_Push ⟨[], 0⟩ 0 0 ((([] : List (List Int)).length : Nat) : Int) = some (⟨0⟩, que') := u1
  rw [s1', bnd_some, if_neg (by simp), u1', bnd_some]
  have hperm : que'.heap = [⟨0, 0, 0, 0⟩] := List.perm_singleton.1 u4
  have hlks : links r'' = [⟨-1, -1, 0⟩] := by rw [s3, hlk', hlk]; rfl
  refine ⟨_, rfl, rfl, rfl, fun _ => 0, [t.init], 1, ⟨rfl, s2, ?_, by simp, u3, by dsimp only; rw [u5]; simp, by dsimp only; rw [u5]; simp, by dsimp only; rw [hperm]; simp⟩, by simp⟩
  dsimp only
  rw [hlks, hperm]
  have one : ∀ {α : Type} {a b : α} {i : Nat}, [a][i]? = some b → i = 0 ∧ b = a := fun {α a b i} h => by
    cases i with
    | zero => simp at h; exact ⟨rfl, h.symm⟩
    | succ i => simp at h
  refine ⟨rfl, rfl, rfl, rfl, rfl, fun i s k c hi hk hc => ?_, fun i hi => ?_, fun j c hj => ?_, fun e he => ?_, fun i c hi hc => ?_, fun i c hc => ?_, fun j s hj => ?_, fun j s q hj => ?_, rfl, fun i s hi => ?_, fun hE => by simp at hE⟩
  · obtain ⟨rfl, rfl⟩ := one hi
    obtain ⟨_, rfl⟩ := one hk
    obtain ⟨_, rfl⟩ := one hc
    exact .inl ⟨rfl, rfl, rfl⟩
  · have := (one hi).2; cases this
  · have := (one hj).2; cases this
  · simp at he
    subst he
    refine ⟨0, rfl, by simp, fun c hc => ?_⟩
    have := (one hc).2
    change c ≤ 0
    rw [this]
    decide
  · obtain ⟨rfl, _⟩ := one hi
    have := (one hc).2
    refine ⟨_, List.mem_cons_self, ?_, rfl⟩
    rw [this]
  · have := (one hc).2
    rw [this]
    decide
  · have := (one hj).2; cases this
  · have := (one hj).2; cases this
  · obtain ⟨_, rfl⟩ := one hi; exact .init
theorem search_eq {t : Tsk} (hs : SmallOk t) (lim : Int) : ∃ r, m_stubborn_Search t lim = some (r, ⟨0⟩) ∧ ResOk t (max lim 0) r ∧ (r.verdict ≠ 3 → ∀ lim', r.expanded ≤ lim' → m_stubborn_Search t lim' = some (r, ⟨0⟩)) := by
  have hok := hs.ok
  obtain ⟨rr, n1, reg, rfl, n2, n3⟩ := regNew_eq hok.1 hok.2.2.1
  obtain ⟨⟨er, x⟩, b1, b2, b3, b4⟩ := begin_eq hs n2 n3
  dsimp only at b2 b3 b4
  subst b2
  have unf : ∀ l, m_stubborn_Search t l = bnd (m_stubborn_search_run x (max l 0)) fun q97 => some (q97.1, (⟨0⟩ : Err)) := by
    intro l
    unfold m_stubborn_Search m_pqueue_New
    rw [check_t hok, bnd_some, if_neg (by simp), n1, bnd_some, if_neg (by simp), bnd_some, bnd_some, bnd_some, tsk_eta, b1, bnd_some, if_neg (by simp)]
  obtain ⟨f, f1, f2, f3, f4⟩ := run_all hs (max lim 0) _ (0, x) b4 (by dsimp only; rw [b3]; omega) (Nat.lt_succ_self _)
  obtain ⟨r, r1, r2⟩ := out_eq f1
  refine ⟨outR f, by rw [unf, r1, bnd_some, r2], f2, fun hv lim' hl => ?_⟩
  obtain ⟨r', q1, q2⟩ := out_eq (f4 (max lim' 0) hv (by omega))
  rw [unf, q1, bnd_some, q2]
end
section
open Go Go.RowKit
theorem best_eq {t : Tsk} (h : SmallOk t) : ∃ b, m_base_Best t = some b ∧ 0 ≤ b ∧ b ≤ Inf ∧ (b < Inf → Walk t t.init b) ∧ ∀ C, Walk t t.init C → b ≤ C := by
  obtain ⟨d, hd, hdP⟩ := dist_eq h
  obtain ⟨i0, hi0, hi0'⟩ := rank_at h h.ok.2.2.2.1
  obtain ⟨c, c1, c2, c3, c4, _⟩ := hdP.1.2 i0 _ hi0'
  refine ⟨c, ?_, c2, c3, c4, fun C hw => hdP.2 i0 _ c C hi0' c1 hw⟩
  unfold m_base_Best
  rw [hd, bnd_some, hi0, bnd_some, atI_eq, c1, bnd_some]
theorem PlanR.bound {t : Tsk} (h : TaskOk t) {s p s' : List Int} {C : Int} (hr : PlanR t s p s' C) : 0 ≤ C ∧ C ≤ (p.length : Int) * 1048576 := by
  induction hr with
  | nil => simp
  | @cons s rest s' k o C ho _ _ ih =>
    have h1 := (h.2.2.2.2.2 k o ho).1
    have h2 := (h.2.2.2.2.2 k o ho).2.1
    simp only [List.length_cons]
    omega
/-- A right result, asked by the base. -/
theorem result_1 {t : Tsk} (h : SmallOk t) {r : Rsl} {b : Int} (hbw : b < Inf → Walk t t.init b) (hbl : ∀ C, Walk t t.init C → b ≤ C) (hv : r.verdict = 1) (hl : r.plan.length ≤ 1000) {s' : List Int} (hp : PlanR t t.init r.plan s' r.cost) (hg : holdsB t.goal s' = true) (hm : ∀ C, Walk t t.init C → r.cost ≤ C) : m_base_Result t r b = some true := by
  have h1 := hp.bound h.ok
  have h2 := hbl _ (hp.walk hg)
  have hlt : b < Inf := by unfold Inf; omega
  have h3 := hm _ (hbw hlt)
  have he : r.cost = b := by omega
  unfold m_base_Result
  unfold Inf at hlt
  rw [if_neg (by omega), cost_eq h.ok h.ok.2.2.2.1 hp hl, bnd_some, if_pos hv, hg, if_t, he, if_pos rfl, if_pos rfl]
  rfl
theorem result_2 {t : Tsk} {r : Rsl} {b : Int} (hbw : b < Inf → Walk t t.init b) (hv : r.verdict = 2) (hp : r.plan = []) (hc : r.cost = 0) (hn : ∀ C, ¬ Walk t t.init C) : m_base_Result t r b = some true := by
  have hlt : ¬ b < Inf := fun hh => hn _ (hbw hh)
  unfold m_base_Result
  unfold Inf at hlt
  rw [if_pos (by omega), if_pos hv, hp, if_pos (by simp), if_pos hc]
  rfl
end
section
open Go Go.RowKit
theorem right_res {t : Tsk} (h : SmallOk t) {lim : Int} {r : Rsl} (hr : ResOk t lim r) (hv : r.verdict ≠ 3) {b : Int} (hbw : b < Inf → Walk t t.init b) (hbl : ∀ C, Walk t t.init C → b ≤ C) : m_base_Result t r b = some true := by
  rcases hr.2.2.2 with ⟨h1, h2, ⟨s', h3, h4⟩, h5⟩ | ⟨h1, h2, h3, h4⟩ | ⟨h1, _⟩
  · exact result_1 h hbw hbl h1 (by omega) h3 h4 h5
  · exact result_2 hbw h1 h2 h3 h4
  · exact absurd h1 hv
theorem limits_eq (t : Tsk) (lim : Int) : m_law53_StubbornLimits t lim = some true := by
  unfold m_law53_StubbornLimits
  by_cases hs : SmallOk t
  case neg => rw [awake53, bnd_some, if_t, small_f hs]; rfl
  rw [awake53, bnd_some, if_t, small_t hs, bnd_some, if_t, bnd_some, if_f]
  obtain ⟨r, r1, r2, r3⟩ := search_eq hs lim
  obtain ⟨b, b1, b2, b3, b4, b5⟩ := best_eq hs
  have he0 := r2.1
  have he1 := r2.2.1
  rw [r1, bnd_some, if_neg (by simp), if_neg (by dsimp only; omega), if_neg (by dsimp only; omega), bnd_some, if_f]
  dsimp only
  by_cases hv : r.verdict = 3
  · rw [if_pos hv]
    rcases r2.2.2.2 with ⟨h1, _⟩ | ⟨h1, _⟩ | ⟨_, h2, h3, _, h5⟩
    · omega
    · omega
    · rw [h2, if_pos (by simp), if_pos h3, holds_eq, h5, bnd_some, if_f, bnd_some]
  · rw [if_neg hv, b1, bnd_some, right_res hs r2 hv b4 b5, bnd_some, if_t, r3 hv r.expanded (Int.le_refl _), bnd_some, if_pos rfl, if_pos rfl, if_pos rfl, if_pos rfl, bnd_some]
end
section
open Go Go.RowKit Go.ChangeShapes Go.WideShapes Go.Deep
theorem lawLimits {w : World} {v0 : Value} {a0 : Tsk} (h0 : V w v0 a0) {v1 : Value} {a1 : Int} (h1 : V w v1 a1) : Fn Try.prog 6 [v0, v1] w fun v w' => v = .bool true ∧ Ext w w' := by
  obtain ⟨rfl, r1⟩ := Vb.int h1
  exact (c_law53_StubbornLimits (fun _ h => h) h0 r1 (limits_eq a0 a1)).mono fun _ _ h => ⟨h.2.bool, h.1⟩
set_option maxRecDepth 100000 in
theorem stubbornLimits_lifted (os : Os) (started : os.Started) (H : Type) (enc : TypeId × Value → H) :
    ReturnsInHanded {} Try.checked os 6 .any (Rows.stubbornLimitsSpec.pre6 enc Try.prog Try.f6 Rows.stubbornLimitsRow.domain false) (Rows.stubbornLimitsSpec.post enc Try.prog Try.f6 false true false false) := by
  refine returnsInHanded_of_change (C := Try.checked) ownTry started (by kernel_rfl) Try.func6 (ChangeSpec.witness6 (enc := enc) (C := Try.checked) false ⟨#[], #[(.agg #[.slice none 0 0, .slice none 0 0, .slice none 0 0, .slice none 0 0]), (.int .i64 0)], []⟩ 8 (by kernel_rfl) (by kernel_rfl) (by kernel_rfl) (by kernel_rfl)) ?_
  intro W base args ds gs before hval hW _ _
  have hopen : ∀ p, DataW.TrodAll enc Try.prog W 0 (fun _ => true) true Try.f6.params.toList args.toList ds p → ∃ v0 v1 d0 d1, args = #[v0, v1] ∧ ds = [d0, d1] ∧ (∃ a : Tsk, V W v0 a) ∧ (∃ a : Int, V W v1 a) := by
    intro p hA
    rw [Try.params6] at hA
    replace hval : ∀ (j : Nat) t v, (#[26, 3] : Array TypeId)[j]? = some t → args[j]? = some v → Value.okWide Try.prog W .any base t v := by rw [← Try.params6]; exact hval
    obtain ⟨v0, vs0, d0, ds0, p0, q0, g0, e0, _, h0, r0⟩ := trodAll_cons hA
    obtain ⟨v1, vs1, d1, ds1, p1, q1, g1, e1, _, h1, r1⟩ := trodAll_cons r0
    obtain ⟨g, e, _⟩ := trodAll_nil r1
    rw [g] at g1; rw [e] at e1
    rw [g1] at g0; rw [e1] at e0
    obtain rfl : args = #[v0, v1] := by cases args; simp_all
    exact ⟨v0, v1, d0, d1, rfl, e0, (by first | exact openAgg rfl (hval 0 26 v0 rfl rfl) h0 | exact openOne rfl (hval 0 26 v0 rfl rfl) h0), (by first | exact openAgg rfl (hval 1 3 v1 rfl rfl) h1 | exact openOne rfl (hval 1 3 v1 rfl rfl) h1)⟩
  refine lawPost rfl (by kernel_rfl) (by rw [Try.params6]; exact of_decide_eq_true (by kernel_rfl)) hW ?_ ?_
  · intro p hA
    obtain ⟨v0, v1, d0, d1, _, rfl, _⟩ := hopen p hA
    rfl
  · intro p hA
    obtain ⟨v0, v1, d0, d1, rfl, _, ⟨a0, h0⟩, ⟨a1, h1⟩⟩ := hopen p hA
    exact lawLimits h0 h1
theorem stubbornLimits_holds : Rows.StubbornLimitsSaid :=
  OpenClaim.holds_of_wide 6 Try.f6 rfl rfl rfl rfl rfl rfl rfl ⟨rfl, rfl, rfl, rfl, rfl⟩ rfl rfl rfl rfl rfl (by kernel_rfl) Try.func6 (by kernel_rfl)
    (of_decide_eq_true (by kernel_rfl)) (by unfold Func.isWrapper; first | (rw [if_pos (by decide +kernel)]; kernel_rfl) | (rw [if_neg (by decide +kernel)]; exact ⟨rfl, rfl⟩))
    (fun os started H enc _ => stubbornLimits_lifted os started H enc)
#print axioms stubbornLimits_holds
end
end Go.Proofs.Ytgnmjmcjadpmhaa

/- Own text: the rule of a loop that counts from 0 to a bound that was taken before it ('range'), for the calculus of XCore. It holds for every program. -/
import Derived.Test.YtdhaelekmjgbmaaRun
namespace Go.Proofs.Ytdhaelekmjgbmaa
open Go Go.RowKit
theorem subs_app {l : Env} : ∀ {a b : Env}, subs l a → subs l b → subs l (a ++ b)
  | [], _, _, h => h
  | (_, _) :: _, _, h, k => ⟨h.1, subs_app h.2 k⟩
theorem subs_push {l : Env} {i : Nat} {v : Value} : ∀ {e : Env}, lk e i = none → subs l e → subs ((i, v) :: l) e
  | [], _, _ => trivial
  | (j, u) :: r, hn, h => by
    simp only [lk] at hn
    cases hb : Nat.beq j i with
    | true => rw [hb] at hn; simp at hn
    | false =>
      rw [hb] at hn
      refine ⟨?_, subs_push hn h.2⟩
      have : Nat.beq i j = false := by
        cases hx : Nat.beq i j
        · rfl
        · rw [Nat.eq_of_beq_eq_true hx, Nat.beq_refl] at hb; cases hb
      simp only [lk, this]
      exact h.1
section
variable {P : Program} {m : Nat} {Q : Post} {l : Env} {w : World}
/-- The knowledge of the round's head. -/
def rgE (i n : Tmp) (N k : Nat) (e : Env) : Env := (i, .int .i64 (k : Int)) :: (n, .int .i64 (N : Int)) :: e
theorem ewp_range {X : Type} {t i n inc : Tmp} {b b' r r2 : Nat} {ty1 ty2 ty3 y1 y2 y3 y4 : TypeId} {p1 p2 p3 : String} {a1 a2 a3 : Array Edge} {body : Code} (N : Nat) (hN : N ≤ 9223372036854775807) (E : X → Env) (I : Nat → X → World → Prop) (x₀ : X)
    (h₀ : I 0 x₀ w) (hs : subs l (rgE i n N 0 (E x₀)))
    (hf : ∀ x, lk (E x) i = none ∧ lk (E x) inc = none) (ht : Nat.blt t m = true ∧ Nat.blt i m = true ∧ Nat.blt inc m = true) (hne : Nat.beq i n = false ∧ Nat.beq inc n = false)
    (hbody : ∀ k x w, k < N → I k x w → ewp P m body (inBlk b' (thn (fun l' w' => ∃ x', subs l' (rgE i n N k (E x')) ∧ I (k + 1) x' w') (inBlk b Q))) ((t, .bool true) :: rgE i n N k (E x)) w)
    (hdone : ∀ x w, I N x w → Q .normal ((t, .bool false) :: rgE i n N N (E x)) w) :
    ewp P m (.loop (.seq (.region r #[⟨some t, .binOp .lss ty1 (.tmp i) (.tmp n) ty2, y1, p1, a1, none⟩] false) (.seq (.cond (.tmp t) .skip (.exit b)) (.seq (.block b' body)
      (.region r2 #[⟨some inc, .binOp .add ty3 (.tmp i) (.const (.int .i64 1)) y4, y2, p2, a2, none⟩, ⟨some i, .move (.tmp inc), y3, p3, a3, none⟩] false))))) (inBlk b Q) l w := by
  have lki : ∀ k e, opv (rgE i n N k e) (.tmp i) = some (.int .i64 (k : Int)) := fun k e => by simp [opv, rgE, lk]
  have lkn : ∀ k e, opv (rgE i n N k e) (.tmp n) = some (.int .i64 (N : Int)) := fun k e => by simp only [opv, rgE, lk, hne.1]; simp
  refine (ewp_for (X := Nat × X) (fun kx => rgE i n N kx.1 (E kx.2)) (fun kx w => kx.1 ≤ N ∧ I kx.1 kx.2 w) (fun kx => N - kx.1) (0, x₀) ⟨Nat.zero_le _, h₀⟩ hs ?_)
  rintro ⟨k, x⟩ w1 ⟨hk, hI⟩
  dsimp only at hk hI ⊢
  refine ewp_seq (ewp_region ?_)
  by_cases hlt : k < N
  · refine owp_dT (ev_lss (lki k _) (lkn k _)) ht.1 (by omega) (owp_nilT ?_)
    refine ewp_seq (ewp_true (by simp [opv, lk]) (ewp_skip ?_))
    refine ewp_seq (ewp_block (ewp_mono ?_ (hbody k x w1 hlt hI)))
    have conv : ∀ l' w', (∃ x', subs l' (rgE i n N k (E x')) ∧ I (k + 1) x' w') → ewp P m (.region r2 #[⟨some inc, .binOp .add ty3 (.tmp i) (.const (.int .i64 1)) y4, y2, p2, a2, none⟩, ⟨some i, .move (.tmp inc), y3, p3, a3, none⟩] false)
        (thn (fun l' w' => ∃ x' : Nat × X, subs l' (rgE i n N x'.1 (E x'.2)) ∧ (x'.1 ≤ N ∧ I x'.1 x'.2 w') ∧ N - x'.1 < N - k) (inBlk b Q)) l' w' := by
      rintro l' w' ⟨x', hsub, hI'⟩
      refine ewp_region ?_
      refine owp_ev (ev_inc (show opv l' (.tmp i) = _ from hsub.1) (by omega)) ht.2.2 ?_
      refine owp_ev (ev_move (v := .int .i64 ((k + 1 : Nat) : Int)) (by simp [opv, lk])) ht.2.1 (owp_nilT ?_)
      refine ⟨(k + 1, x'), ⟨by simp [lk], ?_, ?_⟩, ⟨hlt, hI'⟩, by dsimp only; omega⟩
      · simp only [lk, hne.1, hne.2]; exact hsub.2.1
      · exact subs_push (hf x').1 (subs_push (hf x').2 hsub.2.2)
    intro e l' w' hq
    cases e with
    | normal => exact conv l' w' hq
    | exit j =>
      simp only [inBlk] at hq ⊢
      cases hj : Nat.beq j b' with
      | true => rw [hj] at hq; exact conv l' w' hq
      | false => rw [hj] at hq; exact hq
    | panic c => exact hq
    | outgrown => exact hq
    | goto j => exact hq
    | ret => exact hq
  · have hkN : k = N := by omega
    subst hkN
    refine owp_dF (ev_lss (lki k _) (lkn k _)) ht.1 (by omega) (owp_nilT ?_)
    refine ewp_seq (ewp_false (by simp [opv, lk]) (ewp_exit ?_))
    have hb : Nat.beq b b = true := Nat.beq_refl b
    simp only [thn, inBlk, hb]
    exact hdone x w1 hI
end
/-- The places of a struct's fields. -/
class TPlaces (P : Program) (t : TypeId) (pl : outParam (List (Nat × Nat))) : Prop where eq : ∃ fs, P.underlying t = some (.struct fs) ∧ ∀ w, (fs.mapM fun f => Prod.mk f.offset <$> sizeOf f.type : Sem (Array (Nat × Nat))).run P w = .ok pl.toArray w
def setParts : List Value → List (Nat × Value) → List Value
  | cs, [] => cs
  | cs, (o, v) :: r => setParts (setFrom cs o v.cells.toList) r
def partsOk (pl : List (Nat × Nat)) (m : Nat) : List (Nat × Value) → Option (List (Nat × Value))
  | [] => some []
  | (i, v) :: r => match pl[i]? with
    | some (off, size) => match Nat.beq v.cells.toList.length size && Nat.ble (off + size) m with
      | true => match partsOk pl m r with
        | some k => some ((off, v) :: k)
        | none => none
      | false => none
    | none => none
theorem fill_parts (pl : List (Nat × Nat)) : ∀ (ps : List (Nat × Value)) (acc : Array Value) (k : List (Nat × Value)), partsOk pl acc.size ps = some k → Instr.fill (pl.toArray[·]?) acc ps = some (setParts acc.toList k).toArray
  | [], acc, k, h => by
    simp only [partsOk, Option.some.injEq] at h
    subst h
    simp [Instr.fill, setParts]
  | (i, v) :: r, acc, k, h => by
    simp only [partsOk] at h
    cases hp : pl[i]? with
    | none => rw [hp] at h; simp at h
    | some q =>
      obtain ⟨off, size⟩ := q
      rw [hp] at h
      simp only at h
      cases hb : Nat.beq v.cells.toList.length size && Nat.ble (off + size) acc.size with
      | false => rw [hb] at h; simp at h
      | true =>
        rw [hb] at h
        simp only at h
        cases hr : partsOk pl acc.size r with
        | none => rw [hr] at h; simp at h
        | some k' =>
          rw [hr] at h
          simp only [Option.some.injEq] at h
          subst h
          rw [Bool.and_eq_true] at hb
          have h1 : v.cells.size = size := by simpa using Nat.eq_of_beq_eq_true hb.1
          have h2 : off + size ≤ acc.size := Nat.le_of_ble_eq_true hb.2
          simp only [Instr.fill, List.getElem?_toArray, hp]
          rw [if_neg (by simp [h1]; omega)]
          have hf := foldl_setFrom v.cells.toList 0 off acc
          rw [Nat.add_zero] at hf
          have he : Array.foldl (fun cs (x : Value × Nat) => cs.setIfInBounds (off + x.2) x.1) acc v.cells.zipIdx = (setFrom acc.toList off v.cells.toList).toArray := by
            rw [← Array.foldl_toList, Array.toList_zipIdx]
            apply Array.toList_inj.1
            rw [hf]
          have hsz : (setFrom acc.toList off v.cells.toList).toArray.size = acc.size := by simp [setFrom_length]
          have ih := fill_parts pl r (setFrom acc.toList off v.cells.toList).toArray k' (by rw [hsz]; exact hr)
          simp only [setParts]
          rw [← ih]
          congr 1
          funext x
          simp
def zipIx : List Nat → List Value → List (Nat × Value)
  | i :: r, v :: s => (i, v) :: zipIx r s
  | _, _ => []
theorem zipIx_map (f : Operand → Value) : ∀ (ps : List (Nat × Operand)), ps.map (fun p => (p.1, f p.2)) = zipIx (ps.map (·.1)) ((ps.map (·.2)).map f)
  | [] => rfl
  | p :: r => by simp [zipIx, zipIx_map f r]
theorem ev_build {P : Program} {l : Env} {w : World} {dst : Option Tmp} {ty : TypeId} {pos : String} {aft : Array Edge} {t : TypeId} {z : Value} {size bytes : Nat} [TInfo P t z size bytes] {pl : List (Nat × Nat)} [hp : TPlaces P t pl] {ps : List (Nat × Operand)} {vs : List Value} {k : List (Nat × Value)}
    (hx : opvs l (ps.map (·.2)) = some vs) (hk : partsOk pl z.cells.size (zipIx (ps.map (·.1)) vs) = some k) : Ev P ⟨dst, .build t ps.toArray, ty, pos, aft, none⟩ l w (.agg (setParts z.cells.toList k).toArray) := fun _ a d ha => by
  obtain ⟨fs, h1, h2⟩ := hp.eq
  have hps : (ps.map fun p => (p.1, a.eval p.2)) = zipIx (ps.map (·.1)) vs := by rw [zipIx_map, ha.evals hx]
  have hf := fill_parts pl _ z.cells k hk
  simp only [execOp, Instr.build]
  simp [run_zero (P := P) (t := t), run_underlying h1, h2 (dr w d)]
  have hf' : Instr.fill (fun x => pl[x]?) z.cells (zipIx (ps.map (·.1)) vs) = some (setParts z.cells.toList k).toArray := by
    rw [← hf]; congr 1; funext x; simp
  rw [hps, hf']
  simp
end Go.Proofs.Ytdhaelekmjgbmaa

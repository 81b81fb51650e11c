/- Own text: from a law's contract to its given statement: the arguments are plain data, and read again as before where all that was there stays. -/
import Derived.Test.YtdhaelekmjgbmaaOpen2
import Derived.Test.YtdhaelekmjgbmaaRows
import Derived.ProofKit
import Derived.ReadAgain
import Derived.ChangeStays
namespace Go.Proofs.Ytdhaelekmjgbmaa
open Go Go.RowKit Go.ChangeShapes Go.WideShapes Go.Deep
theorem oneCells {P : Program} {w : World} {t : TypeId} [ht : TOne P t] {base : Nat} {v : Value} (hv : Value.okWide P w .any base t v) : v.cells.toList = [v] := by
  obtain ⟨k, hk, hm⟩ := ht.eq
  cases v with
  | agg cs => cases k <;> first | (simp at hm; done) | (simp only [Value.okWide, hk, Cell.okWide] at hv; simp_all [Cell.ok]; done)
  | _ => rfl
theorem aggCells {P : Program} {w : World} {t : TypeId} [ht : TAgg P t] {base : Nat} {v : Value} (hv : Value.okWide P w .any base t v) : ∃ cs, v = .agg cs := by
  obtain ⟨k, hk, hm⟩ := ht.eq
  cases k <;> first | (simp at hm; done) | (simp only [Value.okWide, hk] at hv; obtain ⟨cs, rfl, _⟩ := hv; exact ⟨cs, rfl⟩)
theorem openOne {H : Type} {enc : TypeId × Value → H} {P : Program} {w : World} {t : TypeId} {α : Type} [Rp α] [Reads P t α] [TOne P t] {base : Nat} {v : Value} {d : DataW H} {p : List MemPlace} (hb : Rp.isAgg α = false) (hv : Value.okWide P w .any base t v)
    (h : DataW.Trod enc P w 0 (fun _ => true) true t v d p) : ∃ a : α, V w v a :=
  openV (fun h => by rw [hb] at h; cases h) (fun _ => oneCells hv) h
theorem openAgg {H : Type} {enc : TypeId × Value → H} {P : Program} {w : World} {t : TypeId} {α : Type} [Rp α] [Reads P t α] [TAgg P t] {base : Nat} {v : Value} {d : DataW H} {p : List MemPlace} (hb : Rp.isAgg α = true) (hv : Value.okWide P w .any base t v)
    (h : DataW.Trod enc P w 0 (fun _ => true) true t v d p) : ∃ a : α, V w v a :=
  openV (fun _ => aggCells hv) (fun h => by rw [hb] at h; cases h) h
theorem ownTry : ownKnob Try.prog.godebug = none := by kernel_rfl
theorem kidsTry : Kids Try.prog (· < Try.prog.types.size) := kids_rows (by kernel_rfl) (by kernel_rfl)
theorem fullTry : ∀ t e, t < Try.prog.types.size → Try.prog.underlying t = some (.slice e) → 0 < Try.prog.cellsOf e := slices_full_of Try.prog (by kernel_rfl)
theorem readAgain {H : Type} {enc : TypeId × Value → H} {W W' : World} (hE : Ext W W') {sp : Nat → Bool} : ∀ {ts : List TypeId} {vs : List Value} {ds : List (DataW H)} {ps : List MemPlace}, (∀ t ∈ ts, t < Try.prog.types.size) →
    DataW.TrodAll enc Try.prog W 0 (fun _ => true) true ts vs ds ps → (∀ p ∈ ps, sp p.block = true) → DataW.TrodAll enc Try.prog W' 0 sp true ts vs ds ps
  | [], _, _, _, _, h, _ => by
    obtain ⟨rfl, rfl, rfl⟩ := trodAll_nil h
    exact rfl
  | t :: ts, _, _, _, ht, h, hs => by
    obtain ⟨v, vs1, d, ds1, a, b, rfl, rfl, rfl, ⟨n, h1⟩, h2⟩ := trodAll_cons h
    refine ⟨a, b, ⟨n, DataW.trod_stays kidsTry (fun {t e} => fullTry t e) (fun h => by cases h) (ht t List.mem_cons_self) h1 (fun p hp => hE.same (DataW.trod_lt n _ _ _ h1 p hp)) (fun p hp => hs p (List.mem_append_left _ hp))⟩,
      readAgain hE (fun t' ht' => ht t' (List.mem_cons_of_mem _ ht')) h2 (fun p hp => hs p (List.mem_append_right _ hp)), rfl⟩
set_option maxRecDepth 100000 in
/-- What a law's contract gives for its row. -/
theorem lawPost {H : Type} {enc : TypeId × Value → H} {f : FuncId} {fn : Func} {s : ChangeSpec} {again : Bool} {W : World} {args : Array Value} {ds gs : List (DataW H)} {before : List MemPlace}
    (hvars : s.vars = []) (hrt : fn.resultTypes = #[4]) (hpt : ∀ t ∈ fn.params.toList, t < Try.prog.types.size) (hW : DataW.Whole enc Try.prog fn.params.toList s.vars false W args.toList ds gs before)
    (hs : ∀ p, DataW.TrodAll enc Try.prog W 0 (fun _ => true) true fn.params.toList args.toList ds p → s.fn H (ds ++ []) = { results := [.lit (.bool true)], args := ds })
    (hc : ∀ p, DataW.TrodAll enc Try.prog W 0 (fun _ => true) true fn.params.toList args.toList ds p → Fn Try.prog f args.toList W fun v w' => v = .bool true ∧ Ext W w') :
    Calls Try.prog f args W fun e W' => ∃ v, e = .returned v ∧ s.post enc Try.prog fn false true false again W args v W' := by
  have hW' := hW
  obtain ⟨p, q, hA, hV, rfl, hfz, hnd⟩ := hW
  rw [hvars] at hV
  obtain ⟨rfl, rfl⟩ := trodVars_none hV
  have h1 := hc p hA W.drawn
  rw [dr_self] at h1
  refine h1.mono fun e W' ⟨v, w₀, d', he, hw, hv, hE⟩ => ?_
  subst he; subst hv
  refine ⟨_, rfl, ?_⟩
  have hE' : Ext W W' := by
    subst hw
    exact ⟨hE.os, hE.tape, hE.output, hE.size, hE.block⟩
  clear hE h1 hw
  have hsp := hs p hA
  have hlt := hW'.lt
  have hold : ∀ q ∈ p ++ [], (fun b => decide (b < W.heap.size)) q.block = true := fun q hq => by simpa using hlt q hq
  have hargs : ∀ sp : Nat → Bool, (∀ q ∈ p, sp q.block = true) → DataW.TrodAll enc Try.prog W' 0 sp true fn.params.toList args.toList ds p := fun sp h => readAgain hE' hpt hA h
  have hres : ∀ (b : Nat) (sp : Nat → Bool) (hd : Bool), DataW.TrodAll enc Try.prog W' b sp hd fn.resultTypes.toList ((Value.bool true).resultList fn.resultTypes.size) [.lit (.bool true)] [] := fun _ _ _ => by
    rw [hrt]; exact trodAll_mk1 (shut_bool Try.underlying4 _)
  have hk : W.keptBut W' (fun q => q ∈ p ++ [] ∧ (q ∈ ([] : List MemPlace) ∨ q ∈ p ∨ q ∈ ([] : List MemPlace))) := Below.frame hE' _
  have hok : ∀ (j : Nat) (t : TypeId) (r : Value), fn.resultTypes[j]? = some t → ((Value.bool true).resultList fn.resultTypes.size)[j]? = some r → Value.okWide Try.prog W' .any 0 t r := by
    have h0 : Value.okWide Try.prog W' .any 0 4 (.bool true) := okWide_bool_mk Try.underlying4 true
    have h2 : (Value.bool true).resultList 1 = [Value.bool true] := by unfold Value.resultList; rfl
    exact ok_one (P := Try.prog) (W' := W') (f := fn) (v := .bool true) (t := 4) hrt h2 h0
  refine ⟨ds, [], p ++ [], [], p, [], hW', ?_, ?_, ?_, hk, fun _ => ⟨hok, [.lit (.bool true)] ++ ds, [], ([] ++ p) ++ [], ⟨[] ++ p, [], ?_, ?_, rfl, ?_, ?_⟩, ?_⟩⟩
  · rw [hsp]; exact hres _ _ _
  · rw [hsp]; exact hargs _ (fun q hq => hold q (by simpa using hq))
  · rw [hsp, hvars]; rfl
  · exact trodAll_append (hargs _ (fun _ _ => rfl)) (hres _ _ _)
  · rw [hvars]; rfl
  · intro b off hp
    have hp' : MemPlace.cell b off ∈ p ++ [] := by simpa using hp
    rw [hE'.frozen (p := ⟨b, off, none⟩) (hlt _ hp')]
    exact hfz b off hp'
  · intro ha; cases ha
  · intro q hq _; simpa using hq
end Go.Proofs.Ytdhaelekmjgbmaa

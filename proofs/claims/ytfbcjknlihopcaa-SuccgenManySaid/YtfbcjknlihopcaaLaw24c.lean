/- Own text: the model of the law SuccgenMany answers true. Plain, no program in sight. -/
import Derived.Test.YtfbcjknlihopcaaGen4
import Derived.Test.YtfbcjknlihopcaaLaw24b
namespace Go.Proofs.Ytfbcjknlihopcaa
open Go Go.RowKit
/-- The facts of the first k values of a state, but for one variable. -/
def preK (sk : Nat) (x : List Int) : Nat → List Fct
  | 0 => []
  | k + 1 => preK sk x k ++ (match x[k]? with | some a => if k = sk then [] else [⟨(k : Int), a⟩] | none => [])
theorem preK_len (sk : Nat) (x : List Int) : ∀ k, (preK sk x k).length ≤ k
  | 0 => Nat.le_refl _
  | k + 1 => by
    have := preK_len sk x k
    simp only [preK, List.length_append]
    have : (match x[k]? with | some a => if k = sk then ([] : List Fct) else [⟨(k : Int), a⟩] | none => []).length ≤ 1 := by
      split
      · split <;> simp
      · simp
    omega
theorem preK_step {sk : Nat} {x : List Int} {k : Nat} {a : Int} (h : x[k]? = some a) : preK sk x (k + 1) = preK sk x k ++ if k = sk then [] else [⟨(k : Int), a⟩] := by simp only [preK, h]
theorem mem_preK {sk : Nat} {x : List Int} : ∀ {k : Nat} {f : Fct}, f ∈ preK sk x k → ∃ i : Nat, i < k ∧ i ≠ sk ∧ f.var = (i : Int) ∧ x[i]? = some f.val
  | 0, f, h => by simp [preK] at h
  | k + 1, f, h => by
    rcases List.mem_append.1 h with h | h
    · obtain ⟨i, h1, h2⟩ := mem_preK h; exact ⟨i, by omega, h2⟩
    · split at h
      · rename_i a ha
        split at h
        · cases h
        · have : f = ⟨(k : Int), a⟩ := by simpa using h
          subst this
          exact ⟨k, by omega, by assumption, rfl, ha⟩
      · cases h
theorem preK_ok {vars x : List Int} {sk : Nat} (hx : StateOk vars x) : ∀ k, FactsOk vars (preK sk x k) := fun k => by
  refine factsOk_pw.2 ⟨fun f hf => ?_, ?_⟩
  · obtain ⟨i, _, _, h2, h3⟩ := mem_preK hf
    obtain ⟨y, hy⟩ := some_of_lt (l := vars) (k := i) (by rw [← hx.1]; exact lt_of_get h3)
    have := hx.2 i _ y h3 hy
    exact ⟨by omega, this.1, y, by rw [h2]; exact hy, this.2⟩
  · induction k with
    | zero => exact List.Pairwise.nil
    | succ k ih =>
      simp only [preK]
      refine List.pairwise_append.2 ⟨ih, ?_, fun f hf g hg => ?_⟩
      · split
        · split <;> simp
        · simp
      · obtain ⟨i, h1, _, h2, _⟩ := mem_preK hf
        split at hg
        · split at hg
          · cases hg
          · rename_i b _ _
            have : g = ⟨(k : Int), b⟩ := by simpa using hg
            rw [this]; show f.var < (k : Int); omega
        · cases hg
/-- A state agrees with another one but for one variable. -/
def matchB (sk : Nat) (s : List Int) : List Int → Nat → Bool
  | [], _ => true
  | a :: r, k => (decide (k = sk) || decide (s[k]? = some a)) && matchB sk s r (k + 1)
theorem matchB_append (sk : Nat) (s : List Int) : ∀ (x y : List Int) (k : Nat), matchB sk s (x ++ y) k = (matchB sk s x k && matchB sk s y (k + x.length))
  | [], y, k => by simp [matchB]
  | a :: x, y, k => by simp only [List.cons_append, matchB, matchB_append sk s x y (k + 1), List.length_cons, Bool.and_assoc]; rw [show k + 1 + x.length = k + (x.length + 1) from by omega]
theorem holds_preK {sk : Nat} {s x : List Int} : ∀ k, k ≤ x.length → holdsB (preK sk x k) s = matchB sk s (x.take k) 0 := fun k => by
  induction k with
  | zero => intro _; rfl
  | succ k ih =>
    intro hk
    obtain ⟨a, ha⟩ := some_of_lt (l := x) (k := k) (by omega)
    rw [preK_step ha, List.take_add_one, ha, matchB_append, ← ih (by omega)]
    unfold holdsB
    rw [List.all_append]
    congr 1
    rw [List.length_take, Nat.min_eq_left (by omega), Nat.zero_add]
    by_cases hks : k = sk
    · simp [hks, matchB]
    · rw [if_neg hks]
      have : ((k : Int)).toNat = k := by omega
      simp [matchB, hks, hasB]
theorem count_exts {sk : Nat} {s : List Int} {y : List Int} {v n : Nat} (hs : s[y.length]? = some (v : Int)) (hv : v < n) : (exts n y).countP (fun x => matchB sk s x 0) = if matchB sk s y 0 = true then (if y.length = sk then n else 1) else 0 := by
  have h1 : ∀ z : Nat, matchB sk s (y ++ [(z : Int)]) 0 = (matchB sk s y 0 && (decide (y.length = sk) || decide (z = v))) := fun z => by
    rw [matchB_append, Nat.zero_add]
    congr 1
    simp only [matchB, hs, Bool.and_true]
    congr 1
    apply decide_eq_decide.2
    constructor
    · intro h; have := Option.some.inj h; omega
    · intro h; rw [h]
  unfold exts
  rw [List.countP_map]
  by_cases hm : matchB sk s y 0 = true
  · rw [if_pos hm]
    by_cases hk : y.length = sk
    · rw [if_pos hk]
      have : (List.range n).countP ((fun x => matchB sk s x 0) ∘ fun x : Nat => y ++ [(x : Int)]) = (List.range n).length := by
        rw [List.countP_eq_length]
        intro z _
        simp [h1, hm, hk]
      rw [this, List.length_range]
    · rw [if_neg hk]
      have e : ((fun x => matchB sk s x 0) ∘ fun x : Nat => y ++ [(x : Int)]) = fun z => decide (z = v) := by
        funext z; simp [h1, hm, hk]
      rw [e]
      have key : ∀ m, (List.range m).countP (fun z => decide (z = v)) = if v < m then 1 else 0 := fun m => by
        induction m with
        | zero => rfl
        | succ m ih =>
          rw [List.range_succ, List.countP_append, ih]
          by_cases h1 : v < m
          · rw [if_pos h1, if_pos (by omega)]
            have : m ≠ v := by omega
            simp [this]
          · by_cases h2 : m = v
            · rw [if_neg h1, if_pos (by omega)]; simp [h2]
            · rw [if_neg h1, if_neg (by omega)]; simp [h2]
      rw [key, if_pos hv]
  · rw [if_neg hm, List.countP_eq_zero]
    intro z _
    simp [h1, hm]
theorem count_grows {sk k v n : Nat} {s : List Int} (hs : s[k]? = some (v : Int)) (hv : v < n) : ∀ (l : List (List Int)), (∀ y ∈ l, y.length = k) → (grows l (n : Int)).countP (fun x => matchB sk s x 0) = l.countP (fun x => matchB sk s x 0) * (if k = sk then n else 1)
  | [], _ => by simp [grows]
  | y :: l, h => by
    have ih := count_grows (sk := sk) hs hv l (fun z hz => h z (List.mem_cons_of_mem _ hz))
    have hy := h y List.mem_cons_self
    unfold grows at ih ⊢
    rw [List.flatMap_cons, List.countP_append, ih, Int.toNat_natCast, count_exts (by rw [hy]; exact hs) hv, List.countP_cons, hy]
    by_cases hm : matchB sk s y 0 = true
    · rw [if_pos hm, if_pos hm, Nat.add_mul]; omega
    · rw [if_neg hm, if_neg hm]; simp
theorem count3 {sk a b c x y z : Nat} (hx : x < a) (hy : y < b) (hz : z < c) : (statesL [(a : Int), (b : Int), (c : Int)]).countP (fun q => matchB sk [(x : Int), (y : Int), (z : Int)] q 0) = (if 0 = sk then a else 1) * (if 1 = sk then b else 1) * (if 2 = sk then c else 1) := by
  have hl := statesL_mem [(a : Int), (b : Int), (c : Int)]
  show (grows (grows (grows [[]] (a : Int)) (b : Int)) (c : Int)).countP _ = _
  have h2 : ∀ y ∈ grows (grows [[]] (a : Int)) (b : Int), y.length = 2 := hl 2 (by simp)
  have h1 : ∀ y ∈ grows [[]] (a : Int), y.length = 1 := hl 1 (by simp)
  rw [count_grows (k := 2) (v := z) rfl hz _ h2, count_grows (k := 1) (v := y) rfl hy _ h1, count_grows (k := 0) (v := x) rfl hx _ (by simp)]
  simp [matchB]
def opOf (sk : Nat) (x : List Int) : Opr := ⟨⟨#[]⟩, 0, preK sk x x.length, []⟩
theorem many_eq (sizes s : Byt × Byt × Byt) (skip : Byt) : m_law24_SuccgenMany sizes s skip = some true := by
  obtain ⟨a0, ha0⟩ := Int.eq_ofNat_of_zero_le sizes.1.lo
  obtain ⟨b0, hb0⟩ := Int.eq_ofNat_of_zero_le sizes.2.1.lo
  obtain ⟨c0, hc0⟩ := Int.eq_ofNat_of_zero_le sizes.2.2.lo
  obtain ⟨x0, hx0⟩ := Int.eq_ofNat_of_zero_le s.1.lo
  obtain ⟨y0, hy0⟩ := Int.eq_ofNat_of_zero_le s.2.1.lo
  obtain ⟨z0, hz0⟩ := Int.eq_ofNat_of_zero_le s.2.2.lo
  obtain ⟨sk0, hsk0⟩ := Int.eq_ofNat_of_zero_le skip.lo
  have hmod : ∀ p q : Nat, (p : Int) % (q : Int) = ((p % q : Nat) : Int) := fun _ _ => rfl
  unfold m_law24_SuccgenMany
  rw [awake_eq, bnd_some, if_t]
  have hav : ∀ p : Nat, p % 8 + 1 ≤ 8 ∧ 1 ≤ p % 8 + 1 := fun p => by omega
  rw [rngN_from (fun k => (([((a0 % 8 + 1 : Nat) : Int), ((b0 % 8 + 1 : Nat) : Int), ((c0 % 8 + 1 : Nat) : Int)] : List Int).take k, List.replicate k (0 : Int))) ?ha ?hb]
  case ha => rfl
  case hb =>
    intro k hk
    have e : [sizes.1.n, sizes.2.1.n, sizes.2.2.n][k]? = some (([a0, b0, c0][k]?.getD 0 : Nat) : Int) := by
      rw [ha0, hb0, hc0]
      match k, hk with
      | 0, _ => rfl
      | 1, _ => rfl
      | 2, _ => rfl
    have e2 : (([((a0 % 8 + 1 : Nat) : Int), ((b0 % 8 + 1 : Nat) : Int), ((c0 % 8 + 1 : Nat) : Int)] : List Int)[k]?) = some ((([a0, b0, c0][k]?.getD 0) % 8 + 1 : Nat) : Int) := by
      match k, hk with
      | 0, _ => rfl
      | 1, _ => rfl
      | 2, _ => rfl
    have hm := hav ([a0, b0, c0][k]?.getD 0)
    rw [e, bnd_some, remI_eq (by omega) (by decide), bnd_some, show (8 : Int) = ((8 : Nat) : Int) from rfl, hmod, chkI_eq (by unfold inI64; omega), bnd_some, appI_eq (by simp; omega) (by simp; omega), bnd_some, appI_eq (by simp; omega) (by simp; omega), bnd_some, List.take_add_one, e2, List.replicate_succ']
    rfl
  rw [bnd_some, fin_d, remI_eq skip.lo (by decide), bnd_some, hsk0, show (4 : Int) = ((4 : Nat) : Int) from rfl, hmod]
  have hsk : sk0 % 4 < 4 := Nat.mod_lt _ (by decide)
  generalize sk0 % 4 = sk at hsk
  have ha := hav a0
  have hb := hav b0
  have hc := hav c0
  generalize a0 % 8 + 1 = a at ha
  generalize b0 % 8 + 1 = b at hb
  generalize c0 % 8 + 1 = c at hc
  simp only [show ([(a : Int), (b : Int), (c : Int)] : List Int).take 3 = [(a : Int), (b : Int), (c : Int)] from rfl, show List.replicate 3 (0 : Int) = [0, 0, 0] from rfl]
  have hvars : ∀ (i : Nat) n, ([(a : Int), (b : Int), (c : Int)] : List Int)[i]? = some n → 1 ≤ n ∧ n ≤ 8 := fun i n h => by
    have := List.mem_of_getElem? h
    simp at this
    rcases this with rfl | rfl | rfl <;> omega
  have hpl : ∀ k, (statesL (([(a : Int), (b : Int), (c : Int)] : List Int).take k)).length ≤ 512 := fun k => by
    rw [statesL_len]
    have h1 : a * b ≤ 8 * 8 := Nat.mul_le_mul ha.1 hb.1
    have h2 : a * b * c ≤ 8 * 8 * 8 := Nat.mul_le_mul h1 hc.1
    match k with
    | 0 => simp [prodV]
    | 1 => simp [prodV]; omega
    | 2 => simp [prodV]; omega
    | k + 3 => simp [prodV]; omega
  rw [states_eq (fun i n h => by have := hvars i n h; omega) (fun k => by have := hpl k; omega) (by simp), bnd_some]
  have hpl3 := hpl 3
  rw [show ([(a : Int), (b : Int), (c : Int)] : List Int).take 3 = [(a : Int), (b : Int), (c : Int)] from rfl] at hpl3
  have hst : ∀ q ∈ statesL [(a : Int), (b : Int), (c : Int)], StateOk [(a : Int), (b : Int), (c : Int)] q := fun q hq => mem_statesL.1 hq
  rw [rng_from (fun k => ((statesL [(a : Int), (b : Int), (c : Int)]).take k).map (opOf sk)) ?ha ?hb]
  case ha => rfl
  case hb =>
    intro k x hx
    have hxl := (hst x (List.mem_of_getElem? hx)).1
    have hkl := lt_of_get hx
    rw [rng_from (fun j => preK sk x j) ?hc ?hd]
    case hc => rfl
    case hd =>
      intro j y hy
      have hjl := lt_of_get hy
      have hp := preK_len sk x j
      simp at hxl
      by_cases hjs : j = sk
      · rw [if_neg (by omega), preK_step hy, if_pos hjs, List.append_nil]
      · rw [if_pos (by omega), appI_eq (by simp; omega) (by simp; omega), bnd_some, preK_step hy, if_neg hjs]
    rw [bnd_some, fin_d, appI_eq (by simp; omega) (by simp; omega), bnd_some, List.take_add_one, hx, List.map_append]
    rfl
  rw [bnd_some, fin_d, List.take_length]
  have hok : TaskOk ⟨[(a : Int), (b : Int), (c : Int)], [0, 0, 0], [], (statesL [(a : Int), (b : Int), (c : Int)]).map (opOf sk)⟩ := by
    refine ⟨by simp, by show (List.map _ _).length ≤ _; rw [List.length_map]; omega, fun i n h => by have := hvars i n h; omega, ⟨rfl, fun i x y hx hy => ?_⟩, ⟨fun i x hx => by simp at hx, fun i x y hx => by simp at hx⟩, fun i o ho => ?_⟩
    · have h1 := hvars i y hy
      have h2 := List.mem_of_getElem? hx
      simp at h2
      omega
    · replace ho : ((statesL [(a : Int), (b : Int), (c : Int)]).map (opOf sk))[i]? = some o := ho
      rw [List.getElem?_map] at ho
      obtain ⟨x, hx, rfl⟩ := Option.map_eq_some_iff.1 ho
      exact ⟨by simp [opOf], by simp [opOf], by simp [opOf], ⟨Nat.zero_le _, fun i h => absurd h (Nat.not_lt_zero i)⟩, preK_ok (hst x (List.mem_of_getElem? hx)) _, fun j e he => by simp [opOf] at he⟩
  rw [new_ok hok, bnd_some, if_neg (by simp), if_neg (by simp), bnd_some, if_f]
  rw [show atI [(a : Int), (b : Int), (c : Int)] 0 = some (a : Int) from rfl, bnd_some, remI_eq s.1.lo (by omega), bnd_some, show atI [(a : Int), (b : Int), (c : Int)] 1 = some (b : Int) from rfl, bnd_some, remI_eq s.2.1.lo (by omega), bnd_some, show atI [(a : Int), (b : Int), (c : Int)] 2 = some (c : Int) from rfl, bnd_some, remI_eq s.2.2.lo (by omega), bnd_some]
  rw [hx0, hy0, hz0, hmod, hmod, hmod]
  have hxa : x0 % a < a := Nat.mod_lt _ (by omega)
  have hyb : y0 % b < b := Nat.mod_lt _ (by omega)
  have hzc : z0 % c < c := Nat.mod_lt _ (by omega)
  generalize x0 % a = x at hxa
  generalize y0 % b = y at hyb
  generalize z0 % c = z at hzc
  have hs : StateOk (⟨[(a : Int), (b : Int), (c : Int)], [0, 0, 0], [], (statesL [(a : Int), (b : Int), (c : Int)]).map (opOf sk)⟩ : Tsk).vars [(x : Int), (y : Int), (z : Int)] :=
    stateOk_cons.2 ⟨by omega, stateOk_cons.2 ⟨by omega, stateOk_cons.2 ⟨by omega, stateOk_nil⟩⟩⟩
  have hcount : (appl ⟨[(a : Int), (b : Int), (c : Int)], [0, 0, 0], [], (statesL [(a : Int), (b : Int), (c : Int)]).map (opOf sk)⟩ [(x : Int), (y : Int), (z : Int)]).length = (if 0 = sk then a else 1) * (if 1 = sk then b else 1) * (if 2 = sk then c else 1) := by
    rw [appl_count]
    show List.countP _ ((statesL [(a : Int), (b : Int), (c : Int)]).map (opOf sk)) = _
    rw [List.countP_map, ← count3 (sk := sk) hxa hyb hzc]
    apply List.countP_congr
    intro q hq
    have : holdsB (preK sk q q.length) [(x : Int), (y : Int), (z : Int)] = matchB sk [(x : Int), (y : Int), (z : Int)] q 0 := by rw [holds_preK _ (Nat.le_refl _), List.take_length]
    simp [opOf, this]
  have hcn : m_succgen_Generator_Count (some ⟨⟨[(a : Int), (b : Int), (c : Int)], [0, 0, 0], [], (statesL [(a : Int), (b : Int), (c : Int)]).map (opOf sk)⟩⟩) [(x : Int), (y : Int), (z : Int)] = some (((if 0 = sk then a else 1) * (if 1 = sk then b else 1) * (if 2 = sk then c else 1) : Nat) : Int) := by
    rw [← hcount, ← appS_ok hs]; exact if_pos (by simp)
  rw [hcn, right_eq hok hs]
  have hsk4 : sk = 0 ∨ sk = 1 ∨ sk = 2 ∨ sk = 3 := by omega
  rcases hsk4 with rfl | rfl | rfl | rfl
  · rw [if_pos (by decide), show atI [(a : Int), (b : Int), (c : Int)] ((0 : Nat) : Int) = some (a : Int) from rfl]; simp [bnd]
  · rw [if_pos (by decide), show atI [(a : Int), (b : Int), (c : Int)] ((1 : Nat) : Int) = some (b : Int) from rfl]; simp [bnd]
  · rw [if_pos (by decide), show atI [(a : Int), (b : Int), (c : Int)] ((2 : Nat) : Int) = some (c : Int) from rfl]; simp [bnd]
  · rw [if_neg (by decide)]; simp [bnd]
end Go.Proofs.Ytfbcjknlihopcaa

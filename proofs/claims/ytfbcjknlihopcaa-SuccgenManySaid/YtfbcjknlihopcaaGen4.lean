/- Own text: the model of the law SuccgenMany and its proof (written by gen2.py). -/
import Derived.Test.YtfbcjknlihopcaaGen3
namespace Go.Proofs.Ytfbcjknlihopcaa
open Go Go.RowKit
attribute [local irreducible] ewp owp hwp hwq hws Ev Evg Fn retPost loud loudS Res1
noncomputable def m_law24_SuccgenMany (x0 : (Byt × Byt × Byt)) (x1 : (Byt × Byt × Byt)) (x2 : Byt) : Option Bool :=
  bnd (m_law24_awake) fun q25 => if q25 = true then bnd (rngN (ρ := Bool) (fun (k41 : Nat) (s39 : (List Int) × (List Int)) => bnd ([x0.1.n, x0.2.1.n, x0.2.2.n][k41]?) fun n58 => bnd (remI n58 8) fun n61 => bnd (chkI (n61 + 1)) fun n64 => bnd (appI 8 s39.1 [n64]) fun u67 => bnd (appI 8 s39.2 [0]) fun u81 => some (.next (u67, u81))) 3 (([] : List Int), ([] : List Int))) fun res37 => fin res37 fun (s99 : (List Int) × (List Int)) => bnd (remI x2.n 4) fun n101 => bnd (m_base_States s99.1) fun q106 => bnd (rng (ρ := Bool) (fun (k121 : Nat) (a122 : List Int) (s119 : (List Opr)) => bnd (rng (ρ := Ctl (List Opr) Bool) (fun (k158 : Nat) (a159 : Int) (s156 : (List Fct)) => if (k158 : Int) ≠ n101 then (bnd (appI 16 s156 [(⟨(k158 : Int), a159⟩ : Fct)]) fun u180 => some (.next u180)) else (some (.next s156))) a122 0 ([] : List Fct)) fun res154 => fin res154 fun (s198 : (List Fct)) => bnd (appI 72 s119 [(⟨(⟨#[]⟩ : ByteArray), 0, s198, ([] : List Eff)⟩ : Opr)]) fun u202 => some (.next u202)) q106 0 ([] : List Opr)) fun res117 => fin res117 fun (s220 : (List Opr)) => bnd (m_succgen_New (⟨s99.1, s99.2, ([] : List Fct), s220⟩ : Tsk)) fun q226 => bnd (if q226.2.n ≠ 0 then (some true) else (if q226.1.isNone = true then (some true) else (some false)) : Option Bool) fun y240 => if y240 = true then (some false) else (bnd (atI s99.1 0) fun a251 => bnd (remI x1.1.n a251) fun n263 => bnd (atI s99.1 1) fun a266 => bnd (remI x1.2.1.n a266) fun n278 => bnd (atI s99.1 2) fun a281 => bnd (remI x1.2.2.n a281) fun n293 => bnd (if n101 < 3 then (bnd (atI s99.1 n101) fun a308 => some a308) else (some 1) : Option Int) fun y302 => bnd (bnd (m_succgen_Generator_Count q226.1 [n263, n278, n293]) fun q328 => if q328 = y302 then (bnd (m_law24_right (⟨s99.1, s99.2, ([] : List Fct), s220⟩ : Tsk) q226.1 [n263, n278, n293]) fun q337 => if q337 = true then some true else some false) else (some false) : Option Bool) fun y324 => some y324) else some false
theorem c_law24_SuccgenMany {w : World} {A : Nat → Prop} (hA : ∀ k, A k → k < w.heap.size) {vx0 : Value} {x0 : (Byt × Byt × Byt)} (hx0 : Vb w A vx0 x0) {vx1 : Value} {x1 : (Byt × Byt × Byt)} (hx1 : Vb w A vx1 x1) {x2 : Byt} {r : Bool} (hm : m_law24_SuccgenMany x0 x1 x2 = some r) :
    Fn Try.prog 6 [vx0, vx1, (.int .u8 x2.n)] w fun v w' => Ext w w' ∧ Vb w' (upA A w w') v r := by
  obtain ⟨O, hB, hA0⟩ := enter hA
  replace hx0 := hx0.mono hA0
  obtain ⟨cs1, rfl, v2, v3, v4, rfl, h5, h6, h7⟩ := hx0
  obtain rfl := h5.byte
  obtain rfl := h6.byte
  obtain rfl := h7.byte
  replace hx1 := hx1.mono hA0
  obtain ⟨cs8, rfl, v9, v10, v11, rfl, h12, h13, h14⟩ := hx1
  obtain rfl := h12.byte
  obtain rfl := h13.byte
  obtain rfl := h14.byte
  refine fn_enter Try.func6 rfl Try.ntmps6 rfl ?_
  unfold m_law24_SuccgenMany at hm
  refine ewp_seq ?_
  refine ewp_region ?_
  refine l_box 2 O rfl rfl fun g15 w16 O17 S18 h19 => ?_
  replace h19 : Lc 2 w16 O17 g15 49 [(.int .u8 x0.1.n), (.int .u8 x0.2.1.n), (.int .u8 x0.2.2.n)] := h19
  replace hB := hB.st S18 (fun h => h) (fun h => h)
  refine l_box 3 O17 rfl rfl fun g20 w21 O22 S23 h24 => ?_
  replace h24 : Lc 3 w21 O22 g20 49 [(.int .u8 x1.1.n), (.int .u8 x1.2.1.n), (.int .u8 x1.2.2.n)] := h24
  replace hB := hB.st S23 (fun h => h) (fun h => h)
  replace h19 := h19.st S23 (fun h => h)
  refine o_as rfl rfl  ?_
  (first | refine owp_nilT ?_ | refine owp_nilB ?_ | refine owp_nilBB ?_ | refine owp_nil ?_)
  refine ewp_seq ?_
  refine ewp_seq ?_
  refine ewp_region ?_
  obtain ⟨q25, e26, hm⟩ := bs hm
  refine l_callA (O := O22) (A := All w21) (R := fun w' F v => Vb w' F v q25) (c_law24_awake (fun _ h => h)  e26) rfl rfl fun v31 w27 O28 S29 h30 => ?_
  obtain rfl := h30.bool
  replace hB := hB.st S29 (fun h => h) (fun h => h)
  replace h19 := h19.st S29 (fun h => h)
  replace h24 := h24.st S29 (fun h => h)
  cases q25
  case false =>
    replace hm := iF hm
    refine o_nf rfl rfl  ?_
    (first | refine owp_nilT ?_ | refine owp_nilB ?_ | refine owp_nilBB ?_ | refine owp_nil ?_)
    refine ewp_true rfl ?_
    refine ewp_seq ?_
    refine ewp_region ?_
    refine o_as rfl rfl  ?_
    (first | refine owp_nilT ?_ | refine owp_nilB ?_ | refine owp_nilBB ?_ | refine owp_nil ?_)
    refine ewp_ret ?_
    obtain rfl := sm hm
    exact ret1v rfl (res_tmp rfl) ⟨hB.ext, vBool⟩
  replace hm := iT hm
  refine o_nt rfl rfl  ?_
  (first | refine owp_nilT ?_ | refine owp_nilB ?_ | refine owp_nilBB ?_ | refine owp_nil ?_)
  refine ewp_false rfl ?_
  refine ewp_skip ?_
  refine ewp_seq ?_
  refine ewp_region ?_
  refine l_alloc 4 O28 rfl fun g32 w33 O34 S35 h36 => ?_
  replace hB := hB.st S35 (fun h => h) (fun h => h)
  replace h19 := h19.st S35 (fun h => h)
  replace h24 := h24.st S35 (fun h => h)
  (first | refine owp_nilT ?_ | refine owp_nilB ?_ | refine owp_nilBB ?_ | refine owp_nil ?_)
  refine ewp_seq ?_
  refine ewp_seq ?_
  refine ewp_region ?_
  refine o_la (hl := rfl) (hc := (h19.1).cellsAt) rfl rfl  ?_
  refine o_mv rfl rfl  ?_
  (first | refine owp_nilT ?_ | refine owp_nilB ?_ | refine owp_nilBB ?_ | refine owp_nil ?_)
  obtain ⟨res37, hL38, hm⟩ := bs hm
  refine ewp_join (aft res37 (fun (s39 : (List Int) × (List Int)) (x40 : (Option Addr × Nat) × (Option Addr × Nat)) => [(2, (.int .u8 x2.n)), (4, (.pointer (some ⟨g20, 0, none⟩))), (7, (.pointer (some ⟨g32, 0, none⟩)))]) (fun s39 x40 w' => ∃ O' : Lab, Bs w A w' O' ∧ Lc 3 w' O' g20 49 [(.int .u8 x1.1.n), (.int .u8 x1.2.1.n), (.int .u8 x1.2.2.n)] ∧ Lc 4 w' O' g32 26 [(.slice x40.1.1 s39.1.length x40.1.2), (.slice x40.2.1 s39.2.length x40.2.2), (.slice none 0 0), (.slice none 0 0)] ∧ Rw 5 w' O' 3 (.slice x40.1.1 s39.1.length x40.1.2) s39.1 ∧ Rw 6 w' O' 3 (.slice x40.2.1 s39.2.length x40.2.2) s39.2)) ?_ ?_
  · refine ewp_block ?_
    refine ewp_rngC (σ := (List Int) × (List Int)) (X := (Option Addr × Nat) × (Option Addr × Nat)) (N := 3) rfl hL38 (by decide) (fun (s39 : (List Int) × (List Int)) (x40 : (Option Addr × Nat) × (Option Addr × Nat)) => [(2, (.int .u8 x2.n)), (4, (.pointer (some ⟨g20, 0, none⟩))), (7, (.pointer (some ⟨g32, 0, none⟩))), (22, (.agg #[(.int .u8 x0.1.n), (.int .u8 x0.2.1.n), (.int .u8 x0.2.2.n)]))]) _ (fun s39 x40 w' => ∃ O' : Lab, Bs w A w' O' ∧ Lc 3 w' O' g20 49 [(.int .u8 x1.1.n), (.int .u8 x1.2.1.n), (.int .u8 x1.2.2.n)] ∧ Lc 4 w' O' g32 26 [(.slice x40.1.1 s39.1.length x40.1.2), (.slice x40.2.1 s39.2.length x40.2.2), (.slice none 0 0), (.slice none 0 0)] ∧ Rw 5 w' O' 3 (.slice x40.1.1 s39.1.length x40.1.2) s39.1 ∧ Rw 6 w' O' 3 (.slice x40.2.1 s39.2.length x40.2.2) s39.2) _ ((none, 0), (none, 0)) ⟨O34, hB, h24, h36, (Rw.nil 5 (by decide)), (Rw.nil 6 (by decide))⟩ ⟨rfl, rfl, rfl, rfl, rfl, trivial⟩ (fun _ _ => ⟨rfl, rfl⟩) (fun _ _ => ⟨rfl, rfl, rfl, trivial⟩) (fun _ _ _ ⟨O', hB, h24, h36, h54, h56⟩ => ⟨O', hB, h24, h36, h54, h56⟩) ⟨rfl, rfl, rfl⟩ ?_
    rintro k41 s39 x40 w43 cc45 hx46 ⟨O44, hB, h24, h36, h54, h56⟩ hf47 hret48 hbrk49
    have rk41 : inI64 (k41 : Int) := rngKN hx46 (by decide)
    refine ewp_seq ?_
    refine ewp_region ?_
    obtain ⟨n58, e59, hf47⟩ := bs hf47
    have r60 : inI64 n58 := all_of_get e59 (by simp only [List.forall_mem_cons]; exact ⟨(x0.1).rng, (x0.2.1).rng, (x0.2.2).rng, fun _ h => by cases h⟩)
    refine o_ixA (hj := rfl) (hl := rfl) (hv := get_map (Value.int .u8) e59) rfl rfl rfl  ?_
    refine o_as rfl rfl  ?_
    (first | refine owp_nilT ?_ | refine owp_nilB ?_ | refine owp_nilBB ?_ | refine owp_nil ?_)
    refine ewp_seq ?_
    refine ewp_region ?_
    refine o_fa rfl rfl  ?_
    refine o_ld (hc := Blk.cell (i := 0) (h36.1) rfl) rfl rfl  ?_
    refine o_mv rfl rfl  ?_
    refine o_cv (hr := r60) rfl rfl  ?_
    obtain ⟨n61, e62, hf47⟩ := bs hf47
    have r63 := remI_in e62 r60
    refine o_rmE (he := e62) rfl rfl rfl  ?_
    obtain ⟨n64, e65, hf47⟩ := bs hf47
    have r66 := (chkI_rng e65)
    refine o_adE (he := e65) rfl rfl rfl  ?_
    obtain ⟨u67, e68, hf47⟩ := bs hf47
    obtain ⟨e68, e69, e70⟩ := appI_some e68
    refine l_append1 rfl (a := n64) h54 (vInt r66) (fun _ => rfl) rfl (by decide) (by decide) e69 e70 ⟨rfl, rfl⟩ fun g71 A72 c73 w74 O75 S76 h77 => ?_
    rw [← e68] at h77 ⊢
    replace hB := hB.st S76 (by decide) (by decide)
    replace h24 := h24.st S76 (by decide)
    replace h36 := h36.st S76 (by decide)
    replace h56 := h56.st S76 (by decide) (by decide)
    refine o_fa rfl rfl  ?_
    refine l_store h36 rfl rfl rfl (Nat.le_of_ble_eq_true rfl) (by first | exact allOne rfl | simp [Value.cells, Value.oneCell', errV_one]) fun w79 S80 h36 => ?_
    replace h36 : Lc 4 w79 O75 g32 26 [(.slice A72 u67.length c73), (.slice x40.2.1 s39.2.length x40.2.2), (.slice none 0 0), (.slice none 0 0)] := h36
    replace hB := hB.st S80 (by decide) (by decide)
    replace h24 := h24.st S80 (by decide)
    replace h77 := h77.st S80 (by decide) (by decide)
    replace h56 := h56.st S80 (by decide) (by decide)
    (first | refine owp_nilT ?_ | refine owp_nilB ?_ | refine owp_nilBB ?_ | refine owp_nil ?_)
    refine ewp_region ?_
    refine o_fa rfl rfl  ?_
    refine o_ld (hc := Blk.cell (i := 1) (h36.1) rfl) rfl rfl  ?_
    obtain ⟨u81, e82, hf47⟩ := bs hf47
    obtain ⟨e82, e83, e84⟩ := appI_some e82
    refine l_append1 rfl (a := 0) h56 (vInt (show inI64 (0) from by decide)) (fun _ => rfl) rfl (by decide) (by decide) e83 e84 ⟨rfl, rfl⟩ fun g85 A86 c87 w88 O89 S90 h91 => ?_
    rw [← e82] at h91 ⊢
    replace hB := hB.st S90 (by decide) (by decide)
    replace h24 := h24.st S90 (by decide)
    replace h36 := h36.st S90 (by decide)
    replace h77 := h77.st S90 (by decide) (by decide)
    refine o_fa rfl rfl  ?_
    refine l_store h36 rfl rfl rfl (Nat.le_of_ble_eq_true rfl) (by first | exact allOne rfl | simp [Value.cells, Value.oneCell', errV_one]) fun w93 S94 h36 => ?_
    replace h36 : Lc 4 w93 O89 g32 26 [(.slice A72 u67.length c73), (.slice A86 u81.length c87), (.slice none 0 0), (.slice none 0 0)] := h36
    replace hB := hB.st S94 (by decide) (by decide)
    replace h24 := h24.st S94 (by decide)
    replace h77 := h77.st S94 (by decide) (by decide)
    replace h91 := h91.st S94 (by decide) (by decide)
    (first | refine owp_nilT ?_ | refine owp_nilB ?_ | refine owp_nilBB ?_ | refine owp_nil ?_)
    obtain rfl := sm hf47
    refine (?_ : Exists _)
    exact ⟨_, ((A72, c73), (A86, c87)), rfl, ⟨rfl, rfl, rfl, rfl, rfl, trivial⟩, _, hB, h24, h36, h77, h91⟩
  rintro l95 w96 ⟨s99, x100, rfl, hs98, O97, hB, h24, h36, h54, h56⟩
  replace hm := fin_done hm
  refine ewp_sub _ hs98 ?_
  refine ewp_seq ?_
  refine ewp_region ?_
  refine o_mv rfl rfl  ?_
  refine o_cv (hr := (x2.rng)) rfl rfl  ?_
  obtain ⟨n101, e102, hm⟩ := bs hm
  have r103 := remI_in e102 (x2.rng)
  refine o_rmE (he := e102) rfl rfl rfl  ?_
  refine o_as rfl rfl  ?_
  (first | refine owp_nilT ?_ | refine owp_nilB ?_ | refine owp_nilBB ?_ | refine owp_nil ?_)
  refine ewp_seq ?_
  refine ewp_seq ?_
  refine ewp_region ?_
  refine o_fa rfl rfl  ?_
  refine o_ld (hc := Blk.cell (i := 0) (h36.1) rfl) rfl rfl  ?_
  obtain ⟨O104, S105, h54⟩ := h54.freeze
  replace hB := hB.st S105 (by decide) (by decide)
  replace h24 := h24.st S105 (by decide)
  replace h36 := h36.st S105 (by decide)
  replace h56 := h56.st S105 (by decide) (by decide)
  obtain ⟨q106, e107, hm⟩ := bs hm
  refine l_call (O := O104) (R := fun w' F v => Vb w' F v q106) (c_base_States Fr.lt h54 e107) rfl rfl fun v112 w108 O109 S110 h111 => ?_
  obtain ⟨A113, c114, rfl⟩ := h111.form
  replace hB := hB.st S110 (fun h => h) (fun h => h)
  replace h24 := h24.st S110 (fun h => h)
  replace h36 := h36.st S110 (fun h => h)
  replace h54 := h54.st S110 (fun h => h)
  replace h56 := h56.st S110 (fun h => h) (fun h => h)
  refine o_ln rfl rfl  ?_
  have l116 : q106.length ≤ 9223372036854775807 := Nat.le_trans h111.len.2.1 h111.len.2.2
  have r115 : inI64 (q106.length : Int) := rngNat l116
  refine o_mv rfl rfl  ?_
  (first | refine owp_nilT ?_ | refine owp_nilB ?_ | refine owp_nilBB ?_ | refine owp_nil ?_)
  obtain ⟨res117, hL118, hm⟩ := bs hm
  refine ewp_join (aft res117 (fun (s119 : (List Opr)) (x120 : (Option Addr × Nat)) => [(4, (.pointer (some ⟨g20, 0, none⟩))), (7, (.pointer (some ⟨g32, 0, none⟩))), (10, (.int .i64 n101))]) (fun s119 x120 w' => ∃ O' : Lab, Bs w A w' O' ∧ Lc 3 w' O' g20 49 [(.int .u8 x1.1.n), (.int .u8 x1.2.1.n), (.int .u8 x1.2.2.n)] ∧ Lc 4 w' O' g32 26 [(.slice x100.1.1 s99.1.length x100.1.2), (.slice x100.2.1 s99.2.length x100.2.2), (.slice none 0 0), (.slice x120.1 s119.length x120.2)] ∧ Vb w' (Fr 0 w' O') (.slice x100.1.1 s99.1.length x100.1.2) s99.1 ∧ Rw 6 w' O' 3 (.slice x100.2.1 s99.2.length x100.2.2) s99.2 ∧ Rw 9 w' O' 34 (.slice x120.1 s119.length x120.2) s119)) ?_ ?_
  · refine ewp_block ?_
    refine ewp_rng (σ := (List Opr)) (X := (Option Addr × Nat)) (q106.length) hL118 rfl l116 (fun (s119 : (List Opr)) (x120 : (Option Addr × Nat)) => [(4, (.pointer (some ⟨g20, 0, none⟩))), (7, (.pointer (some ⟨g32, 0, none⟩))), (10, (.int .i64 n101)), (46, (.slice A113 q106.length c114))]) _ (fun s119 x120 w' => ∃ O' : Lab, Bs w A w' O' ∧ Lc 3 w' O' g20 49 [(.int .u8 x1.1.n), (.int .u8 x1.2.1.n), (.int .u8 x1.2.2.n)] ∧ Lc 4 w' O' g32 26 [(.slice x100.1.1 s99.1.length x100.1.2), (.slice x100.2.1 s99.2.length x100.2.2), (.slice none 0 0), (.slice x120.1 s119.length x120.2)] ∧ Vb w' (Fr 0 w' O') (.slice x100.1.1 s99.1.length x100.1.2) s99.1 ∧ Rw 6 w' O' 3 (.slice x100.2.1 s99.2.length x100.2.2) s99.2 ∧ Rw 9 w' O' 34 (.slice x120.1 s119.length x120.2) s119 ∧ Vb w' (Fr 0 w' O') (.slice A113 q106.length c114) q106) _ (none, 0) ⟨O109, hB, h24, h36, h54, h56, (Rw.nil 9 (by decide)), h111⟩ ⟨rfl, rfl, rfl, rfl, rfl, rfl, trivial⟩ (fun _ _ => ⟨rfl, rfl⟩) (fun _ _ => ⟨rfl, rfl, rfl, trivial⟩) (fun _ _ _ ⟨O', hB, h24, h36, h54, h56, h132, h111⟩ => ⟨O', hB, h24, h36, h54, h56, h132⟩) ⟨rfl, rfl, rfl⟩ ⟨rfl, rfl⟩ ?_
    rintro k121 a122 s119 x120 w123 cc125 hx126 ⟨O124, hB, h24, h36, h54, h56, h132, h111⟩ hf127 hret128 hbrk129
    have rk121 : inI64 (k121 : Int) := rngK hx126 l116
    refine ewp_seq ?_
    refine ewp_region ?_
    obtain ⟨b134, o135, ce136, hA137, hl138, hd139, v141, rfl, h142⟩ := h111.elem' hx126
    replace h142 := Vb.of_slice h142
    obtain ⟨A143, c144, rfl⟩ := h142.form
    refine o_iaE (hA := hA137) (hj := rfl) (hlt := hl138) rfl rfl rfl  ?_
    refine o_ld (hc := cat0 hd139) rfl rfl  ?_
    refine o_as rfl rfl  ?_
    (first | refine owp_nilT ?_ | refine owp_nilB ?_ | refine owp_nilBB ?_ | refine owp_nil ?_)
    refine ewp_seq ?_
    refine ewp_region ?_
    refine o_bd rfl rfl rfl  ?_
    refine l_alloc 7 O124 rfl fun g145 w146 O147 S148 h149 => ?_
    replace hB := hB.st S148 (fun h => h) (fun h => h)
    replace h24 := h24.st S148 (fun h => h)
    replace h36 := h36.st S148 (fun h => h)
    replace h54 := h54.st S148 (fun h => h)
    replace h56 := h56.st S148 (fun h => h) (fun h => h)
    replace h132 := h132.st S148 (fun h => h) (fun h => h)
    replace h142 := h142.st S148 (fun h => h)
    replace h111 := h111.st S148 (fun h => h)
    refine l_store h149 rfl rfl rfl (Nat.le_of_ble_eq_true rfl) (by first | exact allOne rfl | simp [Value.cells, Value.oneCell', errV_one]) fun w150 S151 h149 => ?_
    replace h149 : Lc 7 w150 O147 g145 34 [(.string (⟨#[]⟩ : ByteArray)), (.int .i64 0), (.slice none 0 0), (.slice none 0 0)] := h149
    replace hB := hB.st S151 (by decide) (by decide)
    replace h24 := h24.st S151 (by decide)
    replace h36 := h36.st S151 (by decide)
    replace h54 := h54.st S151 (by decide)
    replace h56 := h56.st S151 (by decide) (by decide)
    replace h132 := h132.st S151 (by decide) (by decide)
    replace h142 := h142.st S151 (by decide)
    replace h111 := h111.st S151 (by decide)
    (first | refine owp_nilT ?_ | refine owp_nilB ?_ | refine owp_nilBB ?_ | refine owp_nil ?_)
    refine ewp_seq ?_
    refine ewp_seq ?_
    refine ewp_region ?_
    refine o_mv rfl rfl  ?_
    refine o_ln rfl rfl  ?_
    have l153 : a122.length ≤ 9223372036854775807 := Nat.le_trans h142.len.2.1 h142.len.2.2
    have r152 : inI64 (a122.length : Int) := rngNat l153
    refine o_mv rfl rfl  ?_
    (first | refine owp_nilT ?_ | refine owp_nilB ?_ | refine owp_nilBB ?_ | refine owp_nil ?_)
    obtain ⟨res154, hL155, hf127⟩ := bs hf127
    refine ewp_join (aft res154 (fun (s156 : (List Fct)) (x157 : (Option Addr × Nat)) => [(4, (.pointer (some ⟨g20, 0, none⟩))), (7, (.pointer (some ⟨g32, 0, none⟩))), (10, (.int .i64 n101)), (13, (.pointer (some ⟨g145, 0, none⟩))), (46, (.slice A113 q106.length c114)), (47, (.int .i64 (q106.length : Int))), (48, (.int .i64 (k121 : Int)))]) (fun s156 x157 w' => ∃ O' : Lab, Bs w A w' O' ∧ Lc 3 w' O' g20 49 [(.int .u8 x1.1.n), (.int .u8 x1.2.1.n), (.int .u8 x1.2.2.n)] ∧ Lc 4 w' O' g32 26 [(.slice x100.1.1 s99.1.length x100.1.2), (.slice x100.2.1 s99.2.length x100.2.2), (.slice none 0 0), (.slice x120.1 s119.length x120.2)] ∧ Vb w' (Fr 0 w' O') (.slice x100.1.1 s99.1.length x100.1.2) s99.1 ∧ Rw 6 w' O' 3 (.slice x100.2.1 s99.2.length x100.2.2) s99.2 ∧ Rw 9 w' O' 34 (.slice x120.1 s119.length x120.2) s119 ∧ Lc 7 w' O' g145 34 [(.string (⟨#[]⟩ : ByteArray)), (.int .i64 0), (.slice x157.1 s156.length x157.2), (.slice none 0 0)] ∧ Rw 8 w' O' 28 (.slice x157.1 s156.length x157.2) s156 ∧ Vb w' (Fr 0 w' O') (.slice A113 q106.length c114) q106)) ?_ ?_
    · refine ewp_block ?_
      refine ewp_rng (σ := (List Fct)) (X := (Option Addr × Nat)) (a122.length) hL155 rfl l153 (fun (s156 : (List Fct)) (x157 : (Option Addr × Nat)) => [(4, (.pointer (some ⟨g20, 0, none⟩))), (7, (.pointer (some ⟨g32, 0, none⟩))), (10, (.int .i64 n101)), (13, (.pointer (some ⟨g145, 0, none⟩))), (46, (.slice A113 q106.length c114)), (47, (.int .i64 (q106.length : Int))), (48, (.int .i64 (k121 : Int))), (53, (.slice A143 a122.length c144))]) _ (fun s156 x157 w' => ∃ O' : Lab, Bs w A w' O' ∧ Lc 3 w' O' g20 49 [(.int .u8 x1.1.n), (.int .u8 x1.2.1.n), (.int .u8 x1.2.2.n)] ∧ Lc 4 w' O' g32 26 [(.slice x100.1.1 s99.1.length x100.1.2), (.slice x100.2.1 s99.2.length x100.2.2), (.slice none 0 0), (.slice x120.1 s119.length x120.2)] ∧ Vb w' (Fr 0 w' O') (.slice x100.1.1 s99.1.length x100.1.2) s99.1 ∧ Rw 6 w' O' 3 (.slice x100.2.1 s99.2.length x100.2.2) s99.2 ∧ Rw 9 w' O' 34 (.slice x120.1 s119.length x120.2) s119 ∧ Lc 7 w' O' g145 34 [(.string (⟨#[]⟩ : ByteArray)), (.int .i64 0), (.slice x157.1 s156.length x157.2), (.slice none 0 0)] ∧ Rw 8 w' O' 28 (.slice x157.1 s156.length x157.2) s156 ∧ Vb w' (Fr 0 w' O') (.slice A113 q106.length c114) q106 ∧ Vb w' (Fr 0 w' O') (.slice A143 a122.length c144) a122) _ (none, 0) ⟨O147, hB, h24, h36, h54, h56, h132, h149, (Rw.nil 8 (by decide)), h111, h142⟩ ⟨rfl, rfl, rfl, rfl, rfl, rfl, rfl, rfl, rfl, rfl, trivial⟩ (fun _ _ => ⟨rfl, rfl⟩) (fun _ _ => ⟨rfl, rfl, rfl, rfl, rfl, rfl, rfl, trivial⟩) (fun _ _ _ ⟨O', hB, h24, h36, h54, h56, h132, h149, h169, h111, h142⟩ => ⟨O', hB, h24, h36, h54, h56, h132, h149, h169, h111⟩) ⟨rfl, rfl, rfl⟩ ⟨rfl, rfl⟩ ?_
      rintro k158 a159 s156 x157 w160 cc162 hx163 ⟨O161, hB, h24, h36, h54, h56, h132, h149, h169, h111, h142⟩ hf164 hret165 hbrk166
      have rk158 : inI64 (k158 : Int) := rngK hx163 l153
      refine ewp_seq ?_
      refine ewp_region ?_
      refine o_mv rfl rfl  ?_
      obtain ⟨b171, o172, ce173, hA174, hl175, hd176, rfl, r178⟩ := h142.elem' hx163
      refine o_iaE (hA := hA174) (hj := rfl) (hlt := hl175) rfl rfl rfl  ?_
      refine o_ld (hc := cat0 hd176) rfl rfl  ?_
      refine o_as rfl rfl  ?_
      refine o_as rfl rfl  ?_
      (first | refine owp_nilT ?_ | refine owp_nilB ?_ | refine owp_nilBB ?_ | refine owp_nil ?_)
      refine ewp_seq ?_
      refine ewp_region ?_
      refine o_mv rfl rfl  ?_
      refine o_mv rfl rfl  ?_
      refine o_neS rfl rfl rfl (fun c179 => ?_) fun c179 => ?_
      · replace hf164 := ip hf164 c179
        (first | refine owp_nilT ?_ | refine owp_nilB ?_ | refine owp_nilBB ?_ | refine owp_nil ?_)
        refine ewp_true rfl ?_
        refine ewp_region ?_
        refine o_fa rfl rfl  ?_
        refine o_ld (hc := Blk.cell (i := 2) (h149.1) rfl) rfl rfl  ?_
        refine o_mv rfl rfl  ?_
        refine o_mv rfl rfl  ?_
        refine o_bd rfl rfl rfl  ?_
        obtain ⟨u180, e181, hf164⟩ := bs hf164
        obtain ⟨e181, e182, e183⟩ := appI_some e181
        refine l_append1 rfl (a := (⟨(k158 : Int), a159⟩ : Fct)) h169 (Vb.ofAgg (cs := [(.int .i64 (k158 : Int)), (.int .i64 a159)]) (x := (⟨(k158 : Int), a159⟩ : Fct)) rfl ⟨rfl, rk158, r178⟩) (fun _ => rfl) rfl (by decide) (by decide) e182 e183 ⟨rfl, rfl⟩ fun g184 A185 c186 w187 O188 S189 h190 => ?_
        rw [← e181] at h190 ⊢
        replace hB := hB.st S189 (by decide) (by decide)
        replace h24 := h24.st S189 (by decide)
        replace h36 := h36.st S189 (by decide)
        replace h54 := h54.st S189 (by decide)
        replace h56 := h56.st S189 (by decide) (by decide)
        replace h132 := h132.st S189 (by decide) (by decide)
        replace h149 := h149.st S189 (by decide)
        replace h111 := h111.st S189 (by decide)
        replace h142 := h142.st S189 (by decide)
        refine o_fa rfl rfl  ?_
        refine l_store h149 rfl rfl rfl (Nat.le_of_ble_eq_true rfl) (by first | exact allOne rfl | simp [Value.cells, Value.oneCell', errV_one]) fun w192 S193 h149 => ?_
        replace h149 : Lc 7 w192 O188 g145 34 [(.string (⟨#[]⟩ : ByteArray)), (.int .i64 0), (.slice A185 u180.length c186), (.slice none 0 0)] := h149
        replace hB := hB.st S193 (by decide) (by decide)
        replace h24 := h24.st S193 (by decide)
        replace h36 := h36.st S193 (by decide)
        replace h54 := h54.st S193 (by decide)
        replace h56 := h56.st S193 (by decide) (by decide)
        replace h132 := h132.st S193 (by decide) (by decide)
        replace h190 := h190.st S193 (by decide) (by decide)
        replace h111 := h111.st S193 (by decide)
        replace h142 := h142.st S193 (by decide)
        (first | refine owp_nilT ?_ | refine owp_nilB ?_ | refine owp_nilBB ?_ | refine owp_nil ?_)
        obtain rfl := sm hf164
        refine (?_ : Exists _)
        exact ⟨_, (A185, c186), rfl, ⟨rfl, rfl, rfl, rfl, rfl, rfl, rfl, rfl, rfl, rfl, trivial⟩, _, hB, h24, h36, h54, h56, h132, h149, h190, h111, h142⟩
      · replace hf164 := im hf164 c179
        (first | refine owp_nilT ?_ | refine owp_nilB ?_ | refine owp_nilBB ?_ | refine owp_nil ?_)
        refine ewp_false rfl ?_
        refine ewp_skip ?_
        obtain rfl := sm hf164
        refine (?_ : Exists _)
        exact ⟨_, (x157.1, x157.2), rfl, ⟨rfl, rfl, rfl, rfl, rfl, rfl, rfl, rfl, rfl, rfl, trivial⟩, _, hB, h24, h36, h54, h56, h132, h149, h169, h111, h142⟩
    rintro l194 w195 ⟨s198, x199, rfl, hs197, O196, hB, h24, h36, h54, h56, h132, h149, h169, h111⟩
    replace hf127 := fin_done hf127
    refine ewp_sub _ hs197 ?_
    refine ewp_region ?_
    refine o_fa rfl rfl  ?_
    refine o_ld (hc := Blk.cell (i := 3) (h36.1) rfl) rfl rfl  ?_
    refine o_la (hl := rfl) (hc := (h149.1).cellsAt) rfl rfl  ?_
    obtain ⟨O200, S201, h169⟩ := h169.freeze
    replace hB := hB.st S201 (by decide) (by decide)
    replace h24 := h24.st S201 (by decide)
    replace h36 := h36.st S201 (by decide)
    replace h54 := h54.st S201 (by decide)
    replace h56 := h56.st S201 (by decide) (by decide)
    replace h132 := h132.st S201 (by decide) (by decide)
    replace h111 := h111.st S201 (by decide)
    obtain ⟨u202, e203, hf127⟩ := bs hf127
    obtain ⟨e203, e204, e205⟩ := appI_some e203
    refine l_append1 rfl (a := (⟨(⟨#[]⟩ : ByteArray), 0, s198, ([] : List Eff)⟩ : Opr)) h132 (Vb.ofAgg (cs := [(.string (⟨#[]⟩ : ByteArray)), (.int .i64 0), (.slice x199.1 s198.length x199.2), (.slice none 0 0)]) (x := (⟨(⟨#[]⟩ : ByteArray), 0, s198, ([] : List Eff)⟩ : Opr)) rfl ⟨_, _, rfl, h169, (Vb.nil _ _), (show inI64 0 from by decide), (show (⟨#[]⟩ : ByteArray).size ≤ 9223372036854775807 from by decide)⟩) (fun _ => rfl) rfl (by decide) (by decide) e204 e205 ⟨rfl, rfl⟩ fun g206 A207 c208 w209 O210 S211 h212 => ?_
    rw [← e203] at h212 ⊢
    replace hB := hB.st S211 (by decide) (by decide)
    replace h24 := h24.st S211 (by decide)
    replace h36 := h36.st S211 (by decide)
    replace h54 := h54.st S211 (by decide)
    replace h56 := h56.st S211 (by decide) (by decide)
    replace h111 := h111.st S211 (by decide)
    refine o_fa rfl rfl  ?_
    refine l_store h36 rfl rfl rfl (Nat.le_of_ble_eq_true rfl) (by first | exact allOne rfl | simp [Value.cells, Value.oneCell', errV_one]) fun w214 S215 h36 => ?_
    replace h36 : Lc 4 w214 O210 g32 26 [(.slice x100.1.1 s99.1.length x100.1.2), (.slice x100.2.1 s99.2.length x100.2.2), (.slice none 0 0), (.slice A207 u202.length c208)] := h36
    replace hB := hB.st S215 (by decide) (by decide)
    replace h24 := h24.st S215 (by decide)
    replace h54 := h54.st S215 (by decide)
    replace h56 := h56.st S215 (by decide) (by decide)
    replace h212 := h212.st S215 (by decide) (by decide)
    replace h111 := h111.st S215 (by decide)
    (first | refine owp_nilT ?_ | refine owp_nilB ?_ | refine owp_nilBB ?_ | refine owp_nil ?_)
    obtain rfl := sm hf127
    refine (?_ : Exists _)
    exact ⟨_, (A207, c208), rfl, ⟨rfl, rfl, rfl, rfl, rfl, rfl, trivial⟩, _, hB, h24, h36, h54, h56, h212, h111⟩
  rintro l216 w217 ⟨s220, x221, rfl, hs219, O218, hB, h24, h36, h54, h56, h132⟩
  replace hm := fin_done hm
  refine ewp_sub _ hs219 ?_
  refine ewp_seq ?_
  refine ewp_region ?_
  refine o_la (hl := rfl) (hc := (h36.1).cellsAt) rfl rfl  ?_
  obtain ⟨O222, S223, h56⟩ := h56.freeze
  replace hB := hB.st S223 (by decide) (by decide)
  replace h24 := h24.st S223 (by decide)
  replace h36 := h36.st S223 (by decide)
  replace h54 := h54.st S223 (by decide)
  replace h132 := h132.st S223 (by decide) (by decide)
  obtain ⟨O224, S225, h132⟩ := h132.freeze
  replace hB := hB.st S225 (by decide) (by decide)
  replace h24 := h24.st S225 (by decide)
  replace h36 := h36.st S225 (by decide)
  replace h54 := h54.st S225 (by decide)
  replace h56 := h56.st S225 (by decide)
  obtain ⟨q226, e227, hm⟩ := bs hm
  refine l_call (O := O224) (R := fun w' F v => T2 w' F v q226) (c_succgen_New Fr.lt (Vb.ofAgg (cs := [(.slice x100.1.1 s99.1.length x100.1.2), (.slice x100.2.1 s99.2.length x100.2.2), (.slice none 0 0), (.slice x221.1 s220.length x221.2)]) (x := (⟨s99.1, s99.2, ([] : List Fct), s220⟩ : Tsk)) rfl ⟨_, _, _, _, rfl, h54, h56, (Vb.nil _ _), h132⟩) e227) rfl rfl fun v232 w228 O229 S230 h231 => ?_
  obtain ⟨v233, v234, rfl, h235, h236⟩ := h231
  obtain ⟨p237, rfl, hq238⟩ := h235.ptr
  obtain ⟨rfl, r239⟩ := h236.err
  replace hB := hB.st S230 (fun h => h) (fun h => h)
  replace h24 := h24.st S230 (fun h => h)
  replace h36 := h36.st S230 (fun h => h)
  replace h54 := h54.st S230 (fun h => h)
  replace h56 := h56.st S230 (fun h => h)
  replace h132 := h132.st S230 (fun h => h)
  refine o_mv rfl rfl  ?_
  refine o_ex rfl rfl rfl  ?_
  refine o_ex rfl rfl rfl  ?_
  refine o_as rfl rfl  ?_
  refine o_as rfl rfl  ?_
  (first | refine owp_nilT ?_ | refine owp_nilB ?_ | refine owp_nilBB ?_ | refine owp_nil ?_)
  refine ewp_seq ?_
  refine ewp_seq ?_
  obtain ⟨y240, hy241, hm⟩ := bs hm
  refine ewp_join (fun l' w' => ∃ (x243 : Unit) (O' : Lab), subs l' [(4, (.pointer (some ⟨g20, 0, none⟩))), (7, (.pointer (some ⟨g32, 0, none⟩))), (10, (.int .i64 n101)), (16, (.pointer p237)), (89, (.bool y240))] ∧ Bs w A w' O' ∧ Lc 3 w' O' g20 49 [(.int .u8 x1.1.n), (.int .u8 x1.2.1.n), (.int .u8 x1.2.2.n)] ∧ Lc 4 w' O' g32 26 [(.slice x100.1.1 s99.1.length x100.1.2), (.slice x100.2.1 s99.2.length x100.2.2), (.slice none 0 0), (.slice x221.1 s220.length x221.2)] ∧ Vb w' (Fr 0 w' O') (.slice x100.1.1 s99.1.length x100.1.2) s99.1 ∧ Vb w' (Fr 0 w' O') (.slice x100.2.1 s99.2.length x100.2.2) s99.2 ∧ Vb w' (Fr 0 w' O') (.slice x221.1 s220.length x221.2) s220 ∧ Vb w' (Fr 0 w' O') (.pointer p237) q226.1) ?_ ?_
  · skip
    refine ewp_region ?_
    refine o_mv rfl rfl  ?_
    refine o_rnS rfl rfl (fun c244 => ?_) fun c244 => ?_
    · replace hy241 := ip hy241 c244
      refine o_mv rfl rfl  ?_
      refine owp_no rfl rfl rfl rfl ?_
      refine owp_no rfl rfl rfl rfl ?_
      refine o_pt rfl rfl rfl  ?_
      (first | refine owp_nilT ?_ | refine owp_nilB ?_ | refine owp_nilBB ?_ | refine owp_nil ?_)
      obtain rfl := sm hy241
      exact ⟨(), _, ⟨rfl, rfl, rfl, rfl, rfl, trivial⟩, hB, h24, h36, h54, h56, h132, h235⟩
    · replace hy241 := im hy241 c244
      refine o_mv rfl rfl  ?_
      refine owp_yes rfl rfl ?_
      refine o_mv rfl rfl  ?_
      refine owp_yes rfl rfl ?_
      refine o_pnS hq238 rfl rfl (fun c245 => ?_) fun c245 => ?_
      · replace hy241 := ip hy241 c245
        refine o_pf rfl rfl rfl  ?_
        (first | refine owp_nilT ?_ | refine owp_nilB ?_ | refine owp_nilBB ?_ | refine owp_nil ?_)
        obtain rfl := sm hy241
        exact ⟨(), _, ⟨rfl, rfl, rfl, rfl, rfl, trivial⟩, hB, h24, h36, h54, h56, h132, h235⟩
      · replace hy241 := im hy241 c245
        refine o_pf rfl rfl rfl  ?_
        (first | refine owp_nilT ?_ | refine owp_nilB ?_ | refine owp_nilBB ?_ | refine owp_nil ?_)
        obtain rfl := sm hy241
        exact ⟨(), _, ⟨rfl, rfl, rfl, rfl, rfl, trivial⟩, hB, h24, h36, h54, h56, h132, h235⟩
  rintro l246 w247 ⟨x243, O248, hs249, hB, h24, h36, h54, h56, h132, h235⟩
  refine ewp_sub _ hs249 ?_
  refine ewp_cond rfl (fun c250 => ?_) (fun c250 => ?_)
  · replace hm := ip hm c250
    refine ewp_seq ?_
    refine ewp_region ?_
    refine o_as rfl rfl  ?_
    (first | refine owp_nilT ?_ | refine owp_nilB ?_ | refine owp_nilBB ?_ | refine owp_nil ?_)
    refine ewp_ret ?_
    obtain rfl := sm hm
    exact ret1v rfl (res_tmp rfl) ⟨hB.ext, vBool⟩
  · replace hm := im' hm c250
    refine ewp_skip ?_
    refine ewp_seq ?_
    have hZ := St.refl (nT) w247 O248
    have zh24 := h24
    have zh36 := h36
    have zh54 := h54
    have zh56 := h56
    have zh132 := h132
    have zh235 := h235
    refine ewp_drawS (fun w' => ∃ O', St (nT) w247 O248 w' O') ?_
    refine hws_pre (fuel := 2) [(0, true), (1, true), (2, true), (3, true), (4, true), (5, true), (6, true), (7, true), (8, true), (9, true), (10, true), (11, true), (12, true), (13, true), (14, true), (15, true), (16, true), (17, true), (18, true), (19, true), (20, true), (21, true), (22, true), (23, true)] (by kernel_rfl) (by kernel_rfl) (by kernel_rfl) ⟨_, hZ⟩ ?_
    refine h_iaP (j := 0) rfl rfl rfl rfl  ?_
    refine h_ldC (hc := fun w' ⟨O', hq⟩ => Blk.cell (i := 0) ((zh24.st hq (by decide)).1) rfl) rfl rfl rfl  ?_
    refine h_cv (hr := (x1.1).rng) rfl rfl rfl  ?_
    refine h_fa rfl rfl rfl  ?_
    refine h_ldC (hc := fun w' ⟨O', hq⟩ => Blk.cell (i := 0) ((zh36.st hq (by decide)).1) rfl) rfl rfl rfl  ?_
    obtain ⟨a251, e252, hm⟩ := bs hm
    obtain ⟨p254, x253⟩ := atI_some' e252
    obtain ⟨b255, o256, ce257, hA258, hF261, hl259, hd260, rfl, r262⟩ := zh54.elem x253
    refine h_iaE (hA := hA258) (hj := (Int.toNat_of_nonneg p254).symm) (hlt := hl259) rfl rfl rfl rfl  ?_
    refine h_ldC (hc := fun w' ⟨O', hq⟩ => cat0 (cellsAt_agree (hq.agree (i := 0) (by decide)) hF261 hd260)) rfl rfl rfl  ?_
    obtain ⟨n263, e264, hm⟩ := bs hm
    have r265 := remI_in e264 (x1.1).rng
    refine h_rmE (he := e264) rfl rfl rfl rfl  ?_
    refine h_iaP (j := 1) rfl rfl rfl rfl  ?_
    refine h_ldC (hc := fun w' ⟨O', hq⟩ => Blk.cell (i := 1) ((zh24.st hq (by decide)).1) rfl) rfl rfl rfl  ?_
    refine h_cv (hr := (x1.2.1).rng) rfl rfl rfl  ?_
    refine h_fa rfl rfl rfl  ?_
    refine h_ldC (hc := fun w' ⟨O', hq⟩ => Blk.cell (i := 0) ((zh36.st hq (by decide)).1) rfl) rfl rfl rfl  ?_
    obtain ⟨a266, e267, hm⟩ := bs hm
    obtain ⟨p269, x268⟩ := atI_some' e267
    obtain ⟨b270, o271, ce272, hA273, hF276, hl274, hd275, rfl, r277⟩ := zh54.elem x268
    refine h_iaE (hA := hA273) (hj := (Int.toNat_of_nonneg p269).symm) (hlt := hl274) rfl rfl rfl rfl  ?_
    refine h_ldC (hc := fun w' ⟨O', hq⟩ => cat0 (cellsAt_agree (hq.agree (i := 0) (by decide)) hF276 hd275)) rfl rfl rfl  ?_
    obtain ⟨n278, e279, hm⟩ := bs hm
    have r280 := remI_in e279 (x1.2.1).rng
    refine h_rmE (he := e279) rfl rfl rfl rfl  ?_
    refine h_iaP (j := 2) rfl rfl rfl rfl  ?_
    refine h_ldC (hc := fun w' ⟨O', hq⟩ => Blk.cell (i := 2) ((zh24.st hq (by decide)).1) rfl) rfl rfl rfl  ?_
    refine h_cv (hr := (x1.2.2).rng) rfl rfl rfl  ?_
    refine h_fa rfl rfl rfl  ?_
    refine h_ldC (hc := fun w' ⟨O', hq⟩ => Blk.cell (i := 0) ((zh36.st hq (by decide)).1) rfl) rfl rfl rfl  ?_
    obtain ⟨a281, e282, hm⟩ := bs hm
    obtain ⟨p284, x283⟩ := atI_some' e282
    obtain ⟨b285, o286, ce287, hA288, hF291, hl289, hd290, rfl, r292⟩ := zh54.elem x283
    refine h_iaE (hA := hA288) (hj := (Int.toNat_of_nonneg p284).symm) (hlt := hl289) rfl rfl rfl rfl  ?_
    refine h_ldC (hc := fun w' ⟨O', hq⟩ => cat0 (cellsAt_agree (hq.agree (i := 0) (by decide)) hF291 hd290)) rfl rfl rfl  ?_
    obtain ⟨n293, e294, hm⟩ := bs hm
    have r295 := remI_in e294 (x1.2.2).rng
    refine h_rmE (he := e294) rfl rfl rfl rfl  ?_
    refine hwp_nilT ?_
    refine hws_one (i := 24) (by kernel_rfl) rfl ?_
    refine l_bslice 10 (by decide) O248 (xs := ([n263, n278, n293] : List Int)) rfl rfl rfl rfl ⟨(vInt r265), (vInt r280), (vInt r295), trivial⟩ (by decide) (by decide) rfl fun g296 w297 O298 S299 h300 => ?_
    replace hZ := hZ.comp S299 (fun _ h => h.elim)
    replace hB := hB.st S299 (fun h => h) (fun h => h)
    replace h36 := h36.st S299 (fun h => h)
    replace h54 := h54.st S299 (fun h => h)
    replace h56 := h56.st S299 (fun h => h)
    replace h132 := h132.st S299 (fun h => h)
    replace h235 := h235.st S299 (fun h => h)
    refine owp_loudS ⟨_, hZ⟩ ?_
    refine hws_pre (fuel := 0) [(25, true)] (by kernel_rfl) (by kernel_rfl) (by kernel_rfl) ⟨_, hZ⟩ ?_
    refine h_as rfl rfl rfl  ?_
    refine hwp_nilT ?_
    refine hws_nil (by kernel_rfl) ?_
    refine ewp_seq ?_
    refine ewp_region ?_
    refine o_as rfl rfl  ?_
    (first | refine owp_nilT ?_ | refine owp_nilB ?_ | refine owp_nilBB ?_ | refine owp_nil ?_)
    refine ewp_seq ?_
    obtain ⟨y302, hy303, hm⟩ := bs hm
    refine ewp_join (fun l' w' => ∃ (x305 : Unit) (O' : Lab), subs l' [(7, (.pointer (some ⟨g32, 0, none⟩))), (16, (.pointer p237)), (18, (.slice (some ⟨g296, 0, none⟩) [n263, n278, n293].length 3)), (19, (.int .i64 y302))] ∧ Bs w A w' O' ∧ Lc 4 w' O' g32 26 [(.slice x100.1.1 s99.1.length x100.1.2), (.slice x100.2.1 s99.2.length x100.2.2), (.slice none 0 0), (.slice x221.1 s220.length x221.2)] ∧ Vb w' (Fr 0 w' O') (.slice x100.1.1 s99.1.length x100.1.2) s99.1 ∧ Vb w' (Fr 0 w' O') (.slice x100.2.1 s99.2.length x100.2.2) s99.2 ∧ Vb w' (Fr 0 w' O') (.slice x221.1 s220.length x221.2) s220 ∧ Vb w' (Fr 0 w' O') (.pointer p237) q226.1 ∧ Rw 10 w' O' 3 (.slice (some ⟨g296, 0, none⟩) [n263, n278, n293].length 3) [n263, n278, n293] ∧ inI64 y302) ?_ ?_
    · skip
      refine ewp_seq ?_
      refine ewp_region ?_
      refine o_mv rfl rfl  ?_
      refine o_ltS rfl rfl rfl (fun c307 => ?_) fun c307 => ?_
      · replace hy303 := ip hy303 c307
        (first | refine owp_nilT ?_ | refine owp_nilB ?_ | refine owp_nilBB ?_ | refine owp_nil ?_)
        refine ewp_true rfl ?_
        refine ewp_region ?_
        refine o_fa rfl rfl  ?_
        refine o_ld (hc := Blk.cell (i := 0) (h36.1) rfl) rfl rfl  ?_
        refine o_mv rfl rfl  ?_
        obtain ⟨a308, e309, hy303⟩ := bs hy303
        obtain ⟨p311, x310⟩ := atI_some' e309
        obtain ⟨b312, o313, ce314, hA315, hl316, hd317, rfl, r319⟩ := h54.elem' x310
        refine o_iaE (hA := hA315) (hj := (Int.toNat_of_nonneg p311).symm) (hlt := hl316) rfl rfl rfl  ?_
        refine o_ld (hc := cat0 hd317) rfl rfl  ?_
        refine o_as rfl rfl  ?_
        (first | refine owp_nilT ?_ | refine owp_nilB ?_ | refine owp_nilBB ?_ | refine owp_nil ?_)
        obtain rfl := sm hy303
        exact ⟨(), _, ⟨rfl, rfl, rfl, rfl, trivial⟩, hB, h36, h54, h56, h132, h235, h300, r319⟩
      · replace hy303 := im hy303 c307
        (first | refine owp_nilT ?_ | refine owp_nilB ?_ | refine owp_nilBB ?_ | refine owp_nil ?_)
        refine ewp_false rfl ?_
        refine ewp_skip ?_
        obtain rfl := sm hy303
        exact ⟨(), _, ⟨rfl, rfl, rfl, rfl, trivial⟩, hB, h36, h54, h56, h132, h235, h300, (show inI64 (1) from by decide)⟩
    rintro l320 w321 ⟨x305, O322, hs323, hB, h36, h54, h56, h132, h235, h300, r306⟩
    refine ewp_sub _ hs323 ?_
    refine ewp_seq ?_
    obtain ⟨y324, hy325, hm⟩ := bs hm
    refine ewp_join (fun l' w' => ∃ (x327 : Unit) (O' : Lab), subs l' [(6, (.bool y324))] ∧ Bs w A w' O') ?_ ?_
    · skip
      refine ewp_region ?_
      refine o_mv rfl rfl  ?_
      refine o_mv rfl rfl  ?_
      obtain ⟨q328, e329, hy325⟩ := bs hy325
      refine l_callA (O := O322) (A := All w321) (R := fun w' F v => Vb w' F v q328) (c_succgen_Generator_Count (fun _ h => h) (Vb.mono (F := Fr 0 w321 O322) h235 Fr.lt) (h300).all e329) rfl rfl fun v334 w330 O331 S332 h333 => ?_
      obtain ⟨rfl, r335⟩ := h333.int
      replace hB := hB.st S332 (fun h => h) (fun h => h)
      replace h36 := h36.st S332 (fun h => h)
      replace h54 := h54.st S332 (fun h => h)
      replace h56 := h56.st S332 (fun h => h)
      replace h132 := h132.st S332 (fun h => h)
      replace h235 := h235.st S332 (fun h => h)
      replace h300 := h300.st S332 (fun h => h) (fun h => h)
      refine o_mv rfl rfl  ?_
      refine o_eeS rfl rfl rfl (fun c336 => ?_) fun c336 => ?_
      · replace hy325 := ip hy325 c336
        refine o_mv rfl rfl  ?_
        refine owp_yes rfl rfl ?_
        refine o_la (hl := rfl) (hc := (h36.1).cellsAt) rfl rfl  ?_
        refine owp_yes rfl rfl ?_
        refine o_mv rfl rfl  ?_
        refine owp_yes rfl rfl ?_
        refine o_mv rfl rfl  ?_
        refine owp_yes rfl rfl ?_
        obtain ⟨q337, e338, hy325⟩ := bs hy325
        refine l_callA (O := O331) (A := All w330) (R := fun w' F v => Vb w' F v q337) (c_law24_right (fun _ h => h) (Vb.mono (F := Fr 0 w330 O331) (Vb.ofAgg (cs := [(.slice x100.1.1 s99.1.length x100.1.2), (.slice x100.2.1 s99.2.length x100.2.2), (.slice none 0 0), (.slice x221.1 s220.length x221.2)]) (x := (⟨s99.1, s99.2, ([] : List Fct), s220⟩ : Tsk)) rfl ⟨_, _, _, _, rfl, h54, h56, (Vb.nil _ _), h132⟩) Fr.lt) (Vb.mono (F := Fr 0 w330 O331) h235 Fr.lt) (h300).all e338) rfl rfl fun v343 w339 O340 S341 h342 => ?_
        obtain rfl := h342.bool
        replace hB := hB.st S341 (fun h => h) (fun h => h)
        cases q337
        case false =>
          replace hy325 := iF hy325
          refine o_pt rfl rfl rfl  ?_
          refine o_as rfl rfl  ?_
          (first | refine owp_nilT ?_ | refine owp_nilB ?_ | refine owp_nilBB ?_ | refine owp_nil ?_)
          obtain rfl := sm hy325
          exact ⟨(), _, ⟨rfl, trivial⟩, hB⟩
        replace hy325 := iT hy325
        refine o_pt rfl rfl rfl  ?_
        refine o_as rfl rfl  ?_
        (first | refine owp_nilT ?_ | refine owp_nilB ?_ | refine owp_nilBB ?_ | refine owp_nil ?_)
        obtain rfl := sm hy325
        exact ⟨(), _, ⟨rfl, trivial⟩, hB⟩
      · replace hy325 := im hy325 c336
        refine o_mv rfl rfl  ?_
        refine owp_no rfl rfl rfl rfl ?_
        refine owp_no rfl rfl rfl rfl ?_
        refine owp_no rfl rfl rfl rfl ?_
        refine owp_no rfl rfl rfl rfl ?_
        refine o_pf rfl rfl rfl  ?_
        refine o_as rfl rfl  ?_
        (first | refine owp_nilT ?_ | refine owp_nilB ?_ | refine owp_nilBB ?_ | refine owp_nil ?_)
        obtain rfl := sm hy325
        exact ⟨(), _, ⟨rfl, trivial⟩, hB⟩
    rintro l344 w345 ⟨x327, O346, hs347, hB⟩
    refine ewp_sub _ hs347 ?_
    refine ewp_ret ?_
    obtain rfl := sm hm
    exact ret1v rfl (res_tmp rfl) ⟨hB.ext, vBool⟩
end Go.Proofs.Ytfbcjknlihopcaa

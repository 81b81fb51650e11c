/- Own text: model of the law of maps, and its proof (written by gen2.py). -/
import Derived.Test.YtdhaelekmjgbmaaSym2
import Derived.Test.YtdhaelekmjgbmaaRef5
namespace Go.Proofs.Ytdhaelekmjgbmaa
open Go Go.RowKit
attribute [local irreducible] ewp owp hwp hwq hws Ev Evg Fn retPost loud loudS Res1
noncomputable def m_law51_SymmetryMaps (x0 : Tsk) (x1 : Swp) (x2 : List Int) : Option Bool :=
  bnd (if 70 < (x0.vars.length : Int) then (some true) else (if 20 < (x0.ops.length : Int) then (some true) else (bnd (m_law51_long x1) fun q53 => if q53 = true then some true else if 200 < (x2.length : Int) then (some true) else (bnd (m_law51_awake) fun q63 => if q63 = true then some false else some true))) : Option Bool) fun y43 => if y43 = true then (bnd (bnd (m_law51_awake) fun q79 => if q79 = true then some true else some false : Option Bool) fun y75 => some y75) else (bnd (m_symmetry_State x0 x1 x2) fun q90 => bnd (m_symmetry_Plan x0 x1 x2) fun q104 => bnd (m_ref05_Check x0) fun q118 => if q118 ≠ 0 then (bnd (bnd (chkI ((q90.1.length : Int) + (q104.1.length : Int))) fun n135 => if n135 = 0 then (bnd (m_base_Num (⟨q90.2.n⟩ : Err)) fun q139 => if q139 = q118 then (bnd (m_base_Num (⟨q104.2.n⟩ : Err)) fun q148 => if q148 = q118 then (some true) else (some false)) else (some false)) else (some false) : Option Bool) fun y127 => some y127) else (bnd (m_ref51_Check x0 x1) fun q161 => if q161 = true then bnd (rng (ρ := Bool) (fun (k204 : Nat) (a205 : Int) (s202 : Bool × (List Int)) => bnd (if a205 < 0 then (some true) else (if (x0.ops.length : Int) ≤ a205 then (some true) else (some false)) : Option Bool) fun y227 => if y227 = true then (some (.brk (false, s202.2))) else (bnd (atI x1.ops a205) fun a240 => bnd (appI 8 s202.2 [a240]) fun u252 => some (.next (s202.1, u252)))) x2 0 (true, ([] : List Int))) fun res200 => fin res200 fun (s268 : Bool × (List Int)) => bnd (if s268.1 = true then (if q104.2.n ≠ 0 then (some true) else (bnd (m_base_Ints q104.1 s268.2) fun q276 => if q276 = true then some false else some true)) else (bnd (m_base_Is (⟨q104.2.n⟩ : Err) 1) fun q283 => if q283 = true then if 0 < (q104.1.length : Int) then (some true) else (some false) else some true) : Option Bool) fun y270 => if y270 = true then (some false) else (bnd (m_base_State x0.vars x2) fun q298 => if q298 = true then bnd (if q90.2.n = 0 then (bnd (m_ref51_State x1 x2) fun q328 => bnd (m_base_Ints q90.1 q328) fun q337 => if q337 = true then some true else some false) else (some false) : Option Bool) fun y323 => some y323 else bnd (bnd (m_base_Is (⟨q90.2.n⟩ : Err) 2) fun q309 => if q309 = true then if (q90.1.length : Int) = 0 then (some true) else (some false) else some false : Option Bool) fun y305 => some y305) else bnd (bnd (chkI ((q90.1.length : Int) + (q104.1.length : Int))) fun n176 => if n176 = 0 then (bnd (m_base_Is (⟨q90.2.n⟩ : Err) 2) fun q180 => if q180 = true then bnd (m_base_Is (⟨q104.2.n⟩ : Err) 2) fun q187 => if q187 = true then some true else some false else some false) else (some false) : Option Bool) fun y168 => some y168))
theorem c_law51_SymmetryMaps {w : World} {A : Nat → Prop} (hA : ∀ k, A k → k < w.heap.size) {vx0 : Value} {x0 : Tsk} (hx0 : Vb w A vx0 x0) {vx1 : Value} {x1 : Swp} (hx1 : Vb w A vx1 x1) {vx2 : Value} {x2 : List Int} (hx2 : Vb w A vx2 x2) {r : Bool} (hm : m_law51_SymmetryMaps x0 x1 x2 = some r) :
    Fn Try.prog 4 [vx0, vx1, vx2] w fun v w' => Ext w w' ∧ Vb w' (upA A w w') v r := by
  obtain ⟨O, hB, hA0⟩ := enter hA
  replace hx0 := hx0.mono hA0
  obtain ⟨cs1, rfl, v2, v3, v4, v5, rfl, h6, h9, h12, h15⟩ := hx0
  obtain ⟨A7, c8, rfl⟩ := h6.form
  obtain ⟨A10, c11, rfl⟩ := h9.form
  obtain ⟨A13, c14, rfl⟩ := h12.form
  obtain ⟨A16, c17, rfl⟩ := h15.form
  replace hx1 := hx1.mono hA0
  obtain ⟨cs18, rfl, v19, v20, v21, rfl, h22, h25, h28⟩ := hx1
  obtain ⟨A23, c24, rfl⟩ := h22.form
  obtain ⟨A26, c27, rfl⟩ := h25.form
  obtain ⟨A29, c30, rfl⟩ := h28.form
  replace hx2 := hx2.mono hA0
  obtain ⟨A31, c32, rfl⟩ := hx2.form
  refine fn_enter Try.func4 rfl Try.ntmps4 rfl ?_
  unfold m_law51_SymmetryMaps at hm
  refine ewp_seq ?_
  refine ewp_region ?_
  refine l_box 2 O rfl rfl fun g33 w34 O35 S36 h37 => ?_
  replace h37 : Lc 2 w34 O35 g33 26 [(.slice A7 x0.vars.length c8), (.slice A10 x0.init.length c11), (.slice A13 x0.goal.length c14), (.slice A16 x0.ops.length c17)] := h37
  replace hB := hB.st S36 (fun h => h) (fun h => h)
  replace h22 := h22.st S36 (fun h => h)
  replace h25 := h25.st S36 (fun h => h)
  replace h28 := h28.st S36 (fun h => h)
  replace hx2 := hx2.st S36 (fun h => h)
  replace h6 := h6.st S36 (fun h => h)
  replace h9 := h9.st S36 (fun h => h)
  replace h12 := h12.st S36 (fun h => h)
  replace h15 := h15.st S36 (fun h => h)
  refine l_box 3 O35 rfl rfl fun g38 w39 O40 S41 h42 => ?_
  replace h42 : Lc 3 w39 O40 g38 29 [(.slice A23 x1.vars.length c24), (.slice A26 x1.vals.length c27), (.slice A29 x1.ops.length c30)] := h42
  replace hB := hB.st S41 (fun h => h) (fun h => h)
  replace hx2 := hx2.st S41 (fun h => h)
  replace h37 := h37.st S41 (fun h => h)
  replace h6 := h6.st S41 (fun h => h)
  replace h9 := h9.st S41 (fun h => h)
  replace h12 := h12.st S41 (fun h => h)
  replace h15 := h15.st S41 (fun h => h)
  replace h22 := h22.st S41 (fun h => h)
  replace h25 := h25.st S41 (fun h => h)
  replace h28 := h28.st S41 (fun h => h)
  refine o_as rfl rfl  ?_
  (first | refine owp_nilT ?_ | refine owp_nilB ?_ | refine owp_nilBB ?_ | refine owp_nil ?_)
  refine ewp_seq ?_
  refine ewp_seq ?_
  obtain ⟨y43, hy44, hm⟩ := bs hm
  refine ewp_join (fun l' w' => ∃ (x46 : Unit) (O' : Lab), subs l' [(2, (.slice A31 x2.length c32)), (3, (.pointer (some ⟨g33, 0, none⟩))), (4, (.pointer (some ⟨g38, 0, none⟩))), (38, (.bool y43))] ∧ Bs w A w' O' ∧ Vb w' (Fr 0 w' O') (.slice A31 x2.length c32) x2 ∧ Lc 2 w' O' g33 26 [(.slice A7 x0.vars.length c8), (.slice A10 x0.init.length c11), (.slice A13 x0.goal.length c14), (.slice A16 x0.ops.length c17)] ∧ Vb w' (Fr 0 w' O') (.slice A7 x0.vars.length c8) x0.vars ∧ Vb w' (Fr 0 w' O') (.slice A10 x0.init.length c11) x0.init ∧ Vb w' (Fr 0 w' O') (.slice A13 x0.goal.length c14) x0.goal ∧ Vb w' (Fr 0 w' O') (.slice A16 x0.ops.length c17) x0.ops ∧ Lc 3 w' O' g38 29 [(.slice A23 x1.vars.length c24), (.slice A26 x1.vals.length c27), (.slice A29 x1.ops.length c30)] ∧ Vb w' (Fr 0 w' O') (.slice A23 x1.vars.length c24) x1.vars ∧ Vb w' (Fr 0 w' O') (.slice A26 x1.vals.length c27) x1.vals ∧ Vb w' (Fr 0 w' O') (.slice A29 x1.ops.length c30) x1.ops) ?_ ?_
  · skip
    refine ewp_region ?_
    refine o_fa rfl rfl  ?_
    refine o_ld (hc := Blk.cell (i := 0) (h37.1) rfl) rfl rfl  ?_
    refine o_ln rfl rfl  ?_
    have l48 : x0.vars.length ≤ 9223372036854775807 := Nat.le_trans h6.len.2.1 h6.len.2.2
    have r47 : inI64 (x0.vars.length : Int) := rngNat l48
    refine o_gtS rfl rfl rfl (fun c49 => ?_) fun c49 => ?_
    · replace hy44 := ip hy44 c49
      refine o_mv rfl rfl  ?_
      refine owp_no rfl rfl rfl rfl ?_
      refine owp_no rfl rfl rfl rfl ?_
      refine owp_no rfl rfl rfl rfl ?_
      refine owp_no rfl rfl rfl rfl ?_
      refine o_pt rfl rfl rfl  ?_
      refine o_mv rfl rfl  ?_
      refine owp_no rfl rfl rfl rfl ?_
      refine owp_no rfl rfl rfl rfl ?_
      refine o_pt rfl rfl rfl  ?_
      refine o_mv rfl rfl  ?_
      refine owp_no rfl rfl rfl rfl ?_
      refine owp_no rfl rfl rfl rfl ?_
      refine owp_no rfl rfl rfl rfl ?_
      refine o_pt rfl rfl rfl  ?_
      refine o_mv rfl rfl  ?_
      refine owp_no rfl rfl rfl rfl ?_
      refine owp_no rfl rfl rfl rfl ?_
      refine o_pt rfl rfl rfl  ?_
      (first | refine owp_nilT ?_ | refine owp_nilB ?_ | refine owp_nilBB ?_ | refine owp_nil ?_)
      obtain rfl := sm hy44
      exact ⟨(), _, ⟨rfl, rfl, rfl, rfl, trivial⟩, hB, hx2, h37, h6, h9, h12, h15, h42, h22, h25, h28⟩
    · replace hy44 := im hy44 c49
      refine o_mv rfl rfl  ?_
      refine owp_yes rfl rfl ?_
      refine o_fa rfl rfl  ?_
      refine owp_yes rfl rfl ?_
      refine o_ld (hc := Blk.cell (i := 3) (h37.1) rfl) rfl rfl  ?_
      refine owp_yes rfl rfl ?_
      refine o_ln rfl rfl  ?_
      have l51 : x0.ops.length ≤ 9223372036854775807 := Nat.le_trans h15.len.2.1 h15.len.2.2
      have r50 : inI64 (x0.ops.length : Int) := rngNat l51
      refine owp_yes rfl rfl ?_
      refine o_gtS rfl rfl rfl (fun c52 => ?_) fun c52 => ?_
      · replace hy44 := ip hy44 c52
        refine o_pf rfl rfl rfl  ?_
        refine o_mv rfl rfl  ?_
        refine owp_no rfl rfl rfl rfl ?_
        refine owp_no rfl rfl rfl rfl ?_
        refine o_pt rfl rfl rfl  ?_
        refine o_mv rfl rfl  ?_
        refine owp_no rfl rfl rfl rfl ?_
        refine owp_no rfl rfl rfl rfl ?_
        refine owp_no rfl rfl rfl rfl ?_
        refine o_pt rfl rfl rfl  ?_
        refine o_mv rfl rfl  ?_
        refine owp_no rfl rfl rfl rfl ?_
        refine owp_no rfl rfl rfl rfl ?_
        refine o_pt rfl rfl rfl  ?_
        (first | refine owp_nilT ?_ | refine owp_nilB ?_ | refine owp_nilBB ?_ | refine owp_nil ?_)
        obtain rfl := sm hy44
        exact ⟨(), _, ⟨rfl, rfl, rfl, rfl, trivial⟩, hB, hx2, h37, h6, h9, h12, h15, h42, h22, h25, h28⟩
      · replace hy44 := im hy44 c52
        refine o_pf rfl rfl rfl  ?_
        refine o_mv rfl rfl  ?_
        refine owp_yes rfl rfl ?_
        refine o_la (hl := rfl) (hc := (h42.1).cellsAt) rfl rfl  ?_
        refine owp_yes rfl rfl ?_
        obtain ⟨q53, e54, hy44⟩ := bs hy44
        refine l_callA (O := O40) (A := All w39) (R := fun w' F v => Vb w' F v q53) (c_law51_long (fun _ h => h) (Vb.mono (F := Fr 0 w39 O40) (Vb.ofAgg (cs := [(.slice A23 x1.vars.length c24), (.slice A26 x1.vals.length c27), (.slice A29 x1.ops.length c30)]) (x := x1) rfl ⟨_, _, _, rfl, h22, h25, h28⟩) Fr.lt) e54) rfl rfl fun v59 w55 O56 S57 h58 => ?_
        obtain rfl := h58.bool
        replace hB := hB.st S57 (fun h => h) (fun h => h)
        replace hx2 := hx2.st S57 (fun h => h)
        replace h37 := h37.st S57 (fun h => h)
        replace h6 := h6.st S57 (fun h => h)
        replace h9 := h9.st S57 (fun h => h)
        replace h12 := h12.st S57 (fun h => h)
        replace h15 := h15.st S57 (fun h => h)
        replace h42 := h42.st S57 (fun h => h)
        replace h22 := h22.st S57 (fun h => h)
        replace h25 := h25.st S57 (fun h => h)
        replace h28 := h28.st S57 (fun h => h)
        cases q53
        case false =>
          replace hy44 := iF hy44
          refine o_pf rfl rfl rfl  ?_
          refine o_mv rfl rfl  ?_
          refine owp_yes rfl rfl ?_
          refine o_mv rfl rfl  ?_
          refine owp_yes rfl rfl ?_
          refine o_ln rfl rfl  ?_
          have l61 : x2.length ≤ 9223372036854775807 := Nat.le_trans hx2.len.2.1 hx2.len.2.2
          have r60 : inI64 (x2.length : Int) := rngNat l61
          refine owp_yes rfl rfl ?_
          refine o_gtS rfl rfl rfl (fun c62 => ?_) fun c62 => ?_
          · replace hy44 := ip hy44 c62
            refine o_pf rfl rfl rfl  ?_
            refine o_mv rfl rfl  ?_
            refine owp_no rfl rfl rfl rfl ?_
            refine owp_no rfl rfl rfl rfl ?_
            refine o_pt rfl rfl rfl  ?_
            (first | refine owp_nilT ?_ | refine owp_nilB ?_ | refine owp_nilBB ?_ | refine owp_nil ?_)
            obtain rfl := sm hy44
            exact ⟨(), _, ⟨rfl, rfl, rfl, rfl, trivial⟩, hB, hx2, h37, h6, h9, h12, h15, h42, h22, h25, h28⟩
          · replace hy44 := im hy44 c62
            refine o_pf rfl rfl rfl  ?_
            refine o_mv rfl rfl  ?_
            refine owp_yes rfl rfl ?_
            obtain ⟨q63, e64, hy44⟩ := bs hy44
            refine l_callA (O := O56) (A := All w55) (R := fun w' F v => Vb w' F v q63) (c_law51_awake (fun _ h => h)  e64) rfl rfl fun v69 w65 O66 S67 h68 => ?_
            obtain rfl := h68.bool
            replace hB := hB.st S67 (fun h => h) (fun h => h)
            replace hx2 := hx2.st S67 (fun h => h)
            replace h37 := h37.st S67 (fun h => h)
            replace h6 := h6.st S67 (fun h => h)
            replace h9 := h9.st S67 (fun h => h)
            replace h12 := h12.st S67 (fun h => h)
            replace h15 := h15.st S67 (fun h => h)
            replace h42 := h42.st S67 (fun h => h)
            replace h22 := h22.st S67 (fun h => h)
            replace h25 := h25.st S67 (fun h => h)
            replace h28 := h28.st S67 (fun h => h)
            cases q63
            case false =>
              replace hy44 := iF hy44
              refine owp_yes rfl rfl ?_
              refine o_nf rfl rfl  ?_
              refine o_pf rfl rfl rfl  ?_
              (first | refine owp_nilT ?_ | refine owp_nilB ?_ | refine owp_nilBB ?_ | refine owp_nil ?_)
              obtain rfl := sm hy44
              exact ⟨(), _, ⟨rfl, rfl, rfl, rfl, trivial⟩, hB, hx2, h37, h6, h9, h12, h15, h42, h22, h25, h28⟩
            replace hy44 := iT hy44
            refine owp_yes rfl rfl ?_
            refine o_nt rfl rfl  ?_
            refine o_pf rfl rfl rfl  ?_
            (first | refine owp_nilT ?_ | refine owp_nilB ?_ | refine owp_nilBB ?_ | refine owp_nil ?_)
            obtain rfl := sm hy44
            exact ⟨(), _, ⟨rfl, rfl, rfl, rfl, trivial⟩, hB, hx2, h37, h6, h9, h12, h15, h42, h22, h25, h28⟩
        replace hy44 := iT hy44
        refine o_pf rfl rfl rfl  ?_
        refine o_mv rfl rfl  ?_
        refine owp_no rfl rfl rfl rfl ?_
        refine owp_no rfl rfl rfl rfl ?_
        refine owp_no rfl rfl rfl rfl ?_
        refine o_pt rfl rfl rfl  ?_
        refine o_mv rfl rfl  ?_
        refine owp_no rfl rfl rfl rfl ?_
        refine owp_no rfl rfl rfl rfl ?_
        refine o_pt rfl rfl rfl  ?_
        (first | refine owp_nilT ?_ | refine owp_nilB ?_ | refine owp_nilBB ?_ | refine owp_nil ?_)
        obtain rfl := sm hy44
        exact ⟨(), _, ⟨rfl, rfl, rfl, rfl, trivial⟩, hB, hx2, h37, h6, h9, h12, h15, h42, h22, h25, h28⟩
  rintro l70 w71 ⟨x46, O72, hs73, hB, hx2, h37, h6, h9, h12, h15, h42, h22, h25, h28⟩
  refine ewp_sub _ hs73 ?_
  refine ewp_cond rfl (fun c74 => ?_) (fun c74 => ?_)
  · replace hm := ip hm c74
    refine ewp_seq ?_
    obtain ⟨y75, hy76, hm⟩ := bs hm
    refine ewp_join (fun l' w' => ∃ (x78 : Unit) (O' : Lab), subs l' [(6, (.bool y75))] ∧ Bs w A w' O') ?_ ?_
    · skip
      refine ewp_region ?_
      obtain ⟨q79, e80, hy76⟩ := bs hy76
      refine l_callA (O := O72) (A := All w71) (R := fun w' F v => Vb w' F v q79) (c_law51_awake (fun _ h => h)  e80) rfl rfl fun v85 w81 O82 S83 h84 => ?_
      obtain rfl := h84.bool
      replace hB := hB.st S83 (fun h => h) (fun h => h)
      cases q79
      case false =>
        replace hy76 := iF hy76
        refine o_as rfl rfl  ?_
        (first | refine owp_nilT ?_ | refine owp_nilB ?_ | refine owp_nilBB ?_ | refine owp_nil ?_)
        obtain rfl := sm hy76
        exact ⟨(), _, ⟨rfl, trivial⟩, hB⟩
      replace hy76 := iT hy76
      refine o_as rfl rfl  ?_
      (first | refine owp_nilT ?_ | refine owp_nilB ?_ | refine owp_nilBB ?_ | refine owp_nil ?_)
      obtain rfl := sm hy76
      exact ⟨(), _, ⟨rfl, trivial⟩, hB⟩
    rintro l86 w87 ⟨x78, O88, hs89, hB⟩
    refine ewp_sub _ hs89 ?_
    refine ewp_ret ?_
    obtain rfl := sm hm
    exact ret1v rfl (res_tmp rfl) ⟨hB.ext, vBool⟩
  · replace hm := im' hm c74
    refine ewp_skip ?_
    refine ewp_seq ?_
    refine ewp_region ?_
    refine o_la (hl := rfl) (hc := (h37.1).cellsAt) rfl rfl  ?_
    refine o_la (hl := rfl) (hc := (h42.1).cellsAt) rfl rfl  ?_
    refine o_mv rfl rfl  ?_
    obtain ⟨q90, e91, hm⟩ := bs hm
    refine l_call (O := O72) (R := fun w' F v => T2 w' F v q90) (c_symmetry_State Fr.lt (Vb.ofAgg (cs := [(.slice A7 x0.vars.length c8), (.slice A10 x0.init.length c11), (.slice A13 x0.goal.length c14), (.slice A16 x0.ops.length c17)]) (x := x0) rfl ⟨_, _, _, _, rfl, h6, h9, h12, h15⟩) (Vb.ofAgg (cs := [(.slice A23 x1.vars.length c24), (.slice A26 x1.vals.length c27), (.slice A29 x1.ops.length c30)]) (x := x1) rfl ⟨_, _, _, rfl, h22, h25, h28⟩) hx2 e91) rfl rfl fun v96 w92 O93 S94 h95 => ?_
    obtain ⟨v97, v98, rfl, h99, h100⟩ := h95
    obtain ⟨A101, c102, rfl⟩ := h99.form
    obtain ⟨rfl, r103⟩ := h100.err
    replace hB := hB.st S94 (fun h => h) (fun h => h)
    replace hx2 := hx2.st S94 (fun h => h)
    replace h37 := h37.st S94 (fun h => h)
    replace h6 := h6.st S94 (fun h => h)
    replace h9 := h9.st S94 (fun h => h)
    replace h12 := h12.st S94 (fun h => h)
    replace h15 := h15.st S94 (fun h => h)
    replace h42 := h42.st S94 (fun h => h)
    replace h22 := h22.st S94 (fun h => h)
    replace h25 := h25.st S94 (fun h => h)
    replace h28 := h28.st S94 (fun h => h)
    refine o_mv rfl rfl  ?_
    refine o_ex rfl rfl rfl  ?_
    refine o_ex rfl rfl rfl  ?_
    refine o_as rfl rfl  ?_
    refine o_as rfl rfl  ?_
    (first | refine owp_nilT ?_ | refine owp_nilB ?_ | refine owp_nilBB ?_ | refine owp_nil ?_)
    refine ewp_seq ?_
    refine ewp_region ?_
    refine o_la (hl := rfl) (hc := (h37.1).cellsAt) rfl rfl  ?_
    refine o_la (hl := rfl) (hc := (h42.1).cellsAt) rfl rfl  ?_
    refine o_mv rfl rfl  ?_
    obtain ⟨q104, e105, hm⟩ := bs hm
    refine l_call (O := O93) (R := fun w' F v => T2 w' F v q104) (c_symmetry_Plan Fr.lt (Vb.ofAgg (cs := [(.slice A7 x0.vars.length c8), (.slice A10 x0.init.length c11), (.slice A13 x0.goal.length c14), (.slice A16 x0.ops.length c17)]) (x := x0) rfl ⟨_, _, _, _, rfl, h6, h9, h12, h15⟩) (Vb.ofAgg (cs := [(.slice A23 x1.vars.length c24), (.slice A26 x1.vals.length c27), (.slice A29 x1.ops.length c30)]) (x := x1) rfl ⟨_, _, _, rfl, h22, h25, h28⟩) hx2 e105) rfl rfl fun v110 w106 O107 S108 h109 => ?_
    obtain ⟨v111, v112, rfl, h113, h114⟩ := h109
    obtain ⟨A115, c116, rfl⟩ := h113.form
    obtain ⟨rfl, r117⟩ := h114.err
    replace hB := hB.st S108 (fun h => h) (fun h => h)
    replace hx2 := hx2.st S108 (fun h => h)
    replace h37 := h37.st S108 (fun h => h)
    replace h6 := h6.st S108 (fun h => h)
    replace h9 := h9.st S108 (fun h => h)
    replace h12 := h12.st S108 (fun h => h)
    replace h15 := h15.st S108 (fun h => h)
    replace h42 := h42.st S108 (fun h => h)
    replace h22 := h22.st S108 (fun h => h)
    replace h25 := h25.st S108 (fun h => h)
    replace h28 := h28.st S108 (fun h => h)
    replace h99 := h99.st S108 (fun h => h)
    refine o_mv rfl rfl  ?_
    refine o_ex rfl rfl rfl  ?_
    refine o_ex rfl rfl rfl  ?_
    refine o_as rfl rfl  ?_
    refine o_as rfl rfl  ?_
    (first | refine owp_nilT ?_ | refine owp_nilB ?_ | refine owp_nilBB ?_ | refine owp_nil ?_)
    refine ewp_seq ?_
    refine ewp_seq ?_
    refine ewp_region ?_
    refine o_la (hl := rfl) (hc := (h37.1).cellsAt) rfl rfl  ?_
    obtain ⟨q118, e119, hm⟩ := bs hm
    refine l_callA (O := O107) (A := All w106) (R := fun w' F v => Vb w' F v q118) (c_ref05_Check (fun _ h => h) (Vb.mono (F := Fr 0 w106 O107) (Vb.ofAgg (cs := [(.slice A7 x0.vars.length c8), (.slice A10 x0.init.length c11), (.slice A13 x0.goal.length c14), (.slice A16 x0.ops.length c17)]) (x := x0) rfl ⟨_, _, _, _, rfl, h6, h9, h12, h15⟩) Fr.lt) e119) rfl rfl fun v124 w120 O121 S122 h123 => ?_
    obtain ⟨rfl, r125⟩ := h123.int
    replace hB := hB.st S122 (fun h => h) (fun h => h)
    replace hx2 := hx2.st S122 (fun h => h)
    replace h37 := h37.st S122 (fun h => h)
    replace h6 := h6.st S122 (fun h => h)
    replace h9 := h9.st S122 (fun h => h)
    replace h12 := h12.st S122 (fun h => h)
    replace h15 := h15.st S122 (fun h => h)
    replace h42 := h42.st S122 (fun h => h)
    replace h22 := h22.st S122 (fun h => h)
    replace h25 := h25.st S122 (fun h => h)
    replace h28 := h28.st S122 (fun h => h)
    replace h99 := h99.st S122 (fun h => h)
    replace h113 := h113.st S122 (fun h => h)
    refine o_as rfl rfl  ?_
    (first | refine owp_nilT ?_ | refine owp_nilB ?_ | refine owp_nilBB ?_ | refine owp_nil ?_)
    refine ewp_seq ?_
    refine ewp_region ?_
    refine o_mv rfl rfl  ?_
    refine o_neS rfl rfl rfl (fun c126 => ?_) fun c126 => ?_
    · replace hm := ip hm c126
      (first | refine owp_nilT ?_ | refine owp_nilB ?_ | refine owp_nilBB ?_ | refine owp_nil ?_)
      refine ewp_true rfl ?_
      refine ewp_seq ?_
      obtain ⟨y127, hy128, hm⟩ := bs hm
      refine ewp_join (fun l' w' => ∃ (x130 : Unit) (O' : Lab), subs l' [(6, (.bool y127))] ∧ Bs w A w' O') ?_ ?_
      · skip
        refine ewp_region ?_
        refine o_mv rfl rfl  ?_
        refine o_ln rfl rfl  ?_
        have l132 : q90.1.length ≤ 9223372036854775807 := Nat.le_trans h99.len.2.1 h99.len.2.2
        have r131 : inI64 (q90.1.length : Int) := rngNat l132
        refine o_mv rfl rfl  ?_
        refine o_ln rfl rfl  ?_
        have l134 : q104.1.length ≤ 9223372036854775807 := Nat.le_trans h113.len.2.1 h113.len.2.2
        have r133 : inI64 (q104.1.length : Int) := rngNat l134
        obtain ⟨n135, e136, hy128⟩ := bs hy128
        have r137 := (chkI_rng e136)
        refine o_adE (he := e136) rfl rfl rfl  ?_
        refine o_eeS rfl rfl rfl (fun c138 => ?_) fun c138 => ?_
        · replace hy128 := ip hy128 c138
          refine o_mv rfl rfl  ?_
          refine owp_yes rfl rfl ?_
          refine o_mv rfl rfl  ?_
          refine owp_yes rfl rfl ?_
          obtain ⟨q139, e140, hy128⟩ := bs hy128
          refine l_callA (O := O121) (A := All w120) (R := fun w' F v => Vb w' F v q139) (c_base_Num (fun _ h => h) r103 e140) rfl rfl fun v145 w141 O142 S143 h144 => ?_
          obtain ⟨rfl, r146⟩ := h144.int
          replace hB := hB.st S143 (fun h => h) (fun h => h)
          refine owp_yes rfl rfl ?_
          refine o_mv rfl rfl  ?_
          refine owp_yes rfl rfl ?_
          refine o_eeS rfl rfl rfl (fun c147 => ?_) fun c147 => ?_
          · replace hy128 := ip hy128 c147
            refine o_pt rfl rfl rfl  ?_
            refine o_mv rfl rfl  ?_
            refine owp_yes rfl rfl ?_
            refine o_mv rfl rfl  ?_
            refine owp_yes rfl rfl ?_
            obtain ⟨q148, e149, hy128⟩ := bs hy128
            refine l_callA (O := O142) (A := All w141) (R := fun w' F v => Vb w' F v q148) (c_base_Num (fun _ h => h) r117 e149) rfl rfl fun v154 w150 O151 S152 h153 => ?_
            obtain ⟨rfl, r155⟩ := h153.int
            replace hB := hB.st S152 (fun h => h) (fun h => h)
            refine owp_yes rfl rfl ?_
            refine o_mv rfl rfl  ?_
            refine owp_yes rfl rfl ?_
            refine o_eeS rfl rfl rfl (fun c156 => ?_) fun c156 => ?_
            · replace hy128 := ip hy128 c156
              refine o_pt rfl rfl rfl  ?_
              refine o_as rfl rfl  ?_
              (first | refine owp_nilT ?_ | refine owp_nilB ?_ | refine owp_nilBB ?_ | refine owp_nil ?_)
              obtain rfl := sm hy128
              exact ⟨(), _, ⟨rfl, trivial⟩, hB⟩
            · replace hy128 := im hy128 c156
              refine o_pt rfl rfl rfl  ?_
              refine o_as rfl rfl  ?_
              (first | refine owp_nilT ?_ | refine owp_nilB ?_ | refine owp_nilBB ?_ | refine owp_nil ?_)
              obtain rfl := sm hy128
              exact ⟨(), _, ⟨rfl, trivial⟩, hB⟩
          · replace hy128 := im hy128 c147
            refine o_pt rfl rfl rfl  ?_
            refine o_mv rfl rfl  ?_
            refine owp_no rfl rfl rfl rfl ?_
            refine owp_no rfl rfl rfl rfl ?_
            refine owp_no rfl rfl rfl rfl ?_
            refine owp_no rfl rfl rfl rfl ?_
            refine o_pf rfl rfl rfl  ?_
            refine o_as rfl rfl  ?_
            (first | refine owp_nilT ?_ | refine owp_nilB ?_ | refine owp_nilBB ?_ | refine owp_nil ?_)
            obtain rfl := sm hy128
            exact ⟨(), _, ⟨rfl, trivial⟩, hB⟩
        · replace hy128 := im hy128 c138
          refine o_mv rfl rfl  ?_
          refine owp_no rfl rfl rfl rfl ?_
          refine owp_no rfl rfl rfl rfl ?_
          refine owp_no rfl rfl rfl rfl ?_
          refine owp_no rfl rfl rfl rfl ?_
          refine o_pf rfl rfl rfl  ?_
          refine o_mv rfl rfl  ?_
          refine owp_no rfl rfl rfl rfl ?_
          refine owp_no rfl rfl rfl rfl ?_
          refine owp_no rfl rfl rfl rfl ?_
          refine owp_no rfl rfl rfl rfl ?_
          refine o_pf rfl rfl rfl  ?_
          refine o_as rfl rfl  ?_
          (first | refine owp_nilT ?_ | refine owp_nilB ?_ | refine owp_nilBB ?_ | refine owp_nil ?_)
          obtain rfl := sm hy128
          exact ⟨(), _, ⟨rfl, trivial⟩, hB⟩
      rintro l157 w158 ⟨x130, O159, hs160, hB⟩
      refine ewp_sub _ hs160 ?_
      refine ewp_ret ?_
      obtain rfl := sm hm
      exact ret1v rfl (res_tmp rfl) ⟨hB.ext, vBool⟩
    · replace hm := im hm c126
      (first | refine owp_nilT ?_ | refine owp_nilB ?_ | refine owp_nilBB ?_ | refine owp_nil ?_)
      refine ewp_false rfl ?_
      refine ewp_skip ?_
      refine ewp_seq ?_
      refine ewp_seq ?_
      refine ewp_region ?_
      refine o_la (hl := rfl) (hc := (h37.1).cellsAt) rfl rfl  ?_
      refine o_la (hl := rfl) (hc := (h42.1).cellsAt) rfl rfl  ?_
      obtain ⟨q161, e162, hm⟩ := bs hm
      refine l_callA (O := O121) (A := All w120) (R := fun w' F v => Vb w' F v q161) (c_ref51_Check (fun _ h => h) (Vb.mono (F := Fr 0 w120 O121) (Vb.ofAgg (cs := [(.slice A7 x0.vars.length c8), (.slice A10 x0.init.length c11), (.slice A13 x0.goal.length c14), (.slice A16 x0.ops.length c17)]) (x := x0) rfl ⟨_, _, _, _, rfl, h6, h9, h12, h15⟩) Fr.lt) (Vb.mono (F := Fr 0 w120 O121) (Vb.ofAgg (cs := [(.slice A23 x1.vars.length c24), (.slice A26 x1.vals.length c27), (.slice A29 x1.ops.length c30)]) (x := x1) rfl ⟨_, _, _, rfl, h22, h25, h28⟩) Fr.lt) e162) rfl rfl fun v167 w163 O164 S165 h166 => ?_
      obtain rfl := h166.bool
      replace hB := hB.st S165 (fun h => h) (fun h => h)
      replace hx2 := hx2.st S165 (fun h => h)
      replace h37 := h37.st S165 (fun h => h)
      replace h6 := h6.st S165 (fun h => h)
      replace h9 := h9.st S165 (fun h => h)
      replace h12 := h12.st S165 (fun h => h)
      replace h15 := h15.st S165 (fun h => h)
      replace h42 := h42.st S165 (fun h => h)
      replace h22 := h22.st S165 (fun h => h)
      replace h25 := h25.st S165 (fun h => h)
      replace h28 := h28.st S165 (fun h => h)
      replace h99 := h99.st S165 (fun h => h)
      replace h113 := h113.st S165 (fun h => h)
      cases q161
      case false =>
        replace hm := iF hm
        refine o_nf rfl rfl  ?_
        (first | refine owp_nilT ?_ | refine owp_nilB ?_ | refine owp_nilBB ?_ | refine owp_nil ?_)
        refine ewp_true rfl ?_
        refine ewp_seq ?_
        obtain ⟨y168, hy169, hm⟩ := bs hm
        refine ewp_join (fun l' w' => ∃ (x171 : Unit) (O' : Lab), subs l' [(6, (.bool y168))] ∧ Bs w A w' O') ?_ ?_
        · skip
          refine ewp_region ?_
          refine o_mv rfl rfl  ?_
          refine o_ln rfl rfl  ?_
          have l173 : q90.1.length ≤ 9223372036854775807 := Nat.le_trans h99.len.2.1 h99.len.2.2
          have r172 : inI64 (q90.1.length : Int) := rngNat l173
          refine o_mv rfl rfl  ?_
          refine o_ln rfl rfl  ?_
          have l175 : q104.1.length ≤ 9223372036854775807 := Nat.le_trans h113.len.2.1 h113.len.2.2
          have r174 : inI64 (q104.1.length : Int) := rngNat l175
          obtain ⟨n176, e177, hy169⟩ := bs hy169
          have r178 := (chkI_rng e177)
          refine o_adE (he := e177) rfl rfl rfl  ?_
          refine o_eeS rfl rfl rfl (fun c179 => ?_) fun c179 => ?_
          · replace hy169 := ip hy169 c179
            refine o_mv rfl rfl  ?_
            refine owp_yes rfl rfl ?_
            refine o_mv rfl rfl  ?_
            refine owp_yes rfl rfl ?_
            obtain ⟨q180, e181, hy169⟩ := bs hy169
            refine l_callA (O := O164) (A := All w163) (R := fun w' F v => Vb w' F v q180) (c_base_Is (fun _ h => h) r103 (show inI64 (2) from by decide) e181) rfl rfl fun v186 w182 O183 S184 h185 => ?_
            obtain rfl := h185.bool
            replace hB := hB.st S184 (fun h => h) (fun h => h)
            cases q180
            case false =>
              replace hy169 := iF hy169
              refine o_pt rfl rfl rfl  ?_
              refine o_mv rfl rfl  ?_
              refine owp_no rfl rfl rfl rfl ?_
              refine owp_no rfl rfl rfl rfl ?_
              refine o_pf rfl rfl rfl  ?_
              refine o_as rfl rfl  ?_
              (first | refine owp_nilT ?_ | refine owp_nilB ?_ | refine owp_nilBB ?_ | refine owp_nil ?_)
              obtain rfl := sm hy169
              exact ⟨(), _, ⟨rfl, trivial⟩, hB⟩
            replace hy169 := iT hy169
            refine o_pt rfl rfl rfl  ?_
            refine o_mv rfl rfl  ?_
            refine owp_yes rfl rfl ?_
            refine o_mv rfl rfl  ?_
            refine owp_yes rfl rfl ?_
            obtain ⟨q187, e188, hy169⟩ := bs hy169
            refine l_callA (O := O183) (A := All w182) (R := fun w' F v => Vb w' F v q187) (c_base_Is (fun _ h => h) r117 (show inI64 (2) from by decide) e188) rfl rfl fun v193 w189 O190 S191 h192 => ?_
            obtain rfl := h192.bool
            replace hB := hB.st S191 (fun h => h) (fun h => h)
            cases q187
            case false =>
              replace hy169 := iF hy169
              refine o_pt rfl rfl rfl  ?_
              refine o_as rfl rfl  ?_
              (first | refine owp_nilT ?_ | refine owp_nilB ?_ | refine owp_nilBB ?_ | refine owp_nil ?_)
              obtain rfl := sm hy169
              exact ⟨(), _, ⟨rfl, trivial⟩, hB⟩
            replace hy169 := iT hy169
            refine o_pt rfl rfl rfl  ?_
            refine o_as rfl rfl  ?_
            (first | refine owp_nilT ?_ | refine owp_nilB ?_ | refine owp_nilBB ?_ | refine owp_nil ?_)
            obtain rfl := sm hy169
            exact ⟨(), _, ⟨rfl, trivial⟩, hB⟩
          · replace hy169 := im hy169 c179
            refine o_mv rfl rfl  ?_
            refine owp_no rfl rfl rfl rfl ?_
            refine owp_no rfl rfl rfl rfl ?_
            refine o_pf rfl rfl rfl  ?_
            refine o_mv rfl rfl  ?_
            refine owp_no rfl rfl rfl rfl ?_
            refine owp_no rfl rfl rfl rfl ?_
            refine o_pf rfl rfl rfl  ?_
            refine o_as rfl rfl  ?_
            (first | refine owp_nilT ?_ | refine owp_nilB ?_ | refine owp_nilBB ?_ | refine owp_nil ?_)
            obtain rfl := sm hy169
            exact ⟨(), _, ⟨rfl, trivial⟩, hB⟩
        rintro l194 w195 ⟨x171, O196, hs197, hB⟩
        refine ewp_sub _ hs197 ?_
        refine ewp_ret ?_
        obtain rfl := sm hm
        exact ret1v rfl (res_tmp rfl) ⟨hB.ext, vBool⟩
      replace hm := iT hm
      refine o_nt rfl rfl  ?_
      (first | refine owp_nilT ?_ | refine owp_nilB ?_ | refine owp_nilBB ?_ | refine owp_nil ?_)
      refine ewp_false rfl ?_
      refine ewp_skip ?_
      refine ewp_seq ?_
      refine ewp_region ?_
      refine o_as rfl rfl  ?_
      (first | refine owp_nilT ?_ | refine owp_nilB ?_ | refine owp_nilBB ?_ | refine owp_nil ?_)
      refine ewp_seq ?_
      refine ewp_region ?_
      refine o_as rfl rfl  ?_
      (first | refine owp_nilT ?_ | refine owp_nilB ?_ | refine owp_nilBB ?_ | refine owp_nil ?_)
      refine ewp_seq ?_
      refine ewp_seq ?_
      refine ewp_region ?_
      refine o_mv rfl rfl  ?_
      refine o_ln rfl rfl  ?_
      have l199 : x2.length ≤ 9223372036854775807 := Nat.le_trans hx2.len.2.1 hx2.len.2.2
      have r198 : inI64 (x2.length : Int) := rngNat l199
      refine o_mv rfl rfl  ?_
      (first | refine owp_nilT ?_ | refine owp_nilB ?_ | refine owp_nilBB ?_ | refine owp_nil ?_)
      obtain ⟨res200, hL201, hm⟩ := bs hm
      refine ewp_join (aft res200 (fun (s202 : Bool × (List Int)) (x203 : (Option Addr × Nat)) => [(2, (.slice A31 x2.length c32)), (3, (.pointer (some ⟨g33, 0, none⟩))), (4, (.pointer (some ⟨g38, 0, none⟩))), (7, (.slice A101 q90.1.length c102)), (8, (errV q90.2.n)), (9, (.slice A115 q104.1.length c116)), (10, (errV q104.2.n)), (12, (.bool s202.1)), (13, (.slice x203.1 s202.2.length x203.2))]) (fun s202 x203 w' => ∃ O' : Lab, Bs w A w' O' ∧ Vb w' (Fr 0 w' O') (.slice A31 x2.length c32) x2 ∧ Lc 2 w' O' g33 26 [(.slice A7 x0.vars.length c8), (.slice A10 x0.init.length c11), (.slice A13 x0.goal.length c14), (.slice A16 x0.ops.length c17)] ∧ Vb w' (Fr 0 w' O') (.slice A7 x0.vars.length c8) x0.vars ∧ Vb w' (Fr 0 w' O') (.slice A10 x0.init.length c11) x0.init ∧ Vb w' (Fr 0 w' O') (.slice A13 x0.goal.length c14) x0.goal ∧ Vb w' (Fr 0 w' O') (.slice A16 x0.ops.length c17) x0.ops ∧ Lc 3 w' O' g38 29 [(.slice A23 x1.vars.length c24), (.slice A26 x1.vals.length c27), (.slice A29 x1.ops.length c30)] ∧ Vb w' (Fr 0 w' O') (.slice A23 x1.vars.length c24) x1.vars ∧ Vb w' (Fr 0 w' O') (.slice A26 x1.vals.length c27) x1.vals ∧ Vb w' (Fr 0 w' O') (.slice A29 x1.ops.length c30) x1.ops ∧ Vb w' (Fr 0 w' O') (.slice A101 q90.1.length c102) q90.1 ∧ Vb w' (Fr 0 w' O') (.slice A115 q104.1.length c116) q104.1 ∧ Rw 4 w' O' 3 (.slice x203.1 s202.2.length x203.2) s202.2)) ?_ ?_
      · refine ewp_block ?_
        refine ewp_rng (σ := Bool × (List Int)) (X := (Option Addr × Nat)) (x2.length) hL201 rfl l199 (fun (s202 : Bool × (List Int)) (x203 : (Option Addr × Nat)) => [(2, (.slice A31 x2.length c32)), (3, (.pointer (some ⟨g33, 0, none⟩))), (4, (.pointer (some ⟨g38, 0, none⟩))), (7, (.slice A101 q90.1.length c102)), (8, (errV q90.2.n)), (9, (.slice A115 q104.1.length c116)), (10, (errV q104.2.n)), (12, (.bool s202.1)), (13, (.slice x203.1 s202.2.length x203.2)), (94, (.slice A31 x2.length c32))]) _ (fun s202 x203 w' => ∃ O' : Lab, Bs w A w' O' ∧ Vb w' (Fr 0 w' O') (.slice A31 x2.length c32) x2 ∧ Lc 2 w' O' g33 26 [(.slice A7 x0.vars.length c8), (.slice A10 x0.init.length c11), (.slice A13 x0.goal.length c14), (.slice A16 x0.ops.length c17)] ∧ Vb w' (Fr 0 w' O') (.slice A7 x0.vars.length c8) x0.vars ∧ Vb w' (Fr 0 w' O') (.slice A10 x0.init.length c11) x0.init ∧ Vb w' (Fr 0 w' O') (.slice A13 x0.goal.length c14) x0.goal ∧ Vb w' (Fr 0 w' O') (.slice A16 x0.ops.length c17) x0.ops ∧ Lc 3 w' O' g38 29 [(.slice A23 x1.vars.length c24), (.slice A26 x1.vals.length c27), (.slice A29 x1.ops.length c30)] ∧ Vb w' (Fr 0 w' O') (.slice A23 x1.vars.length c24) x1.vars ∧ Vb w' (Fr 0 w' O') (.slice A26 x1.vals.length c27) x1.vals ∧ Vb w' (Fr 0 w' O') (.slice A29 x1.ops.length c30) x1.ops ∧ Vb w' (Fr 0 w' O') (.slice A101 q90.1.length c102) q90.1 ∧ Vb w' (Fr 0 w' O') (.slice A115 q104.1.length c116) q104.1 ∧ Rw 4 w' O' 3 (.slice x203.1 s202.2.length x203.2) s202.2) _ (none, 0) ⟨O164, hB, hx2, h37, h6, h9, h12, h15, h42, h22, h25, h28, h99, h113, (Rw.nil 4 (by decide))⟩ ⟨rfl, rfl, rfl, rfl, rfl, rfl, rfl, rfl, rfl, rfl, rfl, rfl, trivial⟩ (fun _ _ => ⟨rfl, rfl⟩) (fun _ _ => ⟨rfl, rfl, rfl, rfl, rfl, rfl, rfl, rfl, rfl, trivial⟩) (fun _ _ _ ⟨O', hB, hx2, h37, h6, h9, h12, h15, h42, h22, h25, h28, h99, h113, h217⟩ => ⟨O', hB, hx2, h37, h6, h9, h12, h15, h42, h22, h25, h28, h99, h113, h217⟩) ⟨rfl, rfl, rfl⟩ ⟨rfl, rfl⟩ ?_
        rintro k204 a205 s202 x203 w206 cc208 hx209 ⟨O207, hB, hx2, h37, h6, h9, h12, h15, h42, h22, h25, h28, h99, h113, h217⟩ hf210 hret211 hbrk212
        have rk204 : inI64 (k204 : Int) := rngK hx209 l199
        refine ewp_seq ?_
        refine ewp_region ?_
        obtain ⟨b219, o220, ce221, hA222, hl223, hd224, rfl, r226⟩ := hx2.elem' hx209
        refine o_iaE (hA := hA222) (hj := rfl) (hlt := hl223) rfl rfl rfl  ?_
        refine o_ld (hc := cat0 hd224) rfl rfl  ?_
        refine o_as rfl rfl  ?_
        (first | refine owp_nilT ?_ | refine owp_nilB ?_ | refine owp_nilBB ?_ | refine owp_nil ?_)
        refine ewp_seq ?_
        refine ewp_seq ?_
        obtain ⟨y227, hy228, hf210⟩ := bs hf210
        refine ewp_join (fun l' w' => ∃ (x230 : Unit) (O' : Lab), subs l' [(2, (.slice A31 x2.length c32)), (3, (.pointer (some ⟨g33, 0, none⟩))), (4, (.pointer (some ⟨g38, 0, none⟩))), (7, (.slice A101 q90.1.length c102)), (8, (errV q90.2.n)), (9, (.slice A115 q104.1.length c116)), (10, (errV q104.2.n)), (12, (.bool s202.1)), (13, (.slice x203.1 s202.2.length x203.2)), (15, (.int .i64 a205)), (94, (.slice A31 x2.length c32)), (95, (.int .i64 (x2.length : Int))), (96, (.int .i64 (k204 : Int))), (108, (.bool y227))] ∧ Bs w A w' O' ∧ Vb w' (Fr 0 w' O') (.slice A31 x2.length c32) x2 ∧ Lc 2 w' O' g33 26 [(.slice A7 x0.vars.length c8), (.slice A10 x0.init.length c11), (.slice A13 x0.goal.length c14), (.slice A16 x0.ops.length c17)] ∧ Vb w' (Fr 0 w' O') (.slice A7 x0.vars.length c8) x0.vars ∧ Vb w' (Fr 0 w' O') (.slice A10 x0.init.length c11) x0.init ∧ Vb w' (Fr 0 w' O') (.slice A13 x0.goal.length c14) x0.goal ∧ Vb w' (Fr 0 w' O') (.slice A16 x0.ops.length c17) x0.ops ∧ Lc 3 w' O' g38 29 [(.slice A23 x1.vars.length c24), (.slice A26 x1.vals.length c27), (.slice A29 x1.ops.length c30)] ∧ Vb w' (Fr 0 w' O') (.slice A23 x1.vars.length c24) x1.vars ∧ Vb w' (Fr 0 w' O') (.slice A26 x1.vals.length c27) x1.vals ∧ Vb w' (Fr 0 w' O') (.slice A29 x1.ops.length c30) x1.ops ∧ Vb w' (Fr 0 w' O') (.slice A101 q90.1.length c102) q90.1 ∧ Vb w' (Fr 0 w' O') (.slice A115 q104.1.length c116) q104.1 ∧ Rw 4 w' O' 3 (.slice x203.1 s202.2.length x203.2) s202.2) ?_ ?_
        · skip
          refine ewp_region ?_
          refine o_mv rfl rfl  ?_
          refine o_ltS rfl rfl rfl (fun c231 => ?_) fun c231 => ?_
          · replace hy228 := ip hy228 c231
            refine o_mv rfl rfl  ?_
            refine owp_no rfl rfl rfl rfl ?_
            refine owp_no rfl rfl rfl rfl ?_
            refine owp_no rfl rfl rfl rfl ?_
            refine owp_no rfl rfl rfl rfl ?_
            refine owp_no rfl rfl rfl rfl ?_
            refine o_pt rfl rfl rfl  ?_
            (first | refine owp_nilT ?_ | refine owp_nilB ?_ | refine owp_nilBB ?_ | refine owp_nil ?_)
            obtain rfl := sm hy228
            exact ⟨(), _, ⟨rfl, rfl, rfl, rfl, rfl, rfl, rfl, rfl, rfl, rfl, rfl, rfl, rfl, rfl, trivial⟩, hB, hx2, h37, h6, h9, h12, h15, h42, h22, h25, h28, h99, h113, h217⟩
          · replace hy228 := im hy228 c231
            refine o_mv rfl rfl  ?_
            refine owp_yes rfl rfl ?_
            refine o_mv rfl rfl  ?_
            refine owp_yes rfl rfl ?_
            refine o_fa rfl rfl  ?_
            refine owp_yes rfl rfl ?_
            refine o_ld (hc := Blk.cell (i := 3) (h37.1) rfl) rfl rfl  ?_
            refine owp_yes rfl rfl ?_
            refine o_ln rfl rfl  ?_
            have l233 : x0.ops.length ≤ 9223372036854775807 := Nat.le_trans h15.len.2.1 h15.len.2.2
            have r232 : inI64 (x0.ops.length : Int) := rngNat l233
            refine owp_yes rfl rfl ?_
            refine o_geS rfl rfl rfl (fun c234 => ?_) fun c234 => ?_
            · replace hy228 := ip hy228 c234
              refine o_pf rfl rfl rfl  ?_
              (first | refine owp_nilT ?_ | refine owp_nilB ?_ | refine owp_nilBB ?_ | refine owp_nil ?_)
              obtain rfl := sm hy228
              exact ⟨(), _, ⟨rfl, rfl, rfl, rfl, rfl, rfl, rfl, rfl, rfl, rfl, rfl, rfl, rfl, rfl, trivial⟩, hB, hx2, h37, h6, h9, h12, h15, h42, h22, h25, h28, h99, h113, h217⟩
            · replace hy228 := im hy228 c234
              refine o_pf rfl rfl rfl  ?_
              (first | refine owp_nilT ?_ | refine owp_nilB ?_ | refine owp_nilBB ?_ | refine owp_nil ?_)
              obtain rfl := sm hy228
              exact ⟨(), _, ⟨rfl, rfl, rfl, rfl, rfl, rfl, rfl, rfl, rfl, rfl, rfl, rfl, rfl, rfl, trivial⟩, hB, hx2, h37, h6, h9, h12, h15, h42, h22, h25, h28, h99, h113, h217⟩
        rintro l235 w236 ⟨x230, O237, hs238, hB, hx2, h37, h6, h9, h12, h15, h42, h22, h25, h28, h99, h113, h217⟩
        refine ewp_sub _ hs238 ?_
        refine ewp_cond rfl (fun c239 => ?_) (fun c239 => ?_)
        · replace hf210 := ip hf210 c239
          refine ewp_seq ?_
          refine ewp_region ?_
          refine o_as rfl rfl  ?_
          (first | refine owp_nilT ?_ | refine owp_nilB ?_ | refine owp_nilBB ?_ | refine owp_nil ?_)
          refine ewp_exit ?_
          obtain rfl := sm hf210
          refine (?_ : Exists _)
          exact ⟨_, (x203.1, x203.2), hbrk212 _ rfl, ⟨rfl, rfl, rfl, rfl, rfl, rfl, rfl, rfl, rfl, trivial⟩, _, hB, hx2, h37, h6, h9, h12, h15, h42, h22, h25, h28, h99, h113, h217⟩
        · replace hf210 := im' hf210 c239
          refine ewp_skip ?_
          refine ewp_region ?_
          refine o_mv rfl rfl  ?_
          refine o_fa rfl rfl  ?_
          refine o_ld (hc := Blk.cell (i := 2) (h42.1) rfl) rfl rfl  ?_
          refine o_mv rfl rfl  ?_
          obtain ⟨a240, e241, hf210⟩ := bs hf210
          obtain ⟨p243, x242⟩ := atI_some' e241
          obtain ⟨b244, o245, ce246, hA247, hl248, hd249, rfl, r251⟩ := h28.elem' x242
          refine o_iaE (hA := hA247) (hj := (Int.toNat_of_nonneg p243).symm) (hlt := hl248) rfl rfl rfl  ?_
          refine o_ld (hc := cat0 hd249) rfl rfl  ?_
          obtain ⟨u252, e253, hf210⟩ := bs hf210
          obtain ⟨e253, e254, e255⟩ := appI_some e253
          refine l_append1 rfl (a := a240) h217 (vInt r251) (fun _ => rfl) rfl (by decide) (by decide) e254 e255 ⟨rfl, rfl⟩ fun g256 A257 c258 w259 O260 S261 h262 => ?_
          rw [← e253] at h262 ⊢
          replace hB := hB.st S261 (by decide) (by decide)
          replace hx2 := hx2.st S261 (by decide)
          replace h37 := h37.st S261 (by decide)
          replace h6 := h6.st S261 (by decide)
          replace h9 := h9.st S261 (by decide)
          replace h12 := h12.st S261 (by decide)
          replace h15 := h15.st S261 (by decide)
          replace h42 := h42.st S261 (by decide)
          replace h22 := h22.st S261 (by decide)
          replace h25 := h25.st S261 (by decide)
          replace h28 := h28.st S261 (by decide)
          replace h99 := h99.st S261 (by decide)
          replace h113 := h113.st S261 (by decide)
          refine o_as rfl rfl  ?_
          (first | refine owp_nilT ?_ | refine owp_nilB ?_ | refine owp_nilBB ?_ | refine owp_nil ?_)
          obtain rfl := sm hf210
          refine (?_ : Exists _)
          exact ⟨_, (A257, c258), rfl, ⟨rfl, rfl, rfl, rfl, rfl, rfl, rfl, rfl, rfl, rfl, rfl, rfl, trivial⟩, _, hB, hx2, h37, h6, h9, h12, h15, h42, h22, h25, h28, h99, h113, h262⟩
      rintro l264 w265 ⟨s268, x269, rfl, hs267, O266, hB, hx2, h37, h6, h9, h12, h15, h42, h22, h25, h28, h99, h113, h217⟩
      replace hm := fin_done hm
      refine ewp_sub _ hs267 ?_
      refine ewp_seq ?_
      refine ewp_seq ?_
      obtain ⟨y270, hy271, hm⟩ := bs hm
      refine ewp_join (fun l' w' => ∃ (x273 : Unit) (O' : Lab), subs l' [(2, (.slice A31 x2.length c32)), (3, (.pointer (some ⟨g33, 0, none⟩))), (4, (.pointer (some ⟨g38, 0, none⟩))), (7, (.slice A101 q90.1.length c102)), (8, (errV q90.2.n)), (142, (.bool y270))] ∧ Bs w A w' O' ∧ Vb w' (Fr 0 w' O') (.slice A31 x2.length c32) x2 ∧ Lc 2 w' O' g33 26 [(.slice A7 x0.vars.length c8), (.slice A10 x0.init.length c11), (.slice A13 x0.goal.length c14), (.slice A16 x0.ops.length c17)] ∧ Vb w' (Fr 0 w' O') (.slice A7 x0.vars.length c8) x0.vars ∧ Vb w' (Fr 0 w' O') (.slice A10 x0.init.length c11) x0.init ∧ Vb w' (Fr 0 w' O') (.slice A13 x0.goal.length c14) x0.goal ∧ Vb w' (Fr 0 w' O') (.slice A16 x0.ops.length c17) x0.ops ∧ Lc 3 w' O' g38 29 [(.slice A23 x1.vars.length c24), (.slice A26 x1.vals.length c27), (.slice A29 x1.ops.length c30)] ∧ Vb w' (Fr 0 w' O') (.slice A23 x1.vars.length c24) x1.vars ∧ Vb w' (Fr 0 w' O') (.slice A26 x1.vals.length c27) x1.vals ∧ Vb w' (Fr 0 w' O') (.slice A29 x1.ops.length c30) x1.ops ∧ Vb w' (Fr 0 w' O') (.slice A101 q90.1.length c102) q90.1) ?_ ?_
      · skip
        refine ewp_region ?_
        refine o_mv rfl rfl  ?_
        refine o_mv rfl rfl  ?_
        rcases Bool.eq_false_or_eq_true s268.1 with c274 | c274
        · try simp only [c274]
          replace hy271 := ip hy271 c274
          refine owp_yes rfl rfl ?_
          refine o_mv rfl rfl  ?_
          refine owp_yes rfl rfl ?_
          refine o_rnS rfl rfl (fun c275 => ?_) fun c275 => ?_
          · replace hy271 := ip hy271 c275
            refine owp_yes rfl rfl ?_
            refine o_mv rfl rfl  ?_
            refine owp_no rfl rfl rfl rfl ?_
            refine owp_no rfl rfl rfl rfl ?_
            refine owp_no rfl rfl rfl rfl ?_
            refine owp_no rfl rfl rfl rfl ?_
            refine owp_yes rfl rfl ?_
            refine o_pt rfl rfl rfl  ?_
            refine o_pt rfl rfl rfl  ?_
            refine o_mv rfl rfl  ?_
            refine owp_no rfl rfl rfl rfl ?_
            refine owp_no rfl rfl rfl rfl ?_
            refine owp_no rfl rfl rfl rfl ?_
            refine owp_no rfl rfl rfl rfl ?_
            refine owp_no rfl rfl rfl rfl ?_
            refine owp_no rfl rfl rfl rfl ?_
            refine owp_no rfl rfl rfl rfl ?_
            refine owp_no rfl rfl rfl rfl ?_
            refine owp_no rfl rfl rfl rfl ?_
            refine owp_no rfl rfl rfl rfl ?_
            refine owp_no rfl rfl rfl rfl ?_
            refine owp_no rfl rfl rfl rfl ?_
            refine o_pt rfl rfl rfl  ?_
            (first | refine owp_nilT ?_ | refine owp_nilB ?_ | refine owp_nilBB ?_ | refine owp_nil ?_)
            obtain rfl := sm hy271
            exact ⟨(), _, ⟨rfl, rfl, rfl, rfl, rfl, rfl, trivial⟩, hB, hx2, h37, h6, h9, h12, h15, h42, h22, h25, h28, h99⟩
          · replace hy271 := im hy271 c275
            refine owp_yes rfl rfl ?_
            refine o_mv rfl rfl  ?_
            refine owp_yes rfl rfl ?_
            refine o_mv rfl rfl  ?_
            refine owp_yes rfl rfl ?_
            refine o_mv rfl rfl  ?_
            refine owp_yes rfl rfl ?_
            obtain ⟨q276, e277, hy271⟩ := bs hy271
            refine l_callA (O := O266) (A := All w265) (R := fun w' F v => Vb w' F v q276) (c_base_Ints (fun _ h => h) (Vb.mono (F := Fr 0 w265 O266) h113 Fr.lt) (h217).all e277) rfl rfl fun v282 w278 O279 S280 h281 => ?_
            obtain rfl := h281.bool
            replace hB := hB.st S280 (fun h => h) (fun h => h)
            replace hx2 := hx2.st S280 (fun h => h)
            replace h37 := h37.st S280 (fun h => h)
            replace h6 := h6.st S280 (fun h => h)
            replace h9 := h9.st S280 (fun h => h)
            replace h12 := h12.st S280 (fun h => h)
            replace h15 := h15.st S280 (fun h => h)
            replace h42 := h42.st S280 (fun h => h)
            replace h22 := h22.st S280 (fun h => h)
            replace h25 := h25.st S280 (fun h => h)
            replace h28 := h28.st S280 (fun h => h)
            replace h99 := h99.st S280 (fun h => h)
            replace h113 := h113.st S280 (fun h => h)
            cases q276
            case false =>
              replace hy271 := iF hy271
              refine owp_yes rfl rfl ?_
              refine o_nf rfl rfl  ?_
              refine owp_yes rfl rfl ?_
              refine o_pf rfl rfl rfl  ?_
              refine o_pt rfl rfl rfl  ?_
              refine o_mv rfl rfl  ?_
              refine owp_no rfl rfl rfl rfl ?_
              refine owp_no rfl rfl rfl rfl ?_
              refine owp_no rfl rfl rfl rfl ?_
              refine owp_no rfl rfl rfl rfl ?_
              refine owp_no rfl rfl rfl rfl ?_
              refine owp_no rfl rfl rfl rfl ?_
              refine owp_no rfl rfl rfl rfl ?_
              refine owp_no rfl rfl rfl rfl ?_
              refine owp_no rfl rfl rfl rfl ?_
              refine owp_no rfl rfl rfl rfl ?_
              refine owp_no rfl rfl rfl rfl ?_
              refine owp_no rfl rfl rfl rfl ?_
              refine o_pt rfl rfl rfl  ?_
              (first | refine owp_nilT ?_ | refine owp_nilB ?_ | refine owp_nilBB ?_ | refine owp_nil ?_)
              obtain rfl := sm hy271
              exact ⟨(), _, ⟨rfl, rfl, rfl, rfl, rfl, rfl, trivial⟩, hB, hx2, h37, h6, h9, h12, h15, h42, h22, h25, h28, h99⟩
            replace hy271 := iT hy271
            refine owp_yes rfl rfl ?_
            refine o_nt rfl rfl  ?_
            refine owp_yes rfl rfl ?_
            refine o_pf rfl rfl rfl  ?_
            refine o_pt rfl rfl rfl  ?_
            refine o_mv rfl rfl  ?_
            refine owp_yes rfl rfl ?_
            refine o_mv rfl rfl  ?_
            refine owp_yes rfl rfl ?_
            refine o_nt rfl rfl  ?_
            refine owp_yes rfl rfl ?_
            refine o_mv rfl rfl  ?_
            refine owp_no rfl rfl rfl rfl ?_
            refine owp_no rfl rfl rfl rfl ?_
            refine owp_no rfl rfl rfl rfl ?_
            refine owp_no rfl rfl rfl rfl ?_
            refine owp_no rfl rfl rfl rfl ?_
            refine owp_no rfl rfl rfl rfl ?_
            refine owp_no rfl rfl rfl rfl ?_
            refine owp_no rfl rfl rfl rfl ?_
            refine owp_yes rfl rfl ?_
            refine o_pf rfl rfl rfl  ?_
            refine o_pf rfl rfl rfl  ?_
            (first | refine owp_nilT ?_ | refine owp_nilB ?_ | refine owp_nilBB ?_ | refine owp_nil ?_)
            obtain rfl := sm hy271
            exact ⟨(), _, ⟨rfl, rfl, rfl, rfl, rfl, rfl, trivial⟩, hB, hx2, h37, h6, h9, h12, h15, h42, h22, h25, h28, h99⟩
        · try simp only [c274]
          replace hy271 := im' hy271 c274
          refine owp_no rfl rfl rfl rfl ?_
          refine owp_no rfl rfl rfl rfl ?_
          refine owp_no rfl rfl rfl rfl ?_
          refine owp_no rfl rfl rfl rfl ?_
          refine owp_no rfl rfl rfl rfl ?_
          refine owp_no rfl rfl rfl rfl ?_
          refine owp_no rfl rfl rfl rfl ?_
          refine owp_no rfl rfl rfl rfl ?_
          refine o_pf rfl rfl rfl  ?_
          refine o_mv rfl rfl  ?_
          refine owp_yes rfl rfl ?_
          refine o_mv rfl rfl  ?_
          refine owp_yes rfl rfl ?_
          refine o_nf rfl rfl  ?_
          refine owp_yes rfl rfl ?_
          refine o_mv rfl rfl  ?_
          refine owp_yes rfl rfl ?_
          refine o_mv rfl rfl  ?_
          refine owp_yes rfl rfl ?_
          obtain ⟨q283, e284, hy271⟩ := bs hy271
          refine l_callA (O := O266) (A := All w265) (R := fun w' F v => Vb w' F v q283) (c_base_Is (fun _ h => h) r117 (show inI64 (1) from by decide) e284) rfl rfl fun v289 w285 O286 S287 h288 => ?_
          obtain rfl := h288.bool
          replace hB := hB.st S287 (fun h => h) (fun h => h)
          replace hx2 := hx2.st S287 (fun h => h)
          replace h37 := h37.st S287 (fun h => h)
          replace h6 := h6.st S287 (fun h => h)
          replace h9 := h9.st S287 (fun h => h)
          replace h12 := h12.st S287 (fun h => h)
          replace h15 := h15.st S287 (fun h => h)
          replace h42 := h42.st S287 (fun h => h)
          replace h22 := h22.st S287 (fun h => h)
          replace h25 := h25.st S287 (fun h => h)
          replace h28 := h28.st S287 (fun h => h)
          replace h99 := h99.st S287 (fun h => h)
          replace h113 := h113.st S287 (fun h => h)
          cases q283
          case false =>
            replace hy271 := iF hy271
            refine owp_yes rfl rfl ?_
            refine o_nf rfl rfl  ?_
            refine owp_yes rfl rfl ?_
            refine o_mv rfl rfl  ?_
            refine owp_no rfl rfl rfl rfl ?_
            refine owp_no rfl rfl rfl rfl ?_
            refine owp_no rfl rfl rfl rfl ?_
            refine owp_yes rfl rfl ?_
            refine o_pt rfl rfl rfl  ?_
            refine owp_yes rfl rfl ?_
            refine o_pt rfl rfl rfl  ?_
            refine o_pf rfl rfl rfl  ?_
            (first | refine owp_nilT ?_ | refine owp_nilB ?_ | refine owp_nilBB ?_ | refine owp_nil ?_)
            obtain rfl := sm hy271
            exact ⟨(), _, ⟨rfl, rfl, rfl, rfl, rfl, rfl, trivial⟩, hB, hx2, h37, h6, h9, h12, h15, h42, h22, h25, h28, h99⟩
          replace hy271 := iT hy271
          refine owp_yes rfl rfl ?_
          refine o_nt rfl rfl  ?_
          refine owp_yes rfl rfl ?_
          refine o_mv rfl rfl  ?_
          refine owp_yes rfl rfl ?_
          refine o_mv rfl rfl  ?_
          refine owp_yes rfl rfl ?_
          refine o_ln rfl rfl  ?_
          have l291 : q104.1.length ≤ 9223372036854775807 := Nat.le_trans h113.len.2.1 h113.len.2.2
          have r290 : inI64 (q104.1.length : Int) := rngNat l291
          refine owp_yes rfl rfl ?_
          refine o_gtS rfl rfl rfl (fun c292 => ?_) fun c292 => ?_
          · replace hy271 := ip hy271 c292
            refine owp_yes rfl rfl ?_
            refine o_pf rfl rfl rfl  ?_
            refine owp_yes rfl rfl ?_
            refine o_pt rfl rfl rfl  ?_
            refine o_pf rfl rfl rfl  ?_
            (first | refine owp_nilT ?_ | refine owp_nilB ?_ | refine owp_nilBB ?_ | refine owp_nil ?_)
            obtain rfl := sm hy271
            exact ⟨(), _, ⟨rfl, rfl, rfl, rfl, rfl, rfl, trivial⟩, hB, hx2, h37, h6, h9, h12, h15, h42, h22, h25, h28, h99⟩
          · replace hy271 := im hy271 c292
            refine owp_yes rfl rfl ?_
            refine o_pf rfl rfl rfl  ?_
            refine owp_yes rfl rfl ?_
            refine o_pt rfl rfl rfl  ?_
            refine o_pf rfl rfl rfl  ?_
            (first | refine owp_nilT ?_ | refine owp_nilB ?_ | refine owp_nilBB ?_ | refine owp_nil ?_)
            obtain rfl := sm hy271
            exact ⟨(), _, ⟨rfl, rfl, rfl, rfl, rfl, rfl, trivial⟩, hB, hx2, h37, h6, h9, h12, h15, h42, h22, h25, h28, h99⟩
      rintro l293 w294 ⟨x273, O295, hs296, hB, hx2, h37, h6, h9, h12, h15, h42, h22, h25, h28, h99⟩
      refine ewp_sub _ hs296 ?_
      refine ewp_cond rfl (fun c297 => ?_) (fun c297 => ?_)
      · replace hm := ip hm c297
        refine ewp_seq ?_
        refine ewp_region ?_
        refine o_as rfl rfl  ?_
        (first | refine owp_nilT ?_ | refine owp_nilB ?_ | refine owp_nilBB ?_ | refine owp_nil ?_)
        refine ewp_ret ?_
        obtain rfl := sm hm
        exact ret1v rfl (res_tmp rfl) ⟨hB.ext, vBool⟩
      · replace hm := im' hm c297
        refine ewp_skip ?_
        refine ewp_seq ?_
        refine ewp_seq ?_
        refine ewp_region ?_
        refine o_fa rfl rfl  ?_
        refine o_ld (hc := Blk.cell (i := 0) (h37.1) rfl) rfl rfl  ?_
        refine o_mv rfl rfl  ?_
        obtain ⟨q298, e299, hm⟩ := bs hm
        refine l_callA (O := O295) (A := All w294) (R := fun w' F v => Vb w' F v q298) (c_base_State (fun _ h => h) (Vb.mono (F := Fr 0 w294 O295) h6 Fr.lt) (Vb.mono (F := Fr 0 w294 O295) hx2 Fr.lt) e299) rfl rfl fun v304 w300 O301 S302 h303 => ?_
        obtain rfl := h303.bool
        replace hB := hB.st S302 (fun h => h) (fun h => h)
        replace hx2 := hx2.st S302 (fun h => h)
        replace h42 := h42.st S302 (fun h => h)
        replace h22 := h22.st S302 (fun h => h)
        replace h25 := h25.st S302 (fun h => h)
        replace h28 := h28.st S302 (fun h => h)
        replace h99 := h99.st S302 (fun h => h)
        cases q298
        case false =>
          replace hm := iF hm
          refine o_nf rfl rfl  ?_
          (first | refine owp_nilT ?_ | refine owp_nilB ?_ | refine owp_nilBB ?_ | refine owp_nil ?_)
          refine ewp_true rfl ?_
          refine ewp_seq ?_
          obtain ⟨y305, hy306, hm⟩ := bs hm
          refine ewp_join (fun l' w' => ∃ (x308 : Unit) (O' : Lab), subs l' [(6, (.bool y305))] ∧ Bs w A w' O') ?_ ?_
          · skip
            refine ewp_region ?_
            refine o_mv rfl rfl  ?_
            obtain ⟨q309, e310, hy306⟩ := bs hy306
            refine l_callA (O := O301) (A := All w300) (R := fun w' F v => Vb w' F v q309) (c_base_Is (fun _ h => h) r103 (show inI64 (2) from by decide) e310) rfl rfl fun v315 w311 O312 S313 h314 => ?_
            obtain rfl := h314.bool
            replace hB := hB.st S313 (fun h => h) (fun h => h)
            replace h99 := h99.st S313 (fun h => h)
            cases q309
            case false =>
              replace hy306 := iF hy306
              refine o_mv rfl rfl  ?_
              refine owp_no rfl rfl rfl rfl ?_
              refine owp_no rfl rfl rfl rfl ?_
              refine owp_no rfl rfl rfl rfl ?_
              refine o_pf rfl rfl rfl  ?_
              refine o_as rfl rfl  ?_
              (first | refine owp_nilT ?_ | refine owp_nilB ?_ | refine owp_nilBB ?_ | refine owp_nil ?_)
              obtain rfl := sm hy306
              exact ⟨(), _, ⟨rfl, trivial⟩, hB⟩
            replace hy306 := iT hy306
            refine o_mv rfl rfl  ?_
            refine owp_yes rfl rfl ?_
            refine o_mv rfl rfl  ?_
            refine owp_yes rfl rfl ?_
            refine o_ln rfl rfl  ?_
            have l317 : q90.1.length ≤ 9223372036854775807 := Nat.le_trans h99.len.2.1 h99.len.2.2
            have r316 : inI64 (q90.1.length : Int) := rngNat l317
            refine owp_yes rfl rfl ?_
            refine o_eeS rfl rfl rfl (fun c318 => ?_) fun c318 => ?_
            · replace hy306 := ip hy306 c318
              refine o_pt rfl rfl rfl  ?_
              refine o_as rfl rfl  ?_
              (first | refine owp_nilT ?_ | refine owp_nilB ?_ | refine owp_nilBB ?_ | refine owp_nil ?_)
              obtain rfl := sm hy306
              exact ⟨(), _, ⟨rfl, trivial⟩, hB⟩
            · replace hy306 := im hy306 c318
              refine o_pt rfl rfl rfl  ?_
              refine o_as rfl rfl  ?_
              (first | refine owp_nilT ?_ | refine owp_nilB ?_ | refine owp_nilBB ?_ | refine owp_nil ?_)
              obtain rfl := sm hy306
              exact ⟨(), _, ⟨rfl, trivial⟩, hB⟩
          rintro l319 w320 ⟨x308, O321, hs322, hB⟩
          refine ewp_sub _ hs322 ?_
          refine ewp_ret ?_
          obtain rfl := sm hm
          exact ret1v rfl (res_tmp rfl) ⟨hB.ext, vBool⟩
        replace hm := iT hm
        refine o_nt rfl rfl  ?_
        (first | refine owp_nilT ?_ | refine owp_nilB ?_ | refine owp_nilBB ?_ | refine owp_nil ?_)
        refine ewp_false rfl ?_
        refine ewp_skip ?_
        refine ewp_seq ?_
        obtain ⟨y323, hy324, hm⟩ := bs hm
        refine ewp_join (fun l' w' => ∃ (x326 : Unit) (O' : Lab), subs l' [(6, (.bool y323))] ∧ Bs w A w' O') ?_ ?_
        · skip
          refine ewp_region ?_
          refine o_mv rfl rfl  ?_
          refine o_erS rfl rfl (fun c327 => ?_) fun c327 => ?_
          · replace hy324 := ip hy324 c327
            refine o_mv rfl rfl  ?_
            refine owp_yes rfl rfl ?_
            refine o_mv rfl rfl  ?_
            refine owp_yes rfl rfl ?_
            refine o_la (hl := rfl) (hc := (h42.1).cellsAt) rfl rfl  ?_
            refine owp_yes rfl rfl ?_
            refine o_mv rfl rfl  ?_
            refine owp_yes rfl rfl ?_
            obtain ⟨q328, e329, hy324⟩ := bs hy324
            refine l_call (O := O301) (R := fun w' F v => Vb w' F v q328) (c_ref51_State Fr.lt (Vb.ofAgg (cs := [(.slice A23 x1.vars.length c24), (.slice A26 x1.vals.length c27), (.slice A29 x1.ops.length c30)]) (x := x1) rfl ⟨_, _, _, rfl, h22, h25, h28⟩) hx2 e329) rfl rfl fun v334 w330 O331 S332 h333 => ?_
            obtain ⟨A335, c336, rfl⟩ := h333.form
            replace hB := hB.st S332 (fun h => h) (fun h => h)
            replace h99 := h99.st S332 (fun h => h)
            refine owp_yes rfl rfl ?_
            obtain ⟨q337, e338, hy324⟩ := bs hy324
            refine l_callA (O := O331) (A := All w330) (R := fun w' F v => Vb w' F v q337) (c_base_Ints (fun _ h => h) (Vb.mono (F := Fr 0 w330 O331) h99 Fr.lt) (Vb.mono (F := Fr 0 w330 O331) h333 Fr.lt) e338) rfl rfl fun v343 w339 O340 S341 h342 => ?_
            obtain rfl := h342.bool
            replace hB := hB.st S341 (fun h => h) (fun h => h)
            cases q337
            case false =>
              replace hy324 := iF hy324
              refine o_pt rfl rfl rfl  ?_
              refine o_as rfl rfl  ?_
              (first | refine owp_nilT ?_ | refine owp_nilB ?_ | refine owp_nilBB ?_ | refine owp_nil ?_)
              obtain rfl := sm hy324
              exact ⟨(), _, ⟨rfl, trivial⟩, hB⟩
            replace hy324 := iT hy324
            refine o_pt rfl rfl rfl  ?_
            refine o_as rfl rfl  ?_
            (first | refine owp_nilT ?_ | refine owp_nilB ?_ | refine owp_nilBB ?_ | refine owp_nil ?_)
            obtain rfl := sm hy324
            exact ⟨(), _, ⟨rfl, trivial⟩, hB⟩
          · replace hy324 := im hy324 c327
            refine o_mv rfl rfl  ?_
            refine owp_no rfl rfl rfl rfl ?_
            refine owp_no rfl rfl rfl rfl ?_
            refine owp_no rfl rfl rfl rfl ?_
            refine owp_no rfl rfl rfl rfl ?_
            refine owp_no rfl rfl rfl rfl ?_
            refine o_pf rfl rfl rfl  ?_
            refine o_as rfl rfl  ?_
            (first | refine owp_nilT ?_ | refine owp_nilB ?_ | refine owp_nilBB ?_ | refine owp_nil ?_)
            obtain rfl := sm hy324
            exact ⟨(), _, ⟨rfl, trivial⟩, hB⟩
        rintro l344 w345 ⟨x326, O346, hs347, hB⟩
        refine ewp_sub _ hs347 ?_
        refine ewp_ret ?_
        obtain rfl := sm hm
        exact ret1v rfl (res_tmp rfl) ⟨hB.ext, vBool⟩
end Go.Proofs.Ytdhaelekmjgbmaa

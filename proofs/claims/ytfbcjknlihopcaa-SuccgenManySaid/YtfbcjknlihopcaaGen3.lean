/- Own text: models of the laws of chapter 24 and their proofs (written by gen2.py). -/
import Derived.Test.YtfbcjknlihopcaaGen1
namespace Go.Proofs.Ytfbcjknlihopcaa
open Go Go.RowKit
attribute [local irreducible] ewp owp hwp hwq hws Ev Evg Fn retPost loud loudS Res1
noncomputable def m_law24_awake  : Option Bool :=
  bnd (m_law24_example) fun q1 => bnd (m_succgen_New q1) fun q25 => bnd (if q25.2.n ≠ 0 then (some true) else (if q25.1.isNone = true then (some true) else (some false)) : Option Bool) fun y39 => if y39 = true then (some false) else (bnd (m_succgen_Generator_Successors q25.1 [0, 0]) fun q58 => bnd (bnd (m_succgen_Generator_Applicable q25.1 [0, 0]) fun q79 => bnd (m_base_Ints q79 [1]) fun q95 => if q95 = true then bnd (m_succgen_Generator_Applicable q25.1 [1, 2]) fun q110 => bnd (m_base_Ints q110 [0, 1, 2]) fun q126 => if q126 = true then if (q58.length : Int) = 1 then (bnd (atI q58 0) fun a136 => if a136.op = 1 then (bnd (atI q58 0) fun a153 => bnd (m_base_Ints a153.state [0, 2]) fun q175 => if q175 = true then some true else some false) else (some false)) else (some false) else some false else some false : Option Bool) fun y67 => some y67)
theorem c_law24_awake {w : World} {A : Nat → Prop} (hA : ∀ k, A k → k < w.heap.size)  {r : Bool} (hm : m_law24_awake  = some r) :
    Fn Try.prog 13 [] w fun v w' => Ext w w' ∧ Vb w' (upA A w w') v r := by
  obtain ⟨O, hB, hA0⟩ := enter hA
  refine fn_enter Try.func13 rfl Try.ntmps13 rfl ?_
  unfold m_law24_awake at hm
  refine ewp_seq ?_
  refine ewp_region ?_
  refine o_as rfl rfl  ?_
  (first | refine owp_nilT ?_ | refine owp_nilB ?_ | refine owp_nilBB ?_ | refine owp_nil ?_)
  refine ewp_seq ?_
  refine ewp_region ?_
  obtain ⟨q1, e2, hm⟩ := bs hm
  refine l_call (O := O) (R := fun w' F v => Vb w' F v q1) (c_law24_example Fr.lt  e2) rfl rfl fun v7 w3 O4 S5 h6 => ?_
  obtain ⟨cs8, rfl, v9, v10, v11, v12, rfl, h13, h16, h19, h22⟩ := h6
  obtain ⟨A14, c15, rfl⟩ := h13.form
  obtain ⟨A17, c18, rfl⟩ := h16.form
  obtain ⟨A20, c21, rfl⟩ := h19.form
  obtain ⟨A23, c24, rfl⟩ := h22.form
  replace hB := hB.st S5 (fun h => h) (fun h => h)
  obtain ⟨q25, e26, hm⟩ := bs hm
  refine l_call (O := O4) (R := fun w' F v => T2 w' F v q25) (c_succgen_New Fr.lt (Vb.ofAgg (cs := [(.slice A14 q1.vars.length c15), (.slice A17 q1.init.length c18), (.slice A20 q1.goal.length c21), (.slice A23 q1.ops.length c24)]) (x := q1) rfl ⟨_, _, _, _, rfl, h13, h16, h19, h22⟩) e26) rfl rfl fun v31 w27 O28 S29 h30 => ?_
  obtain ⟨v32, v33, rfl, h34, h35⟩ := h30
  obtain ⟨p36, rfl, hq37⟩ := h34.ptr
  obtain ⟨rfl, r38⟩ := h35.err
  replace hB := hB.st S29 (fun h => h) (fun h => h)
  refine o_mv rfl rfl  ?_
  refine o_ex rfl rfl rfl  ?_
  refine o_ex rfl rfl rfl  ?_
  refine o_as rfl rfl  ?_
  refine o_as rfl rfl  ?_
  (first | refine owp_nilT ?_ | refine owp_nilB ?_ | refine owp_nilBB ?_ | refine owp_nil ?_)
  refine ewp_seq ?_
  refine ewp_seq ?_
  obtain ⟨y39, hy40, hm⟩ := bs hm
  refine ewp_join (fun l' w' => ∃ (x42 : Unit) (O' : Lab), subs l' [(1, (.pointer p36)), (14, (.bool y39))] ∧ Bs w A w' O' ∧ Vb w' (Fr 0 w' O') (.pointer p36) q25.1) ?_ ?_
  · skip
    refine ewp_region ?_
    refine o_mv rfl rfl  ?_
    refine o_rnS rfl rfl (fun c43 => ?_) fun c43 => ?_
    · replace hy40 := ip hy40 c43
      refine o_mv rfl rfl  ?_
      refine owp_no rfl rfl rfl rfl ?_
      refine owp_no rfl rfl rfl rfl ?_
      refine o_pt rfl rfl rfl  ?_
      (first | refine owp_nilT ?_ | refine owp_nilB ?_ | refine owp_nilBB ?_ | refine owp_nil ?_)
      obtain rfl := sm hy40
      exact ⟨(), _, ⟨rfl, rfl, trivial⟩, hB, h34⟩
    · replace hy40 := im hy40 c43
      refine o_mv rfl rfl  ?_
      refine owp_yes rfl rfl ?_
      refine o_mv rfl rfl  ?_
      refine owp_yes rfl rfl ?_
      refine o_pnS hq37 rfl rfl (fun c44 => ?_) fun c44 => ?_
      · replace hy40 := ip hy40 c44
        refine o_pf rfl rfl rfl  ?_
        (first | refine owp_nilT ?_ | refine owp_nilB ?_ | refine owp_nilBB ?_ | refine owp_nil ?_)
        obtain rfl := sm hy40
        exact ⟨(), _, ⟨rfl, rfl, trivial⟩, hB, h34⟩
      · replace hy40 := im hy40 c44
        refine o_pf rfl rfl rfl  ?_
        (first | refine owp_nilT ?_ | refine owp_nilB ?_ | refine owp_nilBB ?_ | refine owp_nil ?_)
        obtain rfl := sm hy40
        exact ⟨(), _, ⟨rfl, rfl, trivial⟩, hB, h34⟩
  rintro l45 w46 ⟨x42, O47, hs48, hB, h34⟩
  refine ewp_sub _ hs48 ?_
  refine ewp_cond rfl (fun c49 => ?_) (fun c49 => ?_)
  · replace hm := ip hm c49
    refine ewp_seq ?_
    refine ewp_region ?_
    refine o_as rfl rfl  ?_
    (first | refine owp_nilT ?_ | refine owp_nilB ?_ | refine owp_nilBB ?_ | refine owp_nil ?_)
    refine ewp_ret ?_
    obtain rfl := sm hm
    exact ret1v rfl (res_tmp rfl) ⟨hB.ext, vBool⟩
  · replace hm := im' hm c49
    refine ewp_skip ?_
    refine ewp_seq ?_
    refine ewp_region ?_
    refine o_mv rfl rfl  ?_
    refine l_bslice 2 (by decide) O47 (xs := ([0, 0] : List Int)) rfl rfl rfl rfl ⟨(vInt (show inI64 (0) from by decide)), (vInt (show inI64 (0) from by decide)), trivial⟩ (by decide) (by decide) rfl fun g50 w51 O52 S53 h54 => ?_
    replace hB := hB.st S53 (fun h => h) (fun h => h)
    replace h34 := h34.st S53 (fun h => h)
    obtain ⟨O56, S57, h54⟩ := h54.freeze
    replace hB := hB.st S57 (by decide) (by decide)
    replace h34 := h34.st S57 (by decide)
    obtain ⟨q58, e59, hm⟩ := bs hm
    refine l_call (O := O56) (R := fun w' F v => Vb w' F v q58) (c_succgen_Generator_Successors Fr.lt h34 h54 e59) rfl rfl fun v64 w60 O61 S62 h63 => ?_
    obtain ⟨A65, c66, rfl⟩ := h63.form
    replace hB := hB.st S62 (fun h => h) (fun h => h)
    replace h34 := h34.st S62 (fun h => h)
    refine o_as rfl rfl  ?_
    (first | refine owp_nilT ?_ | refine owp_nilB ?_ | refine owp_nilBB ?_ | refine owp_nil ?_)
    refine ewp_seq ?_
    obtain ⟨y67, hy68, hm⟩ := bs hm
    refine ewp_join (fun l' w' => ∃ (x70 : Unit) (O' : Lab), subs l' [(0, (.bool y67))] ∧ Bs w A w' O') ?_ ?_
    · skip
      refine ewp_region ?_
      refine o_mv rfl rfl  ?_
      refine l_bslice 3 (by decide) O61 (xs := ([0, 0] : List Int)) rfl rfl rfl rfl ⟨(vInt (show inI64 (0) from by decide)), (vInt (show inI64 (0) from by decide)), trivial⟩ (by decide) (by decide) rfl fun g71 w72 O73 S74 h75 => ?_
      replace hB := hB.st S74 (fun h => h) (fun h => h)
      replace h34 := h34.st S74 (fun h => h)
      replace h63 := h63.st S74 (fun h => h)
      obtain ⟨O77, S78, h75⟩ := h75.freeze
      replace hB := hB.st S78 (by decide) (by decide)
      replace h34 := h34.st S78 (by decide)
      replace h63 := h63.st S78 (by decide)
      obtain ⟨q79, e80, hy68⟩ := bs hy68
      refine l_callRow 4 (by decide) (O := O77) (c_succgen_Generator_Applicable Fr.lt h34 h75 e80) rfl rfl fun A86 c87 w81 O82 S83 h84 => ?_
      replace hB := hB.st S83 (fun h => h) (fun h => h)
      replace h34 := h34.st S83 (fun h => h)
      replace h63 := h63.st S83 (fun h => h)
      refine l_bslice 5 (by decide) O82 (xs := ([1] : List Int)) rfl rfl rfl rfl ⟨(vInt (show inI64 (1) from by decide)), trivial⟩ (by decide) (by decide) rfl fun g89 w90 O91 S92 h93 => ?_
      replace hB := hB.st S92 (fun h => h) (fun h => h)
      replace h34 := h34.st S92 (fun h => h)
      replace h63 := h63.st S92 (fun h => h)
      replace h84 := h84.st S92 (fun h => h) (fun h => h)
      obtain ⟨q95, e96, hy68⟩ := bs hy68
      refine l_callA (O := O91) (A := All w90) (R := fun w' F v => Vb w' F v q95) (c_base_Ints (fun _ h => h) (h84).all (h93).all e96) rfl rfl fun v101 w97 O98 S99 h100 => ?_
      obtain rfl := h100.bool
      replace hB := hB.st S99 (fun h => h) (fun h => h)
      replace h34 := h34.st S99 (fun h => h)
      replace h63 := h63.st S99 (fun h => h)
      cases q95
      case false =>
        replace hy68 := iF hy68
        refine o_mv rfl rfl  ?_
        refine owp_no rfl rfl rfl rfl ?_
        refine owp_no rfl rfl rfl rfl ?_
        refine owp_no rfl rfl rfl rfl ?_
        refine owp_no rfl rfl rfl rfl ?_
        refine owp_no rfl rfl rfl rfl ?_
        refine o_pf rfl rfl rfl  ?_
        refine o_mv rfl rfl  ?_
        refine owp_no rfl rfl rfl rfl ?_
        refine owp_no rfl rfl rfl rfl ?_
        refine owp_no rfl rfl rfl rfl ?_
        refine o_pf rfl rfl rfl  ?_
        refine o_mv rfl rfl  ?_
        refine owp_no rfl rfl rfl rfl ?_
        refine owp_no rfl rfl rfl rfl ?_
        refine owp_no rfl rfl rfl rfl ?_
        refine owp_no rfl rfl rfl rfl ?_
        refine owp_no rfl rfl rfl rfl ?_
        refine o_pf rfl rfl rfl  ?_
        refine o_mv rfl rfl  ?_
        refine owp_no rfl rfl rfl rfl ?_
        refine owp_no rfl rfl rfl rfl ?_
        refine owp_no rfl rfl rfl rfl ?_
        refine owp_no rfl rfl rfl rfl ?_
        refine owp_no rfl rfl rfl rfl ?_
        refine owp_no rfl rfl rfl rfl ?_
        refine o_pf rfl rfl rfl  ?_
        refine o_as rfl rfl  ?_
        (first | refine owp_nilT ?_ | refine owp_nilB ?_ | refine owp_nilBB ?_ | refine owp_nil ?_)
        obtain rfl := sm hy68
        exact ⟨(), _, ⟨rfl, trivial⟩, hB⟩
      replace hy68 := iT hy68
      refine o_mv rfl rfl  ?_
      refine owp_yes rfl rfl ?_
      refine o_mv rfl rfl  ?_
      refine owp_yes rfl rfl ?_
      refine l_bslice 6 (by decide) O98 (xs := ([1, 2] : List Int)) rfl rfl rfl rfl ⟨(vInt (show inI64 (1) from by decide)), (vInt (show inI64 (2) from by decide)), trivial⟩ (by decide) (by decide) rfl fun g102 w103 O104 S105 h106 => ?_
      replace hB := hB.st S105 (fun h => h) (fun h => h)
      replace h63 := h63.st S105 (fun h => h)
      replace h34 := h34.st S105 (fun h => h)
      refine owp_yes rfl rfl ?_
      obtain ⟨O108, S109, h106⟩ := h106.freeze
      replace hB := hB.st S109 (by decide) (by decide)
      replace h63 := h63.st S109 (by decide)
      replace h34 := h34.st S109 (by decide)
      obtain ⟨q110, e111, hy68⟩ := bs hy68
      refine l_callRow 7 (by decide) (O := O108) (c_succgen_Generator_Applicable Fr.lt h34 h106 e111) rfl rfl fun A117 c118 w112 O113 S114 h115 => ?_
      replace hB := hB.st S114 (fun h => h) (fun h => h)
      replace h63 := h63.st S114 (fun h => h)
      refine owp_yes rfl rfl ?_
      refine l_bslice 8 (by decide) O113 (xs := ([0, 1, 2] : List Int)) rfl rfl rfl rfl ⟨(vInt (show inI64 (0) from by decide)), (vInt (show inI64 (1) from by decide)), (vInt (show inI64 (2) from by decide)), trivial⟩ (by decide) (by decide) rfl fun g120 w121 O122 S123 h124 => ?_
      replace hB := hB.st S123 (fun h => h) (fun h => h)
      replace h63 := h63.st S123 (fun h => h)
      replace h115 := h115.st S123 (fun h => h) (fun h => h)
      refine owp_yes rfl rfl ?_
      obtain ⟨q126, e127, hy68⟩ := bs hy68
      refine l_callA (O := O122) (A := All w121) (R := fun w' F v => Vb w' F v q126) (c_base_Ints (fun _ h => h) (h115).all (h124).all e127) rfl rfl fun v132 w128 O129 S130 h131 => ?_
      obtain rfl := h131.bool
      replace hB := hB.st S130 (fun h => h) (fun h => h)
      replace h63 := h63.st S130 (fun h => h)
      cases q126
      case false =>
        replace hy68 := iF hy68
        refine o_pt rfl rfl rfl  ?_
        refine o_mv rfl rfl  ?_
        refine owp_no rfl rfl rfl rfl ?_
        refine owp_no rfl rfl rfl rfl ?_
        refine owp_no rfl rfl rfl rfl ?_
        refine o_pf rfl rfl rfl  ?_
        refine o_mv rfl rfl  ?_
        refine owp_no rfl rfl rfl rfl ?_
        refine owp_no rfl rfl rfl rfl ?_
        refine owp_no rfl rfl rfl rfl ?_
        refine owp_no rfl rfl rfl rfl ?_
        refine owp_no rfl rfl rfl rfl ?_
        refine o_pf rfl rfl rfl  ?_
        refine o_mv rfl rfl  ?_
        refine owp_no rfl rfl rfl rfl ?_
        refine owp_no rfl rfl rfl rfl ?_
        refine owp_no rfl rfl rfl rfl ?_
        refine owp_no rfl rfl rfl rfl ?_
        refine owp_no rfl rfl rfl rfl ?_
        refine owp_no rfl rfl rfl rfl ?_
        refine o_pf rfl rfl rfl  ?_
        refine o_as rfl rfl  ?_
        (first | refine owp_nilT ?_ | refine owp_nilB ?_ | refine owp_nilBB ?_ | refine owp_nil ?_)
        obtain rfl := sm hy68
        exact ⟨(), _, ⟨rfl, trivial⟩, hB⟩
      replace hy68 := iT hy68
      refine o_pt rfl rfl rfl  ?_
      refine o_mv rfl rfl  ?_
      refine owp_yes rfl rfl ?_
      refine o_mv rfl rfl  ?_
      refine owp_yes rfl rfl ?_
      refine o_ln rfl rfl  ?_
      have l134 : q58.length ≤ 9223372036854775807 := Nat.le_trans h63.len.2.1 h63.len.2.2
      have r133 : inI64 (q58.length : Int) := rngNat l134
      refine owp_yes rfl rfl ?_
      refine o_eeS rfl rfl rfl (fun c135 => ?_) fun c135 => ?_
      · replace hy68 := ip hy68 c135
        refine o_pt rfl rfl rfl  ?_
        refine o_mv rfl rfl  ?_
        refine owp_yes rfl rfl ?_
        refine o_mv rfl rfl  ?_
        refine owp_yes rfl rfl ?_
        obtain ⟨a136, e137, hy68⟩ := bs hy68
        obtain ⟨p139, x138⟩ := atI_some' e137
        obtain ⟨b140, o141, ce142, hA143, hl144, hd145, v147, rfl, h148, r151⟩ := h63.elem' x138
        obtain ⟨A149, c150, rfl⟩ := h148.form
        refine o_iaE (hA := hA143) (hj := (Int.toNat_of_nonneg p139).symm) (hlt := hl144) rfl rfl rfl  ?_
        refine owp_yes rfl rfl ?_
        refine o_fa rfl rfl  ?_
        refine owp_yes rfl rfl ?_
        refine o_ld (hc := cat0 hd145) rfl rfl  ?_
        refine owp_yes rfl rfl ?_
        refine o_eeS rfl rfl rfl (fun c152 => ?_) fun c152 => ?_
        · replace hy68 := ip hy68 c152
          refine o_pt rfl rfl rfl  ?_
          refine o_mv rfl rfl  ?_
          refine owp_yes rfl rfl ?_
          refine o_mv rfl rfl  ?_
          refine owp_yes rfl rfl ?_
          obtain ⟨a153, e154, hy68⟩ := bs hy68
          obtain ⟨p156, x155⟩ := atI_some' e154
          obtain ⟨b157, o158, ce159, hA160, hl161, hd162, v164, rfl, h165, r168⟩ := h63.elem' x155
          obtain ⟨A166, c167, rfl⟩ := h165.form
          refine o_iaE (hA := hA160) (hj := (Int.toNat_of_nonneg p156).symm) (hlt := hl161) rfl rfl rfl  ?_
          refine owp_yes rfl rfl ?_
          refine o_fa rfl rfl  ?_
          refine owp_yes rfl rfl ?_
          refine o_ld (hc := cat1 hd162) rfl rfl  ?_
          refine owp_yes rfl rfl ?_
          refine l_bslice 9 (by decide) O129 (xs := ([0, 2] : List Int)) rfl rfl rfl rfl ⟨(vInt (show inI64 (0) from by decide)), (vInt (show inI64 (2) from by decide)), trivial⟩ (by decide) (by decide) rfl fun g169 w170 O171 S172 h173 => ?_
          replace hB := hB.st S172 (fun h => h) (fun h => h)
          replace h165 := h165.st S172 (fun h => h)
          refine owp_yes rfl rfl ?_
          obtain ⟨q175, e176, hy68⟩ := bs hy68
          refine l_callA (O := O171) (A := All w170) (R := fun w' F v => Vb w' F v q175) (c_base_Ints (fun _ h => h) (Vb.mono (F := Fr 0 w170 O171) h165 Fr.lt) (h173).all e176) rfl rfl fun v181 w177 O178 S179 h180 => ?_
          obtain rfl := h180.bool
          replace hB := hB.st S179 (fun h => h) (fun h => h)
          cases q175
          case false =>
            replace hy68 := iF hy68
            refine o_pt rfl rfl rfl  ?_
            refine o_as rfl rfl  ?_
            (first | refine owp_nilT ?_ | refine owp_nilB ?_ | refine owp_nilBB ?_ | refine owp_nil ?_)
            obtain rfl := sm hy68
            exact ⟨(), _, ⟨rfl, trivial⟩, hB⟩
          replace hy68 := iT hy68
          refine o_pt rfl rfl rfl  ?_
          refine o_as rfl rfl  ?_
          (first | refine owp_nilT ?_ | refine owp_nilB ?_ | refine owp_nilBB ?_ | refine owp_nil ?_)
          obtain rfl := sm hy68
          exact ⟨(), _, ⟨rfl, trivial⟩, hB⟩
        · replace hy68 := im hy68 c152
          refine o_pt rfl rfl rfl  ?_
          refine o_mv rfl rfl  ?_
          refine owp_no rfl rfl rfl rfl ?_
          refine owp_no rfl rfl rfl rfl ?_
          refine owp_no rfl rfl rfl rfl ?_
          refine owp_no rfl rfl rfl rfl ?_
          refine owp_no rfl rfl rfl rfl ?_
          refine owp_no rfl rfl rfl rfl ?_
          refine o_pf rfl rfl rfl  ?_
          refine o_as rfl rfl  ?_
          (first | refine owp_nilT ?_ | refine owp_nilB ?_ | refine owp_nilBB ?_ | refine owp_nil ?_)
          obtain rfl := sm hy68
          exact ⟨(), _, ⟨rfl, trivial⟩, hB⟩
      · replace hy68 := im hy68 c135
        refine o_pt rfl rfl rfl  ?_
        refine o_mv rfl rfl  ?_
        refine owp_no rfl rfl rfl rfl ?_
        refine owp_no rfl rfl rfl rfl ?_
        refine owp_no rfl rfl rfl rfl ?_
        refine owp_no rfl rfl rfl rfl ?_
        refine owp_no rfl rfl rfl rfl ?_
        refine o_pf rfl rfl rfl  ?_
        refine o_mv rfl rfl  ?_
        refine owp_no rfl rfl rfl rfl ?_
        refine owp_no rfl rfl rfl rfl ?_
        refine owp_no rfl rfl rfl rfl ?_
        refine owp_no rfl rfl rfl rfl ?_
        refine owp_no rfl rfl rfl rfl ?_
        refine owp_no rfl rfl rfl rfl ?_
        refine o_pf rfl rfl rfl  ?_
        refine o_as rfl rfl  ?_
        (first | refine owp_nilT ?_ | refine owp_nilB ?_ | refine owp_nilBB ?_ | refine owp_nil ?_)
        obtain rfl := sm hy68
        exact ⟨(), _, ⟨rfl, trivial⟩, hB⟩
    rintro l182 w183 ⟨x70, O184, hs185, hB⟩
    refine ewp_sub _ hs185 ?_
    refine ewp_ret ?_
    obtain rfl := sm hm
    exact ret1v rfl (res_tmp rfl) ⟨hB.ext, vBool⟩
noncomputable def m_law24_right (x0 : Tsk) (x1 : Option Gnr) (x2 : List Int) : Option Bool :=
  bnd (m_ref24_Applicable x0 x2) fun q27 => bnd (m_succgen_Generator_Successors x1 x2) fun q37 => bnd (bnd (m_succgen_Generator_Applicable x1 x2) fun q50 => bnd (m_base_Ints q50 q27) fun q60 => if q60 = true then bnd (m_succgen_Generator_Count x1 x2) fun q67 => if q67 ≠ (q27.length : Int) then (some true) else (if (q37.length : Int) ≠ (q27.length : Int) then (some true) else (some false)) else some true : Option Bool) fun y46 => if y46 = true then (some false) else (bnd (rng (ρ := Bool) (fun (k94 : Nat) (a95 : Int) (s92 : Unit) => bnd (m_base_Apply x0 x2 a95) fun q111 => bnd (if (!q111.2) = true then (some true) else (bnd (q37[k94]?) fun a129 => if a129.op ≠ a95 then (some true) else (bnd (q37[k94]?) fun a144 => bnd (m_base_Ints a144.state q111.1) fun q158 => if q158 = true then some false else some true)) : Option Bool) fun y124 => if y124 = true then (some (.ret false)) else (some (.next ()))) q27 0 ()) fun res90 => fin res90 fun (s174 : Unit) => some true)
theorem c_law24_right {w : World} {A : Nat → Prop} (hA : ∀ k, A k → k < w.heap.size) {vx0 : Value} {x0 : Tsk} (hx0 : Vb w A vx0 x0) {vx1 : Value} {x1 : Option Gnr} (hx1 : Vb w A vx1 x1) {vx2 : Value} {x2 : List Int} (hx2 : Vb w A vx2 x2) {r : Bool} (hm : m_law24_right x0 x1 x2 = some r) :
    Fn Try.prog 18 [vx0, vx1, vx2] w fun v w' => Ext w w' ∧ Vb w' (upA A w w') v r := by
  obtain ⟨O, hB, hA0⟩ := enter hA
  replace hx0 := hx0.mono hA0
  obtain ⟨cs1, rfl, v2, v3, v4, v5, rfl, h6, h9, h12, h15⟩ := hx0
  obtain ⟨A7, c8, rfl⟩ := h6.form
  obtain ⟨A10, c11, rfl⟩ := h9.form
  obtain ⟨A13, c14, rfl⟩ := h12.form
  obtain ⟨A16, c17, rfl⟩ := h15.form
  replace hx1 := hx1.mono hA0
  obtain ⟨p18, rfl, hq19⟩ := hx1.ptr
  replace hx2 := hx2.mono hA0
  obtain ⟨A20, c21, rfl⟩ := hx2.form
  refine fn_enter Try.func18 rfl Try.ntmps18 rfl ?_
  unfold m_law24_right at hm
  refine ewp_seq ?_
  refine ewp_region ?_
  refine l_box 2 O rfl rfl fun g22 w23 O24 S25 h26 => ?_
  replace h26 : Lc 2 w23 O24 g22 26 [(.slice A7 x0.vars.length c8), (.slice A10 x0.init.length c11), (.slice A13 x0.goal.length c14), (.slice A16 x0.ops.length c17)] := h26
  replace hB := hB.st S25 (fun h => h) (fun h => h)
  replace hx1 := hx1.st S25 (fun h => h)
  replace hx2 := hx2.st S25 (fun h => h)
  replace h6 := h6.st S25 (fun h => h)
  replace h9 := h9.st S25 (fun h => h)
  replace h12 := h12.st S25 (fun h => h)
  replace h15 := h15.st S25 (fun h => h)
  refine o_as rfl rfl  ?_
  (first | refine owp_nilT ?_ | refine owp_nilB ?_ | refine owp_nilBB ?_ | refine owp_nil ?_)
  refine ewp_seq ?_
  refine ewp_region ?_
  refine o_la (hl := rfl) (hc := (h26.1).cellsAt) rfl rfl  ?_
  refine o_mv rfl rfl  ?_
  obtain ⟨q27, e28, hm⟩ := bs hm
  refine l_callRow 3 (by decide) (O := O24) (c_ref24_Applicable Fr.lt (Vb.ofAgg (cs := [(.slice A7 x0.vars.length c8), (.slice A10 x0.init.length c11), (.slice A13 x0.goal.length c14), (.slice A16 x0.ops.length c17)]) (x := x0) rfl ⟨_, _, _, _, rfl, h6, h9, h12, h15⟩) hx2 e28) rfl rfl fun A34 c35 w29 O30 S31 h32 => ?_
  replace hB := hB.st S31 (fun h => h) (fun h => h)
  replace hx1 := hx1.st S31 (fun h => h)
  replace hx2 := hx2.st S31 (fun h => h)
  replace h26 := h26.st S31 (fun h => h)
  replace h6 := h6.st S31 (fun h => h)
  replace h9 := h9.st S31 (fun h => h)
  replace h12 := h12.st S31 (fun h => h)
  replace h15 := h15.st S31 (fun h => h)
  refine o_as rfl rfl  ?_
  (first | refine owp_nilT ?_ | refine owp_nilB ?_ | refine owp_nilBB ?_ | refine owp_nil ?_)
  refine ewp_seq ?_
  refine ewp_region ?_
  refine o_mv rfl rfl  ?_
  refine o_mv rfl rfl  ?_
  obtain ⟨q37, e38, hm⟩ := bs hm
  refine l_call (O := O30) (R := fun w' F v => Vb w' F v q37) (c_succgen_Generator_Successors Fr.lt hx1 hx2 e38) rfl rfl fun v43 w39 O40 S41 h42 => ?_
  obtain ⟨A44, c45, rfl⟩ := h42.form
  replace hB := hB.st S41 (fun h => h) (fun h => h)
  replace hx1 := hx1.st S41 (fun h => h)
  replace hx2 := hx2.st S41 (fun h => h)
  replace h26 := h26.st S41 (fun h => h)
  replace h6 := h6.st S41 (fun h => h)
  replace h9 := h9.st S41 (fun h => h)
  replace h12 := h12.st S41 (fun h => h)
  replace h15 := h15.st S41 (fun h => h)
  replace h32 := h32.st S41 (fun h => h) (fun h => h)
  refine o_as rfl rfl  ?_
  (first | refine owp_nilT ?_ | refine owp_nilB ?_ | refine owp_nilBB ?_ | refine owp_nil ?_)
  refine ewp_seq ?_
  refine ewp_seq ?_
  obtain ⟨y46, hy47, hm⟩ := bs hm
  refine ewp_join (fun l' w' => ∃ (x49 : Unit) (O' : Lab), subs l' [(2, (.slice A20 x2.length c21)), (3, (.pointer (some ⟨g22, 0, none⟩))), (7, (.slice A34 q27.length c35)), (8, (.slice A44 q37.length c45)), (39, (.bool y46))] ∧ Bs w A w' O' ∧ Vb w' (Fr 0 w' O') (.slice A20 x2.length c21) x2 ∧ Lc 2 w' O' g22 26 [(.slice A7 x0.vars.length c8), (.slice A10 x0.init.length c11), (.slice A13 x0.goal.length c14), (.slice A16 x0.ops.length c17)] ∧ Vb w' (Fr 0 w' O') (.slice A7 x0.vars.length c8) x0.vars ∧ Vb w' (Fr 0 w' O') (.slice A10 x0.init.length c11) x0.init ∧ Vb w' (Fr 0 w' O') (.slice A13 x0.goal.length c14) x0.goal ∧ Vb w' (Fr 0 w' O') (.slice A16 x0.ops.length c17) x0.ops ∧ Rw 3 w' O' 3 (.slice A34 q27.length c35) q27 ∧ Vb w' (Fr 0 w' O') (.slice A44 q37.length c45) q37) ?_ ?_
  · skip
    refine ewp_region ?_
    refine o_mv rfl rfl  ?_
    refine o_mv rfl rfl  ?_
    obtain ⟨q50, e51, hy47⟩ := bs hy47
    refine l_callRow 4 (by decide) (O := O40) (c_succgen_Generator_Applicable Fr.lt hx1 hx2 e51) rfl rfl fun A57 c58 w52 O53 S54 h55 => ?_
    replace hB := hB.st S54 (fun h => h) (fun h => h)
    replace hx1 := hx1.st S54 (fun h => h)
    replace hx2 := hx2.st S54 (fun h => h)
    replace h26 := h26.st S54 (fun h => h)
    replace h6 := h6.st S54 (fun h => h)
    replace h9 := h9.st S54 (fun h => h)
    replace h12 := h12.st S54 (fun h => h)
    replace h15 := h15.st S54 (fun h => h)
    replace h32 := h32.st S54 (fun h => h) (fun h => h)
    replace h42 := h42.st S54 (fun h => h)
    refine o_mv rfl rfl  ?_
    obtain ⟨q60, e61, hy47⟩ := bs hy47
    refine l_callA (O := O53) (A := All w52) (R := fun w' F v => Vb w' F v q60) (c_base_Ints (fun _ h => h) (h55).all (h32).all e61) rfl rfl fun v66 w62 O63 S64 h65 => ?_
    obtain rfl := h65.bool
    replace hB := hB.st S64 (fun h => h) (fun h => h)
    replace hx1 := hx1.st S64 (fun h => h)
    replace hx2 := hx2.st S64 (fun h => h)
    replace h26 := h26.st S64 (fun h => h)
    replace h6 := h6.st S64 (fun h => h)
    replace h9 := h9.st S64 (fun h => h)
    replace h12 := h12.st S64 (fun h => h)
    replace h15 := h15.st S64 (fun h => h)
    replace h32 := h32.st S64 (fun h => h) (fun h => h)
    replace h42 := h42.st S64 (fun h => h)
    cases q60
    case false =>
      replace hy47 := iF hy47
      refine o_nf rfl rfl  ?_
      refine o_mv rfl rfl  ?_
      refine owp_no rfl rfl rfl rfl ?_
      refine owp_no rfl rfl rfl rfl ?_
      refine owp_no rfl rfl rfl rfl ?_
      refine owp_no rfl rfl rfl rfl ?_
      refine owp_no rfl rfl rfl rfl ?_
      refine owp_no rfl rfl rfl rfl ?_
      refine o_pt rfl rfl rfl  ?_
      refine o_mv rfl rfl  ?_
      refine owp_no rfl rfl rfl rfl ?_
      refine owp_no rfl rfl rfl rfl ?_
      refine owp_no rfl rfl rfl rfl ?_
      refine owp_no rfl rfl rfl rfl ?_
      refine owp_no rfl rfl rfl rfl ?_
      refine o_pt rfl rfl rfl  ?_
      (first | refine owp_nilT ?_ | refine owp_nilB ?_ | refine owp_nilBB ?_ | refine owp_nil ?_)
      obtain rfl := sm hy47
      exact ⟨(), _, ⟨rfl, rfl, rfl, rfl, rfl, trivial⟩, hB, hx2, h26, h6, h9, h12, h15, h32, h42⟩
    replace hy47 := iT hy47
    refine o_nt rfl rfl  ?_
    refine o_mv rfl rfl  ?_
    refine owp_yes rfl rfl ?_
    refine o_mv rfl rfl  ?_
    refine owp_yes rfl rfl ?_
    refine o_mv rfl rfl  ?_
    refine owp_yes rfl rfl ?_
    obtain ⟨q67, e68, hy47⟩ := bs hy47
    refine l_callA (O := O63) (A := All w62) (R := fun w' F v => Vb w' F v q67) (c_succgen_Generator_Count (fun _ h => h) (Vb.mono (F := Fr 0 w62 O63) hx1 Fr.lt) (Vb.mono (F := Fr 0 w62 O63) hx2 Fr.lt) e68) rfl rfl fun v73 w69 O70 S71 h72 => ?_
    obtain ⟨rfl, r74⟩ := h72.int
    replace hB := hB.st S71 (fun h => h) (fun h => h)
    replace hx2 := hx2.st S71 (fun h => h)
    replace h26 := h26.st S71 (fun h => h)
    replace h6 := h6.st S71 (fun h => h)
    replace h9 := h9.st S71 (fun h => h)
    replace h12 := h12.st S71 (fun h => h)
    replace h15 := h15.st S71 (fun h => h)
    replace h32 := h32.st S71 (fun h => h) (fun h => h)
    replace h42 := h42.st S71 (fun h => h)
    refine owp_yes rfl rfl ?_
    refine o_mv rfl rfl  ?_
    refine owp_yes rfl rfl ?_
    refine o_ln rfl rfl  ?_
    have l76 : q27.length ≤ 9223372036854775807 := Nat.le_trans h32.len.2.1 h32.len.2.2
    have r75 : inI64 (q27.length : Int) := rngNat l76
    refine owp_yes rfl rfl ?_
    refine o_neS rfl rfl rfl (fun c77 => ?_) fun c77 => ?_
    · replace hy47 := ip hy47 c77
      refine o_pf rfl rfl rfl  ?_
      refine o_mv rfl rfl  ?_
      refine owp_no rfl rfl rfl rfl ?_
      refine owp_no rfl rfl rfl rfl ?_
      refine owp_no rfl rfl rfl rfl ?_
      refine owp_no rfl rfl rfl rfl ?_
      refine owp_no rfl rfl rfl rfl ?_
      refine o_pt rfl rfl rfl  ?_
      (first | refine owp_nilT ?_ | refine owp_nilB ?_ | refine owp_nilBB ?_ | refine owp_nil ?_)
      obtain rfl := sm hy47
      exact ⟨(), _, ⟨rfl, rfl, rfl, rfl, rfl, trivial⟩, hB, hx2, h26, h6, h9, h12, h15, h32, h42⟩
    · replace hy47 := im hy47 c77
      refine o_pf rfl rfl rfl  ?_
      refine o_mv rfl rfl  ?_
      refine owp_yes rfl rfl ?_
      refine o_mv rfl rfl  ?_
      refine owp_yes rfl rfl ?_
      refine o_ln rfl rfl  ?_
      have l79 : q37.length ≤ 9223372036854775807 := Nat.le_trans h42.len.2.1 h42.len.2.2
      have r78 : inI64 (q37.length : Int) := rngNat l79
      refine owp_yes rfl rfl ?_
      refine o_mv rfl rfl  ?_
      refine owp_yes rfl rfl ?_
      refine o_ln rfl rfl  ?_
      have l81 : q27.length ≤ 9223372036854775807 := Nat.le_trans h32.len.2.1 h32.len.2.2
      have r80 : inI64 (q27.length : Int) := rngNat l81
      refine owp_yes rfl rfl ?_
      refine o_neS rfl rfl rfl (fun c82 => ?_) fun c82 => ?_
      · replace hy47 := ip hy47 c82
        refine o_pf rfl rfl rfl  ?_
        (first | refine owp_nilT ?_ | refine owp_nilB ?_ | refine owp_nilBB ?_ | refine owp_nil ?_)
        obtain rfl := sm hy47
        exact ⟨(), _, ⟨rfl, rfl, rfl, rfl, rfl, trivial⟩, hB, hx2, h26, h6, h9, h12, h15, h32, h42⟩
      · replace hy47 := im hy47 c82
        refine o_pf rfl rfl rfl  ?_
        (first | refine owp_nilT ?_ | refine owp_nilB ?_ | refine owp_nilBB ?_ | refine owp_nil ?_)
        obtain rfl := sm hy47
        exact ⟨(), _, ⟨rfl, rfl, rfl, rfl, rfl, trivial⟩, hB, hx2, h26, h6, h9, h12, h15, h32, h42⟩
  rintro l83 w84 ⟨x49, O85, hs86, hB, hx2, h26, h6, h9, h12, h15, h32, h42⟩
  refine ewp_sub _ hs86 ?_
  refine ewp_cond rfl (fun c87 => ?_) (fun c87 => ?_)
  · replace hm := ip hm c87
    refine ewp_seq ?_
    refine ewp_region ?_
    refine o_as rfl rfl  ?_
    (first | refine owp_nilT ?_ | refine owp_nilB ?_ | refine owp_nilBB ?_ | refine owp_nil ?_)
    refine ewp_ret ?_
    obtain rfl := sm hm
    exact ret1v rfl (res_tmp rfl) ⟨hB.ext, vBool⟩
  · replace hm := im' hm c87
    refine ewp_skip ?_
    refine ewp_seq ?_
    refine ewp_seq ?_
    refine ewp_region ?_
    refine o_mv rfl rfl  ?_
    refine o_ln rfl rfl  ?_
    have l89 : q27.length ≤ 9223372036854775807 := Nat.le_trans h32.len.2.1 h32.len.2.2
    have r88 : inI64 (q27.length : Int) := rngNat l89
    refine o_mv rfl rfl  ?_
    (first | refine owp_nilT ?_ | refine owp_nilB ?_ | refine owp_nilBB ?_ | refine owp_nil ?_)
    obtain ⟨res90, hL91, hm⟩ := bs hm
    refine ewp_join (aft res90 (fun (s92 : Unit) (x93 : Unit) => []) (fun s92 x93 w' => ∃ O' : Lab, Bs w A w' O')) ?_ ?_
    · refine ewp_block ?_
      refine ewp_rng (σ := Unit) (X := Unit) (q27.length) hL91 rfl l89 (fun (s92 : Unit) (x93 : Unit) => [(2, (.slice A20 x2.length c21)), (3, (.pointer (some ⟨g22, 0, none⟩))), (8, (.slice A44 q37.length c45)), (40, (.slice A34 q27.length c35))]) _ (fun s92 x93 w' => ∃ O' : Lab, Bs w A w' O' ∧ Vb w' (Fr 0 w' O') (.slice A20 x2.length c21) x2 ∧ Lc 2 w' O' g22 26 [(.slice A7 x0.vars.length c8), (.slice A10 x0.init.length c11), (.slice A13 x0.goal.length c14), (.slice A16 x0.ops.length c17)] ∧ Vb w' (Fr 0 w' O') (.slice A7 x0.vars.length c8) x0.vars ∧ Vb w' (Fr 0 w' O') (.slice A10 x0.init.length c11) x0.init ∧ Vb w' (Fr 0 w' O') (.slice A13 x0.goal.length c14) x0.goal ∧ Vb w' (Fr 0 w' O') (.slice A16 x0.ops.length c17) x0.ops ∧ Vb w' (Fr 0 w' O') (.slice A44 q37.length c45) q37 ∧ Rw 3 w' O' 3 (.slice A34 q27.length c35) q27) _ () ⟨O85, hB, hx2, h26, h6, h9, h12, h15, h42, h32⟩ ⟨rfl, rfl, rfl, rfl, rfl, rfl, trivial⟩ (fun _ _ => ⟨rfl, rfl⟩) (fun _ _ => trivial) (fun _ _ _ ⟨O', hB, hx2, h26, h6, h9, h12, h15, h42, h32⟩ => ⟨O', hB⟩) ⟨rfl, rfl, rfl⟩ ⟨rfl, rfl⟩ ?_
      rintro k94 a95 s92 x93 w96 cc98 hx99 ⟨O97, hB, hx2, h26, h6, h9, h12, h15, h42, h32⟩ hf100 hret101 hbrk102
      have rk94 : inI64 (k94 : Int) := rngK hx99 l89
      refine ewp_seq ?_
      refine ewp_region ?_
      refine o_mv rfl rfl  ?_
      obtain ⟨b103, o104, ce105, hA106, hl107, hd108, rfl, r110⟩ := h32.elem hx99
      refine o_iaE (hA := hA106) (hj := rfl) (hlt := hl107) rfl rfl rfl  ?_
      refine o_ld (hc := cat0 hd108) rfl rfl  ?_
      refine o_as rfl rfl  ?_
      refine o_as rfl rfl  ?_
      (first | refine owp_nilT ?_ | refine owp_nilB ?_ | refine owp_nilBB ?_ | refine owp_nil ?_)
      refine ewp_seq ?_
      refine ewp_region ?_
      refine o_la (hl := rfl) (hc := (h26.1).cellsAt) rfl rfl  ?_
      refine o_mv rfl rfl  ?_
      refine o_mv rfl rfl  ?_
      obtain ⟨q111, e112, hf100⟩ := bs hf100
      refine l_call (O := O97) (R := fun w' F v => T2 w' F v q111) (c_base_Apply Fr.lt (Vb.ofAgg (cs := [(.slice A7 x0.vars.length c8), (.slice A10 x0.init.length c11), (.slice A13 x0.goal.length c14), (.slice A16 x0.ops.length c17)]) (x := x0) rfl ⟨_, _, _, _, rfl, h6, h9, h12, h15⟩) hx2 r110 e112) rfl rfl fun v117 w113 O114 S115 h116 => ?_
      obtain ⟨v118, v119, rfl, h120, h121⟩ := h116
      obtain ⟨A122, c123, rfl⟩ := h120.form
      obtain rfl := h121.bool
      replace hB := hB.st S115 (fun h => h) (fun h => h)
      replace hx2 := hx2.st S115 (fun h => h)
      replace h26 := h26.st S115 (fun h => h)
      replace h6 := h6.st S115 (fun h => h)
      replace h9 := h9.st S115 (fun h => h)
      replace h12 := h12.st S115 (fun h => h)
      replace h15 := h15.st S115 (fun h => h)
      replace h42 := h42.st S115 (fun h => h)
      replace h32 := h32.st S115 (fun h => h) (fun h => h)
      refine o_mv rfl rfl  ?_
      refine o_ex rfl rfl rfl  ?_
      refine o_ex rfl rfl rfl  ?_
      refine o_as rfl rfl  ?_
      refine o_as rfl rfl  ?_
      (first | refine owp_nilT ?_ | refine owp_nilB ?_ | refine owp_nilBB ?_ | refine owp_nil ?_)
      refine ewp_seq ?_
      obtain ⟨y124, hy125, hf100⟩ := bs hf100
      refine ewp_join (fun l' w' => ∃ (x127 : Unit) (O' : Lab), subs l' [(2, (.slice A20 x2.length c21)), (3, (.pointer (some ⟨g22, 0, none⟩))), (8, (.slice A44 q37.length c45)), (40, (.slice A34 q27.length c35)), (41, (.int .i64 (q27.length : Int))), (42, (.int .i64 (k94 : Int))), (74, (.bool y124))] ∧ Bs w A w' O' ∧ Vb w' (Fr 0 w' O') (.slice A20 x2.length c21) x2 ∧ Lc 2 w' O' g22 26 [(.slice A7 x0.vars.length c8), (.slice A10 x0.init.length c11), (.slice A13 x0.goal.length c14), (.slice A16 x0.ops.length c17)] ∧ Vb w' (Fr 0 w' O') (.slice A7 x0.vars.length c8) x0.vars ∧ Vb w' (Fr 0 w' O') (.slice A10 x0.init.length c11) x0.init ∧ Vb w' (Fr 0 w' O') (.slice A13 x0.goal.length c14) x0.goal ∧ Vb w' (Fr 0 w' O') (.slice A16 x0.ops.length c17) x0.ops ∧ Vb w' (Fr 0 w' O') (.slice A44 q37.length c45) q37 ∧ Rw 3 w' O' 3 (.slice A34 q27.length c35) q27) ?_ ?_
      · skip
        refine ewp_region ?_
        refine o_mv rfl rfl  ?_
        refine o_nn rfl rfl  ?_
        refine o_mv rfl rfl  ?_
        rcases Bool.eq_false_or_eq_true (!q111.2) with c128 | c128
        · try rw [c128]
          replace hy125 := ip hy125 c128
          refine owp_no rfl rfl rfl rfl ?_
          refine owp_no rfl rfl rfl rfl ?_
          refine owp_no rfl rfl rfl rfl ?_
          refine owp_no rfl rfl rfl rfl ?_
          refine owp_no rfl rfl rfl rfl ?_
          refine owp_no rfl rfl rfl rfl ?_
          refine owp_no rfl rfl rfl rfl ?_
          refine o_pt rfl rfl rfl  ?_
          refine o_mv rfl rfl  ?_
          refine owp_no rfl rfl rfl rfl ?_
          refine owp_no rfl rfl rfl rfl ?_
          refine owp_no rfl rfl rfl rfl ?_
          refine owp_no rfl rfl rfl rfl ?_
          refine owp_no rfl rfl rfl rfl ?_
          refine owp_no rfl rfl rfl rfl ?_
          refine owp_no rfl rfl rfl rfl ?_
          refine owp_no rfl rfl rfl rfl ?_
          refine o_pt rfl rfl rfl  ?_
          (first | refine owp_nilT ?_ | refine owp_nilB ?_ | refine owp_nilBB ?_ | refine owp_nil ?_)
          obtain rfl := sm hy125
          exact ⟨(), _, ⟨rfl, rfl, rfl, rfl, rfl, rfl, rfl, trivial⟩, hB, hx2, h26, h6, h9, h12, h15, h42, h32⟩
        · try rw [c128]
          replace hy125 := im' hy125 c128
          refine owp_yes rfl rfl ?_
          refine o_mv rfl rfl  ?_
          refine owp_yes rfl rfl ?_
          refine o_mv rfl rfl  ?_
          refine owp_yes rfl rfl ?_
          obtain ⟨a129, e130, hy125⟩ := bs hy125
          obtain ⟨b131, o132, ce133, hA134, hl135, hd136, v138, rfl, h139, r142⟩ := h42.elem' e130
          obtain ⟨A140, c141, rfl⟩ := h139.form
          refine o_iaE (hA := hA134) (hj := rfl) (hlt := hl135) rfl rfl rfl  ?_
          refine owp_yes rfl rfl ?_
          refine o_fa rfl rfl  ?_
          refine owp_yes rfl rfl ?_
          refine o_ld (hc := cat0 hd136) rfl rfl  ?_
          refine owp_yes rfl rfl ?_
          refine o_mv rfl rfl  ?_
          refine owp_yes rfl rfl ?_
          refine o_neS rfl rfl rfl (fun c143 => ?_) fun c143 => ?_
          · replace hy125 := ip hy125 c143
            refine o_pf rfl rfl rfl  ?_
            refine o_mv rfl rfl  ?_
            refine owp_no rfl rfl rfl rfl ?_
            refine owp_no rfl rfl rfl rfl ?_
            refine owp_no rfl rfl rfl rfl ?_
            refine owp_no rfl rfl rfl rfl ?_
            refine owp_no rfl rfl rfl rfl ?_
            refine owp_no rfl rfl rfl rfl ?_
            refine owp_no rfl rfl rfl rfl ?_
            refine owp_no rfl rfl rfl rfl ?_
            refine o_pt rfl rfl rfl  ?_
            (first | refine owp_nilT ?_ | refine owp_nilB ?_ | refine owp_nilBB ?_ | refine owp_nil ?_)
            obtain rfl := sm hy125
            exact ⟨(), _, ⟨rfl, rfl, rfl, rfl, rfl, rfl, rfl, trivial⟩, hB, hx2, h26, h6, h9, h12, h15, h42, h32⟩
          · replace hy125 := im hy125 c143
            refine o_pf rfl rfl rfl  ?_
            refine o_mv rfl rfl  ?_
            refine owp_yes rfl rfl ?_
            refine o_mv rfl rfl  ?_
            refine owp_yes rfl rfl ?_
            refine o_mv rfl rfl  ?_
            refine owp_yes rfl rfl ?_
            obtain ⟨a144, e145, hy125⟩ := bs hy125
            obtain ⟨b146, o147, ce148, hA149, hl150, hd151, v153, rfl, h154, r157⟩ := h42.elem' e145
            obtain ⟨A155, c156, rfl⟩ := h154.form
            refine o_iaE (hA := hA149) (hj := rfl) (hlt := hl150) rfl rfl rfl  ?_
            refine owp_yes rfl rfl ?_
            refine o_fa rfl rfl  ?_
            refine owp_yes rfl rfl ?_
            refine o_ld (hc := cat1 hd151) rfl rfl  ?_
            refine owp_yes rfl rfl ?_
            refine o_mv rfl rfl  ?_
            refine owp_yes rfl rfl ?_
            obtain ⟨q158, e159, hy125⟩ := bs hy125
            refine l_callA (O := O114) (A := All w113) (R := fun w' F v => Vb w' F v q158) (c_base_Ints (fun _ h => h) (Vb.mono (F := Fr 0 w113 O114) h154 Fr.lt) (Vb.mono (F := Fr 0 w113 O114) h120 Fr.lt) e159) rfl rfl fun v164 w160 O161 S162 h163 => ?_
            obtain rfl := h163.bool
            replace hB := hB.st S162 (fun h => h) (fun h => h)
            replace hx2 := hx2.st S162 (fun h => h)
            replace h26 := h26.st S162 (fun h => h)
            replace h6 := h6.st S162 (fun h => h)
            replace h9 := h9.st S162 (fun h => h)
            replace h12 := h12.st S162 (fun h => h)
            replace h15 := h15.st S162 (fun h => h)
            replace h42 := h42.st S162 (fun h => h)
            replace h32 := h32.st S162 (fun h => h) (fun h => h)
            cases q158
            case false =>
              replace hy125 := iF hy125
              refine owp_yes rfl rfl ?_
              refine o_nf rfl rfl  ?_
              refine o_pf rfl rfl rfl  ?_
              (first | refine owp_nilT ?_ | refine owp_nilB ?_ | refine owp_nilBB ?_ | refine owp_nil ?_)
              obtain rfl := sm hy125
              exact ⟨(), _, ⟨rfl, rfl, rfl, rfl, rfl, rfl, rfl, trivial⟩, hB, hx2, h26, h6, h9, h12, h15, h42, h32⟩
            replace hy125 := iT hy125
            refine owp_yes rfl rfl ?_
            refine o_nt rfl rfl  ?_
            refine o_pf rfl rfl rfl  ?_
            (first | refine owp_nilT ?_ | refine owp_nilB ?_ | refine owp_nilBB ?_ | refine owp_nil ?_)
            obtain rfl := sm hy125
            exact ⟨(), _, ⟨rfl, rfl, rfl, rfl, rfl, rfl, rfl, trivial⟩, hB, hx2, h26, h6, h9, h12, h15, h42, h32⟩
      rintro l165 w166 ⟨x127, O167, hs168, hB, hx2, h26, h6, h9, h12, h15, h42, h32⟩
      refine ewp_sub _ hs168 ?_
      refine ewp_cond rfl (fun c169 => ?_) (fun c169 => ?_)
      · replace hf100 := ip hf100 c169
        refine ewp_seq ?_
        refine ewp_region ?_
        refine o_as rfl rfl  ?_
        (first | refine owp_nilT ?_ | refine owp_nilB ?_ | refine owp_nilBB ?_ | refine owp_nil ?_)
        refine ewp_ret ?_
        obtain rfl := sm hf100
        obtain rfl := hret101 _ rfl
        obtain rfl := sm (fin_ret hm)
        exact ret1v rfl (res_tmp rfl) ⟨hB.ext, vBool⟩
      · replace hf100 := im' hf100 c169
        refine ewp_skip ?_
        obtain rfl := sm hf100
        refine (?_ : Exists _)
        exact ⟨_, (), rfl, ⟨rfl, rfl, rfl, rfl, rfl, rfl, trivial⟩, _, hB, hx2, h26, h6, h9, h12, h15, h42, h32⟩
    rintro l170 w171 ⟨s174, x175, rfl, hs173, O172, hB⟩
    replace hm := fin_done hm
    refine ewp_sub _ hs173 ?_
    refine ewp_seq ?_
    refine ewp_region ?_
    refine o_as rfl rfl  ?_
    (first | refine owp_nilT ?_ | refine owp_nilB ?_ | refine owp_nilBB ?_ | refine owp_nil ?_)
    refine ewp_ret ?_
    obtain rfl := sm hm
    exact ret1v rfl (res_tmp rfl) ⟨hB.ext, vBool⟩
noncomputable def m_law24_SuccgenFinds (x0 : Tsk) : Option Bool :=
  bnd (bnd (m_base_Small x0) fun q27 => if q27 = true then bnd (m_law24_awake) fun q34 => if q34 = true then some false else some true else some true : Option Bool) fun y23 => if y23 = true then (bnd (bnd (m_law24_awake) fun q50 => if q50 = true then some true else some false : Option Bool) fun y46 => some y46) else (bnd (m_succgen_New x0) fun q61 => bnd (if q61.2.n ≠ 0 then (some true) else (if q61.1.isNone = true then (some true) else (some false)) : Option Bool) fun y75 => if y75 = true then (some false) else (bnd (m_base_States x0.vars) fun q86 => bnd (rng (ρ := Bool) (fun (k101 : Nat) (a102 : List Int) (s99 : Unit) => bnd (m_law24_right x0 q61.1 a102) fun q121 => if q121 = true then some (.next ()) else some (.ret false)) q86 0 ()) fun res97 => fin res97 fun (s132 : Unit) => some true))
theorem c_law24_SuccgenFinds {w : World} {A : Nat → Prop} (hA : ∀ k, A k → k < w.heap.size) {vx0 : Value} {x0 : Tsk} (hx0 : Vb w A vx0 x0) {r : Bool} (hm : m_law24_SuccgenFinds x0 = some r) :
    Fn Try.prog 4 [vx0] w fun v w' => Ext w w' ∧ Vb w' (upA A w w') v r := by
  obtain ⟨O, hB, hA0⟩ := enter hA
  replace hx0 := hx0.mono hA0
  obtain ⟨cs1, rfl, v2, v3, v4, v5, rfl, h6, h9, h12, h15⟩ := hx0
  obtain ⟨A7, c8, rfl⟩ := h6.form
  obtain ⟨A10, c11, rfl⟩ := h9.form
  obtain ⟨A13, c14, rfl⟩ := h12.form
  obtain ⟨A16, c17, rfl⟩ := h15.form
  refine fn_enter Try.func4 rfl Try.ntmps4 rfl ?_
  unfold m_law24_SuccgenFinds at hm
  refine ewp_seq ?_
  refine ewp_region ?_
  refine l_box 2 O rfl rfl fun g18 w19 O20 S21 h22 => ?_
  replace h22 : Lc 2 w19 O20 g18 26 [(.slice A7 x0.vars.length c8), (.slice A10 x0.init.length c11), (.slice A13 x0.goal.length c14), (.slice A16 x0.ops.length c17)] := h22
  replace hB := hB.st S21 (fun h => h) (fun h => h)
  replace h6 := h6.st S21 (fun h => h)
  replace h9 := h9.st S21 (fun h => h)
  replace h12 := h12.st S21 (fun h => h)
  replace h15 := h15.st S21 (fun h => h)
  refine o_as rfl rfl  ?_
  (first | refine owp_nilT ?_ | refine owp_nilB ?_ | refine owp_nilBB ?_ | refine owp_nil ?_)
  refine ewp_seq ?_
  refine ewp_seq ?_
  obtain ⟨y23, hy24, hm⟩ := bs hm
  refine ewp_join (fun l' w' => ∃ (x26 : Unit) (O' : Lab), subs l' [(1, (.pointer (some ⟨g18, 0, none⟩))), (13, (.bool y23))] ∧ Bs w A w' O' ∧ Lc 2 w' O' g18 26 [(.slice A7 x0.vars.length c8), (.slice A10 x0.init.length c11), (.slice A13 x0.goal.length c14), (.slice A16 x0.ops.length c17)] ∧ Vb w' (Fr 0 w' O') (.slice A7 x0.vars.length c8) x0.vars ∧ Vb w' (Fr 0 w' O') (.slice A10 x0.init.length c11) x0.init ∧ Vb w' (Fr 0 w' O') (.slice A13 x0.goal.length c14) x0.goal ∧ Vb w' (Fr 0 w' O') (.slice A16 x0.ops.length c17) x0.ops) ?_ ?_
  · skip
    refine ewp_region ?_
    refine o_la (hl := rfl) (hc := (h22.1).cellsAt) rfl rfl  ?_
    obtain ⟨q27, e28, hy24⟩ := bs hy24
    refine l_callA (O := O20) (A := All w19) (R := fun w' F v => Vb w' F v q27) (c_base_Small (fun _ h => h) (Vb.mono (F := Fr 0 w19 O20) (Vb.ofAgg (cs := [(.slice A7 x0.vars.length c8), (.slice A10 x0.init.length c11), (.slice A13 x0.goal.length c14), (.slice A16 x0.ops.length c17)]) (x := x0) rfl ⟨_, _, _, _, rfl, h6, h9, h12, h15⟩) Fr.lt) e28) rfl rfl fun v33 w29 O30 S31 h32 => ?_
    obtain rfl := h32.bool
    replace hB := hB.st S31 (fun h => h) (fun h => h)
    replace h22 := h22.st S31 (fun h => h)
    replace h6 := h6.st S31 (fun h => h)
    replace h9 := h9.st S31 (fun h => h)
    replace h12 := h12.st S31 (fun h => h)
    replace h15 := h15.st S31 (fun h => h)
    cases q27
    case false =>
      replace hy24 := iF hy24
      refine o_nf rfl rfl  ?_
      refine o_mv rfl rfl  ?_
      refine owp_no rfl rfl rfl rfl ?_
      refine owp_no rfl rfl rfl rfl ?_
      refine o_pt rfl rfl rfl  ?_
      (first | refine owp_nilT ?_ | refine owp_nilB ?_ | refine owp_nilBB ?_ | refine owp_nil ?_)
      obtain rfl := sm hy24
      exact ⟨(), _, ⟨rfl, rfl, trivial⟩, hB, h22, h6, h9, h12, h15⟩
    replace hy24 := iT hy24
    refine o_nt rfl rfl  ?_
    refine o_mv rfl rfl  ?_
    refine owp_yes rfl rfl ?_
    obtain ⟨q34, e35, hy24⟩ := bs hy24
    refine l_callA (O := O30) (A := All w29) (R := fun w' F v => Vb w' F v q34) (c_law24_awake (fun _ h => h)  e35) rfl rfl fun v40 w36 O37 S38 h39 => ?_
    obtain rfl := h39.bool
    replace hB := hB.st S38 (fun h => h) (fun h => h)
    replace h22 := h22.st S38 (fun h => h)
    replace h6 := h6.st S38 (fun h => h)
    replace h9 := h9.st S38 (fun h => h)
    replace h12 := h12.st S38 (fun h => h)
    replace h15 := h15.st S38 (fun h => h)
    cases q34
    case false =>
      replace hy24 := iF hy24
      refine owp_yes rfl rfl ?_
      refine o_nf rfl rfl  ?_
      refine o_pf rfl rfl rfl  ?_
      (first | refine owp_nilT ?_ | refine owp_nilB ?_ | refine owp_nilBB ?_ | refine owp_nil ?_)
      obtain rfl := sm hy24
      exact ⟨(), _, ⟨rfl, rfl, trivial⟩, hB, h22, h6, h9, h12, h15⟩
    replace hy24 := iT hy24
    refine owp_yes rfl rfl ?_
    refine o_nt rfl rfl  ?_
    refine o_pf rfl rfl rfl  ?_
    (first | refine owp_nilT ?_ | refine owp_nilB ?_ | refine owp_nilBB ?_ | refine owp_nil ?_)
    obtain rfl := sm hy24
    exact ⟨(), _, ⟨rfl, rfl, trivial⟩, hB, h22, h6, h9, h12, h15⟩
  rintro l41 w42 ⟨x26, O43, hs44, hB, h22, h6, h9, h12, h15⟩
  refine ewp_sub _ hs44 ?_
  refine ewp_cond rfl (fun c45 => ?_) (fun c45 => ?_)
  · replace hm := ip hm c45
    refine ewp_seq ?_
    obtain ⟨y46, hy47, hm⟩ := bs hm
    refine ewp_join (fun l' w' => ∃ (x49 : Unit) (O' : Lab), subs l' [(2, (.bool y46))] ∧ Bs w A w' O') ?_ ?_
    · skip
      refine ewp_region ?_
      obtain ⟨q50, e51, hy47⟩ := bs hy47
      refine l_callA (O := O43) (A := All w42) (R := fun w' F v => Vb w' F v q50) (c_law24_awake (fun _ h => h)  e51) rfl rfl fun v56 w52 O53 S54 h55 => ?_
      obtain rfl := h55.bool
      replace hB := hB.st S54 (fun h => h) (fun h => h)
      cases q50
      case false =>
        replace hy47 := iF hy47
        refine o_as rfl rfl  ?_
        (first | refine owp_nilT ?_ | refine owp_nilB ?_ | refine owp_nilBB ?_ | refine owp_nil ?_)
        obtain rfl := sm hy47
        exact ⟨(), _, ⟨rfl, trivial⟩, hB⟩
      replace hy47 := iT hy47
      refine o_as rfl rfl  ?_
      (first | refine owp_nilT ?_ | refine owp_nilB ?_ | refine owp_nilBB ?_ | refine owp_nil ?_)
      obtain rfl := sm hy47
      exact ⟨(), _, ⟨rfl, trivial⟩, hB⟩
    rintro l57 w58 ⟨x49, O59, hs60, hB⟩
    refine ewp_sub _ hs60 ?_
    refine ewp_ret ?_
    obtain rfl := sm hm
    exact ret1v rfl (res_tmp rfl) ⟨hB.ext, vBool⟩
  · replace hm := im' hm c45
    refine ewp_skip ?_
    refine ewp_seq ?_
    refine ewp_region ?_
    refine o_la (hl := rfl) (hc := (h22.1).cellsAt) rfl rfl  ?_
    obtain ⟨q61, e62, hm⟩ := bs hm
    refine l_call (O := O43) (R := fun w' F v => T2 w' F v q61) (c_succgen_New Fr.lt (Vb.ofAgg (cs := [(.slice A7 x0.vars.length c8), (.slice A10 x0.init.length c11), (.slice A13 x0.goal.length c14), (.slice A16 x0.ops.length c17)]) (x := x0) rfl ⟨_, _, _, _, rfl, h6, h9, h12, h15⟩) e62) rfl rfl fun v67 w63 O64 S65 h66 => ?_
    obtain ⟨v68, v69, rfl, h70, h71⟩ := h66
    obtain ⟨p72, rfl, hq73⟩ := h70.ptr
    obtain ⟨rfl, r74⟩ := h71.err
    replace hB := hB.st S65 (fun h => h) (fun h => h)
    replace h22 := h22.st S65 (fun h => h)
    replace h6 := h6.st S65 (fun h => h)
    replace h9 := h9.st S65 (fun h => h)
    replace h12 := h12.st S65 (fun h => h)
    replace h15 := h15.st S65 (fun h => h)
    refine o_mv rfl rfl  ?_
    refine o_ex rfl rfl rfl  ?_
    refine o_ex rfl rfl rfl  ?_
    refine o_as rfl rfl  ?_
    refine o_as rfl rfl  ?_
    (first | refine owp_nilT ?_ | refine owp_nilB ?_ | refine owp_nilBB ?_ | refine owp_nil ?_)
    refine ewp_seq ?_
    refine ewp_seq ?_
    obtain ⟨y75, hy76, hm⟩ := bs hm
    refine ewp_join (fun l' w' => ∃ (x78 : Unit) (O' : Lab), subs l' [(1, (.pointer (some ⟨g18, 0, none⟩))), (3, (.pointer p72)), (25, (.bool y75))] ∧ Bs w A w' O' ∧ Lc 2 w' O' g18 26 [(.slice A7 x0.vars.length c8), (.slice A10 x0.init.length c11), (.slice A13 x0.goal.length c14), (.slice A16 x0.ops.length c17)] ∧ Vb w' (Fr 0 w' O') (.slice A7 x0.vars.length c8) x0.vars ∧ Vb w' (Fr 0 w' O') (.slice A10 x0.init.length c11) x0.init ∧ Vb w' (Fr 0 w' O') (.slice A13 x0.goal.length c14) x0.goal ∧ Vb w' (Fr 0 w' O') (.slice A16 x0.ops.length c17) x0.ops ∧ Vb w' (Fr 0 w' O') (.pointer p72) q61.1) ?_ ?_
    · skip
      refine ewp_region ?_
      refine o_mv rfl rfl  ?_
      refine o_rnS rfl rfl (fun c79 => ?_) fun c79 => ?_
      · replace hy76 := ip hy76 c79
        refine o_mv rfl rfl  ?_
        refine owp_no rfl rfl rfl rfl ?_
        refine owp_no rfl rfl rfl rfl ?_
        refine o_pt rfl rfl rfl  ?_
        (first | refine owp_nilT ?_ | refine owp_nilB ?_ | refine owp_nilBB ?_ | refine owp_nil ?_)
        obtain rfl := sm hy76
        exact ⟨(), _, ⟨rfl, rfl, rfl, trivial⟩, hB, h22, h6, h9, h12, h15, h70⟩
      · replace hy76 := im hy76 c79
        refine o_mv rfl rfl  ?_
        refine owp_yes rfl rfl ?_
        refine o_mv rfl rfl  ?_
        refine owp_yes rfl rfl ?_
        refine o_pnS hq73 rfl rfl (fun c80 => ?_) fun c80 => ?_
        · replace hy76 := ip hy76 c80
          refine o_pf rfl rfl rfl  ?_
          (first | refine owp_nilT ?_ | refine owp_nilB ?_ | refine owp_nilBB ?_ | refine owp_nil ?_)
          obtain rfl := sm hy76
          exact ⟨(), _, ⟨rfl, rfl, rfl, trivial⟩, hB, h22, h6, h9, h12, h15, h70⟩
        · replace hy76 := im hy76 c80
          refine o_pf rfl rfl rfl  ?_
          (first | refine owp_nilT ?_ | refine owp_nilB ?_ | refine owp_nilBB ?_ | refine owp_nil ?_)
          obtain rfl := sm hy76
          exact ⟨(), _, ⟨rfl, rfl, rfl, trivial⟩, hB, h22, h6, h9, h12, h15, h70⟩
    rintro l81 w82 ⟨x78, O83, hs84, hB, h22, h6, h9, h12, h15, h70⟩
    refine ewp_sub _ hs84 ?_
    refine ewp_cond rfl (fun c85 => ?_) (fun c85 => ?_)
    · replace hm := ip hm c85
      refine ewp_seq ?_
      refine ewp_region ?_
      refine o_as rfl rfl  ?_
      (first | refine owp_nilT ?_ | refine owp_nilB ?_ | refine owp_nilBB ?_ | refine owp_nil ?_)
      refine ewp_ret ?_
      obtain rfl := sm hm
      exact ret1v rfl (res_tmp rfl) ⟨hB.ext, vBool⟩
    · replace hm := im' hm c85
      refine ewp_skip ?_
      refine ewp_seq ?_
      refine ewp_seq ?_
      refine ewp_region ?_
      refine o_fa rfl rfl  ?_
      refine o_ld (hc := Blk.cell (i := 0) (h22.1) rfl) rfl rfl  ?_
      obtain ⟨q86, e87, hm⟩ := bs hm
      refine l_call (O := O83) (R := fun w' F v => Vb w' F v q86) (c_base_States Fr.lt h6 e87) rfl rfl fun v92 w88 O89 S90 h91 => ?_
      obtain ⟨A93, c94, rfl⟩ := h91.form
      replace hB := hB.st S90 (fun h => h) (fun h => h)
      replace h22 := h22.st S90 (fun h => h)
      replace h6 := h6.st S90 (fun h => h)
      replace h9 := h9.st S90 (fun h => h)
      replace h12 := h12.st S90 (fun h => h)
      replace h15 := h15.st S90 (fun h => h)
      replace h70 := h70.st S90 (fun h => h)
      refine o_ln rfl rfl  ?_
      have l96 : q86.length ≤ 9223372036854775807 := Nat.le_trans h91.len.2.1 h91.len.2.2
      have r95 : inI64 (q86.length : Int) := rngNat l96
      refine o_mv rfl rfl  ?_
      (first | refine owp_nilT ?_ | refine owp_nilB ?_ | refine owp_nilBB ?_ | refine owp_nil ?_)
      obtain ⟨res97, hL98, hm⟩ := bs hm
      refine ewp_join (aft res97 (fun (s99 : Unit) (x100 : Unit) => []) (fun s99 x100 w' => ∃ O' : Lab, Bs w A w' O')) ?_ ?_
      · refine ewp_block ?_
        refine ewp_rng (σ := Unit) (X := Unit) (q86.length) hL98 rfl l96 (fun (s99 : Unit) (x100 : Unit) => [(1, (.pointer (some ⟨g18, 0, none⟩))), (3, (.pointer p72)), (28, (.slice A93 q86.length c94))]) _ (fun s99 x100 w' => ∃ O' : Lab, Bs w A w' O' ∧ Lc 2 w' O' g18 26 [(.slice A7 x0.vars.length c8), (.slice A10 x0.init.length c11), (.slice A13 x0.goal.length c14), (.slice A16 x0.ops.length c17)] ∧ Vb w' (Fr 0 w' O') (.slice A7 x0.vars.length c8) x0.vars ∧ Vb w' (Fr 0 w' O') (.slice A10 x0.init.length c11) x0.init ∧ Vb w' (Fr 0 w' O') (.slice A13 x0.goal.length c14) x0.goal ∧ Vb w' (Fr 0 w' O') (.slice A16 x0.ops.length c17) x0.ops ∧ Vb w' (Fr 0 w' O') (.pointer p72) q61.1 ∧ Vb w' (Fr 0 w' O') (.slice A93 q86.length c94) q86) _ () ⟨O89, hB, h22, h6, h9, h12, h15, h70, h91⟩ ⟨rfl, rfl, rfl, rfl, rfl, trivial⟩ (fun _ _ => ⟨rfl, rfl⟩) (fun _ _ => trivial) (fun _ _ _ ⟨O', hB, h22, h6, h9, h12, h15, h70, h91⟩ => ⟨O', hB⟩) ⟨rfl, rfl, rfl⟩ ⟨rfl, rfl⟩ ?_
        rintro k101 a102 s99 x100 w103 cc105 hx106 ⟨O104, hB, h22, h6, h9, h12, h15, h70, h91⟩ hf107 hret108 hbrk109
        have rk101 : inI64 (k101 : Int) := rngK hx106 l96
        refine ewp_seq ?_
        refine ewp_region ?_
        obtain ⟨b110, o111, ce112, hA113, hl114, hd115, v117, rfl, h118⟩ := h91.elem' hx106
        replace h118 := Vb.of_slice h118
        obtain ⟨A119, c120, rfl⟩ := h118.form
        refine o_iaE (hA := hA113) (hj := rfl) (hlt := hl114) rfl rfl rfl  ?_
        refine o_ld (hc := cat0 hd115) rfl rfl  ?_
        refine o_as rfl rfl  ?_
        (first | refine owp_nilT ?_ | refine owp_nilB ?_ | refine owp_nilBB ?_ | refine owp_nil ?_)
        refine ewp_seq ?_
        refine ewp_region ?_
        refine o_la (hl := rfl) (hc := (h22.1).cellsAt) rfl rfl  ?_
        refine o_mv rfl rfl  ?_
        refine o_mv rfl rfl  ?_
        obtain ⟨q121, e122, hf107⟩ := bs hf107
        refine l_callA (O := O104) (A := All w103) (R := fun w' F v => Vb w' F v q121) (c_law24_right (fun _ h => h) (Vb.mono (F := Fr 0 w103 O104) (Vb.ofAgg (cs := [(.slice A7 x0.vars.length c8), (.slice A10 x0.init.length c11), (.slice A13 x0.goal.length c14), (.slice A16 x0.ops.length c17)]) (x := x0) rfl ⟨_, _, _, _, rfl, h6, h9, h12, h15⟩) Fr.lt) (Vb.mono (F := Fr 0 w103 O104) h70 Fr.lt) (Vb.mono (F := Fr 0 w103 O104) h118 Fr.lt) e122) rfl rfl fun v127 w123 O124 S125 h126 => ?_
        obtain rfl := h126.bool
        replace hB := hB.st S125 (fun h => h) (fun h => h)
        replace h22 := h22.st S125 (fun h => h)
        replace h6 := h6.st S125 (fun h => h)
        replace h9 := h9.st S125 (fun h => h)
        replace h12 := h12.st S125 (fun h => h)
        replace h15 := h15.st S125 (fun h => h)
        replace h70 := h70.st S125 (fun h => h)
        replace h91 := h91.st S125 (fun h => h)
        cases q121
        case false =>
          replace hf107 := iF hf107
          refine o_nf rfl rfl  ?_
          (first | refine owp_nilT ?_ | refine owp_nilB ?_ | refine owp_nilBB ?_ | refine owp_nil ?_)
          refine ewp_true rfl ?_
          refine ewp_seq ?_
          refine ewp_region ?_
          refine o_as rfl rfl  ?_
          (first | refine owp_nilT ?_ | refine owp_nilB ?_ | refine owp_nilBB ?_ | refine owp_nil ?_)
          refine ewp_ret ?_
          obtain rfl := sm hf107
          obtain rfl := hret108 _ rfl
          obtain rfl := sm (fin_ret hm)
          exact ret1v rfl (res_tmp rfl) ⟨hB.ext, vBool⟩
        replace hf107 := iT hf107
        refine o_nt rfl rfl  ?_
        (first | refine owp_nilT ?_ | refine owp_nilB ?_ | refine owp_nilBB ?_ | refine owp_nil ?_)
        refine ewp_false rfl ?_
        refine ewp_skip ?_
        obtain rfl := sm hf107
        refine (?_ : Exists _)
        exact ⟨_, (), rfl, ⟨rfl, rfl, rfl, rfl, rfl, trivial⟩, _, hB, h22, h6, h9, h12, h15, h70, h91⟩
      rintro l128 w129 ⟨s132, x133, rfl, hs131, O130, hB⟩
      replace hm := fin_done hm
      refine ewp_sub _ hs131 ?_
      refine ewp_seq ?_
      refine ewp_region ?_
      refine o_as rfl rfl  ?_
      (first | refine owp_nilT ?_ | refine owp_nilB ?_ | refine owp_nilBB ?_ | refine owp_nil ?_)
      refine ewp_ret ?_
      obtain rfl := sm hm
      exact ret1v rfl (res_tmp rfl) ⟨hB.ext, vBool⟩
noncomputable def m_law24_SuccgenTests (x0 : Tsk) : Option Bool :=
  bnd (bnd (m_base_Small x0) fun q27 => if q27 = true then bnd (m_law24_awake) fun q34 => if q34 = true then some false else some true else some true : Option Bool) fun y23 => if y23 = true then (bnd (bnd (m_law24_awake) fun q50 => if q50 = true then some true else some false : Option Bool) fun y46 => some y46) else (bnd (m_succgen_New x0) fun q61 => if q61.2.n ≠ 0 then (some false) else (bnd (m_base_States x0.vars) fun q76 => bnd (rng (ρ := Bool) (fun (k91 : Nat) (a92 : List Int) (s89 : Unit) => bnd (m_succgen_Generator_Tests q61.1 a92) fun q111 => bnd (if q111 < 0 then (some true) else (bnd (m_ref24_Looked x0) fun q124 => if q124 < q111 then (some true) else (some false)) : Option Bool) fun y119 => if y119 = true then (some (.ret false)) else (some (.next ()))) q76 0 ()) fun res87 => fin res87 fun (s142 : Unit) => some true))
theorem c_law24_SuccgenTests {w : World} {A : Nat → Prop} (hA : ∀ k, A k → k < w.heap.size) {vx0 : Value} {x0 : Tsk} (hx0 : Vb w A vx0 x0) {r : Bool} (hm : m_law24_SuccgenTests x0 = some r) :
    Fn Try.prog 8 [vx0] w fun v w' => Ext w w' ∧ Vb w' (upA A w w') v r := by
  obtain ⟨O, hB, hA0⟩ := enter hA
  replace hx0 := hx0.mono hA0
  obtain ⟨cs1, rfl, v2, v3, v4, v5, rfl, h6, h9, h12, h15⟩ := hx0
  obtain ⟨A7, c8, rfl⟩ := h6.form
  obtain ⟨A10, c11, rfl⟩ := h9.form
  obtain ⟨A13, c14, rfl⟩ := h12.form
  obtain ⟨A16, c17, rfl⟩ := h15.form
  refine fn_enter Try.func8 rfl Try.ntmps8 rfl ?_
  unfold m_law24_SuccgenTests at hm
  refine ewp_seq ?_
  refine ewp_region ?_
  refine l_box 2 O rfl rfl fun g18 w19 O20 S21 h22 => ?_
  replace h22 : Lc 2 w19 O20 g18 26 [(.slice A7 x0.vars.length c8), (.slice A10 x0.init.length c11), (.slice A13 x0.goal.length c14), (.slice A16 x0.ops.length c17)] := h22
  replace hB := hB.st S21 (fun h => h) (fun h => h)
  replace h6 := h6.st S21 (fun h => h)
  replace h9 := h9.st S21 (fun h => h)
  replace h12 := h12.st S21 (fun h => h)
  replace h15 := h15.st S21 (fun h => h)
  refine o_as rfl rfl  ?_
  (first | refine owp_nilT ?_ | refine owp_nilB ?_ | refine owp_nilBB ?_ | refine owp_nil ?_)
  refine ewp_seq ?_
  refine ewp_seq ?_
  obtain ⟨y23, hy24, hm⟩ := bs hm
  refine ewp_join (fun l' w' => ∃ (x26 : Unit) (O' : Lab), subs l' [(1, (.pointer (some ⟨g18, 0, none⟩))), (14, (.bool y23))] ∧ Bs w A w' O' ∧ Lc 2 w' O' g18 26 [(.slice A7 x0.vars.length c8), (.slice A10 x0.init.length c11), (.slice A13 x0.goal.length c14), (.slice A16 x0.ops.length c17)] ∧ Vb w' (Fr 0 w' O') (.slice A7 x0.vars.length c8) x0.vars ∧ Vb w' (Fr 0 w' O') (.slice A10 x0.init.length c11) x0.init ∧ Vb w' (Fr 0 w' O') (.slice A13 x0.goal.length c14) x0.goal ∧ Vb w' (Fr 0 w' O') (.slice A16 x0.ops.length c17) x0.ops) ?_ ?_
  · skip
    refine ewp_region ?_
    refine o_la (hl := rfl) (hc := (h22.1).cellsAt) rfl rfl  ?_
    obtain ⟨q27, e28, hy24⟩ := bs hy24
    refine l_callA (O := O20) (A := All w19) (R := fun w' F v => Vb w' F v q27) (c_base_Small (fun _ h => h) (Vb.mono (F := Fr 0 w19 O20) (Vb.ofAgg (cs := [(.slice A7 x0.vars.length c8), (.slice A10 x0.init.length c11), (.slice A13 x0.goal.length c14), (.slice A16 x0.ops.length c17)]) (x := x0) rfl ⟨_, _, _, _, rfl, h6, h9, h12, h15⟩) Fr.lt) e28) rfl rfl fun v33 w29 O30 S31 h32 => ?_
    obtain rfl := h32.bool
    replace hB := hB.st S31 (fun h => h) (fun h => h)
    replace h22 := h22.st S31 (fun h => h)
    replace h6 := h6.st S31 (fun h => h)
    replace h9 := h9.st S31 (fun h => h)
    replace h12 := h12.st S31 (fun h => h)
    replace h15 := h15.st S31 (fun h => h)
    cases q27
    case false =>
      replace hy24 := iF hy24
      refine o_nf rfl rfl  ?_
      refine o_mv rfl rfl  ?_
      refine owp_no rfl rfl rfl rfl ?_
      refine owp_no rfl rfl rfl rfl ?_
      refine o_pt rfl rfl rfl  ?_
      (first | refine owp_nilT ?_ | refine owp_nilB ?_ | refine owp_nilBB ?_ | refine owp_nil ?_)
      obtain rfl := sm hy24
      exact ⟨(), _, ⟨rfl, rfl, trivial⟩, hB, h22, h6, h9, h12, h15⟩
    replace hy24 := iT hy24
    refine o_nt rfl rfl  ?_
    refine o_mv rfl rfl  ?_
    refine owp_yes rfl rfl ?_
    obtain ⟨q34, e35, hy24⟩ := bs hy24
    refine l_callA (O := O30) (A := All w29) (R := fun w' F v => Vb w' F v q34) (c_law24_awake (fun _ h => h)  e35) rfl rfl fun v40 w36 O37 S38 h39 => ?_
    obtain rfl := h39.bool
    replace hB := hB.st S38 (fun h => h) (fun h => h)
    replace h22 := h22.st S38 (fun h => h)
    replace h6 := h6.st S38 (fun h => h)
    replace h9 := h9.st S38 (fun h => h)
    replace h12 := h12.st S38 (fun h => h)
    replace h15 := h15.st S38 (fun h => h)
    cases q34
    case false =>
      replace hy24 := iF hy24
      refine owp_yes rfl rfl ?_
      refine o_nf rfl rfl  ?_
      refine o_pf rfl rfl rfl  ?_
      (first | refine owp_nilT ?_ | refine owp_nilB ?_ | refine owp_nilBB ?_ | refine owp_nil ?_)
      obtain rfl := sm hy24
      exact ⟨(), _, ⟨rfl, rfl, trivial⟩, hB, h22, h6, h9, h12, h15⟩
    replace hy24 := iT hy24
    refine owp_yes rfl rfl ?_
    refine o_nt rfl rfl  ?_
    refine o_pf rfl rfl rfl  ?_
    (first | refine owp_nilT ?_ | refine owp_nilB ?_ | refine owp_nilBB ?_ | refine owp_nil ?_)
    obtain rfl := sm hy24
    exact ⟨(), _, ⟨rfl, rfl, trivial⟩, hB, h22, h6, h9, h12, h15⟩
  rintro l41 w42 ⟨x26, O43, hs44, hB, h22, h6, h9, h12, h15⟩
  refine ewp_sub _ hs44 ?_
  refine ewp_cond rfl (fun c45 => ?_) (fun c45 => ?_)
  · replace hm := ip hm c45
    refine ewp_seq ?_
    obtain ⟨y46, hy47, hm⟩ := bs hm
    refine ewp_join (fun l' w' => ∃ (x49 : Unit) (O' : Lab), subs l' [(2, (.bool y46))] ∧ Bs w A w' O') ?_ ?_
    · skip
      refine ewp_region ?_
      obtain ⟨q50, e51, hy47⟩ := bs hy47
      refine l_callA (O := O43) (A := All w42) (R := fun w' F v => Vb w' F v q50) (c_law24_awake (fun _ h => h)  e51) rfl rfl fun v56 w52 O53 S54 h55 => ?_
      obtain rfl := h55.bool
      replace hB := hB.st S54 (fun h => h) (fun h => h)
      cases q50
      case false =>
        replace hy47 := iF hy47
        refine o_as rfl rfl  ?_
        (first | refine owp_nilT ?_ | refine owp_nilB ?_ | refine owp_nilBB ?_ | refine owp_nil ?_)
        obtain rfl := sm hy47
        exact ⟨(), _, ⟨rfl, trivial⟩, hB⟩
      replace hy47 := iT hy47
      refine o_as rfl rfl  ?_
      (first | refine owp_nilT ?_ | refine owp_nilB ?_ | refine owp_nilBB ?_ | refine owp_nil ?_)
      obtain rfl := sm hy47
      exact ⟨(), _, ⟨rfl, trivial⟩, hB⟩
    rintro l57 w58 ⟨x49, O59, hs60, hB⟩
    refine ewp_sub _ hs60 ?_
    refine ewp_ret ?_
    obtain rfl := sm hm
    exact ret1v rfl (res_tmp rfl) ⟨hB.ext, vBool⟩
  · replace hm := im' hm c45
    refine ewp_skip ?_
    refine ewp_seq ?_
    refine ewp_region ?_
    refine o_la (hl := rfl) (hc := (h22.1).cellsAt) rfl rfl  ?_
    obtain ⟨q61, e62, hm⟩ := bs hm
    refine l_call (O := O43) (R := fun w' F v => T2 w' F v q61) (c_succgen_New Fr.lt (Vb.ofAgg (cs := [(.slice A7 x0.vars.length c8), (.slice A10 x0.init.length c11), (.slice A13 x0.goal.length c14), (.slice A16 x0.ops.length c17)]) (x := x0) rfl ⟨_, _, _, _, rfl, h6, h9, h12, h15⟩) e62) rfl rfl fun v67 w63 O64 S65 h66 => ?_
    obtain ⟨v68, v69, rfl, h70, h71⟩ := h66
    obtain ⟨p72, rfl, hq73⟩ := h70.ptr
    obtain ⟨rfl, r74⟩ := h71.err
    replace hB := hB.st S65 (fun h => h) (fun h => h)
    replace h22 := h22.st S65 (fun h => h)
    replace h6 := h6.st S65 (fun h => h)
    replace h9 := h9.st S65 (fun h => h)
    replace h12 := h12.st S65 (fun h => h)
    replace h15 := h15.st S65 (fun h => h)
    refine o_mv rfl rfl  ?_
    refine o_ex rfl rfl rfl  ?_
    refine o_ex rfl rfl rfl  ?_
    refine o_as rfl rfl  ?_
    refine o_as rfl rfl  ?_
    (first | refine owp_nilT ?_ | refine owp_nilB ?_ | refine owp_nilBB ?_ | refine owp_nil ?_)
    refine ewp_seq ?_
    refine ewp_seq ?_
    refine ewp_region ?_
    refine o_mv rfl rfl  ?_
    refine o_rnS rfl rfl (fun c75 => ?_) fun c75 => ?_
    · replace hm := ip hm c75
      (first | refine owp_nilT ?_ | refine owp_nilB ?_ | refine owp_nilBB ?_ | refine owp_nil ?_)
      refine ewp_true rfl ?_
      refine ewp_seq ?_
      refine ewp_region ?_
      refine o_as rfl rfl  ?_
      (first | refine owp_nilT ?_ | refine owp_nilB ?_ | refine owp_nilBB ?_ | refine owp_nil ?_)
      refine ewp_ret ?_
      obtain rfl := sm hm
      exact ret1v rfl (res_tmp rfl) ⟨hB.ext, vBool⟩
    · replace hm := im hm c75
      (first | refine owp_nilT ?_ | refine owp_nilB ?_ | refine owp_nilBB ?_ | refine owp_nil ?_)
      refine ewp_false rfl ?_
      refine ewp_skip ?_
      refine ewp_seq ?_
      refine ewp_seq ?_
      refine ewp_region ?_
      refine o_fa rfl rfl  ?_
      refine o_ld (hc := Blk.cell (i := 0) (h22.1) rfl) rfl rfl  ?_
      obtain ⟨q76, e77, hm⟩ := bs hm
      refine l_call (O := O64) (R := fun w' F v => Vb w' F v q76) (c_base_States Fr.lt h6 e77) rfl rfl fun v82 w78 O79 S80 h81 => ?_
      obtain ⟨A83, c84, rfl⟩ := h81.form
      replace hB := hB.st S80 (fun h => h) (fun h => h)
      replace h22 := h22.st S80 (fun h => h)
      replace h6 := h6.st S80 (fun h => h)
      replace h9 := h9.st S80 (fun h => h)
      replace h12 := h12.st S80 (fun h => h)
      replace h15 := h15.st S80 (fun h => h)
      replace h70 := h70.st S80 (fun h => h)
      refine o_ln rfl rfl  ?_
      have l86 : q76.length ≤ 9223372036854775807 := Nat.le_trans h81.len.2.1 h81.len.2.2
      have r85 : inI64 (q76.length : Int) := rngNat l86
      refine o_mv rfl rfl  ?_
      (first | refine owp_nilT ?_ | refine owp_nilB ?_ | refine owp_nilBB ?_ | refine owp_nil ?_)
      obtain ⟨res87, hL88, hm⟩ := bs hm
      refine ewp_join (aft res87 (fun (s89 : Unit) (x90 : Unit) => []) (fun s89 x90 w' => ∃ O' : Lab, Bs w A w' O')) ?_ ?_
      · refine ewp_block ?_
        refine ewp_rng (σ := Unit) (X := Unit) (q76.length) hL88 rfl l86 (fun (s89 : Unit) (x90 : Unit) => [(1, (.pointer (some ⟨g18, 0, none⟩))), (3, (.pointer p72)), (25, (.slice A83 q76.length c84))]) _ (fun s89 x90 w' => ∃ O' : Lab, Bs w A w' O' ∧ Lc 2 w' O' g18 26 [(.slice A7 x0.vars.length c8), (.slice A10 x0.init.length c11), (.slice A13 x0.goal.length c14), (.slice A16 x0.ops.length c17)] ∧ Vb w' (Fr 0 w' O') (.slice A7 x0.vars.length c8) x0.vars ∧ Vb w' (Fr 0 w' O') (.slice A10 x0.init.length c11) x0.init ∧ Vb w' (Fr 0 w' O') (.slice A13 x0.goal.length c14) x0.goal ∧ Vb w' (Fr 0 w' O') (.slice A16 x0.ops.length c17) x0.ops ∧ Vb w' (Fr 0 w' O') (.pointer p72) q61.1 ∧ Vb w' (Fr 0 w' O') (.slice A83 q76.length c84) q76) _ () ⟨O79, hB, h22, h6, h9, h12, h15, h70, h81⟩ ⟨rfl, rfl, rfl, rfl, rfl, trivial⟩ (fun _ _ => ⟨rfl, rfl⟩) (fun _ _ => trivial) (fun _ _ _ ⟨O', hB, h22, h6, h9, h12, h15, h70, h81⟩ => ⟨O', hB⟩) ⟨rfl, rfl, rfl⟩ ⟨rfl, rfl⟩ ?_
        rintro k91 a92 s89 x90 w93 cc95 hx96 ⟨O94, hB, h22, h6, h9, h12, h15, h70, h81⟩ hf97 hret98 hbrk99
        have rk91 : inI64 (k91 : Int) := rngK hx96 l86
        refine ewp_seq ?_
        refine ewp_region ?_
        obtain ⟨b100, o101, ce102, hA103, hl104, hd105, v107, rfl, h108⟩ := h81.elem' hx96
        replace h108 := Vb.of_slice h108
        obtain ⟨A109, c110, rfl⟩ := h108.form
        refine o_iaE (hA := hA103) (hj := rfl) (hlt := hl104) rfl rfl rfl  ?_
        refine o_ld (hc := cat0 hd105) rfl rfl  ?_
        refine o_as rfl rfl  ?_
        (first | refine owp_nilT ?_ | refine owp_nilB ?_ | refine owp_nilBB ?_ | refine owp_nil ?_)
        refine ewp_seq ?_
        refine ewp_region ?_
        refine o_mv rfl rfl  ?_
        refine o_mv rfl rfl  ?_
        obtain ⟨q111, e112, hf97⟩ := bs hf97
        refine l_callA (O := O94) (A := All w93) (R := fun w' F v => Vb w' F v q111) (c_succgen_Generator_Tests (fun _ h => h) (Vb.mono (F := Fr 0 w93 O94) h70 Fr.lt) (Vb.mono (F := Fr 0 w93 O94) h108 Fr.lt) e112) rfl rfl fun v117 w113 O114 S115 h116 => ?_
        obtain ⟨rfl, r118⟩ := h116.int
        replace hB := hB.st S115 (fun h => h) (fun h => h)
        replace h22 := h22.st S115 (fun h => h)
        replace h6 := h6.st S115 (fun h => h)
        replace h9 := h9.st S115 (fun h => h)
        replace h12 := h12.st S115 (fun h => h)
        replace h15 := h15.st S115 (fun h => h)
        replace h70 := h70.st S115 (fun h => h)
        replace h81 := h81.st S115 (fun h => h)
        refine o_as rfl rfl  ?_
        (first | refine owp_nilT ?_ | refine owp_nilB ?_ | refine owp_nilBB ?_ | refine owp_nil ?_)
        refine ewp_seq ?_
        obtain ⟨y119, hy120, hf97⟩ := bs hf97
        refine ewp_join (fun l' w' => ∃ (x122 : Unit) (O' : Lab), subs l' [(1, (.pointer (some ⟨g18, 0, none⟩))), (3, (.pointer p72)), (25, (.slice A83 q76.length c84)), (26, (.int .i64 (q76.length : Int))), (27, (.int .i64 (k91 : Int))), (41, (.bool y119))] ∧ Bs w A w' O' ∧ Lc 2 w' O' g18 26 [(.slice A7 x0.vars.length c8), (.slice A10 x0.init.length c11), (.slice A13 x0.goal.length c14), (.slice A16 x0.ops.length c17)] ∧ Vb w' (Fr 0 w' O') (.slice A7 x0.vars.length c8) x0.vars ∧ Vb w' (Fr 0 w' O') (.slice A10 x0.init.length c11) x0.init ∧ Vb w' (Fr 0 w' O') (.slice A13 x0.goal.length c14) x0.goal ∧ Vb w' (Fr 0 w' O') (.slice A16 x0.ops.length c17) x0.ops ∧ Vb w' (Fr 0 w' O') (.pointer p72) q61.1 ∧ Vb w' (Fr 0 w' O') (.slice A83 q76.length c84) q76) ?_ ?_
        · skip
          refine ewp_region ?_
          refine o_mv rfl rfl  ?_
          refine o_ltS rfl rfl rfl (fun c123 => ?_) fun c123 => ?_
          · replace hy120 := ip hy120 c123
            refine o_mv rfl rfl  ?_
            refine owp_no rfl rfl rfl rfl ?_
            refine owp_no rfl rfl rfl rfl ?_
            refine owp_no rfl rfl rfl rfl ?_
            refine owp_no rfl rfl rfl rfl ?_
            refine o_pt rfl rfl rfl  ?_
            (first | refine owp_nilT ?_ | refine owp_nilB ?_ | refine owp_nilBB ?_ | refine owp_nil ?_)
            obtain rfl := sm hy120
            exact ⟨(), _, ⟨rfl, rfl, rfl, rfl, rfl, rfl, trivial⟩, hB, h22, h6, h9, h12, h15, h70, h81⟩
          · replace hy120 := im hy120 c123
            refine o_mv rfl rfl  ?_
            refine owp_yes rfl rfl ?_
            refine o_mv rfl rfl  ?_
            refine owp_yes rfl rfl ?_
            refine o_la (hl := rfl) (hc := (h22.1).cellsAt) rfl rfl  ?_
            refine owp_yes rfl rfl ?_
            obtain ⟨q124, e125, hy120⟩ := bs hy120
            refine l_callA (O := O114) (A := All w113) (R := fun w' F v => Vb w' F v q124) (c_ref24_Looked (fun _ h => h) (Vb.mono (F := Fr 0 w113 O114) (Vb.ofAgg (cs := [(.slice A7 x0.vars.length c8), (.slice A10 x0.init.length c11), (.slice A13 x0.goal.length c14), (.slice A16 x0.ops.length c17)]) (x := x0) rfl ⟨_, _, _, _, rfl, h6, h9, h12, h15⟩) Fr.lt) e125) rfl rfl fun v130 w126 O127 S128 h129 => ?_
            obtain ⟨rfl, r131⟩ := h129.int
            replace hB := hB.st S128 (fun h => h) (fun h => h)
            replace h22 := h22.st S128 (fun h => h)
            replace h6 := h6.st S128 (fun h => h)
            replace h9 := h9.st S128 (fun h => h)
            replace h12 := h12.st S128 (fun h => h)
            replace h15 := h15.st S128 (fun h => h)
            replace h70 := h70.st S128 (fun h => h)
            replace h81 := h81.st S128 (fun h => h)
            refine owp_yes rfl rfl ?_
            refine o_gtS rfl rfl rfl (fun c132 => ?_) fun c132 => ?_
            · replace hy120 := ip hy120 c132
              refine o_pf rfl rfl rfl  ?_
              (first | refine owp_nilT ?_ | refine owp_nilB ?_ | refine owp_nilBB ?_ | refine owp_nil ?_)
              obtain rfl := sm hy120
              exact ⟨(), _, ⟨rfl, rfl, rfl, rfl, rfl, rfl, trivial⟩, hB, h22, h6, h9, h12, h15, h70, h81⟩
            · replace hy120 := im hy120 c132
              refine o_pf rfl rfl rfl  ?_
              (first | refine owp_nilT ?_ | refine owp_nilB ?_ | refine owp_nilBB ?_ | refine owp_nil ?_)
              obtain rfl := sm hy120
              exact ⟨(), _, ⟨rfl, rfl, rfl, rfl, rfl, rfl, trivial⟩, hB, h22, h6, h9, h12, h15, h70, h81⟩
        rintro l133 w134 ⟨x122, O135, hs136, hB, h22, h6, h9, h12, h15, h70, h81⟩
        refine ewp_sub _ hs136 ?_
        refine ewp_cond rfl (fun c137 => ?_) (fun c137 => ?_)
        · replace hf97 := ip hf97 c137
          refine ewp_seq ?_
          refine ewp_region ?_
          refine o_as rfl rfl  ?_
          (first | refine owp_nilT ?_ | refine owp_nilB ?_ | refine owp_nilBB ?_ | refine owp_nil ?_)
          refine ewp_ret ?_
          obtain rfl := sm hf97
          obtain rfl := hret98 _ rfl
          obtain rfl := sm (fin_ret hm)
          exact ret1v rfl (res_tmp rfl) ⟨hB.ext, vBool⟩
        · replace hf97 := im' hf97 c137
          refine ewp_skip ?_
          obtain rfl := sm hf97
          refine (?_ : Exists _)
          exact ⟨_, (), rfl, ⟨rfl, rfl, rfl, rfl, rfl, trivial⟩, _, hB, h22, h6, h9, h12, h15, h70, h81⟩
      rintro l138 w139 ⟨s142, x143, rfl, hs141, O140, hB⟩
      replace hm := fin_done hm
      refine ewp_sub _ hs141 ?_
      refine ewp_seq ?_
      refine ewp_region ?_
      refine o_as rfl rfl  ?_
      (first | refine owp_nilT ?_ | refine owp_nilB ?_ | refine owp_nilBB ?_ | refine owp_nil ?_)
      refine ewp_ret ?_
      obtain rfl := sm hm
      exact ret1v rfl (res_tmp rfl) ⟨hB.ext, vBool⟩
noncomputable def m_law24_SuccgenErrors (x0 : Tsk) (x1 : List Int) : Option Bool :=
  bnd (if 100 < (x0.vars.length : Int) then (some true) else (if 50 < (x0.ops.length : Int) then (some true) else (if 100 < (x1.length : Int) then (some true) else (bnd (m_law24_awake) fun q38 => if q38 = true then some false else some true))) : Option Bool) fun y25 => if y25 = true then (bnd (bnd (m_law24_awake) fun q54 => if q54 = true then some true else some false : Option Bool) fun y50 => some y50) else (bnd (rng (ρ := Bool) (fun (k71 : Nat) (a72 : Opr) (s69 : Unit) => bnd (if 100 < (a72.effs.length : Int) then (some true) else (if 100 < (a72.pre.length : Int) then (some true) else (some false)) : Option Bool) fun y104 => if y104 = true then (some (.ret true)) else (some (.next ()))) x0.ops 0 ()) fun res67 => fin res67 fun (s123 : Unit) => bnd (m_succgen_New x0) fun q125 => bnd (m_base_Good x0) fun q139 => if q139 = true then bnd (if q125.2.n ≠ 0 then (some true) else (if q125.1.isNone = true then (some true) else (some false)) : Option Bool) fun y181 => if y181 = true then (some false) else (bnd (m_base_State x0.vars x1) fun q192 => if q192 = true then bnd (bnd (m_succgen_Generator_Applicable q125.1 x1) fun q254 => bnd (m_ref24_Applicable x0 x1) fun q264 => bnd (m_base_Ints q254 q264) fun q274 => if q274 = true then some true else some false : Option Bool) fun y250 => some y250 else bnd (bnd (m_succgen_Generator_Applicable q125.1 x1) fun q203 => if (q203.length : Int) = 0 then (bnd (m_succgen_Generator_Count q125.1 x1) fun q216 => if q216 = 0 then (bnd (m_succgen_Generator_Successors q125.1 x1) fun q225 => if (q225.length : Int) = 0 then (bnd (m_succgen_Generator_Tests q125.1 x1) fun q237 => if q237 = 0 then (some true) else (some false)) else (some false)) else (some false)) else (some false) : Option Bool) fun y199 => some y199) else bnd (if q125.1.isNone = true then (if q125.2.n ≠ 0 then (bnd (m_base_Num (⟨q125.2.n⟩ : Err)) fun q152 => bnd (m_task_Check x0) fun q160 => bnd (m_base_Num (⟨q160.n⟩ : Err)) fun q168 => if q152 = q168 then (some true) else (some false)) else (some false)) else (some false) : Option Bool) fun y146 => some y146)
theorem c_law24_SuccgenErrors {w : World} {A : Nat → Prop} (hA : ∀ k, A k → k < w.heap.size) {vx0 : Value} {x0 : Tsk} (hx0 : Vb w A vx0 x0) {vx1 : Value} {x1 : List Int} (hx1 : Vb w A vx1 x1) {r : Bool} (hm : m_law24_SuccgenErrors x0 x1 = some r) :
    Fn Try.prog 9 [vx0, vx1] w fun v w' => Ext w w' ∧ Vb w' (upA A w w') v r := by
  obtain ⟨O, hB, hA0⟩ := enter hA
  replace hx0 := hx0.mono hA0
  obtain ⟨cs1, rfl, v2, v3, v4, v5, rfl, h6, h9, h12, h15⟩ := hx0
  obtain ⟨A7, c8, rfl⟩ := h6.form
  obtain ⟨A10, c11, rfl⟩ := h9.form
  obtain ⟨A13, c14, rfl⟩ := h12.form
  obtain ⟨A16, c17, rfl⟩ := h15.form
  replace hx1 := hx1.mono hA0
  obtain ⟨A18, c19, rfl⟩ := hx1.form
  refine fn_enter Try.func9 rfl Try.ntmps9 rfl ?_
  unfold m_law24_SuccgenErrors at hm
  refine ewp_seq ?_
  refine ewp_region ?_
  refine l_box 2 O rfl rfl fun g20 w21 O22 S23 h24 => ?_
  replace h24 : Lc 2 w21 O22 g20 26 [(.slice A7 x0.vars.length c8), (.slice A10 x0.init.length c11), (.slice A13 x0.goal.length c14), (.slice A16 x0.ops.length c17)] := h24
  replace hB := hB.st S23 (fun h => h) (fun h => h)
  replace hx1 := hx1.st S23 (fun h => h)
  replace h6 := h6.st S23 (fun h => h)
  replace h9 := h9.st S23 (fun h => h)
  replace h12 := h12.st S23 (fun h => h)
  replace h15 := h15.st S23 (fun h => h)
  refine o_as rfl rfl  ?_
  (first | refine owp_nilT ?_ | refine owp_nilB ?_ | refine owp_nilBB ?_ | refine owp_nil ?_)
  refine ewp_seq ?_
  refine ewp_seq ?_
  obtain ⟨y25, hy26, hm⟩ := bs hm
  refine ewp_join (fun l' w' => ∃ (x28 : Unit) (O' : Lab), subs l' [(1, (.slice A18 x1.length c19)), (2, (.pointer (some ⟨g20, 0, none⟩))), (27, (.bool y25))] ∧ Bs w A w' O' ∧ Vb w' (Fr 0 w' O') (.slice A18 x1.length c19) x1 ∧ Lc 2 w' O' g20 26 [(.slice A7 x0.vars.length c8), (.slice A10 x0.init.length c11), (.slice A13 x0.goal.length c14), (.slice A16 x0.ops.length c17)] ∧ Vb w' (Fr 0 w' O') (.slice A7 x0.vars.length c8) x0.vars ∧ Vb w' (Fr 0 w' O') (.slice A10 x0.init.length c11) x0.init ∧ Vb w' (Fr 0 w' O') (.slice A13 x0.goal.length c14) x0.goal ∧ Vb w' (Fr 0 w' O') (.slice A16 x0.ops.length c17) x0.ops) ?_ ?_
  · skip
    refine ewp_region ?_
    refine o_fa rfl rfl  ?_
    refine o_ld (hc := Blk.cell (i := 0) (h24.1) rfl) rfl rfl  ?_
    refine o_ln rfl rfl  ?_
    have l30 : x0.vars.length ≤ 9223372036854775807 := Nat.le_trans h6.len.2.1 h6.len.2.2
    have r29 : inI64 (x0.vars.length : Int) := rngNat l30
    refine o_gtS rfl rfl rfl (fun c31 => ?_) fun c31 => ?_
    · replace hy26 := ip hy26 c31
      refine o_mv rfl rfl  ?_
      refine owp_no rfl rfl rfl rfl ?_
      refine owp_no rfl rfl rfl rfl ?_
      refine owp_no rfl rfl rfl rfl ?_
      refine owp_no rfl rfl rfl rfl ?_
      refine o_pt rfl rfl rfl  ?_
      refine o_mv rfl rfl  ?_
      refine owp_no rfl rfl rfl rfl ?_
      refine owp_no rfl rfl rfl rfl ?_
      refine owp_no rfl rfl rfl rfl ?_
      refine o_pt rfl rfl rfl  ?_
      refine o_mv rfl rfl  ?_
      refine owp_no rfl rfl rfl rfl ?_
      refine owp_no rfl rfl rfl rfl ?_
      refine o_pt rfl rfl rfl  ?_
      (first | refine owp_nilT ?_ | refine owp_nilB ?_ | refine owp_nilBB ?_ | refine owp_nil ?_)
      obtain rfl := sm hy26
      exact ⟨(), _, ⟨rfl, rfl, rfl, trivial⟩, hB, hx1, h24, h6, h9, h12, h15⟩
    · replace hy26 := im hy26 c31
      refine o_mv rfl rfl  ?_
      refine owp_yes rfl rfl ?_
      refine o_fa rfl rfl  ?_
      refine owp_yes rfl rfl ?_
      refine o_ld (hc := Blk.cell (i := 3) (h24.1) rfl) rfl rfl  ?_
      refine owp_yes rfl rfl ?_
      refine o_ln rfl rfl  ?_
      have l33 : x0.ops.length ≤ 9223372036854775807 := Nat.le_trans h15.len.2.1 h15.len.2.2
      have r32 : inI64 (x0.ops.length : Int) := rngNat l33
      refine owp_yes rfl rfl ?_
      refine o_gtS rfl rfl rfl (fun c34 => ?_) fun c34 => ?_
      · replace hy26 := ip hy26 c34
        refine o_pf rfl rfl rfl  ?_
        refine o_mv rfl rfl  ?_
        refine owp_no rfl rfl rfl rfl ?_
        refine owp_no rfl rfl rfl rfl ?_
        refine owp_no rfl rfl rfl rfl ?_
        refine o_pt rfl rfl rfl  ?_
        refine o_mv rfl rfl  ?_
        refine owp_no rfl rfl rfl rfl ?_
        refine owp_no rfl rfl rfl rfl ?_
        refine o_pt rfl rfl rfl  ?_
        (first | refine owp_nilT ?_ | refine owp_nilB ?_ | refine owp_nilBB ?_ | refine owp_nil ?_)
        obtain rfl := sm hy26
        exact ⟨(), _, ⟨rfl, rfl, rfl, trivial⟩, hB, hx1, h24, h6, h9, h12, h15⟩
      · replace hy26 := im hy26 c34
        refine o_pf rfl rfl rfl  ?_
        refine o_mv rfl rfl  ?_
        refine owp_yes rfl rfl ?_
        refine o_mv rfl rfl  ?_
        refine owp_yes rfl rfl ?_
        refine o_ln rfl rfl  ?_
        have l36 : x1.length ≤ 9223372036854775807 := Nat.le_trans hx1.len.2.1 hx1.len.2.2
        have r35 : inI64 (x1.length : Int) := rngNat l36
        refine owp_yes rfl rfl ?_
        refine o_gtS rfl rfl rfl (fun c37 => ?_) fun c37 => ?_
        · replace hy26 := ip hy26 c37
          refine o_pf rfl rfl rfl  ?_
          refine o_mv rfl rfl  ?_
          refine owp_no rfl rfl rfl rfl ?_
          refine owp_no rfl rfl rfl rfl ?_
          refine o_pt rfl rfl rfl  ?_
          (first | refine owp_nilT ?_ | refine owp_nilB ?_ | refine owp_nilBB ?_ | refine owp_nil ?_)
          obtain rfl := sm hy26
          exact ⟨(), _, ⟨rfl, rfl, rfl, trivial⟩, hB, hx1, h24, h6, h9, h12, h15⟩
        · replace hy26 := im hy26 c37
          refine o_pf rfl rfl rfl  ?_
          refine o_mv rfl rfl  ?_
          refine owp_yes rfl rfl ?_
          obtain ⟨q38, e39, hy26⟩ := bs hy26
          refine l_callA (O := O22) (A := All w21) (R := fun w' F v => Vb w' F v q38) (c_law24_awake (fun _ h => h)  e39) rfl rfl fun v44 w40 O41 S42 h43 => ?_
          obtain rfl := h43.bool
          replace hB := hB.st S42 (fun h => h) (fun h => h)
          replace hx1 := hx1.st S42 (fun h => h)
          replace h24 := h24.st S42 (fun h => h)
          replace h6 := h6.st S42 (fun h => h)
          replace h9 := h9.st S42 (fun h => h)
          replace h12 := h12.st S42 (fun h => h)
          replace h15 := h15.st S42 (fun h => h)
          cases q38
          case false =>
            replace hy26 := iF hy26
            refine owp_yes rfl rfl ?_
            refine o_nf rfl rfl  ?_
            refine o_pf rfl rfl rfl  ?_
            (first | refine owp_nilT ?_ | refine owp_nilB ?_ | refine owp_nilBB ?_ | refine owp_nil ?_)
            obtain rfl := sm hy26
            exact ⟨(), _, ⟨rfl, rfl, rfl, trivial⟩, hB, hx1, h24, h6, h9, h12, h15⟩
          replace hy26 := iT hy26
          refine owp_yes rfl rfl ?_
          refine o_nt rfl rfl  ?_
          refine o_pf rfl rfl rfl  ?_
          (first | refine owp_nilT ?_ | refine owp_nilB ?_ | refine owp_nilBB ?_ | refine owp_nil ?_)
          obtain rfl := sm hy26
          exact ⟨(), _, ⟨rfl, rfl, rfl, trivial⟩, hB, hx1, h24, h6, h9, h12, h15⟩
  rintro l45 w46 ⟨x28, O47, hs48, hB, hx1, h24, h6, h9, h12, h15⟩
  refine ewp_sub _ hs48 ?_
  refine ewp_cond rfl (fun c49 => ?_) (fun c49 => ?_)
  · replace hm := ip hm c49
    refine ewp_seq ?_
    obtain ⟨y50, hy51, hm⟩ := bs hm
    refine ewp_join (fun l' w' => ∃ (x53 : Unit) (O' : Lab), subs l' [(4, (.bool y50))] ∧ Bs w A w' O') ?_ ?_
    · skip
      refine ewp_region ?_
      obtain ⟨q54, e55, hy51⟩ := bs hy51
      refine l_callA (O := O47) (A := All w46) (R := fun w' F v => Vb w' F v q54) (c_law24_awake (fun _ h => h)  e55) rfl rfl fun v60 w56 O57 S58 h59 => ?_
      obtain rfl := h59.bool
      replace hB := hB.st S58 (fun h => h) (fun h => h)
      cases q54
      case false =>
        replace hy51 := iF hy51
        refine o_as rfl rfl  ?_
        (first | refine owp_nilT ?_ | refine owp_nilB ?_ | refine owp_nilBB ?_ | refine owp_nil ?_)
        obtain rfl := sm hy51
        exact ⟨(), _, ⟨rfl, trivial⟩, hB⟩
      replace hy51 := iT hy51
      refine o_as rfl rfl  ?_
      (first | refine owp_nilT ?_ | refine owp_nilB ?_ | refine owp_nilBB ?_ | refine owp_nil ?_)
      obtain rfl := sm hy51
      exact ⟨(), _, ⟨rfl, trivial⟩, hB⟩
    rintro l61 w62 ⟨x53, O63, hs64, hB⟩
    refine ewp_sub _ hs64 ?_
    refine ewp_ret ?_
    obtain rfl := sm hm
    exact ret1v rfl (res_tmp rfl) ⟨hB.ext, vBool⟩
  · replace hm := im' hm c49
    refine ewp_skip ?_
    refine ewp_seq ?_
    refine ewp_seq ?_
    refine ewp_region ?_
    refine o_fa rfl rfl  ?_
    refine o_ld (hc := Blk.cell (i := 3) (h24.1) rfl) rfl rfl  ?_
    refine o_ln rfl rfl  ?_
    have l66 : x0.ops.length ≤ 9223372036854775807 := Nat.le_trans h15.len.2.1 h15.len.2.2
    have r65 : inI64 (x0.ops.length : Int) := rngNat l66
    refine o_mv rfl rfl  ?_
    (first | refine owp_nilT ?_ | refine owp_nilB ?_ | refine owp_nilBB ?_ | refine owp_nil ?_)
    obtain ⟨res67, hL68, hm⟩ := bs hm
    refine ewp_join (aft res67 (fun (s69 : Unit) (x70 : Unit) => [(1, (.slice A18 x1.length c19)), (2, (.pointer (some ⟨g20, 0, none⟩)))]) (fun s69 x70 w' => ∃ O' : Lab, Bs w A w' O' ∧ Vb w' (Fr 0 w' O') (.slice A18 x1.length c19) x1 ∧ Lc 2 w' O' g20 26 [(.slice A7 x0.vars.length c8), (.slice A10 x0.init.length c11), (.slice A13 x0.goal.length c14), (.slice A16 x0.ops.length c17)] ∧ Vb w' (Fr 0 w' O') (.slice A7 x0.vars.length c8) x0.vars ∧ Vb w' (Fr 0 w' O') (.slice A10 x0.init.length c11) x0.init ∧ Vb w' (Fr 0 w' O') (.slice A13 x0.goal.length c14) x0.goal ∧ Vb w' (Fr 0 w' O') (.slice A16 x0.ops.length c17) x0.ops)) ?_ ?_
    · refine ewp_block ?_
      refine ewp_rng (σ := Unit) (X := Unit) (x0.ops.length) hL68 rfl l66 (fun (s69 : Unit) (x70 : Unit) => [(1, (.slice A18 x1.length c19)), (2, (.pointer (some ⟨g20, 0, none⟩))), (30, (.slice A16 x0.ops.length c17))]) _ (fun s69 x70 w' => ∃ O' : Lab, Bs w A w' O' ∧ Vb w' (Fr 0 w' O') (.slice A18 x1.length c19) x1 ∧ Lc 2 w' O' g20 26 [(.slice A7 x0.vars.length c8), (.slice A10 x0.init.length c11), (.slice A13 x0.goal.length c14), (.slice A16 x0.ops.length c17)] ∧ Vb w' (Fr 0 w' O') (.slice A7 x0.vars.length c8) x0.vars ∧ Vb w' (Fr 0 w' O') (.slice A10 x0.init.length c11) x0.init ∧ Vb w' (Fr 0 w' O') (.slice A13 x0.goal.length c14) x0.goal ∧ Vb w' (Fr 0 w' O') (.slice A16 x0.ops.length c17) x0.ops) _ () ⟨O47, hB, hx1, h24, h6, h9, h12, h15⟩ ⟨rfl, rfl, rfl, rfl, rfl, trivial⟩ (fun _ _ => ⟨rfl, rfl⟩) (fun _ _ => ⟨rfl, rfl, trivial⟩) (fun _ _ _ ⟨O', hB, hx1, h24, h6, h9, h12, h15⟩ => ⟨O', hB, hx1, h24, h6, h9, h12, h15⟩) ⟨rfl, rfl, rfl⟩ ⟨rfl, rfl⟩ ?_
      rintro k71 a72 s69 x70 w73 cc75 hx76 ⟨O74, hB, hx1, h24, h6, h9, h12, h15⟩ hf77 hret78 hbrk79
      have rk71 : inI64 (k71 : Int) := rngK hx76 l66
      refine ewp_seq ?_
      refine ewp_region ?_
      obtain ⟨b80, o81, ce82, hA83, hl84, hd85, v87, v88, rfl, h89, h92, r95, z96⟩ := h15.elem' hx76
      obtain ⟨A90, c91, rfl⟩ := h89.form
      obtain ⟨A93, c94, rfl⟩ := h92.form
      refine o_iaE (hA := hA83) (hj := rfl) (hlt := hl84) rfl rfl rfl  ?_
      refine o_la (hl := rfl) (hc := hd85) rfl rfl  ?_
      refine l_alloc 3 O74 rfl fun g97 w98 O99 S100 h101 => ?_
      replace hB := hB.st S100 (fun h => h) (fun h => h)
      replace hx1 := hx1.st S100 (fun h => h)
      replace h24 := h24.st S100 (fun h => h)
      replace h6 := h6.st S100 (fun h => h)
      replace h9 := h9.st S100 (fun h => h)
      replace h12 := h12.st S100 (fun h => h)
      replace h15 := h15.st S100 (fun h => h)
      replace h89 := h89.st S100 (fun h => h)
      replace h92 := h92.st S100 (fun h => h)
      refine l_store h101 rfl rfl rfl (Nat.le_of_ble_eq_true rfl) (by first | exact allOne rfl | simp [Value.cells, Value.oneCell', errV_one]) fun w102 S103 h101 => ?_
      replace h101 : Lc 3 w102 O99 g97 34 [(.string a72.name), (.int .i64 a72.cost), (.slice A90 a72.pre.length c91), (.slice A93 a72.effs.length c94)] := h101
      replace hB := hB.st S103 (by decide) (by decide)
      replace hx1 := hx1.st S103 (by decide)
      replace h24 := h24.st S103 (by decide)
      replace h6 := h6.st S103 (by decide)
      replace h9 := h9.st S103 (by decide)
      replace h12 := h12.st S103 (by decide)
      replace h15 := h15.st S103 (by decide)
      replace h89 := h89.st S103 (by decide)
      replace h92 := h92.st S103 (by decide)
      (first | refine owp_nilT ?_ | refine owp_nilB ?_ | refine owp_nilBB ?_ | refine owp_nil ?_)
      refine ewp_seq ?_
      obtain ⟨y104, hy105, hf77⟩ := bs hf77
      refine ewp_join (fun l' w' => ∃ (x107 : Unit) (O' : Lab), subs l' [(1, (.slice A18 x1.length c19)), (2, (.pointer (some ⟨g20, 0, none⟩))), (30, (.slice A16 x0.ops.length c17)), (31, (.int .i64 (x0.ops.length : Int))), (32, (.int .i64 (k71 : Int))), (45, (.bool y104))] ∧ Bs w A w' O' ∧ Vb w' (Fr 0 w' O') (.slice A18 x1.length c19) x1 ∧ Lc 2 w' O' g20 26 [(.slice A7 x0.vars.length c8), (.slice A10 x0.init.length c11), (.slice A13 x0.goal.length c14), (.slice A16 x0.ops.length c17)] ∧ Vb w' (Fr 0 w' O') (.slice A7 x0.vars.length c8) x0.vars ∧ Vb w' (Fr 0 w' O') (.slice A10 x0.init.length c11) x0.init ∧ Vb w' (Fr 0 w' O') (.slice A13 x0.goal.length c14) x0.goal ∧ Vb w' (Fr 0 w' O') (.slice A16 x0.ops.length c17) x0.ops) ?_ ?_
      · skip
        refine ewp_region ?_
        refine o_fa rfl rfl  ?_
        refine o_ld (hc := Blk.cell (i := 3) (h101.1) rfl) rfl rfl  ?_
        refine o_ln rfl rfl  ?_
        have l109 : a72.effs.length ≤ 9223372036854775807 := Nat.le_trans h92.len.2.1 h92.len.2.2
        have r108 : inI64 (a72.effs.length : Int) := rngNat l109
        refine o_gtS rfl rfl rfl (fun c110 => ?_) fun c110 => ?_
        · replace hy105 := ip hy105 c110
          refine o_mv rfl rfl  ?_
          refine owp_no rfl rfl rfl rfl ?_
          refine owp_no rfl rfl rfl rfl ?_
          refine owp_no rfl rfl rfl rfl ?_
          refine owp_no rfl rfl rfl rfl ?_
          refine o_pt rfl rfl rfl  ?_
          (first | refine owp_nilT ?_ | refine owp_nilB ?_ | refine owp_nilBB ?_ | refine owp_nil ?_)
          obtain rfl := sm hy105
          exact ⟨(), _, ⟨rfl, rfl, rfl, rfl, rfl, rfl, trivial⟩, hB, hx1, h24, h6, h9, h12, h15⟩
        · replace hy105 := im hy105 c110
          refine o_mv rfl rfl  ?_
          refine owp_yes rfl rfl ?_
          refine o_fa rfl rfl  ?_
          refine owp_yes rfl rfl ?_
          refine o_ld (hc := Blk.cell (i := 2) (h101.1) rfl) rfl rfl  ?_
          refine owp_yes rfl rfl ?_
          refine o_ln rfl rfl  ?_
          have l112 : a72.pre.length ≤ 9223372036854775807 := Nat.le_trans h89.len.2.1 h89.len.2.2
          have r111 : inI64 (a72.pre.length : Int) := rngNat l112
          refine owp_yes rfl rfl ?_
          refine o_gtS rfl rfl rfl (fun c113 => ?_) fun c113 => ?_
          · replace hy105 := ip hy105 c113
            refine o_pf rfl rfl rfl  ?_
            (first | refine owp_nilT ?_ | refine owp_nilB ?_ | refine owp_nilBB ?_ | refine owp_nil ?_)
            obtain rfl := sm hy105
            exact ⟨(), _, ⟨rfl, rfl, rfl, rfl, rfl, rfl, trivial⟩, hB, hx1, h24, h6, h9, h12, h15⟩
          · replace hy105 := im hy105 c113
            refine o_pf rfl rfl rfl  ?_
            (first | refine owp_nilT ?_ | refine owp_nilB ?_ | refine owp_nilBB ?_ | refine owp_nil ?_)
            obtain rfl := sm hy105
            exact ⟨(), _, ⟨rfl, rfl, rfl, rfl, rfl, rfl, trivial⟩, hB, hx1, h24, h6, h9, h12, h15⟩
      rintro l114 w115 ⟨x107, O116, hs117, hB, hx1, h24, h6, h9, h12, h15⟩
      refine ewp_sub _ hs117 ?_
      refine ewp_cond rfl (fun c118 => ?_) (fun c118 => ?_)
      · replace hf77 := ip hf77 c118
        refine ewp_seq ?_
        refine ewp_region ?_
        refine o_as rfl rfl  ?_
        (first | refine owp_nilT ?_ | refine owp_nilB ?_ | refine owp_nilBB ?_ | refine owp_nil ?_)
        refine ewp_ret ?_
        obtain rfl := sm hf77
        obtain rfl := hret78 _ rfl
        obtain rfl := sm (fin_ret hm)
        exact ret1v rfl (res_tmp rfl) ⟨hB.ext, vBool⟩
      · replace hf77 := im' hf77 c118
        refine ewp_skip ?_
        obtain rfl := sm hf77
        refine (?_ : Exists _)
        exact ⟨_, (), rfl, ⟨rfl, rfl, rfl, rfl, rfl, trivial⟩, _, hB, hx1, h24, h6, h9, h12, h15⟩
    rintro l119 w120 ⟨s123, x124, rfl, hs122, O121, hB, hx1, h24, h6, h9, h12, h15⟩
    replace hm := fin_done hm
    refine ewp_sub _ hs122 ?_
    refine ewp_seq ?_
    refine ewp_region ?_
    refine o_la (hl := rfl) (hc := (h24.1).cellsAt) rfl rfl  ?_
    obtain ⟨q125, e126, hm⟩ := bs hm
    refine l_call (O := O121) (R := fun w' F v => T2 w' F v q125) (c_succgen_New Fr.lt (Vb.ofAgg (cs := [(.slice A7 x0.vars.length c8), (.slice A10 x0.init.length c11), (.slice A13 x0.goal.length c14), (.slice A16 x0.ops.length c17)]) (x := x0) rfl ⟨_, _, _, _, rfl, h6, h9, h12, h15⟩) e126) rfl rfl fun v131 w127 O128 S129 h130 => ?_
    obtain ⟨v132, v133, rfl, h134, h135⟩ := h130
    obtain ⟨p136, rfl, hq137⟩ := h134.ptr
    obtain ⟨rfl, r138⟩ := h135.err
    replace hB := hB.st S129 (fun h => h) (fun h => h)
    replace hx1 := hx1.st S129 (fun h => h)
    replace h24 := h24.st S129 (fun h => h)
    replace h6 := h6.st S129 (fun h => h)
    replace h9 := h9.st S129 (fun h => h)
    replace h12 := h12.st S129 (fun h => h)
    replace h15 := h15.st S129 (fun h => h)
    refine o_mv rfl rfl  ?_
    refine o_ex rfl rfl rfl  ?_
    refine o_ex rfl rfl rfl  ?_
    refine o_as rfl rfl  ?_
    refine o_as rfl rfl  ?_
    (first | refine owp_nilT ?_ | refine owp_nilB ?_ | refine owp_nilBB ?_ | refine owp_nil ?_)
    refine ewp_seq ?_
    refine ewp_seq ?_
    refine ewp_region ?_
    refine o_la (hl := rfl) (hc := (h24.1).cellsAt) rfl rfl  ?_
    obtain ⟨q139, e140, hm⟩ := bs hm
    refine l_callA (O := O128) (A := All w127) (R := fun w' F v => Vb w' F v q139) (c_base_Good (fun _ h => h) (Vb.mono (F := Fr 0 w127 O128) (Vb.ofAgg (cs := [(.slice A7 x0.vars.length c8), (.slice A10 x0.init.length c11), (.slice A13 x0.goal.length c14), (.slice A16 x0.ops.length c17)]) (x := x0) rfl ⟨_, _, _, _, rfl, h6, h9, h12, h15⟩) Fr.lt) e140) rfl rfl fun v145 w141 O142 S143 h144 => ?_
    obtain rfl := h144.bool
    replace hB := hB.st S143 (fun h => h) (fun h => h)
    replace hx1 := hx1.st S143 (fun h => h)
    replace h24 := h24.st S143 (fun h => h)
    replace h6 := h6.st S143 (fun h => h)
    replace h9 := h9.st S143 (fun h => h)
    replace h12 := h12.st S143 (fun h => h)
    replace h15 := h15.st S143 (fun h => h)
    replace h134 := h134.st S143 (fun h => h)
    cases q139
    case false =>
      replace hm := iF hm
      refine o_nf rfl rfl  ?_
      (first | refine owp_nilT ?_ | refine owp_nilB ?_ | refine owp_nilBB ?_ | refine owp_nil ?_)
      refine ewp_true rfl ?_
      refine ewp_seq ?_
      obtain ⟨y146, hy147, hm⟩ := bs hm
      refine ewp_join (fun l' w' => ∃ (x149 : Unit) (O' : Lab), subs l' [(4, (.bool y146))] ∧ Bs w A w' O') ?_ ?_
      · skip
        have hZ := St.refl (nT) w141 O142
        have zh24 := h24
        have zh6 := h6
        have zh9 := h9
        have zh12 := h12
        have zh15 := h15
        have zh134 := h134
        refine ewp_drawS (fun w' => ∃ O', St (nT) w141 O142 w' O') ?_
        refine hws_pre (fuel := 6) [(0, true), (1, true), (2, true), (3, true), (4, true), (5, true), (6, true), (7, true), (9, true)] (by kernel_rfl) (by kernel_rfl) (by kernel_rfl) ⟨_, hZ⟩ ?_
        refine h_mv rfl rfl rfl  ?_
        refine hwp_o rfl (hwq_split (fun _ _ => ev_ptrE hq137 rfl) rfl (fun c150 => ?_) (fun c150 => ?_))
        · replace hy147 := ip hy147 c150
          refine h_mv rfl rfl rfl  ?_
          refine hwp_o rfl ?_
          refine hwq_yes rfl rfl ?_
          refine g_mv rfl rfl  ?_
          refine hwp_o rfl ?_
          refine hwq_yes rfl rfl ?_
          refine hwq_split (fun _ _ => ev_errN rfl) rfl (fun c151 => ?_) (fun c151 => ?_)
          · replace hy147 := ip hy147 c151
            refine h_pt rfl rfl rfl rfl  ?_
            refine h_mv rfl rfl rfl  ?_
            refine hwp_o rfl ?_
            refine hwq_yes rfl rfl ?_
            refine g_mv rfl rfl  ?_
            refine hwp_o rfl ?_
            refine hwq_yes rfl rfl ?_
            refine g_laB (hl := rfl) (hb := fun w' ⟨O', hq⟩ => ((zh24.st hq (by decide)).1).cellsAt) rfl rfl  ?_
            refine hwp_nilT ?_
            refine hws_one (i := 8) (by kernel_rfl) rfl ?_
            refine owp_yes rfl rfl ?_
            obtain ⟨q152, e153, hy147⟩ := bs hy147
            refine l_callA (O := O142) (A := All w141) (R := fun w' F v => Vb w' F v q152) (c_base_Num (fun _ h => h) r138 e153) rfl rfl fun v158 w154 O155 S156 h157 => ?_
            obtain ⟨rfl, r159⟩ := h157.int
            replace hZ := hZ.comp S156 (fun _ h => h.elim)
            replace hB := hB.st S156 (fun h => h) (fun h => h)
            replace h6 := h6.st S156 (fun h => h)
            replace h9 := h9.st S156 (fun h => h)
            replace h12 := h12.st S156 (fun h => h)
            replace h15 := h15.st S156 (fun h => h)
            refine owp_loudS ⟨_, hZ⟩ ?_
            refine hws_one (i := 10) (by kernel_rfl) rfl ?_
            refine owp_yes rfl rfl ?_
            obtain ⟨q160, e161, hy147⟩ := bs hy147
            refine l_callA (O := O155) (A := All w154) (R := fun w' F v => Vb w' F v q160) (c_task_Check (fun _ h => h) (Vb.mono (F := Fr 0 w154 O155) (Vb.ofAgg (cs := [(.slice A7 x0.vars.length c8), (.slice A10 x0.init.length c11), (.slice A13 x0.goal.length c14), (.slice A16 x0.ops.length c17)]) (x := x0) rfl ⟨_, _, _, _, rfl, h6, h9, h12, h15⟩) Fr.lt) e161) rfl rfl fun v166 w162 O163 S164 h165 => ?_
            obtain ⟨rfl, r167⟩ := h165.err
            replace hZ := hZ.comp S164 (fun _ h => h.elim)
            replace hB := hB.st S164 (fun h => h) (fun h => h)
            refine owp_loudS ⟨_, hZ⟩ ?_
            refine hws_one (i := 11) (by kernel_rfl) rfl ?_
            refine owp_yes rfl rfl ?_
            obtain ⟨q168, e169, hy147⟩ := bs hy147
            refine l_callA (O := O163) (A := All w162) (R := fun w' F v => Vb w' F v q168) (c_base_Num (fun _ h => h) r167 e169) rfl rfl fun v174 w170 O171 S172 h173 => ?_
            obtain ⟨rfl, r175⟩ := h173.int
            replace hZ := hZ.comp S172 (fun _ h => h.elim)
            replace hB := hB.st S172 (fun h => h) (fun h => h)
            refine owp_loudS ⟨_, hZ⟩ ?_
            refine hws_pre (fuel := 0) [(12, true), (13, true), (14, true)] (by kernel_rfl) (by kernel_rfl) (by kernel_rfl) ⟨_, hZ⟩ ?_
            refine hwp_o rfl ?_
            refine hwq_yes rfl rfl ?_
            refine hwq_split (fun _ _ => ev_eql rfl rfl) rfl (fun c176 => ?_) (fun c176 => ?_)
            · replace hy147 := ip hy147 c176
              refine h_pt rfl rfl rfl rfl  ?_
              refine h_as rfl rfl rfl  ?_
              refine hwp_nilT ?_
              refine hws_nil (by kernel_rfl) ?_
              obtain rfl := sm hy147
              exact ⟨(), _, ⟨rfl, trivial⟩, hB⟩
            · replace hy147 := im hy147 c176
              refine h_pt rfl rfl rfl rfl  ?_
              refine h_as rfl rfl rfl  ?_
              refine hwp_nilT ?_
              refine hws_nil (by kernel_rfl) ?_
              obtain rfl := sm hy147
              exact ⟨(), _, ⟨rfl, trivial⟩, hB⟩
          · replace hy147 := im hy147 c151
            refine h_pt rfl rfl rfl rfl  ?_
            refine h_mv rfl rfl rfl  ?_
            refine h_no rfl rfl rfl rfl rfl ?_
            refine h_no rfl rfl rfl rfl rfl ?_
            refine hwp_nilT ?_
            refine hws_one (i := 8) (by kernel_rfl) rfl ?_
            refine owp_no rfl rfl rfl rfl ?_
            refine owp_loudS ⟨_, hZ⟩ ?_
            refine hws_one (i := 10) (by kernel_rfl) rfl ?_
            refine owp_no rfl rfl rfl rfl ?_
            refine owp_loudS ⟨_, hZ⟩ ?_
            refine hws_one (i := 11) (by kernel_rfl) rfl ?_
            refine owp_no rfl rfl rfl rfl ?_
            refine owp_loudS ⟨_, hZ⟩ ?_
            refine hws_pre (fuel := 0) [(12, true), (13, true), (14, true)] (by kernel_rfl) (by kernel_rfl) (by kernel_rfl) ⟨_, hZ⟩ ?_
            refine h_no rfl rfl rfl rfl rfl ?_
            refine h_pf rfl rfl rfl rfl  ?_
            refine h_as rfl rfl rfl  ?_
            refine hwp_nilT ?_
            refine hws_nil (by kernel_rfl) ?_
            obtain rfl := sm hy147
            exact ⟨(), _, ⟨rfl, trivial⟩, hB⟩
        · replace hy147 := im hy147 c150
          refine h_mv rfl rfl rfl  ?_
          refine h_no rfl rfl rfl rfl rfl ?_
          refine h_no rfl rfl rfl rfl rfl ?_
          refine h_pf rfl rfl rfl rfl  ?_
          refine h_mv rfl rfl rfl  ?_
          refine h_no rfl rfl rfl rfl rfl ?_
          refine h_no rfl rfl rfl rfl rfl ?_
          refine hwp_nilT ?_
          refine hws_one (i := 8) (by kernel_rfl) rfl ?_
          refine owp_no rfl rfl rfl rfl ?_
          refine owp_loudS ⟨_, hZ⟩ ?_
          refine hws_one (i := 10) (by kernel_rfl) rfl ?_
          refine owp_no rfl rfl rfl rfl ?_
          refine owp_loudS ⟨_, hZ⟩ ?_
          refine hws_one (i := 11) (by kernel_rfl) rfl ?_
          refine owp_no rfl rfl rfl rfl ?_
          refine owp_loudS ⟨_, hZ⟩ ?_
          refine hws_pre (fuel := 0) [(12, true), (13, true), (14, true)] (by kernel_rfl) (by kernel_rfl) (by kernel_rfl) ⟨_, hZ⟩ ?_
          refine h_no rfl rfl rfl rfl rfl ?_
          refine h_pf rfl rfl rfl rfl  ?_
          refine h_as rfl rfl rfl  ?_
          refine hwp_nilT ?_
          refine hws_nil (by kernel_rfl) ?_
          obtain rfl := sm hy147
          exact ⟨(), _, ⟨rfl, trivial⟩, hB⟩
      rintro l177 w178 ⟨x149, O179, hs180, hB⟩
      refine ewp_sub _ hs180 ?_
      refine ewp_ret ?_
      obtain rfl := sm hm
      exact ret1v rfl (res_tmp rfl) ⟨hB.ext, vBool⟩
    replace hm := iT hm
    refine o_nt rfl rfl  ?_
    (first | refine owp_nilT ?_ | refine owp_nilB ?_ | refine owp_nilBB ?_ | refine owp_nil ?_)
    refine ewp_false rfl ?_
    refine ewp_skip ?_
    refine ewp_seq ?_
    refine ewp_seq ?_
    obtain ⟨y181, hy182, hm⟩ := bs hm
    refine ewp_join (fun l' w' => ∃ (x184 : Unit) (O' : Lab), subs l' [(1, (.slice A18 x1.length c19)), (2, (.pointer (some ⟨g20, 0, none⟩))), (7, (.pointer p136)), (74, (.bool y181))] ∧ Bs w A w' O' ∧ Vb w' (Fr 0 w' O') (.slice A18 x1.length c19) x1 ∧ Lc 2 w' O' g20 26 [(.slice A7 x0.vars.length c8), (.slice A10 x0.init.length c11), (.slice A13 x0.goal.length c14), (.slice A16 x0.ops.length c17)] ∧ Vb w' (Fr 0 w' O') (.slice A7 x0.vars.length c8) x0.vars ∧ Vb w' (Fr 0 w' O') (.slice A10 x0.init.length c11) x0.init ∧ Vb w' (Fr 0 w' O') (.slice A13 x0.goal.length c14) x0.goal ∧ Vb w' (Fr 0 w' O') (.slice A16 x0.ops.length c17) x0.ops ∧ Vb w' (Fr 0 w' O') (.pointer p136) q125.1) ?_ ?_
    · skip
      refine ewp_region ?_
      refine o_mv rfl rfl  ?_
      refine o_rnS rfl rfl (fun c185 => ?_) fun c185 => ?_
      · replace hy182 := ip hy182 c185
        refine o_mv rfl rfl  ?_
        refine owp_no rfl rfl rfl rfl ?_
        refine owp_no rfl rfl rfl rfl ?_
        refine o_pt rfl rfl rfl  ?_
        (first | refine owp_nilT ?_ | refine owp_nilB ?_ | refine owp_nilBB ?_ | refine owp_nil ?_)
        obtain rfl := sm hy182
        exact ⟨(), _, ⟨rfl, rfl, rfl, rfl, trivial⟩, hB, hx1, h24, h6, h9, h12, h15, h134⟩
      · replace hy182 := im hy182 c185
        refine o_mv rfl rfl  ?_
        refine owp_yes rfl rfl ?_
        refine o_mv rfl rfl  ?_
        refine owp_yes rfl rfl ?_
        refine o_pnS hq137 rfl rfl (fun c186 => ?_) fun c186 => ?_
        · replace hy182 := ip hy182 c186
          refine o_pf rfl rfl rfl  ?_
          (first | refine owp_nilT ?_ | refine owp_nilB ?_ | refine owp_nilBB ?_ | refine owp_nil ?_)
          obtain rfl := sm hy182
          exact ⟨(), _, ⟨rfl, rfl, rfl, rfl, trivial⟩, hB, hx1, h24, h6, h9, h12, h15, h134⟩
        · replace hy182 := im hy182 c186
          refine o_pf rfl rfl rfl  ?_
          (first | refine owp_nilT ?_ | refine owp_nilB ?_ | refine owp_nilBB ?_ | refine owp_nil ?_)
          obtain rfl := sm hy182
          exact ⟨(), _, ⟨rfl, rfl, rfl, rfl, trivial⟩, hB, hx1, h24, h6, h9, h12, h15, h134⟩
    rintro l187 w188 ⟨x184, O189, hs190, hB, hx1, h24, h6, h9, h12, h15, h134⟩
    refine ewp_sub _ hs190 ?_
    refine ewp_cond rfl (fun c191 => ?_) (fun c191 => ?_)
    · replace hm := ip hm c191
      refine ewp_seq ?_
      refine ewp_region ?_
      refine o_as rfl rfl  ?_
      (first | refine owp_nilT ?_ | refine owp_nilB ?_ | refine owp_nilBB ?_ | refine owp_nil ?_)
      refine ewp_ret ?_
      obtain rfl := sm hm
      exact ret1v rfl (res_tmp rfl) ⟨hB.ext, vBool⟩
    · replace hm := im' hm c191
      refine ewp_skip ?_
      refine ewp_seq ?_
      refine ewp_seq ?_
      refine ewp_region ?_
      refine o_fa rfl rfl  ?_
      refine o_ld (hc := Blk.cell (i := 0) (h24.1) rfl) rfl rfl  ?_
      refine o_mv rfl rfl  ?_
      obtain ⟨q192, e193, hm⟩ := bs hm
      refine l_callA (O := O189) (A := All w188) (R := fun w' F v => Vb w' F v q192) (c_base_State (fun _ h => h) (Vb.mono (F := Fr 0 w188 O189) h6 Fr.lt) (Vb.mono (F := Fr 0 w188 O189) hx1 Fr.lt) e193) rfl rfl fun v198 w194 O195 S196 h197 => ?_
      obtain rfl := h197.bool
      replace hB := hB.st S196 (fun h => h) (fun h => h)
      replace hx1 := hx1.st S196 (fun h => h)
      replace h24 := h24.st S196 (fun h => h)
      replace h6 := h6.st S196 (fun h => h)
      replace h9 := h9.st S196 (fun h => h)
      replace h12 := h12.st S196 (fun h => h)
      replace h15 := h15.st S196 (fun h => h)
      replace h134 := h134.st S196 (fun h => h)
      cases q192
      case false =>
        replace hm := iF hm
        (first | refine owp_nilT ?_ | refine owp_nilB ?_ | refine owp_nilBB ?_ | refine owp_nil ?_)
        refine ewp_false rfl ?_
        refine ewp_skip ?_
        refine ewp_seq ?_
        obtain ⟨y199, hy200, hm⟩ := bs hm
        refine ewp_join (fun l' w' => ∃ (x202 : Unit) (O' : Lab), subs l' [(4, (.bool y199))] ∧ Bs w A w' O') ?_ ?_
        · skip
          refine ewp_region ?_
          refine o_mv rfl rfl  ?_
          refine o_mv rfl rfl  ?_
          obtain ⟨q203, e204, hy200⟩ := bs hy200
          refine l_callRow 6 (by decide) (O := O195) (c_succgen_Generator_Applicable Fr.lt h134 hx1 e204) rfl rfl fun A210 c211 w205 O206 S207 h208 => ?_
          replace hB := hB.st S207 (fun h => h) (fun h => h)
          replace hx1 := hx1.st S207 (fun h => h)
          replace h134 := h134.st S207 (fun h => h)
          refine o_ln rfl rfl  ?_
          have l214 : q203.length ≤ 9223372036854775807 := Nat.le_trans h208.len.2.1 h208.len.2.2
          have r213 : inI64 (q203.length : Int) := rngNat l214
          refine o_eeS rfl rfl rfl (fun c215 => ?_) fun c215 => ?_
          · replace hy200 := ip hy200 c215
            refine o_mv rfl rfl  ?_
            refine owp_yes rfl rfl ?_
            refine o_mv rfl rfl  ?_
            refine owp_yes rfl rfl ?_
            refine o_mv rfl rfl  ?_
            refine owp_yes rfl rfl ?_
            obtain ⟨q216, e217, hy200⟩ := bs hy200
            refine l_callA (O := O206) (A := All w205) (R := fun w' F v => Vb w' F v q216) (c_succgen_Generator_Count (fun _ h => h) (Vb.mono (F := Fr 0 w205 O206) h134 Fr.lt) (Vb.mono (F := Fr 0 w205 O206) hx1 Fr.lt) e217) rfl rfl fun v222 w218 O219 S220 h221 => ?_
            obtain ⟨rfl, r223⟩ := h221.int
            replace hB := hB.st S220 (fun h => h) (fun h => h)
            replace hx1 := hx1.st S220 (fun h => h)
            replace h134 := h134.st S220 (fun h => h)
            refine owp_yes rfl rfl ?_
            refine o_eeS rfl rfl rfl (fun c224 => ?_) fun c224 => ?_
            · replace hy200 := ip hy200 c224
              refine o_pt rfl rfl rfl  ?_
              refine o_mv rfl rfl  ?_
              refine owp_yes rfl rfl ?_
              refine o_mv rfl rfl  ?_
              refine owp_yes rfl rfl ?_
              refine o_mv rfl rfl  ?_
              refine owp_yes rfl rfl ?_
              obtain ⟨q225, e226, hy200⟩ := bs hy200
              refine l_call (O := O219) (R := fun w' F v => Vb w' F v q225) (c_succgen_Generator_Successors Fr.lt h134 hx1 e226) rfl rfl fun v231 w227 O228 S229 h230 => ?_
              obtain ⟨A232, c233, rfl⟩ := h230.form
              replace hB := hB.st S229 (fun h => h) (fun h => h)
              replace hx1 := hx1.st S229 (fun h => h)
              replace h134 := h134.st S229 (fun h => h)
              refine owp_yes rfl rfl ?_
              refine o_ln rfl rfl  ?_
              have l235 : q225.length ≤ 9223372036854775807 := Nat.le_trans h230.len.2.1 h230.len.2.2
              have r234 : inI64 (q225.length : Int) := rngNat l235
              refine owp_yes rfl rfl ?_
              refine o_eeS rfl rfl rfl (fun c236 => ?_) fun c236 => ?_
              · replace hy200 := ip hy200 c236
                refine o_pt rfl rfl rfl  ?_
                refine o_mv rfl rfl  ?_
                refine owp_yes rfl rfl ?_
                refine o_mv rfl rfl  ?_
                refine owp_yes rfl rfl ?_
                refine o_mv rfl rfl  ?_
                refine owp_yes rfl rfl ?_
                obtain ⟨q237, e238, hy200⟩ := bs hy200
                refine l_callA (O := O228) (A := All w227) (R := fun w' F v => Vb w' F v q237) (c_succgen_Generator_Tests (fun _ h => h) (Vb.mono (F := Fr 0 w227 O228) h134 Fr.lt) (Vb.mono (F := Fr 0 w227 O228) hx1 Fr.lt) e238) rfl rfl fun v243 w239 O240 S241 h242 => ?_
                obtain ⟨rfl, r244⟩ := h242.int
                replace hB := hB.st S241 (fun h => h) (fun h => h)
                refine owp_yes rfl rfl ?_
                refine o_eeS rfl rfl rfl (fun c245 => ?_) fun c245 => ?_
                · replace hy200 := ip hy200 c245
                  refine o_pt rfl rfl rfl  ?_
                  refine o_as rfl rfl  ?_
                  (first | refine owp_nilT ?_ | refine owp_nilB ?_ | refine owp_nilBB ?_ | refine owp_nil ?_)
                  obtain rfl := sm hy200
                  exact ⟨(), _, ⟨rfl, trivial⟩, hB⟩
                · replace hy200 := im hy200 c245
                  refine o_pt rfl rfl rfl  ?_
                  refine o_as rfl rfl  ?_
                  (first | refine owp_nilT ?_ | refine owp_nilB ?_ | refine owp_nilBB ?_ | refine owp_nil ?_)
                  obtain rfl := sm hy200
                  exact ⟨(), _, ⟨rfl, trivial⟩, hB⟩
              · replace hy200 := im hy200 c236
                refine o_pt rfl rfl rfl  ?_
                refine o_mv rfl rfl  ?_
                refine owp_no rfl rfl rfl rfl ?_
                refine owp_no rfl rfl rfl rfl ?_
                refine owp_no rfl rfl rfl rfl ?_
                refine owp_no rfl rfl rfl rfl ?_
                refine o_pf rfl rfl rfl  ?_
                refine o_as rfl rfl  ?_
                (first | refine owp_nilT ?_ | refine owp_nilB ?_ | refine owp_nilBB ?_ | refine owp_nil ?_)
                obtain rfl := sm hy200
                exact ⟨(), _, ⟨rfl, trivial⟩, hB⟩
            · replace hy200 := im hy200 c224
              refine o_pt rfl rfl rfl  ?_
              refine o_mv rfl rfl  ?_
              refine owp_no rfl rfl rfl rfl ?_
              refine owp_no rfl rfl rfl rfl ?_
              refine owp_no rfl rfl rfl rfl ?_
              refine owp_no rfl rfl rfl rfl ?_
              refine owp_no rfl rfl rfl rfl ?_
              refine o_pf rfl rfl rfl  ?_
              refine o_mv rfl rfl  ?_
              refine owp_no rfl rfl rfl rfl ?_
              refine owp_no rfl rfl rfl rfl ?_
              refine owp_no rfl rfl rfl rfl ?_
              refine owp_no rfl rfl rfl rfl ?_
              refine o_pf rfl rfl rfl  ?_
              refine o_as rfl rfl  ?_
              (first | refine owp_nilT ?_ | refine owp_nilB ?_ | refine owp_nilBB ?_ | refine owp_nil ?_)
              obtain rfl := sm hy200
              exact ⟨(), _, ⟨rfl, trivial⟩, hB⟩
          · replace hy200 := im hy200 c215
            refine o_mv rfl rfl  ?_
            refine owp_no rfl rfl rfl rfl ?_
            refine owp_no rfl rfl rfl rfl ?_
            refine owp_no rfl rfl rfl rfl ?_
            refine owp_no rfl rfl rfl rfl ?_
            refine o_pf rfl rfl rfl  ?_
            refine o_mv rfl rfl  ?_
            refine owp_no rfl rfl rfl rfl ?_
            refine owp_no rfl rfl rfl rfl ?_
            refine owp_no rfl rfl rfl rfl ?_
            refine owp_no rfl rfl rfl rfl ?_
            refine owp_no rfl rfl rfl rfl ?_
            refine o_pf rfl rfl rfl  ?_
            refine o_mv rfl rfl  ?_
            refine owp_no rfl rfl rfl rfl ?_
            refine owp_no rfl rfl rfl rfl ?_
            refine owp_no rfl rfl rfl rfl ?_
            refine owp_no rfl rfl rfl rfl ?_
            refine o_pf rfl rfl rfl  ?_
            refine o_as rfl rfl  ?_
            (first | refine owp_nilT ?_ | refine owp_nilB ?_ | refine owp_nilBB ?_ | refine owp_nil ?_)
            obtain rfl := sm hy200
            exact ⟨(), _, ⟨rfl, trivial⟩, hB⟩
        rintro l246 w247 ⟨x202, O248, hs249, hB⟩
        refine ewp_sub _ hs249 ?_
        refine ewp_ret ?_
        obtain rfl := sm hm
        exact ret1v rfl (res_tmp rfl) ⟨hB.ext, vBool⟩
      replace hm := iT hm
      (first | refine owp_nilT ?_ | refine owp_nilB ?_ | refine owp_nilBB ?_ | refine owp_nil ?_)
      refine ewp_true rfl ?_
      refine ewp_seq ?_
      obtain ⟨y250, hy251, hm⟩ := bs hm
      refine ewp_join (fun l' w' => ∃ (x253 : Unit) (O' : Lab), subs l' [(4, (.bool y250))] ∧ Bs w A w' O') ?_ ?_
      · skip
        have hZ := St.refl (nT) w194 O195
        have zhx1 := hx1
        have zh24 := h24
        have zh6 := h6
        have zh9 := h9
        have zh12 := h12
        have zh15 := h15
        have zh134 := h134
        refine ewp_drawS (fun w' => ∃ O', St (nT) w194 O195 w' O') ?_
        refine hws_pre (fuel := 4) [(0, true), (1, true), (3, true), (4, true)] (by kernel_rfl) (by kernel_rfl) (by kernel_rfl) ⟨_, hZ⟩ ?_
        refine h_mv rfl rfl rfl  ?_
        refine h_mv rfl rfl rfl  ?_
        refine h_laB (hl := rfl) (hb := fun w' ⟨O', hq⟩ => ((zh24.st hq (by decide)).1).cellsAt) rfl rfl rfl  ?_
        refine h_mv rfl rfl rfl  ?_
        refine hwp_nilT ?_
        refine hws_one (i := 2) (by kernel_rfl) rfl ?_
        obtain ⟨q254, e255, hy251⟩ := bs hy251
        refine l_callRow 4 (by decide) (O := O195) (c_succgen_Generator_Applicable Fr.lt h134 hx1 e255) rfl rfl fun A261 c262 w256 O257 S258 h259 => ?_
        replace hZ := hZ.comp S258 (fun _ h => h.elim)
        replace hB := hB.st S258 (fun h => h) (fun h => h)
        replace h6 := h6.st S258 (fun h => h)
        replace h9 := h9.st S258 (fun h => h)
        replace h12 := h12.st S258 (fun h => h)
        replace h15 := h15.st S258 (fun h => h)
        replace hx1 := hx1.st S258 (fun h => h)
        refine owp_loudS ⟨_, hZ⟩ ?_
        refine hws_one (i := 5) (by kernel_rfl) rfl ?_
        obtain ⟨q264, e265, hy251⟩ := bs hy251
        refine l_callRow 5 (by decide) (O := O257) (c_ref24_Applicable Fr.lt (Vb.ofAgg (cs := [(.slice A7 x0.vars.length c8), (.slice A10 x0.init.length c11), (.slice A13 x0.goal.length c14), (.slice A16 x0.ops.length c17)]) (x := x0) rfl ⟨_, _, _, _, rfl, h6, h9, h12, h15⟩) hx1 e265) rfl rfl fun A271 c272 w266 O267 S268 h269 => ?_
        replace hZ := hZ.comp S268 (fun _ h => h.elim)
        replace hB := hB.st S268 (fun h => h) (fun h => h)
        replace h259 := h259.st S268 (fun h => h) (fun h => h)
        refine owp_loudS ⟨_, hZ⟩ ?_
        refine hws_one (i := 6) (by kernel_rfl) rfl ?_
        obtain ⟨q274, e275, hy251⟩ := bs hy251
        refine l_callA (O := O267) (A := All w266) (R := fun w' F v => Vb w' F v q274) (c_base_Ints (fun _ h => h) (h259).all (h269).all e275) rfl rfl fun v280 w276 O277 S278 h279 => ?_
        obtain rfl := h279.bool
        replace hZ := hZ.comp S278 (fun _ h => h.elim)
        replace hB := hB.st S278 (fun h => h) (fun h => h)
        cases q274
        case false =>
          replace hy251 := iF hy251
          refine owp_loudS ⟨_, hZ⟩ ?_
          refine hws_pre (fuel := 0) [(7, true)] (by kernel_rfl) (by kernel_rfl) (by kernel_rfl) ⟨_, hZ⟩ ?_
          refine h_as rfl rfl rfl  ?_
          refine hwp_nilT ?_
          refine hws_nil (by kernel_rfl) ?_
          obtain rfl := sm hy251
          exact ⟨(), _, ⟨rfl, trivial⟩, hB⟩
        replace hy251 := iT hy251
        refine owp_loudS ⟨_, hZ⟩ ?_
        refine hws_pre (fuel := 0) [(7, true)] (by kernel_rfl) (by kernel_rfl) (by kernel_rfl) ⟨_, hZ⟩ ?_
        refine h_as rfl rfl rfl  ?_
        refine hwp_nilT ?_
        refine hws_nil (by kernel_rfl) ?_
        obtain rfl := sm hy251
        exact ⟨(), _, ⟨rfl, trivial⟩, hB⟩
      rintro l281 w282 ⟨x253, O283, hs284, hB⟩
      refine ewp_sub _ hs284 ?_
      refine ewp_ret ?_
      obtain rfl := sm hm
      exact ret1v rfl (res_tmp rfl) ⟨hB.ext, vBool⟩
noncomputable def m_law24_SuccgenOrders (x0 : Tsk) (x1 : Byt) : Option Bool :=
  bnd (bnd (m_base_Small x0) fun q27 => if q27 = true then if (x0.ops.length : Int) = 0 then (some true) else (bnd (m_law24_awake) fun q37 => if q37 = true then some false else some true) else some true : Option Bool) fun y23 => if y23 = true then (bnd (bnd (m_law24_awake) fun q53 => if q53 = true then some true else some false : Option Bool) fun y49 => some y49) else (bnd (remI x1.n (x0.ops.length : Int)) fun n66 => bnd (cutI x0.ops n66 (x0.ops.length : Int)) fun u76 => bnd (cutI x0.ops 0 n66) fun u82 => bnd (appI 72 ([] : List Opr) u76) fun u94 => bnd (appI 72 u94 u82) fun u105 => bnd (m_succgen_New x0) fun q118 => bnd (m_succgen_New (⟨x0.vars, x0.init, x0.goal, u105⟩ : Tsk)) fun q134 => bnd (if q118.2.n ≠ 0 then (some true) else (if q134.2.n ≠ 0 then (some true) else (some false)) : Option Bool) fun y148 => if y148 = true then (some false) else (bnd (m_base_States x0.vars) fun q159 => bnd (rng (ρ := Bool) (fun (k174 : Nat) (a175 : List Int) (s172 : Unit) => bnd (mkI 1 (false : Bool) (x0.ops.length : Int)) fun u196 => bnd (m_succgen_Generator_Applicable q118.1 a175) fun q209 => bnd (rng (ρ := Ctl Unit Bool) (fun (k225 : Nat) (a226 : Int) (s223 : (List Bool)) => bnd (if a226 < 0 then (some true) else (if (s223.length : Int) ≤ a226 then (some true) else (some false)) : Option Bool) fun y246 => if y246 = true then (some (.ret (.ret false))) else (bnd (atI s223 a226) fun a259 => some (.next (s223.set (a226).toNat true)))) q209 0 u196) fun res221 => fin res221 fun (s276 : (List Bool)) => bnd (m_succgen_Generator_Applicable q134.1 a175) fun q278 => bnd (rng (ρ := Ctl Unit Bool) (fun (k294 : Nat) (a295 : Int) (s292 : Int) => bnd (if a295 < 0 then (some true) else (if (s276.length : Int) ≤ a295 then (some true) else (bnd (chkI (a295 + n66)) fun n321 => bnd (remI n321 (s276.length : Int)) fun n326 => bnd (atI s276 n326) fun a329 => some (!a329))) : Option Bool) fun y313 => if y313 = true then (some (.ret (.ret false))) else (bnd (chkI (s292 + 1)) fun n345 => some (.next n345))) q278 0 0) fun res290 => fin res290 fun (s352 : Int) => bnd (m_succgen_Generator_Count q118.1 a175) fun q354 => if s352 ≠ q354 then (some (.ret false)) else (some (.next ()))) q159 0 ()) fun res170 => fin res170 fun (s367 : Unit) => some true))
theorem c_law24_SuccgenOrders {w : World} {A : Nat → Prop} (hA : ∀ k, A k → k < w.heap.size) {vx0 : Value} {x0 : Tsk} (hx0 : Vb w A vx0 x0) {x1 : Byt} {r : Bool} (hm : m_law24_SuccgenOrders x0 x1 = some r) :
    Fn Try.prog 5 [vx0, (.int .u8 x1.n)] w fun v w' => Ext w w' ∧ Vb w' (upA A w w') v r := by
  obtain ⟨O, hB, hA0⟩ := enter hA
  replace hx0 := hx0.mono hA0
  obtain ⟨cs1, rfl, v2, v3, v4, v5, rfl, h6, h9, h12, h15⟩ := hx0
  obtain ⟨A7, c8, rfl⟩ := h6.form
  obtain ⟨A10, c11, rfl⟩ := h9.form
  obtain ⟨A13, c14, rfl⟩ := h12.form
  obtain ⟨A16, c17, rfl⟩ := h15.form
  refine fn_enter Try.func5 rfl Try.ntmps5 rfl ?_
  unfold m_law24_SuccgenOrders at hm
  refine ewp_seq ?_
  refine ewp_region ?_
  refine l_box 2 O rfl rfl fun g18 w19 O20 S21 h22 => ?_
  replace h22 : Lc 2 w19 O20 g18 26 [(.slice A7 x0.vars.length c8), (.slice A10 x0.init.length c11), (.slice A13 x0.goal.length c14), (.slice A16 x0.ops.length c17)] := h22
  replace hB := hB.st S21 (fun h => h) (fun h => h)
  replace h6 := h6.st S21 (fun h => h)
  replace h9 := h9.st S21 (fun h => h)
  replace h12 := h12.st S21 (fun h => h)
  replace h15 := h15.st S21 (fun h => h)
  refine o_as rfl rfl  ?_
  (first | refine owp_nilT ?_ | refine owp_nilB ?_ | refine owp_nilBB ?_ | refine owp_nil ?_)
  refine ewp_seq ?_
  refine ewp_seq ?_
  obtain ⟨y23, hy24, hm⟩ := bs hm
  refine ewp_join (fun l' w' => ∃ (x26 : Unit) (O' : Lab), subs l' [(1, (.int .u8 x1.n)), (2, (.pointer (some ⟨g18, 0, none⟩))), (31, (.bool y23))] ∧ Bs w A w' O' ∧ Lc 2 w' O' g18 26 [(.slice A7 x0.vars.length c8), (.slice A10 x0.init.length c11), (.slice A13 x0.goal.length c14), (.slice A16 x0.ops.length c17)] ∧ Vb w' (Fr 0 w' O') (.slice A7 x0.vars.length c8) x0.vars ∧ Vb w' (Fr 0 w' O') (.slice A10 x0.init.length c11) x0.init ∧ Vb w' (Fr 0 w' O') (.slice A13 x0.goal.length c14) x0.goal ∧ Vb w' (Fr 0 w' O') (.slice A16 x0.ops.length c17) x0.ops) ?_ ?_
  · skip
    refine ewp_region ?_
    refine o_la (hl := rfl) (hc := (h22.1).cellsAt) rfl rfl  ?_
    obtain ⟨q27, e28, hy24⟩ := bs hy24
    refine l_callA (O := O20) (A := All w19) (R := fun w' F v => Vb w' F v q27) (c_base_Small (fun _ h => h) (Vb.mono (F := Fr 0 w19 O20) (Vb.ofAgg (cs := [(.slice A7 x0.vars.length c8), (.slice A10 x0.init.length c11), (.slice A13 x0.goal.length c14), (.slice A16 x0.ops.length c17)]) (x := x0) rfl ⟨_, _, _, _, rfl, h6, h9, h12, h15⟩) Fr.lt) e28) rfl rfl fun v33 w29 O30 S31 h32 => ?_
    obtain rfl := h32.bool
    replace hB := hB.st S31 (fun h => h) (fun h => h)
    replace h22 := h22.st S31 (fun h => h)
    replace h6 := h6.st S31 (fun h => h)
    replace h9 := h9.st S31 (fun h => h)
    replace h12 := h12.st S31 (fun h => h)
    replace h15 := h15.st S31 (fun h => h)
    cases q27
    case false =>
      replace hy24 := iF hy24
      refine o_nf rfl rfl  ?_
      refine o_mv rfl rfl  ?_
      refine owp_no rfl rfl rfl rfl ?_
      refine owp_no rfl rfl rfl rfl ?_
      refine owp_no rfl rfl rfl rfl ?_
      refine owp_no rfl rfl rfl rfl ?_
      refine o_pt rfl rfl rfl  ?_
      refine o_mv rfl rfl  ?_
      refine owp_no rfl rfl rfl rfl ?_
      refine owp_no rfl rfl rfl rfl ?_
      refine o_pt rfl rfl rfl  ?_
      (first | refine owp_nilT ?_ | refine owp_nilB ?_ | refine owp_nilBB ?_ | refine owp_nil ?_)
      obtain rfl := sm hy24
      exact ⟨(), _, ⟨rfl, rfl, rfl, trivial⟩, hB, h22, h6, h9, h12, h15⟩
    replace hy24 := iT hy24
    refine o_nt rfl rfl  ?_
    refine o_mv rfl rfl  ?_
    refine owp_yes rfl rfl ?_
    refine o_fa rfl rfl  ?_
    refine owp_yes rfl rfl ?_
    refine o_ld (hc := Blk.cell (i := 3) (h22.1) rfl) rfl rfl  ?_
    refine owp_yes rfl rfl ?_
    refine o_ln rfl rfl  ?_
    have l35 : x0.ops.length ≤ 9223372036854775807 := Nat.le_trans h15.len.2.1 h15.len.2.2
    have r34 : inI64 (x0.ops.length : Int) := rngNat l35
    refine owp_yes rfl rfl ?_
    refine o_eeS rfl rfl rfl (fun c36 => ?_) fun c36 => ?_
    · replace hy24 := ip hy24 c36
      refine o_pf rfl rfl rfl  ?_
      refine o_mv rfl rfl  ?_
      refine owp_no rfl rfl rfl rfl ?_
      refine owp_no rfl rfl rfl rfl ?_
      refine o_pt rfl rfl rfl  ?_
      (first | refine owp_nilT ?_ | refine owp_nilB ?_ | refine owp_nilBB ?_ | refine owp_nil ?_)
      obtain rfl := sm hy24
      exact ⟨(), _, ⟨rfl, rfl, rfl, trivial⟩, hB, h22, h6, h9, h12, h15⟩
    · replace hy24 := im hy24 c36
      refine o_pf rfl rfl rfl  ?_
      refine o_mv rfl rfl  ?_
      refine owp_yes rfl rfl ?_
      obtain ⟨q37, e38, hy24⟩ := bs hy24
      refine l_callA (O := O30) (A := All w29) (R := fun w' F v => Vb w' F v q37) (c_law24_awake (fun _ h => h)  e38) rfl rfl fun v43 w39 O40 S41 h42 => ?_
      obtain rfl := h42.bool
      replace hB := hB.st S41 (fun h => h) (fun h => h)
      replace h22 := h22.st S41 (fun h => h)
      replace h6 := h6.st S41 (fun h => h)
      replace h9 := h9.st S41 (fun h => h)
      replace h12 := h12.st S41 (fun h => h)
      replace h15 := h15.st S41 (fun h => h)
      cases q37
      case false =>
        replace hy24 := iF hy24
        refine owp_yes rfl rfl ?_
        refine o_nf rfl rfl  ?_
        refine o_pf rfl rfl rfl  ?_
        (first | refine owp_nilT ?_ | refine owp_nilB ?_ | refine owp_nilBB ?_ | refine owp_nil ?_)
        obtain rfl := sm hy24
        exact ⟨(), _, ⟨rfl, rfl, rfl, trivial⟩, hB, h22, h6, h9, h12, h15⟩
      replace hy24 := iT hy24
      refine owp_yes rfl rfl ?_
      refine o_nt rfl rfl  ?_
      refine o_pf rfl rfl rfl  ?_
      (first | refine owp_nilT ?_ | refine owp_nilB ?_ | refine owp_nilBB ?_ | refine owp_nil ?_)
      obtain rfl := sm hy24
      exact ⟨(), _, ⟨rfl, rfl, rfl, trivial⟩, hB, h22, h6, h9, h12, h15⟩
  rintro l44 w45 ⟨x26, O46, hs47, hB, h22, h6, h9, h12, h15⟩
  refine ewp_sub _ hs47 ?_
  refine ewp_cond rfl (fun c48 => ?_) (fun c48 => ?_)
  · replace hm := ip hm c48
    refine ewp_seq ?_
    obtain ⟨y49, hy50, hm⟩ := bs hm
    refine ewp_join (fun l' w' => ∃ (x52 : Unit) (O' : Lab), subs l' [(4, (.bool y49))] ∧ Bs w A w' O') ?_ ?_
    · skip
      refine ewp_region ?_
      obtain ⟨q53, e54, hy50⟩ := bs hy50
      refine l_callA (O := O46) (A := All w45) (R := fun w' F v => Vb w' F v q53) (c_law24_awake (fun _ h => h)  e54) rfl rfl fun v59 w55 O56 S57 h58 => ?_
      obtain rfl := h58.bool
      replace hB := hB.st S57 (fun h => h) (fun h => h)
      cases q53
      case false =>
        replace hy50 := iF hy50
        refine o_as rfl rfl  ?_
        (first | refine owp_nilT ?_ | refine owp_nilB ?_ | refine owp_nilBB ?_ | refine owp_nil ?_)
        obtain rfl := sm hy50
        exact ⟨(), _, ⟨rfl, trivial⟩, hB⟩
      replace hy50 := iT hy50
      refine o_as rfl rfl  ?_
      (first | refine owp_nilT ?_ | refine owp_nilB ?_ | refine owp_nilBB ?_ | refine owp_nil ?_)
      obtain rfl := sm hy50
      exact ⟨(), _, ⟨rfl, trivial⟩, hB⟩
    rintro l60 w61 ⟨x52, O62, hs63, hB⟩
    refine ewp_sub _ hs63 ?_
    refine ewp_ret ?_
    obtain rfl := sm hm
    exact ret1v rfl (res_tmp rfl) ⟨hB.ext, vBool⟩
  · replace hm := im' hm c48
    refine ewp_skip ?_
    refine ewp_seq ?_
    refine ewp_region ?_
    refine o_mv rfl rfl  ?_
    refine o_cv (hr := (x1.rng)) rfl rfl  ?_
    refine o_fa rfl rfl  ?_
    refine o_ld (hc := Blk.cell (i := 3) (h22.1) rfl) rfl rfl  ?_
    refine o_ln rfl rfl  ?_
    have l65 : x0.ops.length ≤ 9223372036854775807 := Nat.le_trans h15.len.2.1 h15.len.2.2
    have r64 : inI64 (x0.ops.length : Int) := rngNat l65
    obtain ⟨n66, e67, hm⟩ := bs hm
    have r68 := remI_in e67 (x1.rng)
    refine o_rmE (he := e67) rfl rfl rfl  ?_
    refine o_as rfl rfl  ?_
    (first | refine owp_nilT ?_ | refine owp_nilB ?_ | refine owp_nilBB ?_ | refine owp_nil ?_)
    refine ewp_seq ?_
    refine ewp_region ?_
    refine o_la (hl := rfl) (hc := (h22.1).cellsAt) rfl rfl  ?_
    refine l_alloc 3 O46 rfl fun g69 w70 O71 S72 h73 => ?_
    replace hB := hB.st S72 (fun h => h) (fun h => h)
    replace h22 := h22.st S72 (fun h => h)
    replace h6 := h6.st S72 (fun h => h)
    replace h9 := h9.st S72 (fun h => h)
    replace h12 := h12.st S72 (fun h => h)
    replace h15 := h15.st S72 (fun h => h)
    refine l_store h73 rfl rfl rfl (Nat.le_of_ble_eq_true rfl) (by first | exact allOne rfl | simp [Value.cells, Value.oneCell', errV_one]) fun w74 S75 h73 => ?_
    replace h73 : Lc 3 w74 O71 g69 26 [(.slice A7 x0.vars.length c8), (.slice A10 x0.init.length c11), (.slice A13 x0.goal.length c14), (.slice A16 x0.ops.length c17)] := h73
    replace hB := hB.st S75 (by decide) (by decide)
    replace h22 := h22.st S75 (by decide)
    replace h6 := h6.st S75 (by decide)
    replace h9 := h9.st S75 (by decide)
    replace h12 := h12.st S75 (by decide)
    replace h15 := h15.st S75 (by decide)
    (first | refine owp_nilT ?_ | refine owp_nilB ?_ | refine owp_nilBB ?_ | refine owp_nil ?_)
    refine ewp_seq ?_
    have hZ := St.refl (fun k => k = 3 ∨ k = 4) w74 O71
    have zh22 := h22
    have zh6 := h6
    have zh9 := h9
    have zh12 := h12
    have zh15 := h15
    have zh73 := h73
    refine ewp_drawS (fun w' => ∃ O', St (fun k => k = 3 ∨ k = 4) w74 O71 w' O') ?_
    refine hws_pre (fuel := 5) [(1, true), (2, true), (3, true), (4, true), (6, true), (7, true), (8, true), (9, true)] (by kernel_rfl) (by kernel_rfl) (by kernel_rfl) ⟨_, hZ⟩ ?_
    refine h_fa rfl rfl rfl  ?_
    refine h_ldC (hc := fun w' ⟨O', hq⟩ => Blk.cell (i := 3) ((zh22.st hq (by decide)).1) rfl) rfl rfl rfl  ?_
    refine h_mv rfl rfl rfl  ?_
    obtain ⟨u76, e77, hm⟩ := bs hm
    obtain ⟨A78, c79, h80, e81⟩ := cutB h15 e77
    refine h_cutL (hc := e81) rfl rfl rfl rfl  ?_
    refine h_fa rfl rfl rfl  ?_
    refine h_ldC (hc := fun w' ⟨O', hq⟩ => Blk.cell (i := 3) ((zh22.st hq (by decide)).1) rfl) rfl rfl rfl  ?_
    refine h_mv rfl rfl rfl  ?_
    obtain ⟨u82, e83, hm⟩ := bs hm
    obtain ⟨A84, c85, h86, e87⟩ := cutB h15 e83
    refine h_cutH (hc := e87) rfl rfl rfl rfl  ?_
    refine hwp_nilT ?_
    refine hws_one (i := 0) (by kernel_rfl) rfl ?_
    refine l_bslice 4 (by decide) O71 (xs := (([] : List Opr) : List Opr)) rfl rfl rfl rfl trivial (by decide) (by decide) rfl fun g88 w89 O90 S91 h92 => ?_
    replace hZ := hZ.comp S91 (fun _ h => h.elim)
    replace hB := hB.st S91 (fun h => h) (fun h => h)
    replace h22 := h22.st S91 (fun h => h)
    replace h6 := h6.st S91 (fun h => h)
    replace h9 := h9.st S91 (fun h => h)
    replace h12 := h12.st S91 (fun h => h)
    replace h15 := h15.st S91 (fun h => h)
    replace h73 := h73.st S91 (fun h => h)
    replace h80 := h80.st S91 (fun h => h)
    replace h86 := h86.st S91 (fun h => h)
    refine owp_loudS ⟨_, hZ⟩ ?_
    refine hws_one (i := 5) (by kernel_rfl) rfl ?_
    obtain ⟨u94, e95, hm⟩ := bs hm
    obtain ⟨e95, e96, e97⟩ := appI_some e95
    refine l_append rfl h92 (h80.rd) rfl rfl (by decide) e96 e97 rfl fun A98 c99 w100 O101 S102 h103 => ?_
    rw [← e95] at h103 ⊢
    replace hZ := hZ.comp S102 (fun _ h => by cases h; decide)
    replace hB := hB.st S102 (by decide) (by decide)
    replace h22 := h22.st S102 (by decide)
    replace h6 := h6.st S102 (by decide)
    replace h9 := h9.st S102 (by decide)
    replace h12 := h12.st S102 (by decide)
    replace h15 := h15.st S102 (by decide)
    replace h73 := h73.st S102 (by decide)
    replace h86 := h86.st S102 (by decide)
    refine owp_loudS ⟨_, hZ⟩ ?_
    refine hws_one (i := 10) (by kernel_rfl) rfl ?_
    obtain ⟨u105, e106, hm⟩ := bs hm
    obtain ⟨e106, e107, e108⟩ := appI_some e106
    refine l_append rfl h103 (h86.rd) rfl rfl (by decide) e107 e108 rfl fun A109 c110 w111 O112 S113 h114 => ?_
    rw [← e106] at h114 ⊢
    replace hZ := hZ.comp S113 (fun _ h => by cases h; decide)
    replace hB := hB.st S113 (by decide) (by decide)
    replace h22 := h22.st S113 (by decide)
    replace h6 := h6.st S113 (by decide)
    replace h9 := h9.st S113 (by decide)
    replace h12 := h12.st S113 (by decide)
    replace h15 := h15.st S113 (by decide)
    replace h73 := h73.st S113 (by decide)
    refine owp_loudS ⟨_, hZ⟩ ?_
    refine hws_pre (fuel := 1) [(11, true)] (by kernel_rfl) (by kernel_rfl) (by kernel_rfl) ⟨_, hZ⟩ ?_
    refine h_fa rfl rfl rfl  ?_
    refine hwp_nilT ?_
    refine hws_one (i := 12) (by kernel_rfl) rfl ?_
    refine l_store h73 rfl rfl rfl (Nat.le_of_ble_eq_true rfl) (by first | exact allOne rfl | simp [Value.cells, Value.oneCell', errV_one]) fun w116 S117 h73 => ?_
    replace h73 : Lc 3 w116 O112 g69 26 [(.slice A7 x0.vars.length c8), (.slice A10 x0.init.length c11), (.slice A13 x0.goal.length c14), (.slice A109 u105.length c110)] := h73
    replace hZ := hZ.comp S117 (fun _ h => by cases h; decide)
    replace hB := hB.st S117 (by decide) (by decide)
    replace h22 := h22.st S117 (by decide)
    replace h6 := h6.st S117 (by decide)
    replace h9 := h9.st S117 (by decide)
    replace h12 := h12.st S117 (by decide)
    replace h15 := h15.st S117 (by decide)
    replace h114 := h114.st S117 (by decide) (by decide)
    refine owp_loudS ⟨_, hZ⟩ ?_
    refine hws_nil (by kernel_rfl) ?_
    refine ewp_seq ?_
    refine ewp_region ?_
    refine o_la (hl := rfl) (hc := (h22.1).cellsAt) rfl rfl  ?_
    obtain ⟨q118, e119, hm⟩ := bs hm
    refine l_call (O := O112) (R := fun w' F v => T2 w' F v q118) (c_succgen_New Fr.lt (Vb.ofAgg (cs := [(.slice A7 x0.vars.length c8), (.slice A10 x0.init.length c11), (.slice A13 x0.goal.length c14), (.slice A16 x0.ops.length c17)]) (x := x0) rfl ⟨_, _, _, _, rfl, h6, h9, h12, h15⟩) e119) rfl rfl fun v124 w120 O121 S122 h123 => ?_
    obtain ⟨v125, v126, rfl, h127, h128⟩ := h123
    obtain ⟨p129, rfl, hq130⟩ := h127.ptr
    obtain ⟨rfl, r131⟩ := h128.err
    replace hB := hB.st S122 (fun h => h) (fun h => h)
    replace h22 := h22.st S122 (fun h => h)
    replace h6 := h6.st S122 (fun h => h)
    replace h9 := h9.st S122 (fun h => h)
    replace h12 := h12.st S122 (fun h => h)
    replace h15 := h15.st S122 (fun h => h)
    replace h73 := h73.st S122 (fun h => h)
    replace h114 := h114.st S122 (fun h => h) (fun h => h)
    refine o_mv rfl rfl  ?_
    refine o_ex rfl rfl rfl  ?_
    refine o_ex rfl rfl rfl  ?_
    refine o_as rfl rfl  ?_
    refine o_as rfl rfl  ?_
    (first | refine owp_nilT ?_ | refine owp_nilB ?_ | refine owp_nilBB ?_ | refine owp_nil ?_)
    refine ewp_seq ?_
    refine ewp_region ?_
    refine o_la (hl := rfl) (hc := (h73.1).cellsAt) rfl rfl  ?_
    obtain ⟨O132, S133, h114⟩ := h114.freeze
    replace hB := hB.st S133 (by decide) (by decide)
    replace h22 := h22.st S133 (by decide)
    replace h6 := h6.st S133 (by decide)
    replace h9 := h9.st S133 (by decide)
    replace h12 := h12.st S133 (by decide)
    replace h15 := h15.st S133 (by decide)
    replace h127 := h127.st S133 (by decide)
    obtain ⟨q134, e135, hm⟩ := bs hm
    refine l_call (O := O132) (R := fun w' F v => T2 w' F v q134) (c_succgen_New Fr.lt (Vb.ofAgg (cs := [(.slice A7 x0.vars.length c8), (.slice A10 x0.init.length c11), (.slice A13 x0.goal.length c14), (.slice A109 u105.length c110)]) (x := (⟨x0.vars, x0.init, x0.goal, u105⟩ : Tsk)) rfl ⟨_, _, _, _, rfl, h6, h9, h12, h114⟩) e135) rfl rfl fun v140 w136 O137 S138 h139 => ?_
    obtain ⟨v141, v142, rfl, h143, h144⟩ := h139
    obtain ⟨p145, rfl, hq146⟩ := h143.ptr
    obtain ⟨rfl, r147⟩ := h144.err
    replace hB := hB.st S138 (fun h => h) (fun h => h)
    replace h22 := h22.st S138 (fun h => h)
    replace h6 := h6.st S138 (fun h => h)
    replace h9 := h9.st S138 (fun h => h)
    replace h12 := h12.st S138 (fun h => h)
    replace h15 := h15.st S138 (fun h => h)
    replace h127 := h127.st S138 (fun h => h)
    refine o_mv rfl rfl  ?_
    refine o_ex rfl rfl rfl  ?_
    refine o_ex rfl rfl rfl  ?_
    refine o_as rfl rfl  ?_
    refine o_as rfl rfl  ?_
    (first | refine owp_nilT ?_ | refine owp_nilB ?_ | refine owp_nilBB ?_ | refine owp_nil ?_)
    refine ewp_seq ?_
    refine ewp_seq ?_
    obtain ⟨y148, hy149, hm⟩ := bs hm
    refine ewp_join (fun l' w' => ∃ (x151 : Unit) (O' : Lab), subs l' [(2, (.pointer (some ⟨g18, 0, none⟩))), (5, (.int .i64 n66)), (7, (.pointer p129)), (9, (.pointer p145)), (67, (.bool y148))] ∧ Bs w A w' O' ∧ Lc 2 w' O' g18 26 [(.slice A7 x0.vars.length c8), (.slice A10 x0.init.length c11), (.slice A13 x0.goal.length c14), (.slice A16 x0.ops.length c17)] ∧ Vb w' (Fr 0 w' O') (.slice A7 x0.vars.length c8) x0.vars ∧ Vb w' (Fr 0 w' O') (.slice A10 x0.init.length c11) x0.init ∧ Vb w' (Fr 0 w' O') (.slice A13 x0.goal.length c14) x0.goal ∧ Vb w' (Fr 0 w' O') (.slice A16 x0.ops.length c17) x0.ops ∧ Vb w' (Fr 0 w' O') (.pointer p129) q118.1 ∧ Vb w' (Fr 0 w' O') (.pointer p145) q134.1) ?_ ?_
    · skip
      refine ewp_region ?_
      refine o_mv rfl rfl  ?_
      refine o_rnS rfl rfl (fun c152 => ?_) fun c152 => ?_
      · replace hy149 := ip hy149 c152
        refine o_mv rfl rfl  ?_
        refine owp_no rfl rfl rfl rfl ?_
        refine owp_no rfl rfl rfl rfl ?_
        refine o_pt rfl rfl rfl  ?_
        (first | refine owp_nilT ?_ | refine owp_nilB ?_ | refine owp_nilBB ?_ | refine owp_nil ?_)
        obtain rfl := sm hy149
        exact ⟨(), _, ⟨rfl, rfl, rfl, rfl, rfl, trivial⟩, hB, h22, h6, h9, h12, h15, h127, h143⟩
      · replace hy149 := im hy149 c152
        refine o_mv rfl rfl  ?_
        refine owp_yes rfl rfl ?_
        refine o_mv rfl rfl  ?_
        refine owp_yes rfl rfl ?_
        refine o_rnS rfl rfl (fun c153 => ?_) fun c153 => ?_
        · replace hy149 := ip hy149 c153
          refine o_pf rfl rfl rfl  ?_
          (first | refine owp_nilT ?_ | refine owp_nilB ?_ | refine owp_nilBB ?_ | refine owp_nil ?_)
          obtain rfl := sm hy149
          exact ⟨(), _, ⟨rfl, rfl, rfl, rfl, rfl, trivial⟩, hB, h22, h6, h9, h12, h15, h127, h143⟩
        · replace hy149 := im hy149 c153
          refine o_pf rfl rfl rfl  ?_
          (first | refine owp_nilT ?_ | refine owp_nilB ?_ | refine owp_nilBB ?_ | refine owp_nil ?_)
          obtain rfl := sm hy149
          exact ⟨(), _, ⟨rfl, rfl, rfl, rfl, rfl, trivial⟩, hB, h22, h6, h9, h12, h15, h127, h143⟩
    rintro l154 w155 ⟨x151, O156, hs157, hB, h22, h6, h9, h12, h15, h127, h143⟩
    refine ewp_sub _ hs157 ?_
    refine ewp_cond rfl (fun c158 => ?_) (fun c158 => ?_)
    · replace hm := ip hm c158
      refine ewp_seq ?_
      refine ewp_region ?_
      refine o_as rfl rfl  ?_
      (first | refine owp_nilT ?_ | refine owp_nilB ?_ | refine owp_nilBB ?_ | refine owp_nil ?_)
      refine ewp_ret ?_
      obtain rfl := sm hm
      exact ret1v rfl (res_tmp rfl) ⟨hB.ext, vBool⟩
    · replace hm := im' hm c158
      refine ewp_skip ?_
      refine ewp_seq ?_
      refine ewp_seq ?_
      refine ewp_region ?_
      refine o_fa rfl rfl  ?_
      refine o_ld (hc := Blk.cell (i := 0) (h22.1) rfl) rfl rfl  ?_
      obtain ⟨q159, e160, hm⟩ := bs hm
      refine l_call (O := O156) (R := fun w' F v => Vb w' F v q159) (c_base_States Fr.lt h6 e160) rfl rfl fun v165 w161 O162 S163 h164 => ?_
      obtain ⟨A166, c167, rfl⟩ := h164.form
      replace hB := hB.st S163 (fun h => h) (fun h => h)
      replace h22 := h22.st S163 (fun h => h)
      replace h6 := h6.st S163 (fun h => h)
      replace h9 := h9.st S163 (fun h => h)
      replace h12 := h12.st S163 (fun h => h)
      replace h15 := h15.st S163 (fun h => h)
      replace h127 := h127.st S163 (fun h => h)
      replace h143 := h143.st S163 (fun h => h)
      refine o_ln rfl rfl  ?_
      have l169 : q159.length ≤ 9223372036854775807 := Nat.le_trans h164.len.2.1 h164.len.2.2
      have r168 : inI64 (q159.length : Int) := rngNat l169
      refine o_mv rfl rfl  ?_
      (first | refine owp_nilT ?_ | refine owp_nilB ?_ | refine owp_nilBB ?_ | refine owp_nil ?_)
      obtain ⟨res170, hL171, hm⟩ := bs hm
      refine ewp_join (aft res170 (fun (s172 : Unit) (x173 : Unit) => []) (fun s172 x173 w' => ∃ O' : Lab, Bs w A w' O')) ?_ ?_
      · refine ewp_block ?_
        refine ewp_rng (σ := Unit) (X := Unit) (q159.length) hL171 rfl l169 (fun (s172 : Unit) (x173 : Unit) => [(2, (.pointer (some ⟨g18, 0, none⟩))), (5, (.int .i64 n66)), (7, (.pointer p129)), (9, (.pointer p145)), (70, (.slice A166 q159.length c167))]) _ (fun s172 x173 w' => ∃ O' : Lab, Bs w A w' O' ∧ Lc 2 w' O' g18 26 [(.slice A7 x0.vars.length c8), (.slice A10 x0.init.length c11), (.slice A13 x0.goal.length c14), (.slice A16 x0.ops.length c17)] ∧ Vb w' (Fr 0 w' O') (.slice A7 x0.vars.length c8) x0.vars ∧ Vb w' (Fr 0 w' O') (.slice A10 x0.init.length c11) x0.init ∧ Vb w' (Fr 0 w' O') (.slice A13 x0.goal.length c14) x0.goal ∧ Vb w' (Fr 0 w' O') (.slice A16 x0.ops.length c17) x0.ops ∧ Vb w' (Fr 0 w' O') (.pointer p129) q118.1 ∧ Vb w' (Fr 0 w' O') (.pointer p145) q134.1 ∧ Vb w' (Fr 0 w' O') (.slice A166 q159.length c167) q159) _ () ⟨O162, hB, h22, h6, h9, h12, h15, h127, h143, h164⟩ ⟨rfl, rfl, rfl, rfl, rfl, rfl, rfl, trivial⟩ (fun _ _ => ⟨rfl, rfl⟩) (fun _ _ => trivial) (fun _ _ _ ⟨O', hB, h22, h6, h9, h12, h15, h127, h143, h164⟩ => ⟨O', hB⟩) ⟨rfl, rfl, rfl⟩ ⟨rfl, rfl⟩ ?_
        rintro k174 a175 s172 x173 w176 cc178 hx179 ⟨O177, hB, h22, h6, h9, h12, h15, h127, h143, h164⟩ hf180 hret181 hbrk182
        have rk174 : inI64 (k174 : Int) := rngK hx179 l169
        refine ewp_seq ?_
        refine ewp_region ?_
        obtain ⟨b183, o184, ce185, hA186, hl187, hd188, v190, rfl, h191⟩ := h164.elem' hx179
        replace h191 := Vb.of_slice h191
        obtain ⟨A192, c193, rfl⟩ := h191.form
        refine o_iaE (hA := hA186) (hj := rfl) (hlt := hl187) rfl rfl rfl  ?_
        refine o_ld (hc := cat0 hd188) rfl rfl  ?_
        refine o_as rfl rfl  ?_
        (first | refine owp_nilT ?_ | refine owp_nilB ?_ | refine owp_nilBB ?_ | refine owp_nil ?_)
        refine ewp_seq ?_
        refine ewp_region ?_
        refine o_fa rfl rfl  ?_
        refine o_ld (hc := Blk.cell (i := 3) (h22.1) rfl) rfl rfl  ?_
        refine o_ln rfl rfl  ?_
        have l195 : x0.ops.length ≤ 9223372036854775807 := Nat.le_trans h15.len.2.1 h15.len.2.2
        have r194 : inI64 (x0.ops.length : Int) := rngNat l195
        obtain ⟨u196, e197, hf180⟩ := bs hf180
        obtain ⟨m198, e199, e200, e201, e202⟩ := mkI_some e197
        refine l_make 5 (by decide) O177 (z0 := (false : Bool)) rfl rfl rfl rfl rfl e199 vBool e200 e201 rfl fun g203 w204 O205 S206 h207 => ?_
        rw [← e202] at h207 ⊢
        replace hB := hB.st S206 (fun h => h) (fun h => h)
        replace h22 := h22.st S206 (fun h => h)
        replace h6 := h6.st S206 (fun h => h)
        replace h9 := h9.st S206 (fun h => h)
        replace h12 := h12.st S206 (fun h => h)
        replace h15 := h15.st S206 (fun h => h)
        replace h127 := h127.st S206 (fun h => h)
        replace h143 := h143.st S206 (fun h => h)
        replace h191 := h191.st S206 (fun h => h)
        replace h164 := h164.st S206 (fun h => h)
        refine o_as rfl rfl  ?_
        (first | refine owp_nilT ?_ | refine owp_nilB ?_ | refine owp_nilBB ?_ | refine owp_nil ?_)
        refine ewp_seq ?_
        refine ewp_seq ?_
        refine ewp_region ?_
        refine o_mv rfl rfl  ?_
        refine o_mv rfl rfl  ?_
        obtain ⟨q209, e210, hf180⟩ := bs hf180
        refine l_callRow 6 (by decide) (O := O205) (c_succgen_Generator_Applicable Fr.lt h127 h191 e210) rfl rfl fun A216 c217 w211 O212 S213 h214 => ?_
        replace hB := hB.st S213 (fun h => h) (fun h => h)
        replace h22 := h22.st S213 (fun h => h)
        replace h6 := h6.st S213 (fun h => h)
        replace h9 := h9.st S213 (fun h => h)
        replace h12 := h12.st S213 (fun h => h)
        replace h15 := h15.st S213 (fun h => h)
        replace h127 := h127.st S213 (fun h => h)
        replace h143 := h143.st S213 (fun h => h)
        replace h191 := h191.st S213 (fun h => h)
        replace h207 := h207.st S213 (fun h => h) (fun h => h)
        replace h164 := h164.st S213 (fun h => h)
        refine o_ln rfl rfl  ?_
        have l220 : q209.length ≤ 9223372036854775807 := Nat.le_trans h214.len.2.1 h214.len.2.2
        have r219 : inI64 (q209.length : Int) := rngNat l220
        refine o_mv rfl rfl  ?_
        (first | refine owp_nilT ?_ | refine owp_nilB ?_ | refine owp_nilBB ?_ | refine owp_nil ?_)
        obtain ⟨res221, hL222, hf180⟩ := bs hf180
        refine ewp_join (aft res221 (fun (s223 : (List Bool)) (x224 : (Option Addr × Nat)) => [(2, (.pointer (some ⟨g18, 0, none⟩))), (5, (.int .i64 n66)), (7, (.pointer p129)), (9, (.pointer p145)), (12, (.slice A192 a175.length c193)), (13, (.slice x224.1 s223.length x224.2)), (70, (.slice A166 q159.length c167)), (71, (.int .i64 (q159.length : Int))), (72, (.int .i64 (k174 : Int)))]) (fun s223 x224 w' => ∃ O' : Lab, Bs w A w' O' ∧ Lc 2 w' O' g18 26 [(.slice A7 x0.vars.length c8), (.slice A10 x0.init.length c11), (.slice A13 x0.goal.length c14), (.slice A16 x0.ops.length c17)] ∧ Vb w' (Fr 0 w' O') (.slice A7 x0.vars.length c8) x0.vars ∧ Vb w' (Fr 0 w' O') (.slice A10 x0.init.length c11) x0.init ∧ Vb w' (Fr 0 w' O') (.slice A13 x0.goal.length c14) x0.goal ∧ Vb w' (Fr 0 w' O') (.slice A16 x0.ops.length c17) x0.ops ∧ Vb w' (Fr 0 w' O') (.pointer p129) q118.1 ∧ Vb w' (Fr 0 w' O') (.pointer p145) q134.1 ∧ Vb w' (Fr 0 w' O') (.slice A192 a175.length c193) a175 ∧ Rw 5 w' O' 4 (.slice x224.1 s223.length x224.2) s223 ∧ Vb w' (Fr 0 w' O') (.slice A166 q159.length c167) q159)) ?_ ?_
        · refine ewp_block ?_
          refine ewp_rng (σ := (List Bool)) (X := (Option Addr × Nat)) (q209.length) hL222 rfl l220 (fun (s223 : (List Bool)) (x224 : (Option Addr × Nat)) => [(2, (.pointer (some ⟨g18, 0, none⟩))), (5, (.int .i64 n66)), (7, (.pointer p129)), (9, (.pointer p145)), (12, (.slice A192 a175.length c193)), (13, (.slice x224.1 s223.length x224.2)), (70, (.slice A166 q159.length c167)), (71, (.int .i64 (q159.length : Int))), (72, (.int .i64 (k174 : Int))), (82, (.slice A216 q209.length c217))]) _ (fun s223 x224 w' => ∃ O' : Lab, Bs w A w' O' ∧ Lc 2 w' O' g18 26 [(.slice A7 x0.vars.length c8), (.slice A10 x0.init.length c11), (.slice A13 x0.goal.length c14), (.slice A16 x0.ops.length c17)] ∧ Vb w' (Fr 0 w' O') (.slice A7 x0.vars.length c8) x0.vars ∧ Vb w' (Fr 0 w' O') (.slice A10 x0.init.length c11) x0.init ∧ Vb w' (Fr 0 w' O') (.slice A13 x0.goal.length c14) x0.goal ∧ Vb w' (Fr 0 w' O') (.slice A16 x0.ops.length c17) x0.ops ∧ Vb w' (Fr 0 w' O') (.pointer p129) q118.1 ∧ Vb w' (Fr 0 w' O') (.pointer p145) q134.1 ∧ Vb w' (Fr 0 w' O') (.slice A192 a175.length c193) a175 ∧ Rw 5 w' O' 4 (.slice x224.1 s223.length x224.2) s223 ∧ Vb w' (Fr 0 w' O') (.slice A166 q159.length c167) q159 ∧ Rw 6 w' O' 3 (.slice A216 q209.length c217) q209) _ ((some ⟨g203, 0, none⟩), m198) ⟨O212, hB, h22, h6, h9, h12, h15, h127, h143, h191, h207, h164, h214⟩ ⟨rfl, rfl, rfl, rfl, rfl, rfl, rfl, rfl, rfl, rfl, rfl, rfl, trivial⟩ (fun _ _ => ⟨rfl, rfl⟩) (fun _ _ => ⟨rfl, rfl, rfl, rfl, rfl, rfl, rfl, rfl, rfl, trivial⟩) (fun _ _ _ ⟨O', hB, h22, h6, h9, h12, h15, h127, h143, h191, h236, h164, h214⟩ => ⟨O', hB, h22, h6, h9, h12, h15, h127, h143, h191, h236, h164⟩) ⟨rfl, rfl, rfl⟩ ⟨rfl, rfl⟩ ?_
          rintro k225 a226 s223 x224 w227 cc229 hx230 ⟨O228, hB, h22, h6, h9, h12, h15, h127, h143, h191, h236, h164, h214⟩ hf231 hret232 hbrk233
          have rk225 : inI64 (k225 : Int) := rngK hx230 l220
          refine ewp_seq ?_
          refine ewp_region ?_
          obtain ⟨b238, o239, ce240, hA241, hl242, hd243, rfl, r245⟩ := h214.elem hx230
          refine o_iaE (hA := hA241) (hj := rfl) (hlt := hl242) rfl rfl rfl  ?_
          refine o_ld (hc := cat0 hd243) rfl rfl  ?_
          refine o_as rfl rfl  ?_
          (first | refine owp_nilT ?_ | refine owp_nilB ?_ | refine owp_nilBB ?_ | refine owp_nil ?_)
          refine ewp_seq ?_
          refine ewp_seq ?_
          obtain ⟨y246, hy247, hf231⟩ := bs hf231
          refine ewp_join (fun l' w' => ∃ (x249 : Unit) (O' : Lab), subs l' [(2, (.pointer (some ⟨g18, 0, none⟩))), (5, (.int .i64 n66)), (7, (.pointer p129)), (9, (.pointer p145)), (12, (.slice A192 a175.length c193)), (13, (.slice x224.1 s223.length x224.2)), (15, (.int .i64 a226)), (70, (.slice A166 q159.length c167)), (71, (.int .i64 (q159.length : Int))), (72, (.int .i64 (k174 : Int))), (82, (.slice A216 q209.length c217)), (83, (.int .i64 (q209.length : Int))), (84, (.int .i64 (k225 : Int))), (95, (.bool y246))] ∧ Bs w A w' O' ∧ Lc 2 w' O' g18 26 [(.slice A7 x0.vars.length c8), (.slice A10 x0.init.length c11), (.slice A13 x0.goal.length c14), (.slice A16 x0.ops.length c17)] ∧ Vb w' (Fr 0 w' O') (.slice A7 x0.vars.length c8) x0.vars ∧ Vb w' (Fr 0 w' O') (.slice A10 x0.init.length c11) x0.init ∧ Vb w' (Fr 0 w' O') (.slice A13 x0.goal.length c14) x0.goal ∧ Vb w' (Fr 0 w' O') (.slice A16 x0.ops.length c17) x0.ops ∧ Vb w' (Fr 0 w' O') (.pointer p129) q118.1 ∧ Vb w' (Fr 0 w' O') (.pointer p145) q134.1 ∧ Vb w' (Fr 0 w' O') (.slice A192 a175.length c193) a175 ∧ Rw 5 w' O' 4 (.slice x224.1 s223.length x224.2) s223 ∧ Vb w' (Fr 0 w' O') (.slice A166 q159.length c167) q159 ∧ Rw 6 w' O' 3 (.slice A216 q209.length c217) q209) ?_ ?_
          · skip
            refine ewp_region ?_
            refine o_mv rfl rfl  ?_
            refine o_ltS rfl rfl rfl (fun c250 => ?_) fun c250 => ?_
            · replace hy247 := ip hy247 c250
              refine o_mv rfl rfl  ?_
              refine owp_no rfl rfl rfl rfl ?_
              refine owp_no rfl rfl rfl rfl ?_
              refine owp_no rfl rfl rfl rfl ?_
              refine owp_no rfl rfl rfl rfl ?_
              refine o_pt rfl rfl rfl  ?_
              (first | refine owp_nilT ?_ | refine owp_nilB ?_ | refine owp_nilBB ?_ | refine owp_nil ?_)
              obtain rfl := sm hy247
              exact ⟨(), _, ⟨rfl, rfl, rfl, rfl, rfl, rfl, rfl, rfl, rfl, rfl, rfl, rfl, rfl, rfl, trivial⟩, hB, h22, h6, h9, h12, h15, h127, h143, h191, h236, h164, h214⟩
            · replace hy247 := im hy247 c250
              refine o_mv rfl rfl  ?_
              refine owp_yes rfl rfl ?_
              refine o_mv rfl rfl  ?_
              refine owp_yes rfl rfl ?_
              refine o_mv rfl rfl  ?_
              refine owp_yes rfl rfl ?_
              refine o_ln rfl rfl  ?_
              have l252 : s223.length ≤ 9223372036854775807 := Nat.le_trans h236.len.2.1 h236.len.2.2
              have r251 : inI64 (s223.length : Int) := rngNat l252
              refine owp_yes rfl rfl ?_
              refine o_geS rfl rfl rfl (fun c253 => ?_) fun c253 => ?_
              · replace hy247 := ip hy247 c253
                refine o_pf rfl rfl rfl  ?_
                (first | refine owp_nilT ?_ | refine owp_nilB ?_ | refine owp_nilBB ?_ | refine owp_nil ?_)
                obtain rfl := sm hy247
                exact ⟨(), _, ⟨rfl, rfl, rfl, rfl, rfl, rfl, rfl, rfl, rfl, rfl, rfl, rfl, rfl, rfl, trivial⟩, hB, h22, h6, h9, h12, h15, h127, h143, h191, h236, h164, h214⟩
              · replace hy247 := im hy247 c253
                refine o_pf rfl rfl rfl  ?_
                (first | refine owp_nilT ?_ | refine owp_nilB ?_ | refine owp_nilBB ?_ | refine owp_nil ?_)
                obtain rfl := sm hy247
                exact ⟨(), _, ⟨rfl, rfl, rfl, rfl, rfl, rfl, rfl, rfl, rfl, rfl, rfl, rfl, rfl, rfl, trivial⟩, hB, h22, h6, h9, h12, h15, h127, h143, h191, h236, h164, h214⟩
          rintro l254 w255 ⟨x249, O256, hs257, hB, h22, h6, h9, h12, h15, h127, h143, h191, h236, h164, h214⟩
          refine ewp_sub _ hs257 ?_
          refine ewp_cond rfl (fun c258 => ?_) (fun c258 => ?_)
          · replace hf231 := ip hf231 c258
            refine ewp_seq ?_
            refine ewp_region ?_
            refine o_as rfl rfl  ?_
            (first | refine owp_nilT ?_ | refine owp_nilB ?_ | refine owp_nilBB ?_ | refine owp_nil ?_)
            refine ewp_ret ?_
            obtain rfl := sm hf231
            obtain rfl := hret232 _ rfl
            obtain rfl := sm (fin_ret hf180)
            obtain rfl := hret181 _ rfl
            obtain rfl := sm (fin_ret hm)
            exact ret1v rfl (res_tmp rfl) ⟨hB.ext, vBool⟩
          · replace hf231 := im' hf231 c258
            refine ewp_skip ?_
            refine ewp_region ?_
            refine o_mv rfl rfl  ?_
            refine o_mv rfl rfl  ?_
            obtain ⟨a259, e260, hf231⟩ := bs hf231
            obtain ⟨p262, x261⟩ := atI_some' e260
            obtain ⟨b263, o264, ce265, hA266, hl267, hd268, rfl⟩ := h236.elem x261
            refine o_iaE (hA := hA266) (hj := (Int.toNat_of_nonneg p262).symm) (hlt := hl267) rfl rfl rfl  ?_
            refine l_setE rfl h236 (a := true) vBool hA266 rfl rfl (lt_of_get x261) fun w270 S271 h236 => ?_
            replace hB := hB.st S271 (by decide) (by decide)
            replace h22 := h22.st S271 (by decide)
            replace h6 := h6.st S271 (by decide)
            replace h9 := h9.st S271 (by decide)
            replace h12 := h12.st S271 (by decide)
            replace h15 := h15.st S271 (by decide)
            replace h127 := h127.st S271 (by decide)
            replace h143 := h143.st S271 (by decide)
            replace h191 := h191.st S271 (by decide)
            replace h164 := h164.st S271 (by decide)
            replace h214 := h214.st S271 (by decide) (by decide)
            (first | refine owp_nilT ?_ | refine owp_nilB ?_ | refine owp_nilBB ?_ | refine owp_nil ?_)
            obtain rfl := sm hf231
            refine (?_ : Exists _)
            exact ⟨_, (x224.1, x224.2), rfl, ⟨rfl, rfl, rfl, rfl, rfl, rfl, rfl, (congrArg (fun n => some (Value.slice _ n _)) ((by simp : (s223.set (a226).toNat true).length = s223.length).trans rfl).symm), rfl, rfl, rfl, rfl, trivial⟩, _, hB, h22, h6, h9, h12, h15, h127, h143, h191, h236.relen, h164, h214⟩
        rintro l272 w273 ⟨s276, x277, rfl, hs275, O274, hB, h22, h6, h9, h12, h15, h127, h143, h191, h236, h164⟩
        replace hf180 := fin_done hf180
        refine ewp_sub _ hs275 ?_
        refine ewp_seq ?_
        refine ewp_region ?_
        refine o_as rfl rfl  ?_
        (first | refine owp_nilT ?_ | refine owp_nilB ?_ | refine owp_nilBB ?_ | refine owp_nil ?_)
        refine ewp_seq ?_
        refine ewp_seq ?_
        refine ewp_region ?_
        refine o_mv rfl rfl  ?_
        refine o_mv rfl rfl  ?_
        obtain ⟨q278, e279, hf180⟩ := bs hf180
        refine l_callRow 7 (by decide) (O := O274) (c_succgen_Generator_Applicable Fr.lt h143 h191 e279) rfl rfl fun A285 c286 w280 O281 S282 h283 => ?_
        replace hB := hB.st S282 (fun h => h) (fun h => h)
        replace h22 := h22.st S282 (fun h => h)
        replace h6 := h6.st S282 (fun h => h)
        replace h9 := h9.st S282 (fun h => h)
        replace h12 := h12.st S282 (fun h => h)
        replace h15 := h15.st S282 (fun h => h)
        replace h127 := h127.st S282 (fun h => h)
        replace h143 := h143.st S282 (fun h => h)
        replace h191 := h191.st S282 (fun h => h)
        replace h236 := h236.st S282 (fun h => h) (fun h => h)
        replace h164 := h164.st S282 (fun h => h)
        refine o_ln rfl rfl  ?_
        have l289 : q278.length ≤ 9223372036854775807 := Nat.le_trans h283.len.2.1 h283.len.2.2
        have r288 : inI64 (q278.length : Int) := rngNat l289
        refine o_mv rfl rfl  ?_
        (first | refine owp_nilT ?_ | refine owp_nilB ?_ | refine owp_nilBB ?_ | refine owp_nil ?_)
        obtain ⟨res290, hL291, hf180⟩ := bs hf180
        refine ewp_join (aft res290 (fun (s292 : Int) (x293 : Unit) => [(2, (.pointer (some ⟨g18, 0, none⟩))), (5, (.int .i64 n66)), (7, (.pointer p129)), (9, (.pointer p145)), (12, (.slice A192 a175.length c193)), (16, (.int .i64 s292)), (70, (.slice A166 q159.length c167)), (71, (.int .i64 (q159.length : Int))), (72, (.int .i64 (k174 : Int)))]) (fun s292 x293 w' => ∃ O' : Lab, Bs w A w' O' ∧ Lc 2 w' O' g18 26 [(.slice A7 x0.vars.length c8), (.slice A10 x0.init.length c11), (.slice A13 x0.goal.length c14), (.slice A16 x0.ops.length c17)] ∧ Vb w' (Fr 0 w' O') (.slice A7 x0.vars.length c8) x0.vars ∧ Vb w' (Fr 0 w' O') (.slice A10 x0.init.length c11) x0.init ∧ Vb w' (Fr 0 w' O') (.slice A13 x0.goal.length c14) x0.goal ∧ Vb w' (Fr 0 w' O') (.slice A16 x0.ops.length c17) x0.ops ∧ Vb w' (Fr 0 w' O') (.pointer p129) q118.1 ∧ Vb w' (Fr 0 w' O') (.pointer p145) q134.1 ∧ Vb w' (Fr 0 w' O') (.slice A192 a175.length c193) a175 ∧ Vb w' (Fr 0 w' O') (.slice A166 q159.length c167) q159 ∧ inI64 s292)) ?_ ?_
        · refine ewp_block ?_
          refine ewp_rng (σ := Int) (X := Unit) (q278.length) hL291 rfl l289 (fun (s292 : Int) (x293 : Unit) => [(2, (.pointer (some ⟨g18, 0, none⟩))), (5, (.int .i64 n66)), (7, (.pointer p129)), (9, (.pointer p145)), (12, (.slice A192 a175.length c193)), (13, (.slice x277.1 s276.length x277.2)), (16, (.int .i64 s292)), (70, (.slice A166 q159.length c167)), (71, (.int .i64 (q159.length : Int))), (72, (.int .i64 (k174 : Int))), (102, (.slice A285 q278.length c286))]) _ (fun s292 x293 w' => ∃ O' : Lab, Bs w A w' O' ∧ Lc 2 w' O' g18 26 [(.slice A7 x0.vars.length c8), (.slice A10 x0.init.length c11), (.slice A13 x0.goal.length c14), (.slice A16 x0.ops.length c17)] ∧ Vb w' (Fr 0 w' O') (.slice A7 x0.vars.length c8) x0.vars ∧ Vb w' (Fr 0 w' O') (.slice A10 x0.init.length c11) x0.init ∧ Vb w' (Fr 0 w' O') (.slice A13 x0.goal.length c14) x0.goal ∧ Vb w' (Fr 0 w' O') (.slice A16 x0.ops.length c17) x0.ops ∧ Vb w' (Fr 0 w' O') (.pointer p129) q118.1 ∧ Vb w' (Fr 0 w' O') (.pointer p145) q134.1 ∧ Vb w' (Fr 0 w' O') (.slice A192 a175.length c193) a175 ∧ Rw 5 w' O' 4 (.slice x277.1 s276.length x277.2) s276 ∧ Vb w' (Fr 0 w' O') (.slice A166 q159.length c167) q159 ∧ Rw 7 w' O' 3 (.slice A285 q278.length c286) q278 ∧ inI64 s292) _ () ⟨O281, hB, h22, h6, h9, h12, h15, h127, h143, h191, h236, h164, h283, (show inI64 (0) from by decide)⟩ ⟨rfl, rfl, rfl, rfl, rfl, rfl, rfl, rfl, rfl, rfl, rfl, rfl, rfl, trivial⟩ (fun _ _ => ⟨rfl, rfl⟩) (fun _ _ => ⟨rfl, rfl, rfl, rfl, rfl, rfl, rfl, rfl, rfl, trivial⟩) (fun _ _ _ ⟨O', hB, h22, h6, h9, h12, h15, h127, h143, h191, h236, h164, h283, r304⟩ => ⟨O', hB, h22, h6, h9, h12, h15, h127, h143, h191, h164, r304⟩) ⟨rfl, rfl, rfl⟩ ⟨rfl, rfl⟩ ?_
          rintro k294 a295 s292 x293 w296 cc298 hx299 ⟨O297, hB, h22, h6, h9, h12, h15, h127, h143, h191, h236, h164, h283, r304⟩ hf300 hret301 hbrk302
          have rk294 : inI64 (k294 : Int) := rngK hx299 l289
          refine ewp_seq ?_
          refine ewp_region ?_
          obtain ⟨b305, o306, ce307, hA308, hl309, hd310, rfl, r312⟩ := h283.elem hx299
          refine o_iaE (hA := hA308) (hj := rfl) (hlt := hl309) rfl rfl rfl  ?_
          refine o_ld (hc := cat0 hd310) rfl rfl  ?_
          refine o_as rfl rfl  ?_
          (first | refine owp_nilT ?_ | refine owp_nilB ?_ | refine owp_nilBB ?_ | refine owp_nil ?_)
          refine ewp_seq ?_
          refine ewp_seq ?_
          obtain ⟨y313, hy314, hf300⟩ := bs hf300
          refine ewp_join (fun l' w' => ∃ (x316 : Unit) (O' : Lab), subs l' [(2, (.pointer (some ⟨g18, 0, none⟩))), (5, (.int .i64 n66)), (7, (.pointer p129)), (9, (.pointer p145)), (12, (.slice A192 a175.length c193)), (13, (.slice x277.1 s276.length x277.2)), (16, (.int .i64 s292)), (70, (.slice A166 q159.length c167)), (71, (.int .i64 (q159.length : Int))), (72, (.int .i64 (k174 : Int))), (102, (.slice A285 q278.length c286)), (103, (.int .i64 (q278.length : Int))), (104, (.int .i64 (k294 : Int))), (127, (.bool y313))] ∧ Bs w A w' O' ∧ Lc 2 w' O' g18 26 [(.slice A7 x0.vars.length c8), (.slice A10 x0.init.length c11), (.slice A13 x0.goal.length c14), (.slice A16 x0.ops.length c17)] ∧ Vb w' (Fr 0 w' O') (.slice A7 x0.vars.length c8) x0.vars ∧ Vb w' (Fr 0 w' O') (.slice A10 x0.init.length c11) x0.init ∧ Vb w' (Fr 0 w' O') (.slice A13 x0.goal.length c14) x0.goal ∧ Vb w' (Fr 0 w' O') (.slice A16 x0.ops.length c17) x0.ops ∧ Vb w' (Fr 0 w' O') (.pointer p129) q118.1 ∧ Vb w' (Fr 0 w' O') (.pointer p145) q134.1 ∧ Vb w' (Fr 0 w' O') (.slice A192 a175.length c193) a175 ∧ Rw 5 w' O' 4 (.slice x277.1 s276.length x277.2) s276 ∧ Vb w' (Fr 0 w' O') (.slice A166 q159.length c167) q159 ∧ Rw 7 w' O' 3 (.slice A285 q278.length c286) q278) ?_ ?_
          · skip
            refine ewp_region ?_
            refine o_mv rfl rfl  ?_
            refine o_ltS rfl rfl rfl (fun c317 => ?_) fun c317 => ?_
            · replace hy314 := ip hy314 c317
              refine o_mv rfl rfl  ?_
              refine owp_no rfl rfl rfl rfl ?_
              refine owp_no rfl rfl rfl rfl ?_
              refine owp_no rfl rfl rfl rfl ?_
              refine owp_no rfl rfl rfl rfl ?_
              refine o_pt rfl rfl rfl  ?_
              refine o_mv rfl rfl  ?_
              refine owp_no rfl rfl rfl rfl ?_
              refine owp_no rfl rfl rfl rfl ?_
              refine owp_no rfl rfl rfl rfl ?_
              refine owp_no rfl rfl rfl rfl ?_
              refine owp_no rfl rfl rfl rfl ?_
              refine owp_no rfl rfl rfl rfl ?_
              refine owp_no rfl rfl rfl rfl ?_
              refine owp_no rfl rfl rfl rfl ?_
              refine owp_no rfl rfl rfl rfl ?_
              refine owp_no rfl rfl rfl rfl ?_
              refine o_pt rfl rfl rfl  ?_
              (first | refine owp_nilT ?_ | refine owp_nilB ?_ | refine owp_nilBB ?_ | refine owp_nil ?_)
              obtain rfl := sm hy314
              exact ⟨(), _, ⟨rfl, rfl, rfl, rfl, rfl, rfl, rfl, rfl, rfl, rfl, rfl, rfl, rfl, rfl, trivial⟩, hB, h22, h6, h9, h12, h15, h127, h143, h191, h236, h164, h283⟩
            · replace hy314 := im hy314 c317
              refine o_mv rfl rfl  ?_
              refine owp_yes rfl rfl ?_
              refine o_mv rfl rfl  ?_
              refine owp_yes rfl rfl ?_
              refine o_mv rfl rfl  ?_
              refine owp_yes rfl rfl ?_
              refine o_ln rfl rfl  ?_
              have l319 : s276.length ≤ 9223372036854775807 := Nat.le_trans h236.len.2.1 h236.len.2.2
              have r318 : inI64 (s276.length : Int) := rngNat l319
              refine owp_yes rfl rfl ?_
              refine o_geS rfl rfl rfl (fun c320 => ?_) fun c320 => ?_
              · replace hy314 := ip hy314 c320
                refine o_pf rfl rfl rfl  ?_
                refine o_mv rfl rfl  ?_
                refine owp_no rfl rfl rfl rfl ?_
                refine owp_no rfl rfl rfl rfl ?_
                refine owp_no rfl rfl rfl rfl ?_
                refine owp_no rfl rfl rfl rfl ?_
                refine owp_no rfl rfl rfl rfl ?_
                refine owp_no rfl rfl rfl rfl ?_
                refine owp_no rfl rfl rfl rfl ?_
                refine owp_no rfl rfl rfl rfl ?_
                refine owp_no rfl rfl rfl rfl ?_
                refine owp_no rfl rfl rfl rfl ?_
                refine o_pt rfl rfl rfl  ?_
                (first | refine owp_nilT ?_ | refine owp_nilB ?_ | refine owp_nilBB ?_ | refine owp_nil ?_)
                obtain rfl := sm hy314
                exact ⟨(), _, ⟨rfl, rfl, rfl, rfl, rfl, rfl, rfl, rfl, rfl, rfl, rfl, rfl, rfl, rfl, trivial⟩, hB, h22, h6, h9, h12, h15, h127, h143, h191, h236, h164, h283⟩
              · replace hy314 := im hy314 c320
                refine o_pf rfl rfl rfl  ?_
                refine o_mv rfl rfl  ?_
                refine owp_yes rfl rfl ?_
                refine o_mv rfl rfl  ?_
                refine owp_yes rfl rfl ?_
                refine o_mv rfl rfl  ?_
                refine owp_yes rfl rfl ?_
                refine o_mv rfl rfl  ?_
                refine owp_yes rfl rfl ?_
                obtain ⟨n321, e322, hy314⟩ := bs hy314
                have r323 := (chkI_rng e322)
                refine o_adE (he := e322) rfl rfl rfl  ?_
                refine owp_yes rfl rfl ?_
                refine o_mv rfl rfl  ?_
                refine owp_yes rfl rfl ?_
                refine o_ln rfl rfl  ?_
                have l325 : s276.length ≤ 9223372036854775807 := Nat.le_trans h236.len.2.1 h236.len.2.2
                have r324 : inI64 (s276.length : Int) := rngNat l325
                refine owp_yes rfl rfl ?_
                obtain ⟨n326, e327, hy314⟩ := bs hy314
                have r328 := remI_in e327 r323
                refine o_rmE (he := e327) rfl rfl rfl  ?_
                refine owp_yes rfl rfl ?_
                obtain ⟨a329, e330, hy314⟩ := bs hy314
                obtain ⟨p332, x331⟩ := atI_some' e330
                obtain ⟨b333, o334, ce335, hA336, hl337, hd338, rfl⟩ := h236.elem x331
                refine o_iaE (hA := hA336) (hj := (Int.toNat_of_nonneg p332).symm) (hlt := hl337) rfl rfl rfl  ?_
                refine owp_yes rfl rfl ?_
                refine o_ld (hc := cat0 hd338) rfl rfl  ?_
                refine owp_yes rfl rfl ?_
                refine o_nn rfl rfl  ?_
                refine o_pf rfl rfl rfl  ?_
                (first | refine owp_nilT ?_ | refine owp_nilB ?_ | refine owp_nilBB ?_ | refine owp_nil ?_)
                obtain rfl := sm hy314
                exact ⟨(), _, ⟨rfl, rfl, rfl, rfl, rfl, rfl, rfl, rfl, rfl, rfl, rfl, rfl, rfl, rfl, trivial⟩, hB, h22, h6, h9, h12, h15, h127, h143, h191, h236, h164, h283⟩
          rintro l340 w341 ⟨x316, O342, hs343, hB, h22, h6, h9, h12, h15, h127, h143, h191, h236, h164, h283⟩
          refine ewp_sub _ hs343 ?_
          refine ewp_cond rfl (fun c344 => ?_) (fun c344 => ?_)
          · replace hf300 := ip hf300 c344
            refine ewp_seq ?_
            refine ewp_region ?_
            refine o_as rfl rfl  ?_
            (first | refine owp_nilT ?_ | refine owp_nilB ?_ | refine owp_nilBB ?_ | refine owp_nil ?_)
            refine ewp_ret ?_
            obtain rfl := sm hf300
            obtain rfl := hret301 _ rfl
            obtain rfl := sm (fin_ret hf180)
            obtain rfl := hret181 _ rfl
            obtain rfl := sm (fin_ret hm)
            exact ret1v rfl (res_tmp rfl) ⟨hB.ext, vBool⟩
          · replace hf300 := im' hf300 c344
            refine ewp_skip ?_
            refine ewp_region ?_
            refine o_mv rfl rfl  ?_
            obtain ⟨n345, e346, hf300⟩ := bs hf300
            have r347 := (chkI_rng e346)
            refine o_adE (he := e346) rfl rfl rfl  ?_
            refine o_as rfl rfl  ?_
            (first | refine owp_nilT ?_ | refine owp_nilB ?_ | refine owp_nilBB ?_ | refine owp_nil ?_)
            obtain rfl := sm hf300
            refine (?_ : Exists _)
            exact ⟨_, (), rfl, ⟨rfl, rfl, rfl, rfl, rfl, rfl, rfl, rfl, rfl, rfl, rfl, rfl, rfl, trivial⟩, _, hB, h22, h6, h9, h12, h15, h127, h143, h191, h236, h164, h283, r347⟩
        rintro l348 w349 ⟨s352, x353, rfl, hs351, O350, hB, h22, h6, h9, h12, h15, h127, h143, h191, h164, r304⟩
        replace hf180 := fin_done hf180
        refine ewp_sub _ hs351 ?_
        refine ewp_seq ?_
        refine ewp_region ?_
        refine o_mv rfl rfl  ?_
        refine o_mv rfl rfl  ?_
        refine o_mv rfl rfl  ?_
        obtain ⟨q354, e355, hf180⟩ := bs hf180
        refine l_callA (O := O350) (A := All w349) (R := fun w' F v => Vb w' F v q354) (c_succgen_Generator_Count (fun _ h => h) (Vb.mono (F := Fr 0 w349 O350) h127 Fr.lt) (Vb.mono (F := Fr 0 w349 O350) h191 Fr.lt) e355) rfl rfl fun v360 w356 O357 S358 h359 => ?_
        obtain ⟨rfl, r361⟩ := h359.int
        replace hB := hB.st S358 (fun h => h) (fun h => h)
        replace h22 := h22.st S358 (fun h => h)
        replace h6 := h6.st S358 (fun h => h)
        replace h9 := h9.st S358 (fun h => h)
        replace h12 := h12.st S358 (fun h => h)
        replace h15 := h15.st S358 (fun h => h)
        replace h127 := h127.st S358 (fun h => h)
        replace h143 := h143.st S358 (fun h => h)
        replace h164 := h164.st S358 (fun h => h)
        refine o_neS rfl rfl rfl (fun c362 => ?_) fun c362 => ?_
        · replace hf180 := ip hf180 c362
          (first | refine owp_nilT ?_ | refine owp_nilB ?_ | refine owp_nilBB ?_ | refine owp_nil ?_)
          refine ewp_true rfl ?_
          refine ewp_seq ?_
          refine ewp_region ?_
          refine o_as rfl rfl  ?_
          (first | refine owp_nilT ?_ | refine owp_nilB ?_ | refine owp_nilBB ?_ | refine owp_nil ?_)
          refine ewp_ret ?_
          obtain rfl := sm hf180
          obtain rfl := hret181 _ rfl
          obtain rfl := sm (fin_ret hm)
          exact ret1v rfl (res_tmp rfl) ⟨hB.ext, vBool⟩
        · replace hf180 := im hf180 c362
          (first | refine owp_nilT ?_ | refine owp_nilB ?_ | refine owp_nilBB ?_ | refine owp_nil ?_)
          refine ewp_false rfl ?_
          refine ewp_skip ?_
          obtain rfl := sm hf180
          refine (?_ : Exists _)
          exact ⟨_, (), rfl, ⟨rfl, rfl, rfl, rfl, rfl, rfl, rfl, trivial⟩, _, hB, h22, h6, h9, h12, h15, h127, h143, h164⟩
      rintro l363 w364 ⟨s367, x368, rfl, hs366, O365, hB⟩
      replace hm := fin_done hm
      refine ewp_sub _ hs366 ?_
      refine ewp_seq ?_
      refine ewp_region ?_
      refine o_as rfl rfl  ?_
      (first | refine owp_nilT ?_ | refine owp_nilB ?_ | refine owp_nilBB ?_ | refine owp_nil ?_)
      refine ewp_ret ?_
      obtain rfl := sm hm
      exact ret1v rfl (res_tmp rfl) ⟨hB.ext, vBool⟩
noncomputable def m_law24_SuccgenNarrows (x0 : Tsk) (x1 : Byt) (x2 : Fct) : Option Bool :=
  bnd (bnd (m_base_Small x0) fun q35 => if q35 = true then if (x0.ops.length : Int) = 0 then (some true) else (bnd (m_base_Proper x0.vars [x2]) fun q51 => if q51 = true then bnd (m_law24_awake) fun q58 => if q58 = true then some false else some true else some true) else some true : Option Bool) fun y31 => if y31 = true then (bnd (bnd (m_law24_awake) fun q74 => if q74 = true then some true else some false : Option Bool) fun y70 => some y70) else (bnd (remI x1.n (x0.ops.length : Int)) fun n87 => bnd (atI x0.ops n87) fun a90 => bnd (rng (ρ := Bool) (fun (k117 : Nat) (a118 : Fct) (s115 : (List Fct)) => if a118.var = x2.var then (some (.ret true)) else (if a118.var < x2.var then (bnd (appI 16 s115 [a118]) fun u148 => some (.next u148)) else (some (.next s115)))) a90.pre 0 ([] : List Fct)) fun res113 => fin res113 fun (s164 : (List Fct)) => bnd (appI 16 s164 [x2]) fun u166 => bnd (atI x0.ops n87) fun a178 => bnd (rng (ρ := Bool) (fun (k205 : Nat) (a206 : Fct) (s203 : (List Fct)) => if x2.var < a206.var then (bnd (appI 16 s203 [a206]) fun u235 => some (.next u235)) else (some (.next s203))) a178.pre 0 u166) fun res201 => fin res201 fun (s251 : (List Fct)) => bnd (appI 72 ([] : List Opr) x0.ops) fun u266 => bnd (atI u266 n87) fun a279 => bnd (m_succgen_New x0) fun q314 => bnd (m_succgen_New (⟨x0.vars, x0.init, x0.goal, (u266.set (n87).toNat ({ a279 with pre := s251 } : Opr))⟩ : Tsk)) fun q330 => bnd (if q314.2.n ≠ 0 then (some true) else (if q330.2.n ≠ 0 then (some true) else (some false)) : Option Bool) fun y344 => if y344 = true then (some false) else (bnd (m_base_States x0.vars) fun q355 => bnd (rng (ρ := Bool) (fun (k370 : Nat) (a371 : List Int) (s368 : Unit) => bnd (m_succgen_Generator_Applicable q314.1 a371) fun q390 => bnd (rng (ρ := Ctl Unit Bool) (fun (k406 : Nat) (a407 : Int) (s404 : (List Int)) => bnd (if a407 ≠ n87 then (some true) else (bnd (atI a371 x2.var) fun a432 => if a432 = x2.val then (some true) else (some false)) : Option Bool) fun y427 => if y427 = true then (bnd (appI 8 s404 [a407]) fun u450 => some (.next u450)) else (some (.next s404))) q390 0 ([] : List Int)) fun res402 => fin res402 fun (s466 : (List Int)) => bnd (m_succgen_Generator_Applicable q330.1 a371) fun q468 => bnd (m_base_Ints q468 s466) fun q478 => if q478 = true then some (.next ()) else some (.ret false)) q355 0 ()) fun res366 => fin res366 fun (s489 : Unit) => some true))
theorem c_law24_SuccgenNarrows {w : World} {A : Nat → Prop} (hA : ∀ k, A k → k < w.heap.size) {vx0 : Value} {x0 : Tsk} (hx0 : Vb w A vx0 x0) {x1 : Byt} {vx2 : Value} {x2 : Fct} (hx2 : Vb w A vx2 x2) {r : Bool} (hm : m_law24_SuccgenNarrows x0 x1 x2 = some r) :
    Fn Try.prog 3 [vx0, (.int .u8 x1.n), vx2] w fun v w' => Ext w w' ∧ Vb w' (upA A w w') v r := by
  obtain ⟨O, hB, hA0⟩ := enter hA
  replace hx0 := hx0.mono hA0
  obtain ⟨cs1, rfl, v2, v3, v4, v5, rfl, h6, h9, h12, h15⟩ := hx0
  obtain ⟨A7, c8, rfl⟩ := h6.form
  obtain ⟨A10, c11, rfl⟩ := h9.form
  obtain ⟨A13, c14, rfl⟩ := h12.form
  obtain ⟨A16, c17, rfl⟩ := h15.form
  replace hx2 := hx2.mono hA0
  obtain ⟨cs18, rfl, rfl, r19, r20⟩ := hx2
  refine fn_enter Try.func3 rfl Try.ntmps3 rfl ?_
  unfold m_law24_SuccgenNarrows at hm
  refine ewp_seq ?_
  refine ewp_region ?_
  refine l_box 2 O rfl rfl fun g21 w22 O23 S24 h25 => ?_
  replace h25 : Lc 2 w22 O23 g21 26 [(.slice A7 x0.vars.length c8), (.slice A10 x0.init.length c11), (.slice A13 x0.goal.length c14), (.slice A16 x0.ops.length c17)] := h25
  replace hB := hB.st S24 (fun h => h) (fun h => h)
  replace h6 := h6.st S24 (fun h => h)
  replace h9 := h9.st S24 (fun h => h)
  replace h12 := h12.st S24 (fun h => h)
  replace h15 := h15.st S24 (fun h => h)
  refine l_box 3 O23 rfl rfl fun g26 w27 O28 S29 h30 => ?_
  replace h30 : Lc 3 w27 O28 g26 28 [(.int .i64 x2.var), (.int .i64 x2.val)] := h30
  replace hB := hB.st S29 (fun h => h) (fun h => h)
  replace h25 := h25.st S29 (fun h => h)
  replace h6 := h6.st S29 (fun h => h)
  replace h9 := h9.st S29 (fun h => h)
  replace h12 := h12.st S29 (fun h => h)
  replace h15 := h15.st S29 (fun h => h)
  refine o_as rfl rfl  ?_
  (first | refine owp_nilT ?_ | refine owp_nilB ?_ | refine owp_nilBB ?_ | refine owp_nil ?_)
  refine ewp_seq ?_
  refine ewp_seq ?_
  obtain ⟨y31, hy32, hm⟩ := bs hm
  refine ewp_join (fun l' w' => ∃ (x34 : Unit) (O' : Lab), subs l' [(1, (.int .u8 x1.n)), (3, (.pointer (some ⟨g21, 0, none⟩))), (5, (.pointer (some ⟨g26, 0, none⟩))), (43, (.bool y31))] ∧ Bs w A w' O' ∧ Lc 2 w' O' g21 26 [(.slice A7 x0.vars.length c8), (.slice A10 x0.init.length c11), (.slice A13 x0.goal.length c14), (.slice A16 x0.ops.length c17)] ∧ Vb w' (Fr 0 w' O') (.slice A7 x0.vars.length c8) x0.vars ∧ Vb w' (Fr 0 w' O') (.slice A10 x0.init.length c11) x0.init ∧ Vb w' (Fr 0 w' O') (.slice A13 x0.goal.length c14) x0.goal ∧ Vb w' (Fr 0 w' O') (.slice A16 x0.ops.length c17) x0.ops ∧ Lc 3 w' O' g26 28 [(.int .i64 x2.var), (.int .i64 x2.val)]) ?_ ?_
  · skip
    refine ewp_region ?_
    refine o_la (hl := rfl) (hc := (h25.1).cellsAt) rfl rfl  ?_
    obtain ⟨q35, e36, hy32⟩ := bs hy32
    refine l_callA (O := O28) (A := All w27) (R := fun w' F v => Vb w' F v q35) (c_base_Small (fun _ h => h) (Vb.mono (F := Fr 0 w27 O28) (Vb.ofAgg (cs := [(.slice A7 x0.vars.length c8), (.slice A10 x0.init.length c11), (.slice A13 x0.goal.length c14), (.slice A16 x0.ops.length c17)]) (x := x0) rfl ⟨_, _, _, _, rfl, h6, h9, h12, h15⟩) Fr.lt) e36) rfl rfl fun v41 w37 O38 S39 h40 => ?_
    obtain rfl := h40.bool
    replace hB := hB.st S39 (fun h => h) (fun h => h)
    replace h25 := h25.st S39 (fun h => h)
    replace h6 := h6.st S39 (fun h => h)
    replace h9 := h9.st S39 (fun h => h)
    replace h12 := h12.st S39 (fun h => h)
    replace h15 := h15.st S39 (fun h => h)
    replace h30 := h30.st S39 (fun h => h)
    cases q35
    case false =>
      replace hy32 := iF hy32
      refine o_nf rfl rfl  ?_
      refine o_mv rfl rfl  ?_
      refine owp_no rfl rfl rfl rfl ?_
      refine owp_no rfl rfl rfl rfl ?_
      refine owp_no rfl rfl rfl rfl ?_
      refine owp_no rfl rfl rfl rfl ?_
      refine o_pt rfl rfl rfl  ?_
      refine o_mv rfl rfl  ?_
      refine owp_no rfl rfl rfl rfl ?_
      refine owp_no rfl rfl rfl rfl ?_
      refine owp_no rfl rfl rfl rfl ?_
      refine owp_no rfl rfl rfl rfl ?_
      refine owp_no rfl rfl rfl rfl ?_
      refine owp_no rfl rfl rfl rfl ?_
      refine o_pt rfl rfl rfl  ?_
      refine o_mv rfl rfl  ?_
      refine owp_no rfl rfl rfl rfl ?_
      refine owp_no rfl rfl rfl rfl ?_
      refine o_pt rfl rfl rfl  ?_
      (first | refine owp_nilT ?_ | refine owp_nilB ?_ | refine owp_nilBB ?_ | refine owp_nil ?_)
      obtain rfl := sm hy32
      exact ⟨(), _, ⟨rfl, rfl, rfl, rfl, trivial⟩, hB, h25, h6, h9, h12, h15, h30⟩
    replace hy32 := iT hy32
    refine o_nt rfl rfl  ?_
    refine o_mv rfl rfl  ?_
    refine owp_yes rfl rfl ?_
    refine o_fa rfl rfl  ?_
    refine owp_yes rfl rfl ?_
    refine o_ld (hc := Blk.cell (i := 3) (h25.1) rfl) rfl rfl  ?_
    refine owp_yes rfl rfl ?_
    refine o_ln rfl rfl  ?_
    have l43 : x0.ops.length ≤ 9223372036854775807 := Nat.le_trans h15.len.2.1 h15.len.2.2
    have r42 : inI64 (x0.ops.length : Int) := rngNat l43
    refine owp_yes rfl rfl ?_
    refine o_eeS rfl rfl rfl (fun c44 => ?_) fun c44 => ?_
    · replace hy32 := ip hy32 c44
      refine o_pf rfl rfl rfl  ?_
      refine o_mv rfl rfl  ?_
      refine owp_no rfl rfl rfl rfl ?_
      refine owp_no rfl rfl rfl rfl ?_
      refine owp_no rfl rfl rfl rfl ?_
      refine owp_no rfl rfl rfl rfl ?_
      refine owp_no rfl rfl rfl rfl ?_
      refine owp_no rfl rfl rfl rfl ?_
      refine o_pt rfl rfl rfl  ?_
      refine o_mv rfl rfl  ?_
      refine owp_no rfl rfl rfl rfl ?_
      refine owp_no rfl rfl rfl rfl ?_
      refine o_pt rfl rfl rfl  ?_
      (first | refine owp_nilT ?_ | refine owp_nilB ?_ | refine owp_nilBB ?_ | refine owp_nil ?_)
      obtain rfl := sm hy32
      exact ⟨(), _, ⟨rfl, rfl, rfl, rfl, trivial⟩, hB, h25, h6, h9, h12, h15, h30⟩
    · replace hy32 := im hy32 c44
      refine o_pf rfl rfl rfl  ?_
      refine o_mv rfl rfl  ?_
      refine owp_yes rfl rfl ?_
      refine o_fa rfl rfl  ?_
      refine owp_yes rfl rfl ?_
      refine o_ld (hc := Blk.cell (i := 0) (h25.1) rfl) rfl rfl  ?_
      refine owp_yes rfl rfl ?_
      refine o_la (hl := rfl) (hc := (h30.1).cellsAt) rfl rfl  ?_
      refine owp_yes rfl rfl ?_
      refine l_bslice 4 (by decide) O38 (xs := ([x2] : List Fct)) rfl rfl rfl rfl ⟨(Vb.ofAgg (cs := [(.int .i64 x2.var), (.int .i64 x2.val)]) (x := x2) rfl ⟨rfl, r19, r20⟩), trivial⟩ (by decide) (by decide) rfl fun g45 w46 O47 S48 h49 => ?_
      replace hB := hB.st S48 (fun h => h) (fun h => h)
      replace h25 := h25.st S48 (fun h => h)
      replace h6 := h6.st S48 (fun h => h)
      replace h9 := h9.st S48 (fun h => h)
      replace h12 := h12.st S48 (fun h => h)
      replace h15 := h15.st S48 (fun h => h)
      replace h30 := h30.st S48 (fun h => h)
      refine owp_yes rfl rfl ?_
      obtain ⟨q51, e52, hy32⟩ := bs hy32
      refine l_callA (O := O47) (A := All w46) (R := fun w' F v => Vb w' F v q51) (c_base_Proper (fun _ h => h) (Vb.mono (F := Fr 0 w46 O47) h6 Fr.lt) (h49).all e52) rfl rfl fun v57 w53 O54 S55 h56 => ?_
      obtain rfl := h56.bool
      replace hB := hB.st S55 (fun h => h) (fun h => h)
      replace h25 := h25.st S55 (fun h => h)
      replace h6 := h6.st S55 (fun h => h)
      replace h9 := h9.st S55 (fun h => h)
      replace h12 := h12.st S55 (fun h => h)
      replace h15 := h15.st S55 (fun h => h)
      replace h30 := h30.st S55 (fun h => h)
      cases q51
      case false =>
        replace hy32 := iF hy32
        refine owp_yes rfl rfl ?_
        refine o_nf rfl rfl  ?_
        refine o_pf rfl rfl rfl  ?_
        refine o_mv rfl rfl  ?_
        refine owp_no rfl rfl rfl rfl ?_
        refine owp_no rfl rfl rfl rfl ?_
        refine o_pt rfl rfl rfl  ?_
        (first | refine owp_nilT ?_ | refine owp_nilB ?_ | refine owp_nilBB ?_ | refine owp_nil ?_)
        obtain rfl := sm hy32
        exact ⟨(), _, ⟨rfl, rfl, rfl, rfl, trivial⟩, hB, h25, h6, h9, h12, h15, h30⟩
      replace hy32 := iT hy32
      refine owp_yes rfl rfl ?_
      refine o_nt rfl rfl  ?_
      refine o_pf rfl rfl rfl  ?_
      refine o_mv rfl rfl  ?_
      refine owp_yes rfl rfl ?_
      obtain ⟨q58, e59, hy32⟩ := bs hy32
      refine l_callA (O := O54) (A := All w53) (R := fun w' F v => Vb w' F v q58) (c_law24_awake (fun _ h => h)  e59) rfl rfl fun v64 w60 O61 S62 h63 => ?_
      obtain rfl := h63.bool
      replace hB := hB.st S62 (fun h => h) (fun h => h)
      replace h25 := h25.st S62 (fun h => h)
      replace h6 := h6.st S62 (fun h => h)
      replace h9 := h9.st S62 (fun h => h)
      replace h12 := h12.st S62 (fun h => h)
      replace h15 := h15.st S62 (fun h => h)
      replace h30 := h30.st S62 (fun h => h)
      cases q58
      case false =>
        replace hy32 := iF hy32
        refine owp_yes rfl rfl ?_
        refine o_nf rfl rfl  ?_
        refine o_pf rfl rfl rfl  ?_
        (first | refine owp_nilT ?_ | refine owp_nilB ?_ | refine owp_nilBB ?_ | refine owp_nil ?_)
        obtain rfl := sm hy32
        exact ⟨(), _, ⟨rfl, rfl, rfl, rfl, trivial⟩, hB, h25, h6, h9, h12, h15, h30⟩
      replace hy32 := iT hy32
      refine owp_yes rfl rfl ?_
      refine o_nt rfl rfl  ?_
      refine o_pf rfl rfl rfl  ?_
      (first | refine owp_nilT ?_ | refine owp_nilB ?_ | refine owp_nilBB ?_ | refine owp_nil ?_)
      obtain rfl := sm hy32
      exact ⟨(), _, ⟨rfl, rfl, rfl, rfl, trivial⟩, hB, h25, h6, h9, h12, h15, h30⟩
  rintro l65 w66 ⟨x34, O67, hs68, hB, h25, h6, h9, h12, h15, h30⟩
  refine ewp_sub _ hs68 ?_
  refine ewp_cond rfl (fun c69 => ?_) (fun c69 => ?_)
  · replace hm := ip hm c69
    refine ewp_seq ?_
    obtain ⟨y70, hy71, hm⟩ := bs hm
    refine ewp_join (fun l' w' => ∃ (x73 : Unit) (O' : Lab), subs l' [(6, (.bool y70))] ∧ Bs w A w' O') ?_ ?_
    · skip
      refine ewp_region ?_
      obtain ⟨q74, e75, hy71⟩ := bs hy71
      refine l_callA (O := O67) (A := All w66) (R := fun w' F v => Vb w' F v q74) (c_law24_awake (fun _ h => h)  e75) rfl rfl fun v80 w76 O77 S78 h79 => ?_
      obtain rfl := h79.bool
      replace hB := hB.st S78 (fun h => h) (fun h => h)
      cases q74
      case false =>
        replace hy71 := iF hy71
        refine o_as rfl rfl  ?_
        (first | refine owp_nilT ?_ | refine owp_nilB ?_ | refine owp_nilBB ?_ | refine owp_nil ?_)
        obtain rfl := sm hy71
        exact ⟨(), _, ⟨rfl, trivial⟩, hB⟩
      replace hy71 := iT hy71
      refine o_as rfl rfl  ?_
      (first | refine owp_nilT ?_ | refine owp_nilB ?_ | refine owp_nilBB ?_ | refine owp_nil ?_)
      obtain rfl := sm hy71
      exact ⟨(), _, ⟨rfl, trivial⟩, hB⟩
    rintro l81 w82 ⟨x73, O83, hs84, hB⟩
    refine ewp_sub _ hs84 ?_
    refine ewp_ret ?_
    obtain rfl := sm hm
    exact ret1v rfl (res_tmp rfl) ⟨hB.ext, vBool⟩
  · replace hm := im' hm c69
    refine ewp_skip ?_
    refine ewp_seq ?_
    refine ewp_region ?_
    refine o_mv rfl rfl  ?_
    refine o_cv (hr := (x1.rng)) rfl rfl  ?_
    refine o_fa rfl rfl  ?_
    refine o_ld (hc := Blk.cell (i := 3) (h25.1) rfl) rfl rfl  ?_
    refine o_ln rfl rfl  ?_
    have l86 : x0.ops.length ≤ 9223372036854775807 := Nat.le_trans h15.len.2.1 h15.len.2.2
    have r85 : inI64 (x0.ops.length : Int) := rngNat l86
    obtain ⟨n87, e88, hm⟩ := bs hm
    have r89 := remI_in e88 (x1.rng)
    refine o_rmE (he := e88) rfl rfl rfl  ?_
    refine o_as rfl rfl  ?_
    (first | refine owp_nilT ?_ | refine owp_nilB ?_ | refine owp_nilBB ?_ | refine owp_nil ?_)
    refine ewp_seq ?_
    refine ewp_region ?_
    refine o_as rfl rfl  ?_
    (first | refine owp_nilT ?_ | refine owp_nilB ?_ | refine owp_nilBB ?_ | refine owp_nil ?_)
    refine ewp_seq ?_
    refine ewp_seq ?_
    refine ewp_region ?_
    refine o_fa rfl rfl  ?_
    refine o_ld (hc := Blk.cell (i := 3) (h25.1) rfl) rfl rfl  ?_
    refine o_mv rfl rfl  ?_
    obtain ⟨a90, e91, hm⟩ := bs hm
    obtain ⟨p93, x92⟩ := atI_some' e91
    obtain ⟨b94, o95, ce96, hA97, hl98, hd99, v101, v102, rfl, h103, h106, r109, z110⟩ := h15.elem' x92
    obtain ⟨A104, c105, rfl⟩ := h103.form
    obtain ⟨A107, c108, rfl⟩ := h106.form
    refine o_iaE (hA := hA97) (hj := (Int.toNat_of_nonneg p93).symm) (hlt := hl98) rfl rfl rfl  ?_
    refine o_fa rfl rfl  ?_
    refine o_ld (hc := cat2 hd99) rfl rfl  ?_
    refine o_ln rfl rfl  ?_
    have l112 : a90.pre.length ≤ 9223372036854775807 := Nat.le_trans h103.len.2.1 h103.len.2.2
    have r111 : inI64 (a90.pre.length : Int) := rngNat l112
    refine o_mv rfl rfl  ?_
    (first | refine owp_nilT ?_ | refine owp_nilB ?_ | refine owp_nilBB ?_ | refine owp_nil ?_)
    obtain ⟨res113, hL114, hm⟩ := bs hm
    refine ewp_join (aft res113 (fun (s115 : (List Fct)) (x116 : (Option Addr × Nat)) => [(3, (.pointer (some ⟨g21, 0, none⟩))), (5, (.pointer (some ⟨g26, 0, none⟩))), (7, (.int .i64 n87)), (8, (.slice x116.1 s115.length x116.2))]) (fun s115 x116 w' => ∃ O' : Lab, Bs w A w' O' ∧ Lc 2 w' O' g21 26 [(.slice A7 x0.vars.length c8), (.slice A10 x0.init.length c11), (.slice A13 x0.goal.length c14), (.slice A16 x0.ops.length c17)] ∧ Vb w' (Fr 0 w' O') (.slice A7 x0.vars.length c8) x0.vars ∧ Vb w' (Fr 0 w' O') (.slice A10 x0.init.length c11) x0.init ∧ Vb w' (Fr 0 w' O') (.slice A13 x0.goal.length c14) x0.goal ∧ Vb w' (Fr 0 w' O') (.slice A16 x0.ops.length c17) x0.ops ∧ Lc 3 w' O' g26 28 [(.int .i64 x2.var), (.int .i64 x2.val)] ∧ Rw 6 w' O' 28 (.slice x116.1 s115.length x116.2) s115)) ?_ ?_
    · refine ewp_block ?_
      refine ewp_rng (σ := (List Fct)) (X := (Option Addr × Nat)) (a90.pre.length) hL114 rfl l112 (fun (s115 : (List Fct)) (x116 : (Option Addr × Nat)) => [(3, (.pointer (some ⟨g21, 0, none⟩))), (5, (.pointer (some ⟨g26, 0, none⟩))), (7, (.int .i64 n87)), (8, (.slice x116.1 s115.length x116.2)), (56, (.slice A104 a90.pre.length c105))]) _ (fun s115 x116 w' => ∃ O' : Lab, Bs w A w' O' ∧ Lc 2 w' O' g21 26 [(.slice A7 x0.vars.length c8), (.slice A10 x0.init.length c11), (.slice A13 x0.goal.length c14), (.slice A16 x0.ops.length c17)] ∧ Vb w' (Fr 0 w' O') (.slice A7 x0.vars.length c8) x0.vars ∧ Vb w' (Fr 0 w' O') (.slice A10 x0.init.length c11) x0.init ∧ Vb w' (Fr 0 w' O') (.slice A13 x0.goal.length c14) x0.goal ∧ Vb w' (Fr 0 w' O') (.slice A16 x0.ops.length c17) x0.ops ∧ Lc 3 w' O' g26 28 [(.int .i64 x2.var), (.int .i64 x2.val)] ∧ Rw 6 w' O' 28 (.slice x116.1 s115.length x116.2) s115 ∧ Vb w' (Fr 0 w' O') (.slice A104 a90.pre.length c105) a90.pre) _ (none, 0) ⟨O67, hB, h25, h6, h9, h12, h15, h30, (Rw.nil 6 (by decide)), h103⟩ ⟨rfl, rfl, rfl, rfl, rfl, rfl, rfl, trivial⟩ (fun _ _ => ⟨rfl, rfl⟩) (fun _ _ => ⟨rfl, rfl, rfl, rfl, trivial⟩) (fun _ _ _ ⟨O', hB, h25, h6, h9, h12, h15, h30, h128, h103⟩ => ⟨O', hB, h25, h6, h9, h12, h15, h30, h128⟩) ⟨rfl, rfl, rfl⟩ ⟨rfl, rfl⟩ ?_
      rintro k117 a118 s115 x116 w119 cc121 hx122 ⟨O120, hB, h25, h6, h9, h12, h15, h30, h128, h103⟩ hf123 hret124 hbrk125
      have rk117 : inI64 (k117 : Int) := rngK hx122 l112
      refine ewp_seq ?_
      refine ewp_region ?_
      obtain ⟨b130, o131, ce132, hA133, hl134, hd135, rfl, r137, r138⟩ := h103.elem' hx122
      refine o_iaE (hA := hA133) (hj := rfl) (hlt := hl134) rfl rfl rfl  ?_
      refine o_la (hl := rfl) (hc := hd135) rfl rfl  ?_
      refine l_alloc 5 O120 rfl fun g139 w140 O141 S142 h143 => ?_
      replace hB := hB.st S142 (fun h => h) (fun h => h)
      replace h25 := h25.st S142 (fun h => h)
      replace h6 := h6.st S142 (fun h => h)
      replace h9 := h9.st S142 (fun h => h)
      replace h12 := h12.st S142 (fun h => h)
      replace h15 := h15.st S142 (fun h => h)
      replace h30 := h30.st S142 (fun h => h)
      replace h128 := h128.st S142 (fun h => h) (fun h => h)
      replace h103 := h103.st S142 (fun h => h)
      refine l_store h143 rfl rfl rfl (Nat.le_of_ble_eq_true rfl) (by first | exact allOne rfl | simp [Value.cells, Value.oneCell', errV_one]) fun w144 S145 h143 => ?_
      replace h143 : Lc 5 w144 O141 g139 28 [(.int .i64 a118.var), (.int .i64 a118.val)] := h143
      replace hB := hB.st S145 (by decide) (by decide)
      replace h25 := h25.st S145 (by decide)
      replace h6 := h6.st S145 (by decide)
      replace h9 := h9.st S145 (by decide)
      replace h12 := h12.st S145 (by decide)
      replace h15 := h15.st S145 (by decide)
      replace h30 := h30.st S145 (by decide)
      replace h128 := h128.st S145 (by decide) (by decide)
      replace h103 := h103.st S145 (by decide)
      (first | refine owp_nilT ?_ | refine owp_nilB ?_ | refine owp_nilBB ?_ | refine owp_nil ?_)
      refine ewp_seq ?_
      refine ewp_seq ?_
      refine ewp_region ?_
      refine o_fa rfl rfl  ?_
      refine o_ld (hc := Blk.cell (i := 0) (h143.1) rfl) rfl rfl  ?_
      refine o_fa rfl rfl  ?_
      refine o_ld (hc := Blk.cell (i := 0) (h30.1) rfl) rfl rfl  ?_
      refine o_eeS rfl rfl rfl (fun c146 => ?_) fun c146 => ?_
      · replace hf123 := ip hf123 c146
        (first | refine owp_nilT ?_ | refine owp_nilB ?_ | refine owp_nilBB ?_ | refine owp_nil ?_)
        refine ewp_true rfl ?_
        refine ewp_seq ?_
        refine ewp_region ?_
        refine o_as rfl rfl  ?_
        (first | refine owp_nilT ?_ | refine owp_nilB ?_ | refine owp_nilBB ?_ | refine owp_nil ?_)
        refine ewp_ret ?_
        obtain rfl := sm hf123
        obtain rfl := hret124 _ rfl
        obtain rfl := sm (fin_ret hm)
        exact ret1v rfl (res_tmp rfl) ⟨hB.ext, vBool⟩
      · replace hf123 := im hf123 c146
        (first | refine owp_nilT ?_ | refine owp_nilB ?_ | refine owp_nilBB ?_ | refine owp_nil ?_)
        refine ewp_false rfl ?_
        refine ewp_skip ?_
        refine ewp_seq ?_
        refine ewp_region ?_
        refine o_fa rfl rfl  ?_
        refine o_ld (hc := Blk.cell (i := 0) (h143.1) rfl) rfl rfl  ?_
        refine o_fa rfl rfl  ?_
        refine o_ld (hc := Blk.cell (i := 0) (h30.1) rfl) rfl rfl  ?_
        refine o_ltS rfl rfl rfl (fun c147 => ?_) fun c147 => ?_
        · replace hf123 := ip hf123 c147
          (first | refine owp_nilT ?_ | refine owp_nilB ?_ | refine owp_nilBB ?_ | refine owp_nil ?_)
          refine ewp_true rfl ?_
          refine ewp_region ?_
          refine o_mv rfl rfl  ?_
          refine o_la (hl := rfl) (hc := (h143.1).cellsAt) rfl rfl  ?_
          obtain ⟨u148, e149, hf123⟩ := bs hf123
          obtain ⟨e149, e150, e151⟩ := appI_some e149
          refine l_append1 rfl (a := a118) h128 (Vb.ofAgg (cs := [(.int .i64 a118.var), (.int .i64 a118.val)]) (x := a118) rfl ⟨rfl, r137, r138⟩) (fun _ => rfl) rfl (by decide) (by decide) e150 e151 ⟨rfl, rfl⟩ fun g152 A153 c154 w155 O156 S157 h158 => ?_
          rw [← e149] at h158 ⊢
          replace hB := hB.st S157 (by decide) (by decide)
          replace h25 := h25.st S157 (by decide)
          replace h6 := h6.st S157 (by decide)
          replace h9 := h9.st S157 (by decide)
          replace h12 := h12.st S157 (by decide)
          replace h15 := h15.st S157 (by decide)
          replace h30 := h30.st S157 (by decide)
          replace h103 := h103.st S157 (by decide)
          refine o_as rfl rfl  ?_
          (first | refine owp_nilT ?_ | refine owp_nilB ?_ | refine owp_nilBB ?_ | refine owp_nil ?_)
          obtain rfl := sm hf123
          refine (?_ : Exists _)
          exact ⟨_, (A153, c154), rfl, ⟨rfl, rfl, rfl, rfl, rfl, rfl, rfl, trivial⟩, _, hB, h25, h6, h9, h12, h15, h30, h158, h103⟩
        · replace hf123 := im hf123 c147
          (first | refine owp_nilT ?_ | refine owp_nilB ?_ | refine owp_nilBB ?_ | refine owp_nil ?_)
          refine ewp_false rfl ?_
          refine ewp_skip ?_
          obtain rfl := sm hf123
          refine (?_ : Exists _)
          exact ⟨_, (x116.1, x116.2), rfl, ⟨rfl, rfl, rfl, rfl, rfl, rfl, rfl, trivial⟩, _, hB, h25, h6, h9, h12, h15, h30, h128, h103⟩
    rintro l160 w161 ⟨s164, x165, rfl, hs163, O162, hB, h25, h6, h9, h12, h15, h30, h128⟩
    replace hm := fin_done hm
    refine ewp_sub _ hs163 ?_
    refine ewp_seq ?_
    refine ewp_region ?_
    refine o_mv rfl rfl  ?_
    refine o_la (hl := rfl) (hc := (h30.1).cellsAt) rfl rfl  ?_
    obtain ⟨u166, e167, hm⟩ := bs hm
    obtain ⟨e167, e168, e169⟩ := appI_some e167
    refine l_append1 rfl (a := x2) h128 (Vb.ofAgg (cs := [(.int .i64 x2.var), (.int .i64 x2.val)]) (x := x2) rfl ⟨rfl, r19, r20⟩) (fun _ => rfl) rfl (by decide) (by decide) e168 e169 ⟨rfl, rfl⟩ fun g170 A171 c172 w173 O174 S175 h176 => ?_
    rw [← e167] at h176 ⊢
    replace hB := hB.st S175 (by decide) (by decide)
    replace h25 := h25.st S175 (by decide)
    replace h6 := h6.st S175 (by decide)
    replace h9 := h9.st S175 (by decide)
    replace h12 := h12.st S175 (by decide)
    replace h15 := h15.st S175 (by decide)
    replace h30 := h30.st S175 (by decide)
    refine o_as rfl rfl  ?_
    (first | refine owp_nilT ?_ | refine owp_nilB ?_ | refine owp_nilBB ?_ | refine owp_nil ?_)
    refine ewp_seq ?_
    refine ewp_seq ?_
    refine ewp_region ?_
    refine o_fa rfl rfl  ?_
    refine o_ld (hc := Blk.cell (i := 3) (h25.1) rfl) rfl rfl  ?_
    refine o_mv rfl rfl  ?_
    obtain ⟨a178, e179, hm⟩ := bs hm
    obtain ⟨p181, x180⟩ := atI_some' e179
    obtain ⟨b182, o183, ce184, hA185, hl186, hd187, v189, v190, rfl, h191, h194, r197, z198⟩ := h15.elem' x180
    obtain ⟨A192, c193, rfl⟩ := h191.form
    obtain ⟨A195, c196, rfl⟩ := h194.form
    refine o_iaE (hA := hA185) (hj := (Int.toNat_of_nonneg p181).symm) (hlt := hl186) rfl rfl rfl  ?_
    refine o_fa rfl rfl  ?_
    refine o_ld (hc := cat2 hd187) rfl rfl  ?_
    refine o_ln rfl rfl  ?_
    have l200 : a178.pre.length ≤ 9223372036854775807 := Nat.le_trans h191.len.2.1 h191.len.2.2
    have r199 : inI64 (a178.pre.length : Int) := rngNat l200
    refine o_mv rfl rfl  ?_
    (first | refine owp_nilT ?_ | refine owp_nilB ?_ | refine owp_nilBB ?_ | refine owp_nil ?_)
    obtain ⟨res201, hL202, hm⟩ := bs hm
    refine ewp_join (aft res201 (fun (s203 : (List Fct)) (x204 : (Option Addr × Nat)) => [(3, (.pointer (some ⟨g21, 0, none⟩))), (5, (.pointer (some ⟨g26, 0, none⟩))), (7, (.int .i64 n87)), (8, (.slice x204.1 s203.length x204.2))]) (fun s203 x204 w' => ∃ O' : Lab, Bs w A w' O' ∧ Lc 2 w' O' g21 26 [(.slice A7 x0.vars.length c8), (.slice A10 x0.init.length c11), (.slice A13 x0.goal.length c14), (.slice A16 x0.ops.length c17)] ∧ Vb w' (Fr 0 w' O') (.slice A7 x0.vars.length c8) x0.vars ∧ Vb w' (Fr 0 w' O') (.slice A10 x0.init.length c11) x0.init ∧ Vb w' (Fr 0 w' O') (.slice A13 x0.goal.length c14) x0.goal ∧ Vb w' (Fr 0 w' O') (.slice A16 x0.ops.length c17) x0.ops ∧ Lc 3 w' O' g26 28 [(.int .i64 x2.var), (.int .i64 x2.val)] ∧ Rw 6 w' O' 28 (.slice x204.1 s203.length x204.2) s203)) ?_ ?_
    · refine ewp_block ?_
      refine ewp_rng (σ := (List Fct)) (X := (Option Addr × Nat)) (a178.pre.length) hL202 rfl l200 (fun (s203 : (List Fct)) (x204 : (Option Addr × Nat)) => [(3, (.pointer (some ⟨g21, 0, none⟩))), (5, (.pointer (some ⟨g26, 0, none⟩))), (7, (.int .i64 n87)), (8, (.slice x204.1 s203.length x204.2)), (86, (.slice A192 a178.pre.length c193))]) _ (fun s203 x204 w' => ∃ O' : Lab, Bs w A w' O' ∧ Lc 2 w' O' g21 26 [(.slice A7 x0.vars.length c8), (.slice A10 x0.init.length c11), (.slice A13 x0.goal.length c14), (.slice A16 x0.ops.length c17)] ∧ Vb w' (Fr 0 w' O') (.slice A7 x0.vars.length c8) x0.vars ∧ Vb w' (Fr 0 w' O') (.slice A10 x0.init.length c11) x0.init ∧ Vb w' (Fr 0 w' O') (.slice A13 x0.goal.length c14) x0.goal ∧ Vb w' (Fr 0 w' O') (.slice A16 x0.ops.length c17) x0.ops ∧ Lc 3 w' O' g26 28 [(.int .i64 x2.var), (.int .i64 x2.val)] ∧ Rw 6 w' O' 28 (.slice x204.1 s203.length x204.2) s203 ∧ Vb w' (Fr 0 w' O') (.slice A192 a178.pre.length c193) a178.pre) _ (A171, c172) ⟨O174, hB, h25, h6, h9, h12, h15, h30, h176, h191⟩ ⟨rfl, rfl, rfl, rfl, rfl, rfl, rfl, trivial⟩ (fun _ _ => ⟨rfl, rfl⟩) (fun _ _ => ⟨rfl, rfl, rfl, rfl, trivial⟩) (fun _ _ _ ⟨O', hB, h25, h6, h9, h12, h15, h30, h216, h191⟩ => ⟨O', hB, h25, h6, h9, h12, h15, h30, h216⟩) ⟨rfl, rfl, rfl⟩ ⟨rfl, rfl⟩ ?_
      rintro k205 a206 s203 x204 w207 cc209 hx210 ⟨O208, hB, h25, h6, h9, h12, h15, h30, h216, h191⟩ hf211 hret212 hbrk213
      have rk205 : inI64 (k205 : Int) := rngK hx210 l200
      refine ewp_seq ?_
      refine ewp_region ?_
      obtain ⟨b218, o219, ce220, hA221, hl222, hd223, rfl, r225, r226⟩ := h191.elem' hx210
      refine o_iaE (hA := hA221) (hj := rfl) (hlt := hl222) rfl rfl rfl  ?_
      refine o_la (hl := rfl) (hc := hd223) rfl rfl  ?_
      refine l_alloc 7 O208 rfl fun g227 w228 O229 S230 h231 => ?_
      replace hB := hB.st S230 (fun h => h) (fun h => h)
      replace h25 := h25.st S230 (fun h => h)
      replace h6 := h6.st S230 (fun h => h)
      replace h9 := h9.st S230 (fun h => h)
      replace h12 := h12.st S230 (fun h => h)
      replace h15 := h15.st S230 (fun h => h)
      replace h30 := h30.st S230 (fun h => h)
      replace h216 := h216.st S230 (fun h => h) (fun h => h)
      replace h191 := h191.st S230 (fun h => h)
      refine l_store h231 rfl rfl rfl (Nat.le_of_ble_eq_true rfl) (by first | exact allOne rfl | simp [Value.cells, Value.oneCell', errV_one]) fun w232 S233 h231 => ?_
      replace h231 : Lc 7 w232 O229 g227 28 [(.int .i64 a206.var), (.int .i64 a206.val)] := h231
      replace hB := hB.st S233 (by decide) (by decide)
      replace h25 := h25.st S233 (by decide)
      replace h6 := h6.st S233 (by decide)
      replace h9 := h9.st S233 (by decide)
      replace h12 := h12.st S233 (by decide)
      replace h15 := h15.st S233 (by decide)
      replace h30 := h30.st S233 (by decide)
      replace h216 := h216.st S233 (by decide) (by decide)
      replace h191 := h191.st S233 (by decide)
      (first | refine owp_nilT ?_ | refine owp_nilB ?_ | refine owp_nilBB ?_ | refine owp_nil ?_)
      refine ewp_seq ?_
      refine ewp_region ?_
      refine o_fa rfl rfl  ?_
      refine o_ld (hc := Blk.cell (i := 0) (h231.1) rfl) rfl rfl  ?_
      refine o_fa rfl rfl  ?_
      refine o_ld (hc := Blk.cell (i := 0) (h30.1) rfl) rfl rfl  ?_
      refine o_gtS rfl rfl rfl (fun c234 => ?_) fun c234 => ?_
      · replace hf211 := ip hf211 c234
        (first | refine owp_nilT ?_ | refine owp_nilB ?_ | refine owp_nilBB ?_ | refine owp_nil ?_)
        refine ewp_true rfl ?_
        refine ewp_region ?_
        refine o_mv rfl rfl  ?_
        refine o_la (hl := rfl) (hc := (h231.1).cellsAt) rfl rfl  ?_
        obtain ⟨u235, e236, hf211⟩ := bs hf211
        obtain ⟨e236, e237, e238⟩ := appI_some e236
        refine l_append1 rfl (a := a206) h216 (Vb.ofAgg (cs := [(.int .i64 a206.var), (.int .i64 a206.val)]) (x := a206) rfl ⟨rfl, r225, r226⟩) (fun _ => rfl) rfl (by decide) (by decide) e237 e238 ⟨rfl, rfl⟩ fun g239 A240 c241 w242 O243 S244 h245 => ?_
        rw [← e236] at h245 ⊢
        replace hB := hB.st S244 (by decide) (by decide)
        replace h25 := h25.st S244 (by decide)
        replace h6 := h6.st S244 (by decide)
        replace h9 := h9.st S244 (by decide)
        replace h12 := h12.st S244 (by decide)
        replace h15 := h15.st S244 (by decide)
        replace h30 := h30.st S244 (by decide)
        replace h191 := h191.st S244 (by decide)
        refine o_as rfl rfl  ?_
        (first | refine owp_nilT ?_ | refine owp_nilB ?_ | refine owp_nilBB ?_ | refine owp_nil ?_)
        obtain rfl := sm hf211
        refine (?_ : Exists _)
        exact ⟨_, (A240, c241), rfl, ⟨rfl, rfl, rfl, rfl, rfl, rfl, rfl, trivial⟩, _, hB, h25, h6, h9, h12, h15, h30, h245, h191⟩
      · replace hf211 := im hf211 c234
        (first | refine owp_nilT ?_ | refine owp_nilB ?_ | refine owp_nilBB ?_ | refine owp_nil ?_)
        refine ewp_false rfl ?_
        refine ewp_skip ?_
        obtain rfl := sm hf211
        refine (?_ : Exists _)
        exact ⟨_, (x204.1, x204.2), rfl, ⟨rfl, rfl, rfl, rfl, rfl, rfl, rfl, trivial⟩, _, hB, h25, h6, h9, h12, h15, h30, h216, h191⟩
    rintro l247 w248 ⟨s251, x252, rfl, hs250, O249, hB, h25, h6, h9, h12, h15, h30, h216⟩
    replace hm := fin_done hm
    refine ewp_sub _ hs250 ?_
    refine ewp_seq ?_
    refine ewp_region ?_
    refine o_la (hl := rfl) (hc := (h25.1).cellsAt) rfl rfl  ?_
    refine l_alloc 8 O249 rfl fun g253 w254 O255 S256 h257 => ?_
    replace hB := hB.st S256 (fun h => h) (fun h => h)
    replace h25 := h25.st S256 (fun h => h)
    replace h6 := h6.st S256 (fun h => h)
    replace h9 := h9.st S256 (fun h => h)
    replace h12 := h12.st S256 (fun h => h)
    replace h15 := h15.st S256 (fun h => h)
    replace h30 := h30.st S256 (fun h => h)
    replace h216 := h216.st S256 (fun h => h) (fun h => h)
    refine l_store h257 rfl rfl rfl (Nat.le_of_ble_eq_true rfl) (by first | exact allOne rfl | simp [Value.cells, Value.oneCell', errV_one]) fun w258 S259 h257 => ?_
    replace h257 : Lc 8 w258 O255 g253 26 [(.slice A7 x0.vars.length c8), (.slice A10 x0.init.length c11), (.slice A13 x0.goal.length c14), (.slice A16 x0.ops.length c17)] := h257
    replace hB := hB.st S259 (by decide) (by decide)
    replace h25 := h25.st S259 (by decide)
    replace h6 := h6.st S259 (by decide)
    replace h9 := h9.st S259 (by decide)
    replace h12 := h12.st S259 (by decide)
    replace h15 := h15.st S259 (by decide)
    replace h30 := h30.st S259 (by decide)
    replace h216 := h216.st S259 (by decide) (by decide)
    (first | refine owp_nilT ?_ | refine owp_nilB ?_ | refine owp_nilBB ?_ | refine owp_nil ?_)
    refine ewp_seq ?_
    refine ewp_region ?_
    refine l_bslice 9 (by decide) O255 (xs := (([] : List Opr) : List Opr)) rfl rfl rfl rfl trivial (by decide) (by decide) rfl fun g260 w261 O262 S263 h264 => ?_
    replace hB := hB.st S263 (fun h => h) (fun h => h)
    replace h25 := h25.st S263 (fun h => h)
    replace h6 := h6.st S263 (fun h => h)
    replace h9 := h9.st S263 (fun h => h)
    replace h12 := h12.st S263 (fun h => h)
    replace h15 := h15.st S263 (fun h => h)
    replace h30 := h30.st S263 (fun h => h)
    replace h216 := h216.st S263 (fun h => h) (fun h => h)
    replace h257 := h257.st S263 (fun h => h)
    refine o_fa rfl rfl  ?_
    refine o_ld (hc := Blk.cell (i := 3) (h25.1) rfl) rfl rfl  ?_
    obtain ⟨u266, e267, hm⟩ := bs hm
    obtain ⟨e267, e268, e269⟩ := appI_some e267
    refine l_append rfl h264 (h15.rd) rfl rfl (by decide) e268 e269 rfl fun A270 c271 w272 O273 S274 h275 => ?_
    rw [← e267] at h275 ⊢
    replace hB := hB.st S274 (by decide) (by decide)
    replace h25 := h25.st S274 (by decide)
    replace h6 := h6.st S274 (by decide)
    replace h9 := h9.st S274 (by decide)
    replace h12 := h12.st S274 (by decide)
    replace h15 := h15.st S274 (by decide)
    replace h30 := h30.st S274 (by decide)
    replace h216 := h216.st S274 (by decide) (by decide)
    replace h257 := h257.st S274 (by decide)
    refine o_fa rfl rfl  ?_
    refine l_store h257 rfl rfl rfl (Nat.le_of_ble_eq_true rfl) (by first | exact allOne rfl | simp [Value.cells, Value.oneCell', errV_one]) fun w277 S278 h257 => ?_
    replace h257 : Lc 8 w277 O273 g253 26 [(.slice A7 x0.vars.length c8), (.slice A10 x0.init.length c11), (.slice A13 x0.goal.length c14), (.slice A270 u266.length c271)] := h257
    replace hB := hB.st S278 (by decide) (by decide)
    replace h25 := h25.st S278 (by decide)
    replace h6 := h6.st S278 (by decide)
    replace h9 := h9.st S278 (by decide)
    replace h12 := h12.st S278 (by decide)
    replace h15 := h15.st S278 (by decide)
    replace h30 := h30.st S278 (by decide)
    replace h216 := h216.st S278 (by decide) (by decide)
    replace h275 := h275.st S278 (by decide) (by decide)
    (first | refine owp_nilT ?_ | refine owp_nilB ?_ | refine owp_nilBB ?_ | refine owp_nil ?_)
    refine ewp_seq ?_
    refine ewp_region ?_
    refine o_fa rfl rfl  ?_
    refine o_ld (hc := Blk.cell (i := 3) (h257.1) rfl) rfl rfl  ?_
    refine o_mv rfl rfl  ?_
    refine o_mv rfl rfl  ?_
    obtain ⟨a279, e280, hm⟩ := bs hm
    obtain ⟨p282, x281⟩ := atI_some' e280
    obtain ⟨b283, o284, ce285, hA286, hl287, hd288, v290, v291, rfl, h292, h295, r298, z299⟩ := h275.elem x281
    obtain ⟨A293, c294, rfl⟩ := h292.form
    obtain ⟨A296, c297, rfl⟩ := h295.form
    refine o_iaE (hA := hA286) (hj := (Int.toNat_of_nonneg p282).symm) (hlt := hl287) rfl rfl rfl  ?_
    refine o_fa rfl rfl  ?_
    obtain ⟨O300, S301, h216⟩ := h216.freeze
    replace hB := hB.st S301 (by decide) (by decide)
    replace h25 := h25.st S301 (by decide)
    replace h6 := h6.st S301 (by decide)
    replace h9 := h9.st S301 (by decide)
    replace h12 := h12.st S301 (by decide)
    replace h15 := h15.st S301 (by decide)
    replace h30 := h30.st S301 (by decide)
    replace h257 := h257.st S301 (by decide)
    replace h275 := h275.st S301 (by decide) (by decide)
    replace h292 := h292.st S301 (by decide)
    replace h295 := h295.st S301 (by decide)
    refine l_setPart (a := a279) (a' := ({ a279 with pre := s251 } : Opr)) (off := 2) h275 hA286 x281 rfl rfl rfl (Nat.le_of_ble_eq_true rfl) (by first | exact allOne rfl | simp [Value.cells, Value.oneCell', errV_one]) (by rintro ce ⟨v304, v305, rfl, h306, h309, r312, z313⟩; exact ⟨_, _, rfl, h216, h309, r312, z313⟩) fun w302 S303 h275 => ?_
    replace hB := hB.st S303 (by decide) (by decide)
    replace h25 := h25.st S303 (by decide)
    replace h6 := h6.st S303 (by decide)
    replace h9 := h9.st S303 (by decide)
    replace h12 := h12.st S303 (by decide)
    replace h15 := h15.st S303 (by decide)
    replace h30 := h30.st S303 (by decide)
    replace h257 := h257.st S303 (by decide)
    (first | refine owp_nilT ?_ | refine owp_nilB ?_ | refine owp_nilBB ?_ | refine owp_nil ?_)
    refine ewp_seq ?_
    refine ewp_region ?_
    refine o_la (hl := rfl) (hc := (h25.1).cellsAt) rfl rfl  ?_
    obtain ⟨q314, e315, hm⟩ := bs hm
    refine l_call (O := O300) (R := fun w' F v => T2 w' F v q314) (c_succgen_New Fr.lt (Vb.ofAgg (cs := [(.slice A7 x0.vars.length c8), (.slice A10 x0.init.length c11), (.slice A13 x0.goal.length c14), (.slice A16 x0.ops.length c17)]) (x := x0) rfl ⟨_, _, _, _, rfl, h6, h9, h12, h15⟩) e315) rfl rfl fun v320 w316 O317 S318 h319 => ?_
    obtain ⟨v321, v322, rfl, h323, h324⟩ := h319
    obtain ⟨p325, rfl, hq326⟩ := h323.ptr
    obtain ⟨rfl, r327⟩ := h324.err
    replace hB := hB.st S318 (fun h => h) (fun h => h)
    replace h25 := h25.st S318 (fun h => h)
    replace h6 := h6.st S318 (fun h => h)
    replace h9 := h9.st S318 (fun h => h)
    replace h12 := h12.st S318 (fun h => h)
    replace h15 := h15.st S318 (fun h => h)
    replace h30 := h30.st S318 (fun h => h)
    replace h257 := h257.st S318 (fun h => h)
    replace h275 := h275.st S318 (fun h => h) (fun h => h)
    refine o_mv rfl rfl  ?_
    refine o_ex rfl rfl rfl  ?_
    refine o_ex rfl rfl rfl  ?_
    refine o_as rfl rfl  ?_
    refine o_as rfl rfl  ?_
    (first | refine owp_nilT ?_ | refine owp_nilB ?_ | refine owp_nilBB ?_ | refine owp_nil ?_)
    refine ewp_seq ?_
    refine ewp_region ?_
    refine o_la (hl := rfl) (hc := (h257.1).cellsAt) rfl rfl  ?_
    obtain ⟨O328, S329, h275⟩ := h275.freeze
    replace hB := hB.st S329 (by decide) (by decide)
    replace h25 := h25.st S329 (by decide)
    replace h6 := h6.st S329 (by decide)
    replace h9 := h9.st S329 (by decide)
    replace h12 := h12.st S329 (by decide)
    replace h15 := h15.st S329 (by decide)
    replace h30 := h30.st S329 (by decide)
    replace h323 := h323.st S329 (by decide)
    obtain ⟨q330, e331, hm⟩ := bs hm
    refine l_call (O := O328) (R := fun w' F v => T2 w' F v q330) (c_succgen_New Fr.lt (Vb.ofAgg (cs := [(.slice A7 x0.vars.length c8), (.slice A10 x0.init.length c11), (.slice A13 x0.goal.length c14), (.slice A270 u266.length c271)]) (x := (⟨x0.vars, x0.init, x0.goal, (u266.set (n87).toNat ({ a279 with pre := s251 } : Opr))⟩ : Tsk)) rfl ⟨_, _, _, _, rfl, h6, h9, h12, h275⟩) e331) rfl rfl fun v336 w332 O333 S334 h335 => ?_
    obtain ⟨v337, v338, rfl, h339, h340⟩ := h335
    obtain ⟨p341, rfl, hq342⟩ := h339.ptr
    obtain ⟨rfl, r343⟩ := h340.err
    replace hB := hB.st S334 (fun h => h) (fun h => h)
    replace h25 := h25.st S334 (fun h => h)
    replace h6 := h6.st S334 (fun h => h)
    replace h9 := h9.st S334 (fun h => h)
    replace h12 := h12.st S334 (fun h => h)
    replace h15 := h15.st S334 (fun h => h)
    replace h30 := h30.st S334 (fun h => h)
    replace h323 := h323.st S334 (fun h => h)
    refine o_mv rfl rfl  ?_
    refine o_ex rfl rfl rfl  ?_
    refine o_ex rfl rfl rfl  ?_
    refine o_as rfl rfl  ?_
    refine o_as rfl rfl  ?_
    (first | refine owp_nilT ?_ | refine owp_nilB ?_ | refine owp_nilBB ?_ | refine owp_nil ?_)
    refine ewp_seq ?_
    refine ewp_seq ?_
    obtain ⟨y344, hy345, hm⟩ := bs hm
    refine ewp_join (fun l' w' => ∃ (x347 : Unit) (O' : Lab), subs l' [(3, (.pointer (some ⟨g21, 0, none⟩))), (5, (.pointer (some ⟨g26, 0, none⟩))), (7, (.int .i64 n87)), (14, (.pointer p325)), (16, (.pointer p341)), (129, (.bool y344))] ∧ Bs w A w' O' ∧ Lc 2 w' O' g21 26 [(.slice A7 x0.vars.length c8), (.slice A10 x0.init.length c11), (.slice A13 x0.goal.length c14), (.slice A16 x0.ops.length c17)] ∧ Vb w' (Fr 0 w' O') (.slice A7 x0.vars.length c8) x0.vars ∧ Vb w' (Fr 0 w' O') (.slice A10 x0.init.length c11) x0.init ∧ Vb w' (Fr 0 w' O') (.slice A13 x0.goal.length c14) x0.goal ∧ Vb w' (Fr 0 w' O') (.slice A16 x0.ops.length c17) x0.ops ∧ Lc 3 w' O' g26 28 [(.int .i64 x2.var), (.int .i64 x2.val)] ∧ Vb w' (Fr 0 w' O') (.pointer p325) q314.1 ∧ Vb w' (Fr 0 w' O') (.pointer p341) q330.1) ?_ ?_
    · skip
      refine ewp_region ?_
      refine o_mv rfl rfl  ?_
      refine o_rnS rfl rfl (fun c348 => ?_) fun c348 => ?_
      · replace hy345 := ip hy345 c348
        refine o_mv rfl rfl  ?_
        refine owp_no rfl rfl rfl rfl ?_
        refine owp_no rfl rfl rfl rfl ?_
        refine o_pt rfl rfl rfl  ?_
        (first | refine owp_nilT ?_ | refine owp_nilB ?_ | refine owp_nilBB ?_ | refine owp_nil ?_)
        obtain rfl := sm hy345
        exact ⟨(), _, ⟨rfl, rfl, rfl, rfl, rfl, rfl, trivial⟩, hB, h25, h6, h9, h12, h15, h30, h323, h339⟩
      · replace hy345 := im hy345 c348
        refine o_mv rfl rfl  ?_
        refine owp_yes rfl rfl ?_
        refine o_mv rfl rfl  ?_
        refine owp_yes rfl rfl ?_
        refine o_rnS rfl rfl (fun c349 => ?_) fun c349 => ?_
        · replace hy345 := ip hy345 c349
          refine o_pf rfl rfl rfl  ?_
          (first | refine owp_nilT ?_ | refine owp_nilB ?_ | refine owp_nilBB ?_ | refine owp_nil ?_)
          obtain rfl := sm hy345
          exact ⟨(), _, ⟨rfl, rfl, rfl, rfl, rfl, rfl, trivial⟩, hB, h25, h6, h9, h12, h15, h30, h323, h339⟩
        · replace hy345 := im hy345 c349
          refine o_pf rfl rfl rfl  ?_
          (first | refine owp_nilT ?_ | refine owp_nilB ?_ | refine owp_nilBB ?_ | refine owp_nil ?_)
          obtain rfl := sm hy345
          exact ⟨(), _, ⟨rfl, rfl, rfl, rfl, rfl, rfl, trivial⟩, hB, h25, h6, h9, h12, h15, h30, h323, h339⟩
    rintro l350 w351 ⟨x347, O352, hs353, hB, h25, h6, h9, h12, h15, h30, h323, h339⟩
    refine ewp_sub _ hs353 ?_
    refine ewp_cond rfl (fun c354 => ?_) (fun c354 => ?_)
    · replace hm := ip hm c354
      refine ewp_seq ?_
      refine ewp_region ?_
      refine o_as rfl rfl  ?_
      (first | refine owp_nilT ?_ | refine owp_nilB ?_ | refine owp_nilBB ?_ | refine owp_nil ?_)
      refine ewp_ret ?_
      obtain rfl := sm hm
      exact ret1v rfl (res_tmp rfl) ⟨hB.ext, vBool⟩
    · replace hm := im' hm c354
      refine ewp_skip ?_
      refine ewp_seq ?_
      refine ewp_seq ?_
      refine ewp_region ?_
      refine o_fa rfl rfl  ?_
      refine o_ld (hc := Blk.cell (i := 0) (h25.1) rfl) rfl rfl  ?_
      obtain ⟨q355, e356, hm⟩ := bs hm
      refine l_call (O := O352) (R := fun w' F v => Vb w' F v q355) (c_base_States Fr.lt h6 e356) rfl rfl fun v361 w357 O358 S359 h360 => ?_
      obtain ⟨A362, c363, rfl⟩ := h360.form
      replace hB := hB.st S359 (fun h => h) (fun h => h)
      replace h30 := h30.st S359 (fun h => h)
      replace h323 := h323.st S359 (fun h => h)
      replace h339 := h339.st S359 (fun h => h)
      refine o_ln rfl rfl  ?_
      have l365 : q355.length ≤ 9223372036854775807 := Nat.le_trans h360.len.2.1 h360.len.2.2
      have r364 : inI64 (q355.length : Int) := rngNat l365
      refine o_mv rfl rfl  ?_
      (first | refine owp_nilT ?_ | refine owp_nilB ?_ | refine owp_nilBB ?_ | refine owp_nil ?_)
      obtain ⟨res366, hL367, hm⟩ := bs hm
      refine ewp_join (aft res366 (fun (s368 : Unit) (x369 : Unit) => []) (fun s368 x369 w' => ∃ O' : Lab, Bs w A w' O')) ?_ ?_
      · refine ewp_block ?_
        refine ewp_rng (σ := Unit) (X := Unit) (q355.length) hL367 rfl l365 (fun (s368 : Unit) (x369 : Unit) => [(5, (.pointer (some ⟨g26, 0, none⟩))), (7, (.int .i64 n87)), (14, (.pointer p325)), (16, (.pointer p341)), (132, (.slice A362 q355.length c363))]) _ (fun s368 x369 w' => ∃ O' : Lab, Bs w A w' O' ∧ Lc 3 w' O' g26 28 [(.int .i64 x2.var), (.int .i64 x2.val)] ∧ Vb w' (Fr 0 w' O') (.pointer p325) q314.1 ∧ Vb w' (Fr 0 w' O') (.pointer p341) q330.1 ∧ Vb w' (Fr 0 w' O') (.slice A362 q355.length c363) q355) _ () ⟨O358, hB, h30, h323, h339, h360⟩ ⟨rfl, rfl, rfl, rfl, rfl, rfl, rfl, trivial⟩ (fun _ _ => ⟨rfl, rfl⟩) (fun _ _ => trivial) (fun _ _ _ ⟨O', hB, h30, h323, h339, h360⟩ => ⟨O', hB⟩) ⟨rfl, rfl, rfl⟩ ⟨rfl, rfl⟩ ?_
        rintro k370 a371 s368 x369 w372 cc374 hx375 ⟨O373, hB, h30, h323, h339, h360⟩ hf376 hret377 hbrk378
        have rk370 : inI64 (k370 : Int) := rngK hx375 l365
        refine ewp_seq ?_
        refine ewp_region ?_
        obtain ⟨b379, o380, ce381, hA382, hl383, hd384, v386, rfl, h387⟩ := h360.elem' hx375
        replace h387 := Vb.of_slice h387
        obtain ⟨A388, c389, rfl⟩ := h387.form
        refine o_iaE (hA := hA382) (hj := rfl) (hlt := hl383) rfl rfl rfl  ?_
        refine o_ld (hc := cat0 hd384) rfl rfl  ?_
        refine o_as rfl rfl  ?_
        (first | refine owp_nilT ?_ | refine owp_nilB ?_ | refine owp_nilBB ?_ | refine owp_nil ?_)
        refine ewp_seq ?_
        refine ewp_region ?_
        refine o_as rfl rfl  ?_
        (first | refine owp_nilT ?_ | refine owp_nilB ?_ | refine owp_nilBB ?_ | refine owp_nil ?_)
        refine ewp_seq ?_
        refine ewp_seq ?_
        refine ewp_region ?_
        refine o_mv rfl rfl  ?_
        refine o_mv rfl rfl  ?_
        obtain ⟨q390, e391, hf376⟩ := bs hf376
        refine l_callRow 10 (by decide) (O := O373) (c_succgen_Generator_Applicable Fr.lt h323 h387 e391) rfl rfl fun A397 c398 w392 O393 S394 h395 => ?_
        replace hB := hB.st S394 (fun h => h) (fun h => h)
        replace h30 := h30.st S394 (fun h => h)
        replace h323 := h323.st S394 (fun h => h)
        replace h339 := h339.st S394 (fun h => h)
        replace h387 := h387.st S394 (fun h => h)
        replace h360 := h360.st S394 (fun h => h)
        refine o_ln rfl rfl  ?_
        have l401 : q390.length ≤ 9223372036854775807 := Nat.le_trans h395.len.2.1 h395.len.2.2
        have r400 : inI64 (q390.length : Int) := rngNat l401
        refine o_mv rfl rfl  ?_
        (first | refine owp_nilT ?_ | refine owp_nilB ?_ | refine owp_nilBB ?_ | refine owp_nil ?_)
        obtain ⟨res402, hL403, hf376⟩ := bs hf376
        refine ewp_join (aft res402 (fun (s404 : (List Int)) (x405 : (Option Addr × Nat)) => [(5, (.pointer (some ⟨g26, 0, none⟩))), (7, (.int .i64 n87)), (14, (.pointer p325)), (16, (.pointer p341)), (19, (.slice A388 a371.length c389)), (20, (.slice x405.1 s404.length x405.2)), (132, (.slice A362 q355.length c363)), (133, (.int .i64 (q355.length : Int))), (134, (.int .i64 (k370 : Int)))]) (fun s404 x405 w' => ∃ O' : Lab, Bs w A w' O' ∧ Lc 3 w' O' g26 28 [(.int .i64 x2.var), (.int .i64 x2.val)] ∧ Vb w' (Fr 0 w' O') (.pointer p325) q314.1 ∧ Vb w' (Fr 0 w' O') (.pointer p341) q330.1 ∧ Vb w' (Fr 0 w' O') (.slice A388 a371.length c389) a371 ∧ Rw 11 w' O' 3 (.slice x405.1 s404.length x405.2) s404 ∧ Vb w' (Fr 0 w' O') (.slice A362 q355.length c363) q355)) ?_ ?_
        · refine ewp_block ?_
          refine ewp_rng (σ := (List Int)) (X := (Option Addr × Nat)) (q390.length) hL403 rfl l401 (fun (s404 : (List Int)) (x405 : (Option Addr × Nat)) => [(5, (.pointer (some ⟨g26, 0, none⟩))), (7, (.int .i64 n87)), (14, (.pointer p325)), (16, (.pointer p341)), (19, (.slice A388 a371.length c389)), (20, (.slice x405.1 s404.length x405.2)), (132, (.slice A362 q355.length c363)), (133, (.int .i64 (q355.length : Int))), (134, (.int .i64 (k370 : Int))), (140, (.slice A397 q390.length c398))]) _ (fun s404 x405 w' => ∃ O' : Lab, Bs w A w' O' ∧ Lc 3 w' O' g26 28 [(.int .i64 x2.var), (.int .i64 x2.val)] ∧ Vb w' (Fr 0 w' O') (.pointer p325) q314.1 ∧ Vb w' (Fr 0 w' O') (.pointer p341) q330.1 ∧ Vb w' (Fr 0 w' O') (.slice A388 a371.length c389) a371 ∧ Rw 11 w' O' 3 (.slice x405.1 s404.length x405.2) s404 ∧ Vb w' (Fr 0 w' O') (.slice A362 q355.length c363) q355 ∧ Rw 10 w' O' 3 (.slice A397 q390.length c398) q390) _ (none, 0) ⟨O393, hB, h30, h323, h339, h387, (Rw.nil 11 (by decide)), h360, h395⟩ ⟨rfl, rfl, rfl, rfl, rfl, rfl, rfl, rfl, rfl, rfl, rfl, rfl, trivial⟩ (fun _ _ => ⟨rfl, rfl⟩) (fun _ _ => ⟨rfl, rfl, rfl, rfl, rfl, rfl, rfl, rfl, rfl, trivial⟩) (fun _ _ _ ⟨O', hB, h30, h323, h339, h387, h417, h360, h395⟩ => ⟨O', hB, h30, h323, h339, h387, h417, h360⟩) ⟨rfl, rfl, rfl⟩ ⟨rfl, rfl⟩ ?_
          rintro k406 a407 s404 x405 w408 cc410 hx411 ⟨O409, hB, h30, h323, h339, h387, h417, h360, h395⟩ hf412 hret413 hbrk414
          have rk406 : inI64 (k406 : Int) := rngK hx411 l401
          refine ewp_seq ?_
          refine ewp_region ?_
          obtain ⟨b419, o420, ce421, hA422, hl423, hd424, rfl, r426⟩ := h395.elem hx411
          refine o_iaE (hA := hA422) (hj := rfl) (hlt := hl423) rfl rfl rfl  ?_
          refine o_ld (hc := cat0 hd424) rfl rfl  ?_
          refine o_as rfl rfl  ?_
          (first | refine owp_nilT ?_ | refine owp_nilB ?_ | refine owp_nilBB ?_ | refine owp_nil ?_)
          refine ewp_seq ?_
          obtain ⟨y427, hy428, hf412⟩ := bs hf412
          refine ewp_join (fun l' w' => ∃ (x430 : Unit) (O' : Lab), subs l' [(5, (.pointer (some ⟨g26, 0, none⟩))), (7, (.int .i64 n87)), (14, (.pointer p325)), (16, (.pointer p341)), (19, (.slice A388 a371.length c389)), (20, (.slice x405.1 s404.length x405.2)), (22, (.int .i64 a407)), (132, (.slice A362 q355.length c363)), (133, (.int .i64 (q355.length : Int))), (134, (.int .i64 (k370 : Int))), (140, (.slice A397 q390.length c398)), (141, (.int .i64 (q390.length : Int))), (142, (.int .i64 (k406 : Int))), (158, (.bool y427))] ∧ Bs w A w' O' ∧ Lc 3 w' O' g26 28 [(.int .i64 x2.var), (.int .i64 x2.val)] ∧ Vb w' (Fr 0 w' O') (.pointer p325) q314.1 ∧ Vb w' (Fr 0 w' O') (.pointer p341) q330.1 ∧ Vb w' (Fr 0 w' O') (.slice A388 a371.length c389) a371 ∧ Rw 11 w' O' 3 (.slice x405.1 s404.length x405.2) s404 ∧ Vb w' (Fr 0 w' O') (.slice A362 q355.length c363) q355 ∧ Rw 10 w' O' 3 (.slice A397 q390.length c398) q390) ?_ ?_
          · skip
            refine ewp_draw (· = w408) [(0, true), (1, true), (2, true), (3, true), (4, true), (5, true), (6, true), (7, true), (8, true), (9, true), (10, true), (11, true), (12, true)] (by kernel_rfl) rfl (by kernel_rfl) rfl ?_
            refine h_mv rfl rfl rfl  ?_
            refine h_mv rfl rfl rfl  ?_
            refine h_neS rfl rfl rfl rfl (fun c431 => ?_) fun c431 => ?_
            · replace hy428 := ip hy428 c431
              refine h_mv rfl rfl rfl  ?_
              refine h_no rfl rfl rfl rfl rfl ?_
              refine h_no rfl rfl rfl rfl rfl ?_
              refine h_no rfl rfl rfl rfl rfl ?_
              refine h_no rfl rfl rfl rfl rfl ?_
              refine h_no rfl rfl rfl rfl rfl ?_
              refine h_no rfl rfl rfl rfl rfl ?_
              refine h_no rfl rfl rfl rfl rfl ?_
              refine h_no rfl rfl rfl rfl rfl ?_
              refine h_pt rfl rfl rfl rfl  ?_
              (first | refine hwp_nilT ?_ | refine hwp_nilB ?_ | refine hwp_nil ?_)
              obtain rfl := sm hy428
              exact ⟨(), _, ⟨rfl, rfl, rfl, rfl, rfl, rfl, rfl, rfl, rfl, rfl, rfl, rfl, rfl, rfl, trivial⟩, hB, h30, h323, h339, h387, h417, h360, h395⟩
            · replace hy428 := im hy428 c431
              refine h_mv rfl rfl rfl  ?_
              refine hwp_o rfl ?_
              refine hwq_yes rfl rfl ?_
              refine g_mv rfl rfl  ?_
              refine hwp_o rfl ?_
              refine hwq_yes rfl rfl ?_
              refine g_fa rfl rfl  ?_
              refine hwp_o rfl ?_
              refine hwq_yes rfl rfl ?_
              refine g_ldA (hc := Blk.cell (i := 0) (h30.1) rfl) rfl rfl  ?_
              refine hwp_o rfl ?_
              refine hwq_yes rfl rfl ?_
              obtain ⟨a432, e433, hy428⟩ := bs hy428
              obtain ⟨p435, x434⟩ := atI_some' e433
              obtain ⟨b436, o437, ce438, hA439, hl440, hd441, rfl, r443⟩ := h387.elem' x434
              refine g_iaE (hA := hA439) (hj := (Int.toNat_of_nonneg p435).symm) (hlt := hl440) rfl rfl rfl  ?_
              refine hwp_o rfl ?_
              refine hwq_yes rfl rfl ?_
              refine g_ldA (hc := cat0 hd441) rfl rfl  ?_
              refine hwp_o rfl ?_
              refine hwq_yes rfl rfl ?_
              refine g_fa rfl rfl  ?_
              refine hwp_o rfl ?_
              refine hwq_yes rfl rfl ?_
              refine g_ldA (hc := Blk.cell (i := 1) (h30.1) rfl) rfl rfl  ?_
              refine hwp_o rfl ?_
              refine hwq_yes rfl rfl ?_
              refine hwq_split (fun _ _ => ev_eql rfl rfl) rfl (fun c444 => ?_) (fun c444 => ?_)
              · replace hy428 := ip hy428 c444
                refine h_pf rfl rfl rfl rfl  ?_
                (first | refine hwp_nilT ?_ | refine hwp_nilB ?_ | refine hwp_nil ?_)
                obtain rfl := sm hy428
                exact ⟨(), _, ⟨rfl, rfl, rfl, rfl, rfl, rfl, rfl, rfl, rfl, rfl, rfl, rfl, rfl, rfl, trivial⟩, hB, h30, h323, h339, h387, h417, h360, h395⟩
              · replace hy428 := im hy428 c444
                refine h_pf rfl rfl rfl rfl  ?_
                (first | refine hwp_nilT ?_ | refine hwp_nilB ?_ | refine hwp_nil ?_)
                obtain rfl := sm hy428
                exact ⟨(), _, ⟨rfl, rfl, rfl, rfl, rfl, rfl, rfl, rfl, rfl, rfl, rfl, rfl, rfl, rfl, trivial⟩, hB, h30, h323, h339, h387, h417, h360, h395⟩
          rintro l445 w446 ⟨x430, O447, hs448, hB, h30, h323, h339, h387, h417, h360, h395⟩
          refine ewp_sub _ hs448 ?_
          refine ewp_cond rfl (fun c449 => ?_) (fun c449 => ?_)
          · replace hf412 := ip hf412 c449
            refine ewp_region ?_
            refine o_mv rfl rfl  ?_
            refine o_mv rfl rfl  ?_
            obtain ⟨u450, e451, hf412⟩ := bs hf412
            obtain ⟨e451, e452, e453⟩ := appI_some e451
            refine l_append1 rfl (a := a407) h417 (vInt r426) (fun _ => rfl) rfl (by decide) (by decide) e452 e453 ⟨rfl, rfl⟩ fun g454 A455 c456 w457 O458 S459 h460 => ?_
            rw [← e451] at h460 ⊢
            replace hB := hB.st S459 (by decide) (by decide)
            replace h30 := h30.st S459 (by decide)
            replace h323 := h323.st S459 (by decide)
            replace h339 := h339.st S459 (by decide)
            replace h387 := h387.st S459 (by decide)
            replace h360 := h360.st S459 (by decide)
            replace h395 := h395.st S459 (by decide) (by decide)
            refine o_as rfl rfl  ?_
            (first | refine owp_nilT ?_ | refine owp_nilB ?_ | refine owp_nilBB ?_ | refine owp_nil ?_)
            obtain rfl := sm hf412
            refine (?_ : Exists _)
            exact ⟨_, (A455, c456), rfl, ⟨rfl, rfl, rfl, rfl, rfl, rfl, rfl, rfl, rfl, rfl, rfl, rfl, trivial⟩, _, hB, h30, h323, h339, h387, h460, h360, h395⟩
          · replace hf412 := im' hf412 c449
            refine ewp_skip ?_
            obtain rfl := sm hf412
            refine (?_ : Exists _)
            exact ⟨_, (x405.1, x405.2), rfl, ⟨rfl, rfl, rfl, rfl, rfl, rfl, rfl, rfl, rfl, rfl, rfl, rfl, trivial⟩, _, hB, h30, h323, h339, h387, h417, h360, h395⟩
        rintro l462 w463 ⟨s466, x467, rfl, hs465, O464, hB, h30, h323, h339, h387, h417, h360⟩
        replace hf376 := fin_done hf376
        refine ewp_sub _ hs465 ?_
        refine ewp_seq ?_
        refine ewp_region ?_
        refine o_mv rfl rfl  ?_
        refine o_mv rfl rfl  ?_
        obtain ⟨q468, e469, hf376⟩ := bs hf376
        refine l_callRow 12 (by decide) (O := O464) (c_succgen_Generator_Applicable Fr.lt h339 h387 e469) rfl rfl fun A475 c476 w470 O471 S472 h473 => ?_
        replace hB := hB.st S472 (fun h => h) (fun h => h)
        replace h30 := h30.st S472 (fun h => h)
        replace h323 := h323.st S472 (fun h => h)
        replace h339 := h339.st S472 (fun h => h)
        replace h417 := h417.st S472 (fun h => h) (fun h => h)
        replace h360 := h360.st S472 (fun h => h)
        refine o_mv rfl rfl  ?_
        obtain ⟨q478, e479, hf376⟩ := bs hf376
        refine l_callA (O := O471) (A := All w470) (R := fun w' F v => Vb w' F v q478) (c_base_Ints (fun _ h => h) (h473).all (h417).all e479) rfl rfl fun v484 w480 O481 S482 h483 => ?_
        obtain rfl := h483.bool
        replace hB := hB.st S482 (fun h => h) (fun h => h)
        replace h30 := h30.st S482 (fun h => h)
        replace h323 := h323.st S482 (fun h => h)
        replace h339 := h339.st S482 (fun h => h)
        replace h360 := h360.st S482 (fun h => h)
        cases q478
        case false =>
          replace hf376 := iF hf376
          refine o_nf rfl rfl  ?_
          (first | refine owp_nilT ?_ | refine owp_nilB ?_ | refine owp_nilBB ?_ | refine owp_nil ?_)
          refine ewp_true rfl ?_
          refine ewp_seq ?_
          refine ewp_region ?_
          refine o_as rfl rfl  ?_
          (first | refine owp_nilT ?_ | refine owp_nilB ?_ | refine owp_nilBB ?_ | refine owp_nil ?_)
          refine ewp_ret ?_
          obtain rfl := sm hf376
          obtain rfl := hret377 _ rfl
          obtain rfl := sm (fin_ret hm)
          exact ret1v rfl (res_tmp rfl) ⟨hB.ext, vBool⟩
        replace hf376 := iT hf376
        refine o_nt rfl rfl  ?_
        (first | refine owp_nilT ?_ | refine owp_nilB ?_ | refine owp_nilBB ?_ | refine owp_nil ?_)
        refine ewp_false rfl ?_
        refine ewp_skip ?_
        obtain rfl := sm hf376
        refine (?_ : Exists _)
        exact ⟨_, (), rfl, ⟨rfl, rfl, rfl, rfl, rfl, rfl, rfl, trivial⟩, _, hB, h30, h323, h339, h360⟩
      rintro l485 w486 ⟨s489, x490, rfl, hs488, O487, hB⟩
      replace hm := fin_done hm
      refine ewp_sub _ hs488 ?_
      refine ewp_seq ?_
      refine ewp_region ?_
      refine o_as rfl rfl  ?_
      (first | refine owp_nilT ?_ | refine owp_nilB ?_ | refine owp_nilBB ?_ | refine owp_nil ?_)
      refine ewp_ret ?_
      obtain rfl := sm hm
      exact ret1v rfl (res_tmp rfl) ⟨hB.ext, vBool⟩
end Go.Proofs.Ytfbcjknlihopcaa

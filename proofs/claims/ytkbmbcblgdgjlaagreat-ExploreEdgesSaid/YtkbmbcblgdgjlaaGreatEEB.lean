/- Own text: what the proof of exploreEdges_holds uses, part 2: rules, models and their proofs, plain laws. -/
import Derived.Test.YtkbmbcblgdgjlaaGreatEEA
set_option linter.unusedVariables false
set_option linter.unusedSimpArgs false
namespace Go.Proofs.YtkbmbcblgdgjlaaGreat
open Go Go.RowKit
section
open Go Go.RowKit
attribute [local irreducible] ewp owp hwp hwq hws Ev Evg Fn retPost loud loudS Res1
theorem taskProper {w:World} {vv sv:Value} {vars s:List Int} (ha:V w vv vars) (hb:V w sv s) :
    Fn Tryz.prog 64 [vv,sv] w fun v w'=>v=.bool (bof (StateOk vars s))∧Ext w w':=by
  obtain ⟨A,ca,rfl⟩:=ha.form
  obtain ⟨B,cb,rfl⟩:=hb.form
  have hal:=hb.len
  refine AI Tryz.func64 rfl Tryz.ntmps64 rfl ?_
  by_cases hl:s.length=vars.length
  · ((repeat (first|refine An ?_|refine Ah rfl ?_|refine Ae rfl ?_))<;>(refine Ar rfl rfl ?_<;>(refine o_z ?_))<;>(repeat (first|refine An ?_|refine Ah rfl ?_|refine Ae rfl ?_))<;>(refine Am rfl rfl ?_<;>refine AN rfl rfl ?_<;>refine Am rfl rfl ?_<;>refine AN rfl rfl ?_<;>(first|refine IM rfl rfl rfl ?_|refine IN rfl rfl rfl ?_)<;>(refine o_z ?_))<;>(repeat (first|refine An ?_|refine Ah rfl ?_|refine Ae rfl ?_))<;>(refine Am rfl rfl ?_<;>refine AN rfl rfl ?_<;>refine Am rfl rfl ?_<;>(refine o_z ?_))<;>(repeat (first|refine An ?_|refine Ah rfl ?_|refine Ae rfl ?_)))
    refine EB (fun k:Nat=>[(0,.slice A vars.length ca),(12,.slice B s.length cb),(13,.int .i64 (s.length:Int)),(14,.int .i64 (k:Int))])
      (fun k w'=>w'=w∧k≤s.length∧∀ (i:Nat) x y,i < k→s[i]?=some x→vars[i]?=some y→0≤x∧x < y) (fun k=>s.length - k) 0 ⟨rfl,Nat.zero_le _,fun i _ _ h=>by omega⟩ ⟨rfl,rfl,rfl,rfl,trivial⟩ ?_
    rintro k _ ⟨rfl,hk,hh⟩
    by_cases hlt:k < s.length
    · obtain ⟨x,hx⟩:=AD hlt
      obtain ⟨y,hy⟩:=AD (l:=vars) (k:=k) (by omega)
      obtain ⟨b1,o1,ce,rfl,_,_,hd1,rfl,_⟩:=ha.elem hy
      obtain ⟨b2,o2,ce,rfl,_,_,hd2,rfl,_⟩:=hb.elem hx
      ((repeat (first|refine An ?_|refine Ah rfl ?_|refine Ae rfl ?_))<;>((first|refine CU rfl rfl rfl ?_|refine CV rfl rfl rfl ?_)<;>(refine o_z ?_))<;>(repeat (first|refine An ?_|refine Ah rfl ?_|refine Ae rfl ?_))<;>(refine Am rfl rfl ?_<;>refine CP rfl rfl rfl ?_<;>refine AE rfl rfl ?_<;>refine Ar rfl rfl ?_<;>refine Ar rfl rfl ?_<;>(refine o_z ?_))<;>(repeat (first|refine An ?_|refine Ah rfl ?_|refine Ae rfl ?_))<;>(refine Am rfl rfl ?_<;>(first|refine CU rfl rfl rfl ?_|refine CV rfl rfl rfl ?_|refine DJ rfl rfl rfl (fun _=>?_) fun _=>?_)<;>refine Am rfl rfl ?_<;>(first|(refine Aw rfl rfl ?_;refine Am rfl rfl ?_)|refine Au rfl rfl rfl rfl ?_)<;>(first|(refine Aw rfl rfl ?_;refine Am rfl rfl ?_)|refine Au rfl rfl rfl rfl ?_)<;>(first|(refine Aw rfl rfl ?_;refine Am rfl rfl ?_)|refine Au rfl rfl rfl rfl ?_)<;>(first|(refine Aw rfl rfl ?_;refine CP rfl rfl rfl ?_)|refine Au rfl rfl rfl rfl ?_)<;>(first|(refine Aw rfl rfl ?_;refine AE rfl rfl ?_)|refine Au rfl rfl rfl rfl ?_)<;>(first|(refine Aw rfl rfl ?_;(first|refine JJ rfl rfl rfl ?_|refine JK rfl rfl rfl ?_|refine Gg rfl rfl rfl (fun _=>?_) fun _=>?_))|refine Au rfl rfl rfl rfl ?_)<;>(first|refine Bk rfl rfl rfl ?_|refine Bp rfl rfl rfl ?_)<;>(refine o_z ?_))<;>(repeat (first|refine An ?_|refine Ah rfl ?_|refine Ae rfl ?_)))
      case refine_2.refine_2 =>
        ((first|refine FK rfl rfl ?_|refine FJ rfl rfl rfl ?_)<;>refine Am rfl rfl ?_<;>(refine o_z ?_))
        refine ⟨k + 1,⟨rfl,rfl,rfl,rfl,trivial⟩,⟨rfl,by omega,fun i x' y' hi h1 h2=>?_⟩,by omega⟩
        by_cases he:i=k
        · subst he
          rw [hx] at h1;rw [hy] at h2
          injection h1 with h1;injection h2 with h2
          omega
        · exact hh i x' y' (by omega) h1 h2
      all_goals
        ((repeat (first|refine An ?_|refine Ah rfl ?_|refine Ae rfl ?_))<;>(refine Ar rfl rfl ?_<;>(refine o_z ?_))<;>(repeat (first|refine An ?_|refine Ah rfl ?_|refine Ae rfl ?_)))
        refine ret1 rfl rfl ⟨?_,Below.refl _ _⟩
        rw [Bi (fun h=>by have:=h.2 k x y hx hy;omega)]
    · ((repeat (first|refine An ?_|refine Ah rfl ?_|refine Ae rfl ?_))<;>((first|refine CU rfl rfl rfl ?_|refine CV rfl rfl rfl ?_)<;>(refine o_z ?_))<;>(repeat (first|refine An ?_|refine Ah rfl ?_|refine Ae rfl ?_))<;>(refine Ar rfl rfl ?_<;>(refine o_z ?_))<;>(repeat (first|refine An ?_|refine Ah rfl ?_|refine Ae rfl ?_)))
      refine ret1 rfl rfl ⟨?_,Below.refl _ _⟩
      rw [Ch ⟨hl,fun i x y h1 h2=>hh i x y (by have:=Bn h1;omega) h1 h2⟩]
  · ((repeat (first|refine An ?_|refine Ah rfl ?_|refine Ae rfl ?_))<;>(refine Ar rfl rfl ?_<;>(refine o_z ?_))<;>(repeat (first|refine An ?_|refine Ah rfl ?_|refine Ae rfl ?_))<;>(refine Am rfl rfl ?_<;>refine AN rfl rfl ?_<;>refine Am rfl rfl ?_<;>refine AN rfl rfl ?_<;>(first|refine IM rfl rfl rfl ?_|refine IN rfl rfl rfl ?_)<;>(refine o_z ?_))<;>(repeat (first|refine An ?_|refine Ah rfl ?_|refine Ae rfl ?_))<;>(refine Ar rfl rfl ?_<;>(refine o_z ?_))<;>(repeat (first|refine An ?_|refine Ah rfl ?_|refine Ae rfl ?_)))
    refine ret1 rfl rfl ⟨?_,Below.refl _ _⟩
    rw [Bi (fun h=>hl h.1)]
def FactOk (vars:List Int) (x:Fct):Prop:=0≤x.var∧0≤x.val∧∃ y,vars[x.var.toNat]?=some y∧x.val < y
def FactsOk (vars:List Int) (f:List Fct):Prop:=(∀ (i:Nat) x,f[i]?=some x→FactOk vars x)∧∀ (i:Nat) x y,f[i]?=some x→f[i + 1]?=some y→x.var < y.var
def FactsTo (vars:List Int) (f:List Fct) (k:Nat):Prop:=(∀ (i:Nat) x,i < k→f[i]?=some x→FactOk vars x)∧∀ (i:Nat) x y,i + 1 < k→f[i]?=some x→f[i + 1]?=some y→x.var < y.var
theorem FactsTo.step {vars:List Int} {f:List Fct} {k:Nat} {x:Fct} (h:FactsTo vars f k) (hx:f[k]?=some x) (ho:FactOk vars x) (hp:∀ y,0 < k→f[k - 1]?=some y→y.var < x.var):FactsTo vars f (k + 1):=by
  refine ⟨fun i y hi hy=>?_,fun i y z hi hy hz=>?_⟩
  · by_cases he:i=k
    · subst he;rw [hx] at hy;injection hy with hy;exact hy ▸ ho
    · exact h.1 i y (by omega) hy
  · by_cases he:i + 1=k
    · rw [he,hx] at hz;injection hz with hz;subst hz
      exact hp y (by omega) (by rw [show k - 1=i from by omega];exact hy)
    · exact h.2 i y z (by omega) hy hz
theorem FactsTo.done {vars:List Int} {f:List Fct} {k:Nat} (h:FactsTo vars f k) (hk:f.length≤k):FactsOk vars f :=
  ⟨fun i x hx=>h.1 i x (by have:=Bn hx;omega) hx,fun i x y hx hy=>h.2 i x y (by have:=Bn hy;omega) hx hy⟩
theorem baseProper {w:World} {vv fv:Value} {vars:List Int} {f:List Fct} (hv:V w vv vars) (hf:V w fv f) :
    Fn Tryz.prog 78 [vv,fv] w fun v w'=>v=.bool (bof (FactsOk vars f))∧Ext w w':=by
  obtain ⟨A,ca,rfl⟩:=hv.form
  obtain ⟨B,cb,rfl⟩:=hf.form
  have hfl:=hf.len
  refine AI Tryz.func78 rfl Tryz.ntmps78 rfl ?_
  ((repeat (first|refine An ?_|refine Ah rfl ?_|refine Ae rfl ?_))<;>(refine Ar rfl rfl ?_<;>(refine o_z ?_))<;>(repeat (first|refine An ?_|refine Ah rfl ?_|refine Ae rfl ?_))<;>(refine Am rfl rfl ?_<;>refine AN rfl rfl ?_<;>refine Am rfl rfl ?_<;>(refine o_z ?_))<;>(repeat (first|refine An ?_|refine Ah rfl ?_|refine Ae rfl ?_)))
  refine EB (fun k:Nat=>[(0,.slice A vars.length ca),(1,.slice B f.length cb),(7,.slice B f.length cb),(8,.int .i64 (f.length:Int)),(9,.int .i64 (k:Int))])
    (fun k w'=>Ext w w'∧k≤f.length∧FactsTo vars f k) (fun k=>f.length - k) 0 ⟨Below.refl _ _,Nat.zero_le _,⟨fun i _ h=>by omega,fun i _ _ h=>by omega⟩⟩ ⟨rfl,rfl,rfl,rfl,rfl,trivial⟩ ?_
  rintro k w1 ⟨hE,hk,hh⟩
  by_cases hlt:k < f.length
  · obtain ⟨x,hx⟩:=AD hlt
    obtain ⟨b,o,ce,rfl,hb,_,hd1,rfl,hr1,hr2⟩:=(hf.ext hE).elem hx
    ((repeat (first|refine An ?_|refine Ah rfl ?_|refine Ae rfl ?_))<;>((first|refine CU rfl rfl rfl ?_|refine CV rfl rfl rfl ?_)<;>(refine o_z ?_))<;>(repeat (first|refine An ?_|refine Ah rfl ?_|refine Ae rfl ?_))<;>(refine Am rfl rfl ?_<;>refine CP rfl rfl rfl ?_<;>refine BM rfl rfl ?_)<;>(repeat (first|refine An ?_|refine Ah rfl ?_|refine Ae rfl ?_)))
    refine DS rfl fun w2 hN=>?_
    (refine Ar rfl rfl ?_)
    refine BT rfl rfl hN.blk rfl (Nat.le_refl _) (by simp [Value.cells,Value.oneCell']) fun w3 hU=>?_
    replace hN:=hN.upd hU
    have hb1:=hN.blk
    have hE3:Ext w w3:=hE.trans' hN.ext
    ((refine o_z ?_))
    repeat (first|refine An ?_|refine Ah rfl ?_|refine Ae rfl ?_)
    refine Cc (·=w3) [(0,true),(1,true),(2,true),(3,true),(4,true),(5,true),(6,true),(7,true),(8,true),(9,true),(10,true),(11,true),(12,true),(13,true),(14,true),(15,true),(16,true),(17,true),(18,true),(19,true),(20,true),(21,true),(22,true),(23,true),(24,true),(25,true),(26,true),(27,true),(28,true),(29,true),(30,true),(31,true),(32,true),(33,true),(34,true),(35,true),(36,true),(37,true),(38,true),(39,true)] (by kernel_rfl) rfl (by kernel_rfl) rfl ?_
    by_cases hvr:0≤x.var∧x.var < vars.length
    · obtain ⟨j,hj1⟩:=Int.eq_ofNat_of_zero_le hvr.1
      obtain ⟨y,hy⟩:=AD (l:=vars) (k:=j) (by omega)
      obtain ⟨b2,o2,ce2,rfl,_,_,hd2,rfl,_⟩:=(hv.ext hE3).elem hy
      have hjy:vars[x.var.toNat]?=some y:=by rw [hj1];simpa using hy
      have hok:0≤x.val→x.val < y→FactOk vars x:=fun h1 h2=>⟨hvr.1,h1,y,hjy,h2⟩
      have hno:¬ (0≤x.val∧x.val < y)→¬ FactsOk vars f:=fun h1 h2=>h1 (by
        obtain ⟨_,h3,y',h4,h5⟩:=h2.1 k x hx
        rw [hjy] at h4;injection h4 with h4;subst h4;exact ⟨h3,h5⟩)
      by_cases h0:0 < k
      · obtain ⟨z,hz⟩:=AD (l:=f) (k:=k - 1) (by omega)
        obtain ⟨b3,o3,ce3,he3,_,_,hd3,rfl,_⟩:=(hf.ext hE3).elem hz
        injection he3 with he3
        injection he3 with he3 he4
        subst he3;subst he4
        have hj2:(k:Int) - 1=((k - 1:Nat):Int):=by omega
        have hno2:¬ z.var < x.var→¬ FactsOk vars f:=fun h1 h2=>h1 (h2.2 (k - 1) z x hz (by rw [show k - 1 + 1=k from by omega];exact hx))
        (refine AR rfl rfl rfl ?_<;>refine BZ rfl rfl rfl ?_<;>(first|refine FM rfl rfl rfl rfl ?_|refine FN rfl rfl rfl rfl ?_|refine Ff rfl rfl rfl rfl (fun _=>?_) fun _=>?_)<;>refine AH rfl rfl rfl ?_<;>(refine Az rfl ?_;(first|(refine Ay rfl rfl ?_;refine Cl rfl rfl ?_)|refine AA rfl rfl rfl rfl ?_))<;>(refine Az rfl ?_;(first|(refine Ay rfl rfl ?_;refine Bl rfl rfl ?_)|refine AA rfl rfl rfl rfl ?_))<;>(refine Az rfl ?_;(first|(refine Ay rfl rfl ?_;refine Cf rfl rfl ?_)|refine AA rfl rfl rfl rfl ?_))<;>(refine Az rfl ?_;(first|(refine Ay rfl rfl ?_;refine Hp rfl rfl ?_)|refine AA rfl rfl rfl rfl ?_))<;>(refine Az rfl ?_;(first|(refine Ay rfl rfl ?_;(first|refine BA (fun _ _=>AU rfl rfl) rfl (by omega) ?_|refine BB (fun _ _=>AU rfl rfl) rfl (by omega) ?_|refine AX (fun _ _=>AU rfl rfl) rfl (fun _=>?_) (fun _=>?_)))|refine AA rfl rfl rfl rfl ?_))<;>(first|refine CF rfl rfl rfl rfl ?_|refine CG rfl rfl rfl rfl ?_)<;>refine AH rfl rfl rfl ?_<;>(refine Az rfl ?_;(first|(refine Ay rfl rfl ?_;refine Cl rfl rfl ?_)|refine AA rfl rfl rfl rfl ?_))<;>(refine Az rfl ?_;(first|(refine Ay rfl rfl ?_;refine Bl rfl rfl ?_)|refine AA rfl rfl rfl rfl ?_))<;>(refine Az rfl ?_;(first|(refine Ay rfl rfl ?_;(first|refine BA (fun _ _=>Cx rfl rfl) rfl (by omega) ?_|refine BB (fun _ _=>Cx rfl rfl) rfl (by omega) ?_|refine AX (fun _ _=>Cx rfl rfl) rfl (fun _=>?_) (fun _=>?_)))|refine AA rfl rfl rfl rfl ?_))<;>(first|refine CF rfl rfl rfl rfl ?_|refine CG rfl rfl rfl rfl ?_)<;>refine AH rfl rfl rfl ?_<;>(refine Az rfl ?_;(first|(refine Ay rfl rfl ?_;refine Cl rfl rfl ?_)|refine AA rfl rfl rfl rfl ?_))<;>(refine Az rfl ?_;(first|(refine Ay rfl rfl ?_;refine Bl rfl rfl ?_)|refine AA rfl rfl rfl rfl ?_))<;>(refine Az rfl ?_;(first|(refine Ay rfl rfl ?_;refine Cf rfl rfl ?_)|refine AA rfl rfl rfl rfl ?_))<;>(refine Az rfl ?_;(first|(refine Ay rfl rfl ?_;refine Cl rfl rfl ?_)|refine AA rfl rfl rfl rfl ?_))<;>(refine Az rfl ?_;(first|(refine Ay rfl rfl ?_;refine Bl rfl rfl ?_)|refine AA rfl rfl rfl rfl ?_))<;>(refine Az rfl ?_;(first|(refine Ay rfl rfl ?_;refine Fv rfl rfl rfl ?_)|refine AA rfl rfl rfl rfl ?_))<;>(refine Az rfl ?_;(first|(refine Ay rfl rfl ?_;refine Bl rfl rfl ?_)|refine AA rfl rfl rfl rfl ?_))<;>(refine Az rfl ?_;(first|(refine Ay rfl rfl ?_;(first|refine BA (fun _ _=>AU rfl rfl) rfl (by omega) ?_|refine BB (fun _ _=>AU rfl rfl) rfl (by omega) ?_|refine AX (fun _ _=>AU rfl rfl) rfl (fun _=>?_) (fun _=>?_)))|refine AA rfl rfl rfl rfl ?_))<;>(first|refine CF rfl rfl rfl rfl ?_|refine CG rfl rfl rfl rfl ?_)<;>refine AH rfl rfl rfl ?_<;>(refine Az rfl ?_;(first|(refine Ay rfl rfl ?_;refine Cf rfl rfl ?_)|refine AA rfl rfl rfl rfl ?_))<;>(refine Az rfl ?_;(first|(refine Ay rfl rfl ?_;(first|refine BA (fun _ _=>Ex rfl rfl) rfl (by omega) ?_|refine BB (fun _ _=>Ex rfl rfl) rfl (by omega) ?_|refine AX (fun _ _=>Ex rfl rfl) rfl (fun _=>?_) (fun _=>?_)))|refine AA rfl rfl rfl rfl ?_))<;>(refine Az rfl ?_;(first|(refine Ay rfl rfl ?_;refine Cf rfl rfl ?_)|refine AA rfl rfl rfl rfl ?_))<;>(refine Az rfl ?_;(first|(refine Ay rfl rfl ?_;refine Cf rfl rfl ?_)|refine AA rfl rfl rfl rfl ?_))<;>(refine Az rfl ?_;(first|(refine Ay rfl rfl ?_;refine Cf rfl rfl ?_)|refine AA rfl rfl rfl rfl ?_))<;>(refine Az rfl ?_;(first|(refine Ay rfl rfl ?_;refine NQ rfl rfl rfl ?_)|refine AA rfl rfl rfl rfl ?_))<;>(refine Az rfl ?_;(first|(refine Ay rfl rfl ?_;refine Fv rfl rfl rfl ?_)|refine AA rfl rfl rfl rfl ?_))<;>(refine Az rfl ?_;(first|(refine Ay rfl rfl ?_;refine Cl rfl rfl ?_)|refine AA rfl rfl rfl rfl ?_))<;>(refine Az rfl ?_;(first|(refine Ay rfl rfl ?_;refine Bl rfl rfl ?_)|refine AA rfl rfl rfl rfl ?_))<;>(refine Az rfl ?_;(first|(refine Ay rfl rfl ?_;refine Cl rfl rfl ?_)|refine AA rfl rfl rfl rfl ?_))<;>(refine Az rfl ?_;(first|(refine Ay rfl rfl ?_;refine Bl rfl rfl ?_)|refine AA rfl rfl rfl rfl ?_))<;>(refine Az rfl ?_;(first|(refine Ay rfl rfl ?_;(first|refine BA (fun _ _=>AU rfl rfl) rfl (by omega) ?_|refine BB (fun _ _=>AU rfl rfl) rfl (by omega) ?_|refine AX (fun _ _=>AU rfl rfl) rfl (fun _=>?_) (fun _=>?_)))|refine AA rfl rfl rfl rfl ?_))<;>(refine Az rfl ?_;(first|(refine Ay rfl rfl ?_;(first|refine NL rfl rfl rfl ?_|refine NM rfl rfl rfl ?_))|refine AA rfl rfl rfl rfl ?_))<;>(first|refine CF rfl rfl rfl rfl ?_|refine CG rfl rfl rfl rfl ?_)<;>(refine h_z ?_))<;>(repeat (first|refine An ?_|refine Ah rfl ?_|refine Ae rfl ?_))
        all_goals first
          | (((first|refine FK rfl rfl ?_|refine FJ rfl rfl rfl ?_)<;>refine Am rfl rfl ?_<;>(refine o_z ?_))
             exact ⟨k + 1,⟨rfl,rfl,rfl,rfl,rfl,trivial⟩,⟨hE3,by omega,hh.step hx (hok (by omega) (by omega)) (fun y' _ hy'=>by rw [hz] at hy';injection hy' with hy';subst hy';omega)⟩,by omega⟩)
          | (((repeat (first|refine An ?_|refine Ah rfl ?_|refine Ae rfl ?_))<;>(refine Ar rfl rfl ?_<;>(refine o_z ?_))<;>(repeat (first|refine An ?_|refine Ah rfl ?_|refine Ae rfl ?_)))
             refine ret1 rfl rfl ⟨?_,hE3⟩
             first|rw [Bi (hno (by omega))]|rw [Bi (hno2 (by omega))])
      · (refine AR rfl rfl rfl ?_<;>refine BZ rfl rfl rfl ?_<;>(first|refine FM rfl rfl rfl rfl ?_|refine FN rfl rfl rfl rfl ?_|refine Ff rfl rfl rfl rfl (fun _=>?_) fun _=>?_)<;>refine AH rfl rfl rfl ?_<;>(refine Az rfl ?_;(first|(refine Ay rfl rfl ?_;refine Cl rfl rfl ?_)|refine AA rfl rfl rfl rfl ?_))<;>(refine Az rfl ?_;(first|(refine Ay rfl rfl ?_;refine Bl rfl rfl ?_)|refine AA rfl rfl rfl rfl ?_))<;>(refine Az rfl ?_;(first|(refine Ay rfl rfl ?_;refine Cf rfl rfl ?_)|refine AA rfl rfl rfl rfl ?_))<;>(refine Az rfl ?_;(first|(refine Ay rfl rfl ?_;refine Hp rfl rfl ?_)|refine AA rfl rfl rfl rfl ?_))<;>(refine Az rfl ?_;(first|(refine Ay rfl rfl ?_;(first|refine BA (fun _ _=>AU rfl rfl) rfl (by omega) ?_|refine BB (fun _ _=>AU rfl rfl) rfl (by omega) ?_|refine AX (fun _ _=>AU rfl rfl) rfl (fun _=>?_) (fun _=>?_)))|refine AA rfl rfl rfl rfl ?_))<;>(first|refine CF rfl rfl rfl rfl ?_|refine CG rfl rfl rfl rfl ?_)<;>refine AH rfl rfl rfl ?_<;>(refine Az rfl ?_;(first|(refine Ay rfl rfl ?_;refine Cl rfl rfl ?_)|refine AA rfl rfl rfl rfl ?_))<;>(refine Az rfl ?_;(first|(refine Ay rfl rfl ?_;refine Bl rfl rfl ?_)|refine AA rfl rfl rfl rfl ?_))<;>(refine Az rfl ?_;(first|(refine Ay rfl rfl ?_;(first|refine BA (fun _ _=>Cx rfl rfl) rfl (by omega) ?_|refine BB (fun _ _=>Cx rfl rfl) rfl (by omega) ?_|refine AX (fun _ _=>Cx rfl rfl) rfl (fun _=>?_) (fun _=>?_)))|refine AA rfl rfl rfl rfl ?_))<;>(first|refine CF rfl rfl rfl rfl ?_|refine CG rfl rfl rfl rfl ?_)<;>refine AH rfl rfl rfl ?_<;>(refine Az rfl ?_;(first|(refine Ay rfl rfl ?_;refine Cl rfl rfl ?_)|refine AA rfl rfl rfl rfl ?_))<;>(refine Az rfl ?_;(first|(refine Ay rfl rfl ?_;refine Bl rfl rfl ?_)|refine AA rfl rfl rfl rfl ?_))<;>(refine Az rfl ?_;(first|(refine Ay rfl rfl ?_;refine Cf rfl rfl ?_)|refine AA rfl rfl rfl rfl ?_))<;>(refine Az rfl ?_;(first|(refine Ay rfl rfl ?_;refine Cl rfl rfl ?_)|refine AA rfl rfl rfl rfl ?_))<;>(refine Az rfl ?_;(first|(refine Ay rfl rfl ?_;refine Bl rfl rfl ?_)|refine AA rfl rfl rfl rfl ?_))<;>(refine Az rfl ?_;(first|(refine Ay rfl rfl ?_;refine Fv rfl rfl rfl ?_)|refine AA rfl rfl rfl rfl ?_))<;>(refine Az rfl ?_;(first|(refine Ay rfl rfl ?_;refine Bl rfl rfl ?_)|refine AA rfl rfl rfl rfl ?_))<;>(refine Az rfl ?_;(first|(refine Ay rfl rfl ?_;(first|refine BA (fun _ _=>AU rfl rfl) rfl (by omega) ?_|refine BB (fun _ _=>AU rfl rfl) rfl (by omega) ?_|refine AX (fun _ _=>AU rfl rfl) rfl (fun _=>?_) (fun _=>?_)))|refine AA rfl rfl rfl rfl ?_))<;>(first|refine CF rfl rfl rfl rfl ?_|refine CG rfl rfl rfl rfl ?_)<;>refine AH rfl rfl rfl ?_<;>(refine Az rfl ?_;(first|(refine Ay rfl rfl ?_;refine Cf rfl rfl ?_)|refine AA rfl rfl rfl rfl ?_))<;>(refine Az rfl ?_;(first|(refine Ay rfl rfl ?_;(first|refine BA (fun _ _=>Ex rfl rfl) rfl (by omega) ?_|refine BB (fun _ _=>Ex rfl rfl) rfl (by omega) ?_|refine AX (fun _ _=>Ex rfl rfl) rfl (fun _=>?_) (fun _=>?_)))|refine AA rfl rfl rfl rfl ?_))<;>(refine Az rfl ?_;(first|(refine Ay rfl rfl ?_;refine Cf rfl rfl ?_)|refine AA rfl rfl rfl rfl ?_))<;>(refine Az rfl ?_;(first|(refine Ay rfl rfl ?_;refine Cf rfl rfl ?_)|refine AA rfl rfl rfl rfl ?_))<;>(refine Az rfl ?_;(first|(refine Ay rfl rfl ?_;refine Cf rfl rfl ?_)|refine AA rfl rfl rfl rfl ?_))<;>(refine Az rfl ?_;(first|(refine Ay rfl rfl ?_;refine NQ rfl rfl rfl ?_)|refine AA rfl rfl rfl rfl ?_))<;>(refine Az rfl ?_;(first|(refine Ay rfl rfl ?_;refine Fv rfl rfl rfl ?_)|refine AA rfl rfl rfl rfl ?_))<;>(refine Az rfl ?_;(first|(refine Ay rfl rfl ?_;refine Cl rfl rfl ?_)|refine AA rfl rfl rfl rfl ?_))<;>(refine Az rfl ?_;(first|(refine Ay rfl rfl ?_;refine Bl rfl rfl ?_)|refine AA rfl rfl rfl rfl ?_))<;>(refine Az rfl ?_;(first|(refine Ay rfl rfl ?_;refine Cl rfl rfl ?_)|refine AA rfl rfl rfl rfl ?_))<;>(refine Az rfl ?_;(first|(refine Ay rfl rfl ?_;refine Bl rfl rfl ?_)|refine AA rfl rfl rfl rfl ?_))<;>(refine Az rfl ?_;(first|(refine Ay rfl rfl ?_;(first|refine BA (fun _ _=>AU rfl rfl) rfl (by omega) ?_|refine BB (fun _ _=>AU rfl rfl) rfl (by omega) ?_|refine AX (fun _ _=>AU rfl rfl) rfl (fun _=>?_) (fun _=>?_)))|refine AA rfl rfl rfl rfl ?_))<;>(refine Az rfl ?_;(first|(refine Ay rfl rfl ?_;(first|refine NL rfl rfl rfl ?_|refine NM rfl rfl rfl ?_))|refine AA rfl rfl rfl rfl ?_))<;>(first|refine CF rfl rfl rfl rfl ?_|refine CG rfl rfl rfl rfl ?_)<;>(refine h_z ?_))<;>(repeat (first|refine An ?_|refine Ah rfl ?_|refine Ae rfl ?_))
        all_goals first
          | (((first|refine FK rfl rfl ?_|refine FJ rfl rfl rfl ?_)<;>refine Am rfl rfl ?_<;>(refine o_z ?_))
             exact ⟨k + 1,⟨rfl,rfl,rfl,rfl,rfl,trivial⟩,⟨hE3,by omega,hh.step hx (hok (by omega) (by omega)) (fun y' _ hy'=>by omega)⟩,by omega⟩)
          | (((repeat (first|refine An ?_|refine Ah rfl ?_|refine Ae rfl ?_))<;>(refine Ar rfl rfl ?_<;>(refine o_z ?_))<;>(repeat (first|refine An ?_|refine Ah rfl ?_|refine Ae rfl ?_)))
             refine ret1 rfl rfl ⟨?_,hE3⟩
             rw [Bi (hno (by omega))])
    · have hno:¬ FactsOk vars f:=fun h=>by
        obtain ⟨h1,h2,y,h3,_⟩:=h.1 k x hx
        have:=Bn h3
        omega
      (refine AR rfl rfl rfl ?_<;>refine BZ rfl rfl rfl ?_<;>(first|refine FM rfl rfl rfl rfl ?_|refine FN rfl rfl rfl rfl ?_|refine Ff rfl rfl rfl rfl (fun _=>?_) fun _=>?_)<;>refine AH rfl rfl rfl ?_<;>(refine Az rfl ?_;(first|(refine Ay rfl rfl ?_;refine Cl rfl rfl ?_)|refine AA rfl rfl rfl rfl ?_))<;>(refine Az rfl ?_;(first|(refine Ay rfl rfl ?_;refine Bl rfl rfl ?_)|refine AA rfl rfl rfl rfl ?_))<;>(refine Az rfl ?_;(first|(refine Ay rfl rfl ?_;refine Cf rfl rfl ?_)|refine AA rfl rfl rfl rfl ?_))<;>(refine Az rfl ?_;(first|(refine Ay rfl rfl ?_;refine Hp rfl rfl ?_)|refine AA rfl rfl rfl rfl ?_))<;>(refine Az rfl ?_;(first|(refine Ay rfl rfl ?_;(first|refine BA (fun _ _=>AU rfl rfl) rfl (by omega) ?_|refine BB (fun _ _=>AU rfl rfl) rfl (by omega) ?_|refine AX (fun _ _=>AU rfl rfl) rfl (fun _=>?_) (fun _=>?_)))|refine AA rfl rfl rfl rfl ?_))<;>(first|refine CF rfl rfl rfl rfl ?_|refine CG rfl rfl rfl rfl ?_)<;>refine AH rfl rfl rfl ?_<;>(refine Az rfl ?_;(first|(refine Ay rfl rfl ?_;refine Cl rfl rfl ?_)|refine AA rfl rfl rfl rfl ?_))<;>(refine Az rfl ?_;(first|(refine Ay rfl rfl ?_;refine Bl rfl rfl ?_)|refine AA rfl rfl rfl rfl ?_))<;>(refine Az rfl ?_;(first|(refine Ay rfl rfl ?_;(first|refine BA (fun _ _=>Cx rfl rfl) rfl (by omega) ?_|refine BB (fun _ _=>Cx rfl rfl) rfl (by omega) ?_|refine AX (fun _ _=>Cx rfl rfl) rfl (fun _=>?_) (fun _=>?_)))|refine AA rfl rfl rfl rfl ?_))<;>(first|refine CF rfl rfl rfl rfl ?_|refine CG rfl rfl rfl rfl ?_)<;>refine AH rfl rfl rfl ?_<;>(refine Az rfl ?_;(first|(refine Ay rfl rfl ?_;refine Cl rfl rfl ?_)|refine AA rfl rfl rfl rfl ?_))<;>(refine Az rfl ?_;(first|(refine Ay rfl rfl ?_;refine Bl rfl rfl ?_)|refine AA rfl rfl rfl rfl ?_))<;>(refine Az rfl ?_;(first|(refine Ay rfl rfl ?_;refine Cf rfl rfl ?_)|refine AA rfl rfl rfl rfl ?_))<;>(refine Az rfl ?_;(first|(refine Ay rfl rfl ?_;refine Cl rfl rfl ?_)|refine AA rfl rfl rfl rfl ?_))<;>(refine Az rfl ?_;(first|(refine Ay rfl rfl ?_;refine Bl rfl rfl ?_)|refine AA rfl rfl rfl rfl ?_))<;>(refine Az rfl ?_;(first|(refine Ay rfl rfl ?_;refine Fv rfl rfl rfl ?_)|refine AA rfl rfl rfl rfl ?_))<;>(refine Az rfl ?_;(first|(refine Ay rfl rfl ?_;refine Bl rfl rfl ?_)|refine AA rfl rfl rfl rfl ?_))<;>(refine Az rfl ?_;(first|(refine Ay rfl rfl ?_;(first|refine BA (fun _ _=>AU rfl rfl) rfl (by omega) ?_|refine BB (fun _ _=>AU rfl rfl) rfl (by omega) ?_|refine AX (fun _ _=>AU rfl rfl) rfl (fun _=>?_) (fun _=>?_)))|refine AA rfl rfl rfl rfl ?_))<;>(first|refine CF rfl rfl rfl rfl ?_|refine CG rfl rfl rfl rfl ?_)<;>refine AH rfl rfl rfl ?_<;>(refine Az rfl ?_;(first|(refine Ay rfl rfl ?_;refine Cf rfl rfl ?_)|refine AA rfl rfl rfl rfl ?_))<;>(refine Az rfl ?_;(first|(refine Ay rfl rfl ?_;(first|refine BA (fun _ _=>Ex rfl rfl) rfl (by omega) ?_|refine BB (fun _ _=>Ex rfl rfl) rfl (by omega) ?_|refine AX (fun _ _=>Ex rfl rfl) rfl (fun _=>?_) (fun _=>?_)))|refine AA rfl rfl rfl rfl ?_))<;>(refine Az rfl ?_;(first|(refine Ay rfl rfl ?_;refine Cf rfl rfl ?_)|refine AA rfl rfl rfl rfl ?_))<;>(refine Az rfl ?_;(first|(refine Ay rfl rfl ?_;refine Cf rfl rfl ?_)|refine AA rfl rfl rfl rfl ?_))<;>(refine Az rfl ?_;(first|(refine Ay rfl rfl ?_;refine Cf rfl rfl ?_)|refine AA rfl rfl rfl rfl ?_))<;>(refine Az rfl ?_;(first|(refine Ay rfl rfl ?_;refine NQ rfl rfl rfl ?_)|refine AA rfl rfl rfl rfl ?_))<;>(refine Az rfl ?_;(first|(refine Ay rfl rfl ?_;refine Fv rfl rfl rfl ?_)|refine AA rfl rfl rfl rfl ?_))<;>(refine Az rfl ?_;(first|(refine Ay rfl rfl ?_;refine Cl rfl rfl ?_)|refine AA rfl rfl rfl rfl ?_))<;>(refine Az rfl ?_;(first|(refine Ay rfl rfl ?_;refine Bl rfl rfl ?_)|refine AA rfl rfl rfl rfl ?_))<;>(refine Az rfl ?_;(first|(refine Ay rfl rfl ?_;refine Cl rfl rfl ?_)|refine AA rfl rfl rfl rfl ?_))<;>(refine Az rfl ?_;(first|(refine Ay rfl rfl ?_;refine Bl rfl rfl ?_)|refine AA rfl rfl rfl rfl ?_))<;>(refine Az rfl ?_;(first|(refine Ay rfl rfl ?_;(first|refine BA (fun _ _=>AU rfl rfl) rfl (by omega) ?_|refine BB (fun _ _=>AU rfl rfl) rfl (by omega) ?_|refine AX (fun _ _=>AU rfl rfl) rfl (fun _=>?_) (fun _=>?_)))|refine AA rfl rfl rfl rfl ?_))<;>(refine Az rfl ?_;(first|(refine Ay rfl rfl ?_;(first|refine NL rfl rfl rfl ?_|refine NM rfl rfl rfl ?_))|refine AA rfl rfl rfl rfl ?_))<;>(first|refine CF rfl rfl rfl rfl ?_|refine CG rfl rfl rfl rfl ?_)<;>(refine h_z ?_))<;>(repeat (first|refine An ?_|refine Ah rfl ?_|refine Ae rfl ?_))
      all_goals
        ((repeat (first|refine An ?_|refine Ah rfl ?_|refine Ae rfl ?_))<;>(refine Ar rfl rfl ?_<;>(refine o_z ?_))<;>(repeat (first|refine An ?_|refine Ah rfl ?_|refine Ae rfl ?_)))
        refine ret1 rfl rfl ⟨?_,hE3⟩
        rw [Bi hno]
  · ((repeat (first|refine An ?_|refine Ah rfl ?_|refine Ae rfl ?_))<;>((first|refine CU rfl rfl rfl ?_|refine CV rfl rfl rfl ?_)<;>(refine o_z ?_))<;>(repeat (first|refine An ?_|refine Ah rfl ?_|refine Ae rfl ?_))<;>(refine Ar rfl rfl ?_<;>(refine o_z ?_))<;>(repeat (first|refine An ?_|refine Ah rfl ?_|refine Ae rfl ?_)))
    refine ret1 rfl rfl ⟨?_,hE⟩
    rw [Ch (hh.done (by omega))]
theorem taskFacts {w:World} {vv fv:Value} {vars:List Int} {f:List Fct} (hv:V w vv vars) (hf:V w fv f) :
    Fn Tryz.prog 99 [vv,fv] w fun v w'=>v=.bool (bof (FactsOk vars f))∧Ext w w':=by
  obtain ⟨A,ca,rfl⟩:=hv.form
  obtain ⟨B,cb,rfl⟩:=hf.form
  have hfl:=hf.len
  refine AI Tryz.func99 rfl Tryz.ntmps99 rfl ?_
  ((repeat (first|refine An ?_|refine Ah rfl ?_|refine Ae rfl ?_))<;>(refine Ar rfl rfl ?_<;>(refine o_z ?_))<;>(repeat (first|refine An ?_|refine Ah rfl ?_|refine Ae rfl ?_))<;>(refine Ar rfl rfl ?_<;>(refine o_z ?_))<;>(repeat (first|refine An ?_|refine Ah rfl ?_|refine Ae rfl ?_))<;>(refine Am rfl rfl ?_<;>refine AN rfl rfl ?_<;>refine Am rfl rfl ?_<;>(refine o_z ?_))<;>(repeat (first|refine An ?_|refine Ah rfl ?_|refine Ae rfl ?_)))
  refine EB (X:=Nat×Int) (fun k=>[(0,.slice A vars.length ca),(5,.int .i64 k.2),(8,.slice B f.length cb),(9,.int .i64 (f.length:Int)),(10,.int .i64 (k.1:Int))])
    (fun k w'=>Ext w w'∧k.1≤f.length∧FactsTo vars f k.1∧(k.1=0→k.2=-1)∧∀ y,0 < k.1→f[k.1 - 1]?=some y→y.var=k.2) (fun k=>f.length - k.1) (0,-1) ⟨Below.refl _ _,Nat.zero_le _,⟨fun i _ h=>by simp at h,fun i _ _ h=>by simp at h⟩,fun _=>rfl,fun y h=>by simp at h⟩ ⟨rfl,rfl,rfl,rfl,rfl,trivial⟩ ?_
  rintro ⟨k,m⟩ w1 ⟨hE,hk,hh,hm0,hm⟩
  dsimp only at hk hh hm0 hm ⊢
  by_cases hlt:k < f.length
  · obtain ⟨x,hx⟩:=AD hlt
    obtain ⟨b,o,ce,rfl,hb,_,hd1,rfl,hr1,hr2⟩:=(hf.ext hE).elem hx
    ((repeat (first|refine An ?_|refine Ah rfl ?_|refine Ae rfl ?_))<;>((first|refine CU rfl rfl rfl ?_|refine CV rfl rfl rfl ?_)<;>(refine o_z ?_))<;>(repeat (first|refine An ?_|refine Ah rfl ?_|refine Ae rfl ?_))<;>(refine CP rfl rfl rfl ?_<;>refine BM rfl rfl ?_)<;>(repeat (first|refine An ?_|refine Ah rfl ?_|refine Ae rfl ?_)))
    refine BU rfl rfl rfl (by simp [Value.cells,Value.oneCell']) fun w3 hN=>?_
    have hb1:=hN.blk
    have hE3:Ext w w3:=hE.trans' hN.ext
    ((refine o_z ?_))
    repeat (first|refine An ?_|refine Ah rfl ?_|refine Ae rfl ?_)
    refine Cc (·=w3) [(0,true),(1,true),(2,true),(3,true),(4,true),(5,true),(6,true),(7,true),(8,true),(9,true),(10,true),(11,true),(12,true),(13,true),(14,true),(15,true),(16,true),(17,true),(18,true),(19,true),(20,true),(21,true),(22,true),(23,true),(24,true),(25,true)] (by kernel_rfl) rfl (by kernel_rfl) rfl ?_
    have hm1:0 < k→∃ z,f[k - 1]?=some z∧z.var=m:=fun h0=>by
      obtain ⟨z,hz⟩:=AD (l:=f) (k:=k - 1) (by omega)
      exact ⟨z,hz,hm z h0 hz⟩
    have hge:0 < k→0≤m:=fun h0=>by
      obtain ⟨z,hz,he⟩:=hm1 h0
      have:=(hh.1 (k - 1) z (by omega) hz).1
      omega
    have hge':-1≤m:=by
      by_cases h0:0 < k
      · have:=hge h0;omega
      · have:=hm0 (by omega);omega
    have hno0:¬ m < x.var→¬ FactsOk vars f:=fun h1 h2=>by
      by_cases h0:0 < k
      · obtain ⟨z,hz,he⟩:=hm1 h0
        have:=h2.2 (k - 1) z x hz (by rw [show k - 1 + 1=k from by omega];exact hx)
        omega
      · have:=hm0 (by omega)
        have:=(h2.1 k x hx).1
        omega
    by_cases hvr:0≤x.var∧x.var < vars.length
    · obtain ⟨j,hj1⟩:=Int.eq_ofNat_of_zero_le hvr.1
      obtain ⟨y,hy⟩:=AD (l:=vars) (k:=j) (by omega)
      obtain ⟨b2,o2,ce2,rfl,_,_,hd2,rfl,_⟩:=(hv.ext hE3).elem hy
      have hjy:vars[x.var.toNat]?=some y:=by rw [hj1];simpa using hy
      have hok:0≤x.val→x.val < y→FactOk vars x:=fun h1 h2=>⟨hvr.1,h1,y,hjy,h2⟩
      have hno:¬ (0≤x.val∧x.val < y)→¬ FactsOk vars f:=fun h1 h2=>h1 (by
        obtain ⟨_,h3,y',h4,h5⟩:=h2.1 k x hx
        rw [hjy] at h4;injection h4 with h4;subst h4;exact ⟨h3,h5⟩)
      (refine AR rfl rfl rfl ?_<;>refine BZ rfl rfl rfl ?_<;>refine AH rfl rfl rfl ?_<;>(first|refine OL rfl rfl rfl rfl ?_|refine OM rfl rfl rfl rfl ?_|refine ON rfl rfl rfl rfl (fun _=>?_) fun _=>?_)<;>refine AH rfl rfl rfl ?_<;>(refine Az rfl ?_;(first|(refine Ay rfl rfl ?_;refine Cl rfl rfl ?_)|refine AA rfl rfl rfl rfl ?_))<;>(refine Az rfl ?_;(first|(refine Ay rfl rfl ?_;refine Bl rfl rfl ?_)|refine AA rfl rfl rfl rfl ?_))<;>(refine Az rfl ?_;(first|(refine Ay rfl rfl ?_;refine Cf rfl rfl ?_)|refine AA rfl rfl rfl rfl ?_))<;>(refine Az rfl ?_;(first|(refine Ay rfl rfl ?_;refine Hp rfl rfl ?_)|refine AA rfl rfl rfl rfl ?_))<;>(refine Az rfl ?_;(first|(refine Ay rfl rfl ?_;(first|refine BA (fun _ _=>AU rfl rfl) rfl (by omega) ?_|refine BB (fun _ _=>AU rfl rfl) rfl (by omega) ?_|refine AX (fun _ _=>AU rfl rfl) rfl (fun _=>?_) (fun _=>?_)))|refine AA rfl rfl rfl rfl ?_))<;>(first|refine CF rfl rfl rfl rfl ?_|refine CG rfl rfl rfl rfl ?_)<;>refine AH rfl rfl rfl ?_<;>(refine Az rfl ?_;(first|(refine Ay rfl rfl ?_;refine Cl rfl rfl ?_)|refine AA rfl rfl rfl rfl ?_))<;>(refine Az rfl ?_;(first|(refine Ay rfl rfl ?_;refine Bl rfl rfl ?_)|refine AA rfl rfl rfl rfl ?_))<;>(refine Az rfl ?_;(first|(refine Ay rfl rfl ?_;(first|refine BA (fun _ _=>Cx rfl rfl) rfl (by omega) ?_|refine BB (fun _ _=>Cx rfl rfl) rfl (by omega) ?_|refine AX (fun _ _=>Cx rfl rfl) rfl (fun _=>?_) (fun _=>?_)))|refine AA rfl rfl rfl rfl ?_))<;>(first|refine CF rfl rfl rfl rfl ?_|refine CG rfl rfl rfl rfl ?_)<;>refine AH rfl rfl rfl ?_<;>(refine Az rfl ?_;(first|(refine Ay rfl rfl ?_;refine Cl rfl rfl ?_)|refine AA rfl rfl rfl rfl ?_))<;>(refine Az rfl ?_;(first|(refine Ay rfl rfl ?_;refine Bl rfl rfl ?_)|refine AA rfl rfl rfl rfl ?_))<;>(refine Az rfl ?_;(first|(refine Ay rfl rfl ?_;refine Cf rfl rfl ?_)|refine AA rfl rfl rfl rfl ?_))<;>(refine Az rfl ?_;(first|(refine Ay rfl rfl ?_;refine Cl rfl rfl ?_)|refine AA rfl rfl rfl rfl ?_))<;>(refine Az rfl ?_;(first|(refine Ay rfl rfl ?_;refine Bl rfl rfl ?_)|refine AA rfl rfl rfl rfl ?_))<;>(refine Az rfl ?_;(first|(refine Ay rfl rfl ?_;refine Fv rfl rfl rfl ?_)|refine AA rfl rfl rfl rfl ?_))<;>(refine Az rfl ?_;(first|(refine Ay rfl rfl ?_;refine Bl rfl rfl ?_)|refine AA rfl rfl rfl rfl ?_))<;>(refine Az rfl ?_;(first|(refine Ay rfl rfl ?_;(first|refine BA (fun _ _=>AU rfl rfl) rfl (by omega) ?_|refine BB (fun _ _=>AU rfl rfl) rfl (by omega) ?_|refine AX (fun _ _=>AU rfl rfl) rfl (fun _=>?_) (fun _=>?_)))|refine AA rfl rfl rfl rfl ?_))<;>(first|refine CF rfl rfl rfl rfl ?_|refine CG rfl rfl rfl rfl ?_)<;>(refine h_z ?_))<;>(repeat (first|refine An ?_|refine Ah rfl ?_|refine Ae rfl ?_))
      all_goals try (
        ((repeat (first|refine An ?_|refine Ah rfl ?_|refine Ae rfl ?_))<;>(refine Ar rfl rfl ?_<;>(refine o_z ?_))<;>(repeat (first|refine An ?_|refine Ah rfl ?_|refine Ae rfl ?_)))
        refine ret1 rfl rfl ⟨?_,hE3⟩
        first|rw [Bi (hno (by omega))]|rw [Bi (hno0 (by omega))])
      ((repeat (first|refine An ?_|refine Ah rfl ?_|refine Ae rfl ?_))<;>(refine AF rfl rfl ?_<;>refine AE rfl rfl ?_<;>refine Ar rfl rfl ?_<;>(refine o_z ?_))<;>(repeat (first|refine An ?_|refine Ah rfl ?_|refine Ae rfl ?_)))
      ((first|refine FK rfl rfl ?_|refine FJ rfl rfl rfl ?_)<;>refine Am rfl rfl ?_<;>(refine o_z ?_))
      refine ⟨(k + 1,x.var),⟨rfl,rfl,rfl,rfl,rfl,trivial⟩,⟨hE3,hlt,hh.step hx (hok (by omega) (by omega)) (fun y' h0 hy'=>by have:=hm y' h0 hy';omega),fun h=>absurd h (Nat.succ_ne_zero k),fun y' _ hy'=>?_⟩,Nat.sub_lt_sub_left hlt (Nat.lt_succ_self k)⟩
      rw [show k + 1 - 1=k from rfl,hx] at hy'
      exact congrArg Fct.var (Option.some.inj hy').symm
    · have hno:¬ FactsOk vars f:=fun h=>by
        obtain ⟨h1,h2,y,h3,_⟩:=h.1 k x hx
        have:=Bn h3
        omega
      (refine AR rfl rfl rfl ?_<;>refine BZ rfl rfl rfl ?_<;>refine AH rfl rfl rfl ?_<;>(first|refine OL rfl rfl rfl rfl ?_|refine OM rfl rfl rfl rfl ?_|refine ON rfl rfl rfl rfl (fun _=>?_) fun _=>?_)<;>refine AH rfl rfl rfl ?_<;>(refine Az rfl ?_;(first|(refine Ay rfl rfl ?_;refine Cl rfl rfl ?_)|refine AA rfl rfl rfl rfl ?_))<;>(refine Az rfl ?_;(first|(refine Ay rfl rfl ?_;refine Bl rfl rfl ?_)|refine AA rfl rfl rfl rfl ?_))<;>(refine Az rfl ?_;(first|(refine Ay rfl rfl ?_;refine Cf rfl rfl ?_)|refine AA rfl rfl rfl rfl ?_))<;>(refine Az rfl ?_;(first|(refine Ay rfl rfl ?_;refine Hp rfl rfl ?_)|refine AA rfl rfl rfl rfl ?_))<;>(refine Az rfl ?_;(first|(refine Ay rfl rfl ?_;(first|refine BA (fun _ _=>AU rfl rfl) rfl (by omega) ?_|refine BB (fun _ _=>AU rfl rfl) rfl (by omega) ?_|refine AX (fun _ _=>AU rfl rfl) rfl (fun _=>?_) (fun _=>?_)))|refine AA rfl rfl rfl rfl ?_))<;>(first|refine CF rfl rfl rfl rfl ?_|refine CG rfl rfl rfl rfl ?_)<;>refine AH rfl rfl rfl ?_<;>(refine Az rfl ?_;(first|(refine Ay rfl rfl ?_;refine Cl rfl rfl ?_)|refine AA rfl rfl rfl rfl ?_))<;>(refine Az rfl ?_;(first|(refine Ay rfl rfl ?_;refine Bl rfl rfl ?_)|refine AA rfl rfl rfl rfl ?_))<;>(refine Az rfl ?_;(first|(refine Ay rfl rfl ?_;(first|refine BA (fun _ _=>Cx rfl rfl) rfl (by omega) ?_|refine BB (fun _ _=>Cx rfl rfl) rfl (by omega) ?_|refine AX (fun _ _=>Cx rfl rfl) rfl (fun _=>?_) (fun _=>?_)))|refine AA rfl rfl rfl rfl ?_))<;>(first|refine CF rfl rfl rfl rfl ?_|refine CG rfl rfl rfl rfl ?_)<;>refine AH rfl rfl rfl ?_<;>(refine Az rfl ?_;(first|(refine Ay rfl rfl ?_;refine Cl rfl rfl ?_)|refine AA rfl rfl rfl rfl ?_))<;>(refine Az rfl ?_;(first|(refine Ay rfl rfl ?_;refine Bl rfl rfl ?_)|refine AA rfl rfl rfl rfl ?_))<;>(refine Az rfl ?_;(first|(refine Ay rfl rfl ?_;refine Cf rfl rfl ?_)|refine AA rfl rfl rfl rfl ?_))<;>(refine Az rfl ?_;(first|(refine Ay rfl rfl ?_;refine Cl rfl rfl ?_)|refine AA rfl rfl rfl rfl ?_))<;>(refine Az rfl ?_;(first|(refine Ay rfl rfl ?_;refine Bl rfl rfl ?_)|refine AA rfl rfl rfl rfl ?_))<;>(refine Az rfl ?_;(first|(refine Ay rfl rfl ?_;refine Fv rfl rfl rfl ?_)|refine AA rfl rfl rfl rfl ?_))<;>(refine Az rfl ?_;(first|(refine Ay rfl rfl ?_;refine Bl rfl rfl ?_)|refine AA rfl rfl rfl rfl ?_))<;>(refine Az rfl ?_;(first|(refine Ay rfl rfl ?_;(first|refine BA (fun _ _=>AU rfl rfl) rfl (by omega) ?_|refine BB (fun _ _=>AU rfl rfl) rfl (by omega) ?_|refine AX (fun _ _=>AU rfl rfl) rfl (fun _=>?_) (fun _=>?_)))|refine AA rfl rfl rfl rfl ?_))<;>(first|refine CF rfl rfl rfl rfl ?_|refine CG rfl rfl rfl rfl ?_)<;>(refine h_z ?_))<;>(repeat (first|refine An ?_|refine Ah rfl ?_|refine Ae rfl ?_))
      all_goals
        ((repeat (first|refine An ?_|refine Ah rfl ?_|refine Ae rfl ?_))<;>(refine Ar rfl rfl ?_<;>(refine o_z ?_))<;>(repeat (first|refine An ?_|refine Ah rfl ?_|refine Ae rfl ?_)))
        refine ret1 rfl rfl ⟨?_,hE3⟩
        rw [Bi hno]
  · ((repeat (first|refine An ?_|refine Ah rfl ?_|refine Ae rfl ?_))<;>((first|refine CU rfl rfl rfl ?_|refine CV rfl rfl rfl ?_)<;>(refine o_z ?_))<;>(repeat (first|refine An ?_|refine Ah rfl ?_|refine Ae rfl ?_))<;>(refine Ar rfl rfl ?_<;>(refine o_z ?_))<;>(repeat (first|refine An ?_|refine Ah rfl ?_|refine Ae rfl ?_)))
    refine ret1 rfl rfl ⟨?_,hE⟩
    rw [Ch (hh.done (by omega))]
def NameOk (s:ByteArray):Prop:=s.size≤256∧∀ (i:Nat) (h:i < s.size),32≤(s[i]'h).toNat∧(s[i]'h).toNat≤126
theorem taskNamed {w:World} {s:ByteArray} (hs:s.size≤9223372036854775807) :
    Fn Tryz.prog 100 [.string s] w fun v w'=>v=.bool (bof (NameOk s))∧Ext w w':=by
  refine AI Tryz.func100 rfl Tryz.ntmps100 rfl ?_
  ((repeat (first|refine An ?_|refine Ah rfl ?_|refine Ae rfl ?_))<;>(refine Ar rfl rfl ?_<;>(refine o_z ?_))<;>(repeat (first|refine An ?_|refine Ah rfl ?_|refine Ae rfl ?_))<;>(refine Am rfl rfl ?_<;>refine La rfl rfl ?_<;>refine Am rfl rfl ?_<;>(refine o_z ?_))<;>(repeat (first|refine An ?_|refine Ah rfl ?_|refine Ae rfl ?_)))
  refine EB (fun k:Nat=>[(0,.string s),(5,.int .i64 (s.size:Int)),(6,.int .i64 (k:Int))])
    (fun k w'=>w'=w∧k≤s.size∧∀ (i:Nat) (h:i < s.size),i < k→32≤(s[i]'h).toNat∧(s[i]'h).toNat≤126) (fun k=>s.size - k) 0 ⟨rfl,Nat.zero_le _,fun i _ h=>by omega⟩ ⟨rfl,rfl,rfl,trivial⟩ ?_
  rintro k _ ⟨rfl,hk,hh⟩
  by_cases hlt:k < s.size
  · ((repeat (first|refine An ?_|refine Ah rfl ?_|refine Ae rfl ?_))<;>((first|refine CU rfl rfl rfl ?_|refine CV rfl rfl rfl ?_)<;>(refine o_z ?_))<;>(repeat (first|refine An ?_|refine Ah rfl ?_|refine Ae rfl ?_))<;>(refine Am rfl rfl ?_<;>refine Ar rfl rfl ?_<;>(refine o_z ?_))<;>(repeat (first|refine An ?_|refine Ah rfl ?_|refine Ae rfl ?_))<;>(refine Am rfl rfl ?_<;>refine Am rfl rfl ?_<;>refine Mw rfl rfl rfl (by omega) ?_<;>(first|refine CU rfl rfl rfl ?_|refine CV rfl rfl rfl ?_|refine DJ rfl rfl rfl (fun _=>?_) fun _=>?_)<;>refine Am rfl rfl ?_<;>(first|(refine Aw rfl rfl ?_;refine Am rfl rfl ?_)|refine Au rfl rfl rfl rfl ?_)<;>(first|(refine Aw rfl rfl ?_;refine Am rfl rfl ?_)|refine Au rfl rfl rfl rfl ?_)<;>(first|(refine Aw rfl rfl ?_;refine Mw rfl rfl rfl (by omega) ?_)|refine Au rfl rfl rfl rfl ?_)<;>(first|(refine Aw rfl rfl ?_;(first|refine Dt rfl rfl rfl ?_|refine Du rfl rfl rfl ?_|refine CZ rfl rfl rfl (fun _=>?_) fun _=>?_))|refine Au rfl rfl rfl rfl ?_)<;>(first|refine Bk rfl rfl rfl ?_|refine Bp rfl rfl rfl ?_)<;>(refine o_z ?_))<;>(repeat (first|refine An ?_|refine Ah rfl ?_|refine Ae rfl ?_)))
    all_goals first
      | (((first|refine FK rfl rfl ?_|refine FJ rfl rfl rfl ?_)<;>refine Am rfl rfl ?_<;>(refine o_z ?_))
         refine ⟨k + 1,⟨rfl,rfl,rfl,trivial⟩,⟨rfl,by omega,fun i h hi=>?_⟩,by omega⟩
         by_cases he:i=k
         · subst he;omega
         · exact hh i h (by omega))
      | (((repeat (first|refine An ?_|refine Ah rfl ?_|refine Ae rfl ?_))<;>(refine Ar rfl rfl ?_<;>(refine o_z ?_))<;>(repeat (first|refine An ?_|refine Ah rfl ?_|refine Ae rfl ?_)))
         refine ret1 rfl rfl ⟨?_,Below.refl _ _⟩
         rw [Bi (fun h=>by have:=h.2 k hlt;omega)])
  · by_cases h256:s.size≤256
    · ((repeat (first|refine An ?_|refine Ah rfl ?_|refine Ae rfl ?_))<;>((first|refine CU rfl rfl rfl ?_|refine CV rfl rfl rfl ?_)<;>(refine o_z ?_))<;>(repeat (first|refine An ?_|refine Ah rfl ?_|refine Ae rfl ?_))<;>(refine Am rfl rfl ?_<;>refine La rfl rfl ?_<;>(first|refine KQ rfl rfl rfl ?_|refine KR rfl rfl rfl ?_)<;>refine Ar rfl rfl ?_<;>(refine o_z ?_))<;>(repeat (first|refine An ?_|refine Ah rfl ?_|refine Ae rfl ?_)))
      refine ret1 rfl rfl ⟨?_,Below.refl _ _⟩
      rw [Ch ⟨h256,fun i h=>hh i h (by omega)⟩]
    · ((repeat (first|refine An ?_|refine Ah rfl ?_|refine Ae rfl ?_))<;>((first|refine CU rfl rfl rfl ?_|refine CV rfl rfl rfl ?_)<;>(refine o_z ?_))<;>(repeat (first|refine An ?_|refine Ah rfl ?_|refine Ae rfl ?_))<;>(refine Am rfl rfl ?_<;>refine La rfl rfl ?_<;>(first|refine KQ rfl rfl rfl ?_|refine KR rfl rfl rfl ?_)<;>refine Ar rfl rfl ?_<;>(refine o_z ?_))<;>(repeat (first|refine An ?_|refine Ah rfl ?_|refine Ae rfl ?_)))
      refine ret1 rfl rfl ⟨?_,Below.refl _ _⟩
      rw [Bi (fun h=>h256 h.1)]
end
section
open Go Go.RowKit
attribute [local irreducible] ewp owp hwp hwq hws Ev Evg Fn retPost loud loudS Res1
theorem FO {vars:List Int} {x:Fct}:FactsOk vars [x]↔FactOk vars x:=by
  constructor
  · intro h;exact h.1 0 x rfl
  · intro h
    refine ⟨fun i y hy=>?_,fun i y z _ hz=>by simp at hz⟩
    cases i with
    | zero=>simp at hy;exact hy ▸ h
    | succ i=>simp at hy
def EffOk (vars:List Int) (e:Eff):Prop:=FactsOk vars e.cond∧FactOk vars ⟨e.var,e.val⟩
def OpOk (vars:List Int) (o:Opr):Prop:=0≤o.cost∧o.cost≤1048576∧o.effs.length≤64∧NameOk o.name∧FactsOk vars o.pre∧∀ (i:Nat) e,o.effs[i]?=some e→EffOk vars e
def TaskOk (t:Tsk):Prop:=t.vars.length≤64∧t.ops.length≤4096∧(∀ (i:Nat) n,t.vars[i]?=some n→1≤n∧n≤64)∧StateOk t.vars t.init∧FactsOk t.vars t.goal∧∀ (i:Nat) o,t.ops[i]?=some o→OpOk t.vars o
theorem CA {p:Nat→Prop} {k:Nat} (h:∀ i,i < k→p i) (hk:p k):∀ i,i < k + 1→p i:=fun i hi=>by
  by_cases he:i=k
  · subst he;exact hk
  · exact h i (by omega)
theorem baseOperator {w:World} {vv ov:Value} {vars:List Int} {o:Opr} (hv:V w vv vars) (ho:V w ov o) :
    Fn Tryz.prog 79 [vv,ov] w fun v w'=>v=.bool (bof (OpOk vars o))∧Ext w w':=by
  obtain ⟨Av,cv,rfl⟩:=hv.form
  obtain ⟨cs,rfl,p,q,rfl,hp,hq,hc,hn⟩:=ho
  obtain ⟨Ap,cp,rfl⟩:=hp.form
  obtain ⟨Aq,cq,rfl⟩:=hq.form
  have hql:=hq.len
  refine AI Tryz.func79 rfl Tryz.ntmps79 rfl ?_
  repeat (first|refine An ?_|refine Ah rfl ?_|refine Ae rfl ?_)
  refine Do rfl rfl fun w1 hN=>?_
  have hb1:=hN.blk
  have hE1:Ext w w1:=hN.ext
  (refine Ar rfl rfl ?_<;>(refine o_z ?_))
  repeat (first|refine An ?_|refine Ah rfl ?_|refine Ae rfl ?_)
  (refine AF rfl rfl ?_<;>refine AE rfl rfl ?_<;>(first|refine CU rfl rfl rfl ?_|refine CV rfl rfl rfl ?_|refine DJ rfl rfl rfl (fun _=>?_) fun _=>?_)<;>refine Am rfl rfl ?_<;>(first|(refine Aw rfl rfl ?_;refine AF rfl rfl ?_)|refine Au rfl rfl rfl rfl ?_)<;>(first|(refine Aw rfl rfl ?_;refine AE rfl rfl ?_)|refine Au rfl rfl rfl rfl ?_)<;>(first|(refine Aw rfl rfl ?_;(first|refine Dt rfl rfl rfl ?_|refine Du rfl rfl rfl ?_|refine CZ rfl rfl rfl (fun _=>?_) fun _=>?_))|refine Au rfl rfl rfl rfl ?_)<;>(first|refine Bk rfl rfl rfl ?_|refine Bp rfl rfl rfl ?_)<;>refine Am rfl rfl ?_<;>(first|(refine Aw rfl rfl ?_;refine AF rfl rfl ?_)|refine Au rfl rfl rfl rfl ?_)<;>(first|(refine Aw rfl rfl ?_;refine AE rfl rfl ?_)|refine Au rfl rfl rfl rfl ?_)<;>(first|(refine Aw rfl rfl ?_;refine AN rfl rfl ?_)|refine Au rfl rfl rfl rfl ?_)<;>(first|(refine Aw rfl rfl ?_;(first|refine Dt rfl rfl rfl ?_|refine Du rfl rfl rfl ?_|refine CZ rfl rfl rfl (fun _=>?_) fun _=>?_))|refine Au rfl rfl rfl rfl ?_)<;>(first|refine Bk rfl rfl rfl ?_|refine Bp rfl rfl rfl ?_)<;>refine Am rfl rfl ?_<;>(first|(refine Aw rfl rfl ?_;refine AF rfl rfl ?_)|refine Au rfl rfl rfl rfl ?_)<;>(first|(refine Aw rfl rfl ?_;refine AE rfl rfl ?_)|refine Au rfl rfl rfl rfl ?_)<;>(first|(refine Aw rfl rfl ?_;refine La rfl rfl ?_)|refine Au rfl rfl rfl rfl ?_)<;>(first|(refine Aw rfl rfl ?_;(first|refine Dt rfl rfl rfl ?_|refine Du rfl rfl rfl ?_|refine CZ rfl rfl rfl (fun _=>?_) fun _=>?_))|refine Au rfl rfl rfl rfl ?_)<;>(first|refine Bk rfl rfl rfl ?_|refine Bp rfl rfl rfl ?_)<;>refine Am rfl rfl ?_<;>(first|(refine Aw rfl rfl ?_;refine Am rfl rfl ?_)|refine Au rfl rfl rfl rfl ?_)<;>(first|(refine Aw rfl rfl ?_;refine AF rfl rfl ?_)|refine Au rfl rfl rfl rfl ?_)<;>(first|(refine Aw rfl rfl ?_;refine AE rfl rfl ?_)|refine Au rfl rfl rfl rfl ?_))
  all_goals try (
    refine Au rfl rfl rfl rfl ?_
    ((first|(refine Aw rfl rfl ?_;(first|refine CL rfl rfl ?_|refine CM rfl rfl ?_|refine Dn rfl rfl ?_))|refine Au rfl rfl rfl rfl ?_)<;>(first|refine Bk rfl rfl rfl ?_|refine Bp rfl rfl rfl ?_)<;>(refine o_z ?_))
    repeat (first|refine An ?_|refine Ah rfl ?_|refine Ae rfl ?_)
    ((repeat (first|refine An ?_|refine Ah rfl ?_|refine Ae rfl ?_))<;>(refine Ar rfl rfl ?_<;>(refine o_z ?_))<;>(repeat (first|refine An ?_|refine Ah rfl ?_|refine Ae rfl ?_)))
    refine ret1 rfl rfl ⟨?_,hE1⟩
    rw [Bi (fun h=>by obtain ⟨h1,h2,h3,⟨h4,_⟩,_⟩:=h;omega)])
  refine Aw rfl rfl ?_
  refine CJ rfl rfl (baseProper (hv.ext hE1) (hp.ext hE1)) ?_ ?_
  case refine_2 =>
    intro w2 hP hE2
    ((first|(refine Aw rfl rfl ?_;(first|refine CL rfl rfl ?_|refine CM rfl rfl ?_|refine Dn rfl rfl ?_))|refine Au rfl rfl rfl rfl ?_)<;>(first|refine Bk rfl rfl rfl ?_|refine Bp rfl rfl rfl ?_)<;>(refine o_z ?_))
    repeat (first|refine An ?_|refine Ah rfl ?_|refine Ae rfl ?_)
    ((repeat (first|refine An ?_|refine Ah rfl ?_|refine Ae rfl ?_))<;>(refine Ar rfl rfl ?_<;>(refine o_z ?_))<;>(repeat (first|refine An ?_|refine Ah rfl ?_|refine Ae rfl ?_)))
    refine ret1 rfl rfl ⟨?_,hE1.trans' hE2⟩
    rw [Bi (fun h=>hP h.2.2.2.2.1)]
  intro w2 hpre hE2
  replace hb1:=hb1.ext hE2
  have hE2:Ext w w2:=hE1.trans' hE2
  ((first|(refine Aw rfl rfl ?_;(first|refine CL rfl rfl ?_|refine CM rfl rfl ?_|refine Dn rfl rfl ?_))|refine Au rfl rfl rfl rfl ?_)<;>(first|refine Bk rfl rfl rfl ?_|refine Bp rfl rfl rfl ?_)<;>(refine o_z ?_))
  repeat (first|refine An ?_|refine Ah rfl ?_|refine Ae rfl ?_)
  (refine AF rfl rfl ?_<;>refine AE rfl rfl ?_<;>refine La rfl rfl ?_<;>refine Am rfl rfl ?_<;>(refine o_z ?_))
  repeat (first|refine An ?_|refine Ah rfl ?_|refine Ae rfl ?_)
  refine Br o.name.size hn (fun _:Unit=>[(0,.slice Av vars.length cv),(3,.pointer (some ⟨w.heap.size,0,none⟩))]) (fun k _ w'=>w'=w2∧∀ i,i < k→∀ h:i < o.name.size,32≤(o.name[i]'h).toNat∧(o.name[i]'h).toNat≤126) ()
    ⟨rfl,fun i hi=>by omega⟩ ⟨rfl,rfl,rfl,rfl,trivial⟩ (fun _=>⟨rfl,rfl⟩) ⟨rfl,rfl,rfl⟩ ⟨rfl,rfl⟩ ?_ ?_
  · rintro k _ _ hk ⟨rfl,hh⟩
    ((repeat (first|refine An ?_|refine Ah rfl ?_|refine Ae rfl ?_))<;>(refine Am rfl rfl ?_<;>refine Ar rfl rfl ?_<;>(refine o_z ?_))<;>(repeat (first|refine An ?_|refine Ah rfl ?_|refine Ae rfl ?_))<;>(refine AF rfl rfl ?_<;>refine AE rfl rfl ?_<;>refine Am rfl rfl ?_<;>refine Mw rfl rfl rfl (by omega) ?_<;>(first|refine CU rfl rfl rfl ?_|refine CV rfl rfl rfl ?_|refine DJ rfl rfl rfl (fun _=>?_) fun _=>?_)<;>refine Am rfl rfl ?_<;>(first|(refine Aw rfl rfl ?_;refine AF rfl rfl ?_)|refine Au rfl rfl rfl rfl ?_)<;>(first|(refine Aw rfl rfl ?_;refine AE rfl rfl ?_)|refine Au rfl rfl rfl rfl ?_)<;>(first|(refine Aw rfl rfl ?_;refine Am rfl rfl ?_)|refine Au rfl rfl rfl rfl ?_)<;>(first|(refine Aw rfl rfl ?_;refine Mw rfl rfl rfl (by omega) ?_)|refine Au rfl rfl rfl rfl ?_)<;>(first|(refine Aw rfl rfl ?_;(first|refine Dt rfl rfl rfl ?_|refine Du rfl rfl rfl ?_|refine CZ rfl rfl rfl (fun _=>?_) fun _=>?_))|refine Au rfl rfl rfl rfl ?_)<;>(first|refine Bk rfl rfl rfl ?_|refine Bp rfl rfl rfl ?_)<;>(refine o_z ?_))<;>(repeat (first|refine An ?_|refine Ah rfl ?_|refine Ae rfl ?_)))
    all_goals try (
      ((repeat (first|refine An ?_|refine Ah rfl ?_|refine Ae rfl ?_))<;>(refine Ar rfl rfl ?_<;>(refine o_z ?_))<;>(repeat (first|refine An ?_|refine Ah rfl ?_|refine Ae rfl ?_)))
      refine ret1 rfl rfl ⟨?_,hE2⟩
      rw [Bi (fun h=>by have:=h.2.2.2.1.2 k hk;omega)])
    exact ⟨(),⟨rfl,rfl,rfl,rfl,trivial⟩,rfl,CA hh fun _=>by omega⟩
  rintro _ _ ⟨rfl,hname⟩
  have hnok:NameOk o.name:=⟨by omega,fun i h=>hname i h h⟩
  repeat (first|refine An ?_|refine Ah rfl ?_|refine Ae rfl ?_)
  ((repeat (first|refine An ?_|refine Ah rfl ?_|refine Ae rfl ?_))<;>(refine AF rfl rfl ?_<;>refine AE rfl rfl ?_<;>refine AN rfl rfl ?_<;>refine Am rfl rfl ?_<;>(refine o_z ?_))<;>(repeat (first|refine An ?_|refine Ah rfl ?_|refine Ae rfl ?_)))
  refine Br o.effs.length (by omega) (fun _:Unit=>[(0,.slice Av vars.length cv),(3,.pointer (some ⟨w.heap.size,0,none⟩)),(55,.slice Aq o.effs.length cq)]) (fun k _ w'=>Ext w w'∧∀ i,i < k→∀ e,o.effs[i]?=some e→EffOk vars e) ()
    ⟨hE2,fun i hi=>by omega⟩ ⟨rfl,rfl,rfl,rfl,rfl,trivial⟩ (fun _=>⟨rfl,rfl⟩) ⟨rfl,rfl,rfl⟩ ⟨rfl,rfl⟩ ?_ ?_
  · rintro k _ w3 hk ⟨hE3,hh⟩
    obtain ⟨e,he⟩:=AD hk
    obtain ⟨b2,o2,ce,rfl,_,_,hd1,cv',rfl,hcond,hr1,hr2⟩:=(hq.ext hE3).elem he
    obtain ⟨Ac,cc,rfl⟩:=hcond.form
    ((repeat (first|refine An ?_|refine Ah rfl ?_|refine Ae rfl ?_))<;>(refine CP rfl rfl rfl ?_<;>refine BM rfl rfl ?_)<;>(repeat (first|refine An ?_|refine Ah rfl ?_|refine Ae rfl ?_)))
    refine BU rfl rfl rfl (by simp [Value.cells,Value.oneCell']) fun w4 hN4=>?_
    have hb2:=hN4.blk
    have hE4:Ext w w4:=hE3.trans' hN4.ext
    ((refine o_z ?_))
    repeat (first|refine An ?_|refine Ah rfl ?_|refine Ae rfl ?_)
    (refine Am rfl rfl ?_<;>refine AF rfl rfl ?_<;>refine AE rfl rfl ?_)
    refine CJ rfl rfl (baseProper (hv.ext hE4) (hcond.ext hN4.ext)) ?_ ?_
    case refine_2 =>
      intro w5 hP hE5
      ((first|refine CL rfl rfl ?_|refine CM rfl rfl ?_|refine Dn rfl rfl ?_)<;>refine Am rfl rfl ?_<;>(first|(refine Aw rfl rfl ?_;refine Am rfl rfl ?_)|refine Au rfl rfl rfl rfl ?_)<;>(first|(refine Aw rfl rfl ?_;refine AF rfl rfl ?_)|refine Au rfl rfl rfl rfl ?_)<;>(first|(refine Aw rfl rfl ?_;refine AE rfl rfl ?_)|refine Au rfl rfl rfl rfl ?_)<;>(first|(refine Aw rfl rfl ?_;refine AF rfl rfl ?_)|refine Au rfl rfl rfl rfl ?_)<;>(first|(refine Aw rfl rfl ?_;refine AE rfl rfl ?_)|refine Au rfl rfl rfl rfl ?_)<;>(first|(refine Aw rfl rfl ?_;refine EK rfl rfl rfl ?_)|refine Au rfl rfl rfl rfl ?_))
      refine Au rfl rfl rfl rfl ?_
      refine Au rfl rfl rfl rfl ?_
      ((first|(refine Aw rfl rfl ?_;(first|refine CL rfl rfl ?_|refine CM rfl rfl ?_|refine Dn rfl rfl ?_))|refine Au rfl rfl rfl rfl ?_)<;>(first|refine Bk rfl rfl rfl ?_|refine Bp rfl rfl rfl ?_)<;>(refine o_z ?_))
      repeat (first|refine An ?_|refine Ah rfl ?_|refine Ae rfl ?_)
      ((repeat (first|refine An ?_|refine Ah rfl ?_|refine Ae rfl ?_))<;>(refine Ar rfl rfl ?_<;>(refine o_z ?_))<;>(repeat (first|refine An ?_|refine Ah rfl ?_|refine Ae rfl ?_)))
      refine ret1 rfl rfl ⟨?_,hE4.trans' hE5⟩
      rw [Bi (fun h=>hP (h.2.2.2.2.2 k e he).1)]
    intro w5 hcok hE5
    replace hb2:=hb2.ext hE5
    ((first|refine CL rfl rfl ?_|refine CM rfl rfl ?_|refine Dn rfl rfl ?_)<;>refine Am rfl rfl ?_<;>(first|(refine Aw rfl rfl ?_;refine Am rfl rfl ?_)|refine Au rfl rfl rfl rfl ?_)<;>(first|(refine Aw rfl rfl ?_;refine AF rfl rfl ?_)|refine Au rfl rfl rfl rfl ?_)<;>(first|(refine Aw rfl rfl ?_;refine AE rfl rfl ?_)|refine Au rfl rfl rfl rfl ?_)<;>(first|(refine Aw rfl rfl ?_;refine AF rfl rfl ?_)|refine Au rfl rfl rfl rfl ?_)<;>(first|(refine Aw rfl rfl ?_;refine AE rfl rfl ?_)|refine Au rfl rfl rfl rfl ?_)<;>(first|(refine Aw rfl rfl ?_;refine EK rfl rfl rfl ?_)|refine Au rfl rfl rfl rfl ?_))
    refine Aw rfl rfl ?_
    refine DA rfl rfl rfl (by simp [Value.cells];rfl) (by decide) rfl fun w6 hN6=>?_
    have hE6:Ext w w6:=hE4.trans' (hE5.trans' hN6.ext)
    refine Aw rfl rfl ?_
    have hone:V w6 (.slice (some ⟨w5.heap.size,0,none⟩) 1 1) [(⟨e.var,e.val⟩:Fct)] :=
      .of_slice ⟨_,1,[.int .i64 e.var,.int .i64 e.val],rfl,Nat.le_refl _,by omega,.single ⟨rfl,hr1,hr2⟩,fun _=>⟨_,_,rfl,hN6.blk.lt,hN6.blk.cellsAt⟩⟩
    refine CJ rfl rfl (baseProper (hv.ext hE6) hone) ?_ ?_
    case refine_2 =>
      intro w7 hP hE7
      ((first|(refine Aw rfl rfl ?_;(first|refine CL rfl rfl ?_|refine CM rfl rfl ?_|refine Dn rfl rfl ?_))|refine Au rfl rfl rfl rfl ?_)<;>(first|refine Bk rfl rfl rfl ?_|refine Bp rfl rfl rfl ?_)<;>(refine o_z ?_))
      repeat (first|refine An ?_|refine Ah rfl ?_|refine Ae rfl ?_)
      ((repeat (first|refine An ?_|refine Ah rfl ?_|refine Ae rfl ?_))<;>(refine Ar rfl rfl ?_<;>(refine o_z ?_))<;>(repeat (first|refine An ?_|refine Ah rfl ?_|refine Ae rfl ?_)))
      refine ret1 rfl rfl ⟨?_,hE6.trans' hE7⟩
      rw [Bi (fun h=>hP (FO.2 (h.2.2.2.2.2 k e he).2))]
    intro w7 hfok hE7
    ((first|(refine Aw rfl rfl ?_;(first|refine CL rfl rfl ?_|refine CM rfl rfl ?_|refine Dn rfl rfl ?_))|refine Au rfl rfl rfl rfl ?_)<;>(first|refine Bk rfl rfl rfl ?_|refine Bp rfl rfl rfl ?_)<;>(refine o_z ?_))
    repeat (first|refine An ?_|refine Ah rfl ?_|refine Ae rfl ?_)
    exact ⟨(),⟨rfl,rfl,rfl,rfl,rfl,trivial⟩,hE6.trans' hE7,CA hh fun e' he'=>by
      rw [he] at he';injection he' with he';subst he';exact ⟨hcok,FO.1 hfok⟩⟩
  rintro _ w3 ⟨hE3,hh⟩
  repeat (first|refine An ?_|refine Ah rfl ?_|refine Ae rfl ?_)
  ((repeat (first|refine An ?_|refine Ah rfl ?_|refine Ae rfl ?_))<;>(refine Ar rfl rfl ?_<;>(refine o_z ?_))<;>(repeat (first|refine An ?_|refine Ah rfl ?_|refine Ae rfl ?_)))
  refine ret1 rfl rfl ⟨?_,hE3⟩
  rw [Ch ⟨by omega,by omega,by omega,hnok,hpre,fun i e he=>hh i (Bn he) e he⟩]
theorem baseGood {w:World} {tv:Value} {t:Tsk} (ht:V w tv t) :
    Fn Tryz.prog 41 [tv] w fun v w'=>v=.bool (bof (TaskOk t))∧Ext w w':=by
  obtain ⟨cs,rfl,a,b,c,d,rfl,hvars,hinit,hgoal,hops⟩:=ht
  obtain ⟨Av,cv,rfl⟩:=hvars.form
  obtain ⟨Ai,ci,rfl⟩:=hinit.form
  obtain ⟨Ag,cg,rfl⟩:=hgoal.form
  obtain ⟨Ao,co,rfl⟩:=hops.form
  have hvl:=hvars.len
  have hol:=hops.len
  refine AI Tryz.func41 rfl Tryz.ntmps41 rfl ?_
  repeat (first|refine An ?_|refine Ah rfl ?_|refine Ae rfl ?_)
  refine Do rfl rfl fun w1 hN=>?_
  have hb1:=hN.blk
  have hE1:Ext w w1:=hN.ext
  (refine Ar rfl rfl ?_<;>(refine o_z ?_))
  repeat (first|refine An ?_|refine Ah rfl ?_|refine Ae rfl ?_)
  ((repeat (first|refine An ?_|refine Ah rfl ?_|refine Ae rfl ?_))<;>(refine AF rfl rfl ?_<;>refine AE rfl rfl ?_<;>refine AN rfl rfl ?_<;>(first|refine Dt rfl rfl rfl ?_|refine Du rfl rfl rfl ?_|refine CZ rfl rfl rfl (fun _=>?_) fun _=>?_)<;>refine Am rfl rfl ?_<;>(first|(refine Aw rfl rfl ?_;refine AF rfl rfl ?_)|refine Au rfl rfl rfl rfl ?_)<;>(first|(refine Aw rfl rfl ?_;refine AE rfl rfl ?_)|refine Au rfl rfl rfl rfl ?_)<;>(first|(refine Aw rfl rfl ?_;refine AN rfl rfl ?_)|refine Au rfl rfl rfl rfl ?_)<;>(first|(refine Aw rfl rfl ?_;(first|refine Dt rfl rfl rfl ?_|refine Du rfl rfl rfl ?_|refine CZ rfl rfl rfl (fun _=>?_) fun _=>?_))|refine Au rfl rfl rfl rfl ?_)<;>(first|refine Bk rfl rfl rfl ?_|refine Bp rfl rfl rfl ?_)<;>(refine o_z ?_))<;>(repeat (first|refine An ?_|refine Ah rfl ?_|refine Ae rfl ?_)))
  all_goals try (
    ((repeat (first|refine An ?_|refine Ah rfl ?_|refine Ae rfl ?_))<;>(refine Ar rfl rfl ?_<;>(refine o_z ?_))<;>(repeat (first|refine An ?_|refine Ah rfl ?_|refine Ae rfl ?_)))
    refine ret1 rfl rfl ⟨?_,hE1⟩
    rw [Bi (fun h=>by obtain ⟨h1,h2,_⟩:=h;omega)])
  (refine AF rfl rfl ?_<;>refine AE rfl rfl ?_<;>refine AN rfl rfl ?_<;>refine Am rfl rfl ?_<;>(refine o_z ?_))
  repeat (first|refine An ?_|refine Ah rfl ?_|refine Ae rfl ?_)
  refine Br t.vars.length (by omega) (fun _:Unit=>[(1,.pointer (some ⟨w.heap.size,0,none⟩)),(18,.slice Av t.vars.length cv)]) (fun k _ w'=>w'=w1∧∀ i,i < k→∀ n,t.vars[i]?=some n→1≤n∧n≤64) ()
    ⟨rfl,fun i hi=>by omega⟩ ⟨rfl,rfl,rfl,rfl,trivial⟩ (fun _=>⟨rfl,rfl⟩) ⟨rfl,rfl,rfl⟩ ⟨rfl,rfl⟩ ?_ ?_
  · rintro k _ _ hk ⟨rfl,hh⟩
    obtain ⟨n,hn⟩:=AD hk
    obtain ⟨b2,o2,ce,rfl,_,_,hd1,rfl,_⟩:=(hvars.ext hE1).elem hn
    ((repeat (first|refine An ?_|refine Ah rfl ?_|refine Ae rfl ?_))<;>(refine CP rfl rfl rfl ?_<;>refine AE rfl rfl ?_<;>refine Ar rfl rfl ?_<;>(refine o_z ?_))<;>(repeat (first|refine An ?_|refine Ah rfl ?_|refine Ae rfl ?_))<;>(refine Am rfl rfl ?_<;>(first|refine CU rfl rfl rfl ?_|refine CV rfl rfl rfl ?_|refine DJ rfl rfl rfl (fun _=>?_) fun _=>?_)<;>refine Am rfl rfl ?_<;>(first|(refine Aw rfl rfl ?_;refine Am rfl rfl ?_)|refine Au rfl rfl rfl rfl ?_)<;>(first|(refine Aw rfl rfl ?_;(first|refine Dt rfl rfl rfl ?_|refine Du rfl rfl rfl ?_|refine CZ rfl rfl rfl (fun _=>?_) fun _=>?_))|refine Au rfl rfl rfl rfl ?_)<;>(first|refine Bk rfl rfl rfl ?_|refine Bp rfl rfl rfl ?_)<;>(refine o_z ?_))<;>(repeat (first|refine An ?_|refine Ah rfl ?_|refine Ae rfl ?_)))
    all_goals try (
      ((repeat (first|refine An ?_|refine Ah rfl ?_|refine Ae rfl ?_))<;>(refine Ar rfl rfl ?_<;>(refine o_z ?_))<;>(repeat (first|refine An ?_|refine Ah rfl ?_|refine Ae rfl ?_)))
      refine ret1 rfl rfl ⟨?_,hE1⟩
      rw [Bi (fun h=>by have:=h.2.2.1 k n hn;omega)])
    exact ⟨(),⟨rfl,rfl,rfl,rfl,trivial⟩,rfl,CA hh fun n' hn'=>by rw [hn] at hn';injection hn' with hn';omega⟩
  rintro _ _ ⟨rfl,hdom⟩
  repeat (first|refine An ?_|refine Ah rfl ?_|refine Ae rfl ?_)
  (refine AF rfl rfl ?_<;>refine AE rfl rfl ?_<;>refine AF rfl rfl ?_<;>refine AE rfl rfl ?_)
  refine CJ rfl rfl (baseState (hvars.ext hE1) (hinit.ext hE1)) ?_ ?_
  case refine_2 =>
    intro w2 hP hE2
    ((first|refine CL rfl rfl ?_|refine CM rfl rfl ?_|refine Dn rfl rfl ?_)<;>refine Am rfl rfl ?_<;>(first|(refine Aw rfl rfl ?_;refine AF rfl rfl ?_)|refine Au rfl rfl rfl rfl ?_)<;>(first|(refine Aw rfl rfl ?_;refine AE rfl rfl ?_)|refine Au rfl rfl rfl rfl ?_)<;>(first|(refine Aw rfl rfl ?_;refine AF rfl rfl ?_)|refine Au rfl rfl rfl rfl ?_)<;>(first|(refine Aw rfl rfl ?_;refine AE rfl rfl ?_)|refine Au rfl rfl rfl rfl ?_))
    refine Au rfl rfl rfl rfl ?_
    ((first|(refine Aw rfl rfl ?_;(first|refine CL rfl rfl ?_|refine CM rfl rfl ?_|refine Dn rfl rfl ?_))|refine Au rfl rfl rfl rfl ?_)<;>(first|refine Bk rfl rfl rfl ?_|refine Bp rfl rfl rfl ?_)<;>(refine o_z ?_))
    repeat (first|refine An ?_|refine Ah rfl ?_|refine Ae rfl ?_)
    ((repeat (first|refine An ?_|refine Ah rfl ?_|refine Ae rfl ?_))<;>(refine Ar rfl rfl ?_<;>(refine o_z ?_))<;>(repeat (first|refine An ?_|refine Ah rfl ?_|refine Ae rfl ?_)))
    refine ret1 rfl rfl ⟨?_,hE1.trans' hE2⟩
    rw [Bi (fun h=>hP h.2.2.2.1)]
  intro w2 hst hE2
  replace hb1:=hb1.ext hE2
  replace hE2:Ext w w2:=hE1.trans' hE2
  ((first|refine CL rfl rfl ?_|refine CM rfl rfl ?_|refine Dn rfl rfl ?_)<;>refine Am rfl rfl ?_<;>(first|(refine Aw rfl rfl ?_;refine AF rfl rfl ?_)|refine Au rfl rfl rfl rfl ?_)<;>(first|(refine Aw rfl rfl ?_;refine AE rfl rfl ?_)|refine Au rfl rfl rfl rfl ?_)<;>(first|(refine Aw rfl rfl ?_;refine AF rfl rfl ?_)|refine Au rfl rfl rfl rfl ?_)<;>(first|(refine Aw rfl rfl ?_;refine AE rfl rfl ?_)|refine Au rfl rfl rfl rfl ?_))
  refine Aw rfl rfl ?_
  refine CJ rfl rfl (baseProper (hvars.ext hE2) (hgoal.ext hE2)) ?_ ?_
  case refine_2 =>
    intro w3 hP hE3
    ((first|(refine Aw rfl rfl ?_;(first|refine CL rfl rfl ?_|refine CM rfl rfl ?_|refine Dn rfl rfl ?_))|refine Au rfl rfl rfl rfl ?_)<;>(first|refine Bk rfl rfl rfl ?_|refine Bp rfl rfl rfl ?_)<;>(refine o_z ?_))
    repeat (first|refine An ?_|refine Ah rfl ?_|refine Ae rfl ?_)
    ((repeat (first|refine An ?_|refine Ah rfl ?_|refine Ae rfl ?_))<;>(refine Ar rfl rfl ?_<;>(refine o_z ?_))<;>(repeat (first|refine An ?_|refine Ah rfl ?_|refine Ae rfl ?_)))
    refine ret1 rfl rfl ⟨?_,hE2.trans' hE3⟩
    rw [Bi (fun h=>hP h.2.2.2.2.1)]
  intro w3 hgo hE3
  replace hb1:=hb1.ext hE3
  replace hE3:Ext w w3:=hE2.trans' hE3
  ((first|(refine Aw rfl rfl ?_;(first|refine CL rfl rfl ?_|refine CM rfl rfl ?_|refine Dn rfl rfl ?_))|refine Au rfl rfl rfl rfl ?_)<;>(first|refine Bk rfl rfl rfl ?_|refine Bp rfl rfl rfl ?_)<;>(refine o_z ?_))
  repeat (first|refine An ?_|refine Ah rfl ?_|refine Ae rfl ?_)
  ((repeat (first|refine An ?_|refine Ah rfl ?_|refine Ae rfl ?_))<;>(refine AF rfl rfl ?_<;>refine AE rfl rfl ?_<;>refine AN rfl rfl ?_<;>refine Am rfl rfl ?_<;>(refine o_z ?_))<;>(repeat (first|refine An ?_|refine Ah rfl ?_|refine Ae rfl ?_)))
  refine Br t.ops.length (by omega) (fun _:Unit=>[(1,.pointer (some ⟨w.heap.size,0,none⟩)),(46,.slice Ao t.ops.length co)]) (fun k _ w'=>Ext w3 w'∧∀ i,i < k→∀ o,t.ops[i]?=some o→OpOk t.vars o) ()
    ⟨Below.refl _ _,fun i hi=>by omega⟩ ⟨rfl,rfl,rfl,rfl,trivial⟩ (fun _=>⟨rfl,rfl⟩) ⟨rfl,rfl,rfl⟩ ⟨rfl,rfl⟩ ?_ ?_
  · rintro k _ w4 hk ⟨hE4,hh⟩
    obtain ⟨o,ho⟩:=AD hk
    replace hb1:=hb1.ext hE4
    have hE34:=hE4
    replace hE4:Ext w w4:=hE3.trans' hE4
    obtain ⟨b2,o2,ce,rfl,_,_,hd1,hRo⟩:=(hops.ext hE4).elem ho
    obtain ⟨p,q,rfl,hp,hq,hc,hn⟩:=id hRo
    obtain ⟨Ap,cp,rfl⟩:=hp.form
    obtain ⟨Aq,cq,rfl⟩:=hq.form
    ((repeat (first|refine An ?_|refine Ah rfl ?_|refine Ae rfl ?_))<;>(refine CP rfl rfl rfl ?_<;>refine BM rfl rfl ?_)<;>(repeat (first|refine An ?_|refine Ah rfl ?_|refine Ae rfl ?_)))
    refine BU rfl rfl rfl (by simp [Value.cells,Value.oneCell']) fun w5 hN5=>?_
    have hb2:=hN5.blk
    replace hb1:=hb1.ext hN5.ext
    have hE5:Ext w w5:=hE4.trans' hN5.ext
    ((refine o_z ?_))
    repeat (first|refine An ?_|refine Ah rfl ?_|refine Ae rfl ?_)
    (refine AF rfl rfl ?_<;>refine AE rfl rfl ?_<;>refine BM rfl rfl ?_)
    have hVo:V w4 (.agg #[.string o.name,.int .i64 o.cost,.slice Ap o.pre.length cp,.slice Aq o.effs.length cq]) o:=⟨_,rfl,hRo⟩
    refine CJ rfl rfl (baseOperator (hvars.ext hE5) (hVo.ext hN5.ext)) ?_ ?_
    · intro w6 hP hE6
      ((first|refine CL rfl rfl ?_|refine CM rfl rfl ?_|refine Dn rfl rfl ?_)<;>(refine o_z ?_))
      repeat (first|refine An ?_|refine Ah rfl ?_|refine Ae rfl ?_)
      refine ⟨(),⟨rfl,rfl,rfl,rfl,trivial⟩,?_,CA hh fun o' ho'=>by rw [ho] at ho';injection ho' with ho';exact ho' ▸ hP⟩
      exact hE34.trans' (hN5.ext.trans' hE6)
    · intro w6 hP hE6
      ((first|refine CL rfl rfl ?_|refine CM rfl rfl ?_|refine Dn rfl rfl ?_)<;>(refine o_z ?_))
      repeat (first|refine An ?_|refine Ah rfl ?_|refine Ae rfl ?_)
      ((repeat (first|refine An ?_|refine Ah rfl ?_|refine Ae rfl ?_))<;>(refine Ar rfl rfl ?_<;>(refine o_z ?_))<;>(repeat (first|refine An ?_|refine Ah rfl ?_|refine Ae rfl ?_)))
      refine ret1 rfl rfl ⟨?_,hE5.trans' hE6⟩
      rw [Bi (fun h=>hP (h.2.2.2.2.2 k o ho))]
  rintro _ w4 ⟨hE4,hh⟩
  repeat (first|refine An ?_|refine Ah rfl ?_|refine Ae rfl ?_)
  ((repeat (first|refine An ?_|refine Ah rfl ?_|refine Ae rfl ?_))<;>(refine Ar rfl rfl ?_<;>(refine o_z ?_))<;>(repeat (first|refine An ?_|refine Ah rfl ?_|refine Ae rfl ?_)))
  refine ret1 rfl rfl ⟨?_,hE3.trans' hE4⟩
  rw [Ch ⟨by omega,by omega,fun i n hn=>hdom i (Bn hn) n hn,hst,hgo,fun i o ho=>hh i (Bn ho) o ho⟩]
def manyF (most:Int):List Int→Int→Int
  | [],n=>n
  | k :: r,n=>if most < n * min (max k 0) (most + 1) then most + 1 else manyF most r (n * min (max k 0) (most + 1))
theorem baseMany {w:World} {vv:Value} {vars:List Int} {most:Int} (hv:V w vv vars) (h1:1≤most) (h2:most≤1048576) :
    Fn Tryz.prog 37 [vv,.int .i64 most] w fun v w'=>v=.int .i64 (manyF most vars 1)∧Ext w w':=by
  obtain ⟨A,ca,rfl⟩:=hv.form
  have hvl:=hv.len
  refine AI Tryz.func37 rfl Tryz.ntmps37 rfl ?_
  ((repeat (first|refine An ?_|refine Ah rfl ?_|refine Ae rfl ?_))<;>(refine Ar rfl rfl ?_<;>(refine o_z ?_))<;>(repeat (first|refine An ?_|refine Ah rfl ?_|refine Ae rfl ?_))<;>(refine Ar rfl rfl ?_<;>(refine o_z ?_))<;>(repeat (first|refine An ?_|refine Ah rfl ?_|refine Ae rfl ?_))<;>(refine Am rfl rfl ?_<;>refine AN rfl rfl ?_<;>refine Am rfl rfl ?_<;>(refine o_z ?_))<;>(repeat (first|refine An ?_|refine Ah rfl ?_|refine Ae rfl ?_)))
  refine Br vars.length (by omega) (fun n:Int=>[(1,.int .i64 most),(5,.int .i64 n),(8,.slice A vars.length ca)]) (fun k n w'=>w'=w∧0≤n∧n≤most∧manyF most (vars.drop k) n=manyF most vars 1) 1
    ⟨rfl,by omega,h1,rfl⟩ ⟨rfl,rfl,rfl,rfl,rfl,trivial⟩ (fun _=>⟨rfl,rfl⟩) ⟨rfl,rfl,rfl⟩ ⟨rfl,rfl⟩ ?_ ?_
  · rintro k n _ hk ⟨rfl,hn0,hn1,hh⟩
    obtain ⟨x,hx⟩:=AD hk
    obtain ⟨b2,o2,ce,rfl,_,_,hd1,rfl,_⟩:=hv.elem hx
    have hd:vars.drop k=x :: vars.drop (k + 1):=by
      rw [List.drop_eq_getElem_cons hk];congr 1
      rw [List.getElem?_eq_getElem hk] at hx;exact Option.some.inj hx
    rw [hd] at hh
    simp only [manyF] at hh
    have hm0:0≤min (max x 0) (most + 1):=by omega
    have hm1:min (max x 0) (most + 1)≤most + 1:=by omega
    have hp0:0≤n * min (max x 0) (most + 1):=Int.mul_nonneg hn0 hm0
    have hp1:n * min (max x 0) (most + 1)≤1048576 * 1048577:=Int.le_trans (Int.mul_le_mul_of_nonneg_right (Int.le_trans hn1 h2) hm0) (Int.mul_le_mul_of_nonneg_left (by omega) (by omega))
    ((repeat (first|refine An ?_|refine Ah rfl ?_|refine Ae rfl ?_))<;>(refine CP rfl rfl rfl ?_<;>refine AE rfl rfl ?_<;>refine Ar rfl rfl ?_<;>(refine o_z ?_))<;>(repeat (first|refine An ?_|refine Ah rfl ?_|refine Ae rfl ?_))<;>(refine Am rfl rfl ?_<;>refine Am rfl rfl ?_<;>refine Mv rfl rfl rfl ?_<;>refine Am rfl rfl ?_<;>(first|refine FK rfl rfl ?_|refine FJ rfl rfl rfl ?_)<;>refine Mu rfl rfl rfl ?_<;>refine Rj rfl rfl rfl ?_<;>refine Ar rfl rfl ?_<;>(refine o_z ?_))<;>(repeat (first|refine An ?_|refine Ah rfl ?_|refine Ae rfl ?_))<;>(refine Am rfl rfl ?_<;>refine Am rfl rfl ?_<;>(first|refine Dt rfl rfl rfl ?_|refine Du rfl rfl rfl ?_|refine CZ rfl rfl rfl (fun _=>?_) fun _=>?_)<;>(refine o_z ?_))<;>(repeat (first|refine An ?_|refine Ah rfl ?_|refine Ae rfl ?_)))
    · ((repeat (first|refine An ?_|refine Ah rfl ?_|refine Ae rfl ?_))<;>(refine Am rfl rfl ?_<;>(first|refine FK rfl rfl ?_|refine FJ rfl rfl rfl ?_)<;>refine Ar rfl rfl ?_<;>(refine o_z ?_))<;>(repeat (first|refine An ?_|refine Ah rfl ?_|refine Ae rfl ?_)))
      refine ret1 rfl rfl ⟨?_,Below.refl _ _⟩
      rw [if_pos (by assumption)] at hh
      rw [← hh]
    · rw [if_neg (by assumption)] at hh
      exact ⟨n * min (max x 0) (most + 1),⟨rfl,rfl,rfl,rfl,rfl,trivial⟩,rfl,hp0,by omega,hh⟩
  rintro n _ ⟨rfl,_,_,hh⟩
  repeat (first|refine An ?_|refine Ah rfl ?_|refine Ae rfl ?_)
  ((repeat (first|refine An ?_|refine Ah rfl ?_|refine Ae rfl ?_))<;>(refine Am rfl rfl ?_<;>refine Ar rfl rfl ?_<;>(refine o_z ?_))<;>(repeat (first|refine An ?_|refine Ah rfl ?_|refine Ae rfl ?_)))
  refine ret1 rfl rfl ⟨?_,Below.refl _ _⟩
  rw [← hh,List.drop_length];rfl
def SmallOk (t:Tsk):Prop:=t.vars.length≤12∧t.ops.length≤20∧(∀ (i:Nat) o,t.ops[i]?=some o→o.effs.length≤8)∧TaskOk t∧manyF 512 t.vars 1≤512
theorem baseSmall {w:World} {tv:Value} {t:Tsk} (ht:V w tv t) :
    Fn Tryz.prog 10 [tv] w fun v w'=>v=.bool (bof (SmallOk t))∧Ext w w':=by
  have ht0:=ht
  obtain ⟨cs,rfl,a,b,c,d,rfl,hvars,hinit,hgoal,hops⟩:=ht
  obtain ⟨Av,cv,rfl⟩:=hvars.form
  obtain ⟨Ai,ci,rfl⟩:=hinit.form
  obtain ⟨Ag,cg,rfl⟩:=hgoal.form
  obtain ⟨Ao,co,rfl⟩:=hops.form
  have hvl:=hvars.len
  have hol:=hops.len
  refine AI Tryz.func10 rfl Tryz.ntmps10 rfl ?_
  repeat (first|refine An ?_|refine Ah rfl ?_|refine Ae rfl ?_)
  refine Do rfl rfl fun w1 hN=>?_
  have hb1:=hN.blk
  have hE1:Ext w w1:=hN.ext
  (refine Ar rfl rfl ?_<;>(refine o_z ?_))
  repeat (first|refine An ?_|refine Ah rfl ?_|refine Ae rfl ?_)
  ((repeat (first|refine An ?_|refine Ah rfl ?_|refine Ae rfl ?_))<;>(refine AF rfl rfl ?_<;>refine AE rfl rfl ?_<;>refine AN rfl rfl ?_<;>(first|refine Dt rfl rfl rfl ?_|refine Du rfl rfl rfl ?_|refine CZ rfl rfl rfl (fun _=>?_) fun _=>?_)<;>refine Am rfl rfl ?_<;>(first|(refine Aw rfl rfl ?_;refine AF rfl rfl ?_)|refine Au rfl rfl rfl rfl ?_)<;>(first|(refine Aw rfl rfl ?_;refine AE rfl rfl ?_)|refine Au rfl rfl rfl rfl ?_)<;>(first|(refine Aw rfl rfl ?_;refine AN rfl rfl ?_)|refine Au rfl rfl rfl rfl ?_)<;>(first|(refine Aw rfl rfl ?_;(first|refine Dt rfl rfl rfl ?_|refine Du rfl rfl rfl ?_|refine CZ rfl rfl rfl (fun _=>?_) fun _=>?_))|refine Au rfl rfl rfl rfl ?_)<;>(first|refine Bk rfl rfl rfl ?_|refine Bp rfl rfl rfl ?_)<;>(refine o_z ?_))<;>(repeat (first|refine An ?_|refine Ah rfl ?_|refine Ae rfl ?_)))
  all_goals try (
    ((repeat (first|refine An ?_|refine Ah rfl ?_|refine Ae rfl ?_))<;>(refine Ar rfl rfl ?_<;>(refine o_z ?_))<;>(repeat (first|refine An ?_|refine Ah rfl ?_|refine Ae rfl ?_)))
    refine ret1 rfl rfl ⟨?_,hE1⟩
    rw [Bi (fun h=>by obtain ⟨h1,h2,_⟩:=h;omega)])
  ((repeat (first|refine An ?_|refine Ah rfl ?_|refine Ae rfl ?_))<;>(refine AF rfl rfl ?_<;>refine AE rfl rfl ?_<;>refine AN rfl rfl ?_<;>refine Am rfl rfl ?_<;>(refine o_z ?_))<;>(repeat (first|refine An ?_|refine Ah rfl ?_|refine Ae rfl ?_)))
  refine Br t.ops.length (by omega) (fun _:Unit=>[(1,.pointer (some ⟨w.heap.size,0,none⟩)),(16,.slice Ao t.ops.length co)]) (fun k _ w'=>Ext w1 w'∧∀ i,i < k→∀ o,t.ops[i]?=some o→o.effs.length≤8) ()
    ⟨Below.refl _ _,fun i hi=>by omega⟩ ⟨rfl,rfl,rfl,rfl,trivial⟩ (fun _=>⟨rfl,rfl⟩) ⟨rfl,rfl,rfl⟩ ⟨rfl,rfl⟩ ?_ ?_
  · rintro k _ w4 hk ⟨hE4,hh⟩
    obtain ⟨o,ho⟩:=AD hk
    obtain ⟨b2,o2,ce,rfl,_,_,hd1,p,q,rfl,hp,hq,hc,hn⟩:=(hops.ext (hE1.trans' hE4)).elem ho
    obtain ⟨Ap,cp,rfl⟩:=hp.form
    obtain ⟨Aq,cq,rfl⟩:=hq.form
    ((repeat (first|refine An ?_|refine Ah rfl ?_|refine Ae rfl ?_))<;>(refine CP rfl rfl rfl ?_<;>refine BM rfl rfl ?_)<;>(repeat (first|refine An ?_|refine Ah rfl ?_|refine Ae rfl ?_)))
    refine BU rfl rfl rfl (by simp [Value.cells,Value.oneCell']) fun w5 hN5=>?_
    have hb2:=hN5.blk
    have hE5:Ext w1 w5:=hE4.trans' hN5.ext
    ((refine o_z ?_))
    repeat (first|refine An ?_|refine Ah rfl ?_|refine Ae rfl ?_)
    ((repeat (first|refine An ?_|refine Ah rfl ?_|refine Ae rfl ?_))<;>(refine AF rfl rfl ?_<;>refine AE rfl rfl ?_<;>refine AN rfl rfl ?_<;>(first|refine Dt rfl rfl rfl ?_|refine Du rfl rfl rfl ?_|refine CZ rfl rfl rfl (fun _=>?_) fun _=>?_)<;>(refine o_z ?_))<;>(repeat (first|refine An ?_|refine Ah rfl ?_|refine Ae rfl ?_)))
    · ((repeat (first|refine An ?_|refine Ah rfl ?_|refine Ae rfl ?_))<;>(refine Ar rfl rfl ?_<;>(refine o_z ?_))<;>(repeat (first|refine An ?_|refine Ah rfl ?_|refine Ae rfl ?_)))
      refine ret1 rfl rfl ⟨?_,hE1.trans' hE5⟩
      rw [Bi (fun h=>by have:=h.2.2.1 k o ho;omega)]
    · exact ⟨(),⟨rfl,rfl,rfl,rfl,trivial⟩,hE5,CA hh fun o' ho'=>by rw [ho] at ho';injection ho' with ho';subst ho';omega⟩
  rintro _ w4 ⟨hE4,hh⟩
  replace hb1:=hb1.ext hE4
  replace hE4:Ext w w4:=hE1.trans' hE4
  repeat (first|refine An ?_|refine Ah rfl ?_|refine Ae rfl ?_)
  (refine BM rfl rfl ?_)
  refine CJ rfl rfl (baseGood (ht0.ext hE4)) ?_ ?_
  · intro w5 hgood hE5
    replace hb1:=hb1.ext hE5
    replace hE5:Ext w w5:=hE4.trans' hE5
    (refine Am rfl rfl ?_<;>(first|(refine Aw rfl rfl ?_;refine AF rfl rfl ?_)|refine Au rfl rfl rfl rfl ?_)<;>(first|(refine Aw rfl rfl ?_;refine AE rfl rfl ?_)|refine Au rfl rfl rfl rfl ?_))
    refine Aw rfl rfl ?_
    refine Bc rfl rfl (baseMany (hvars.ext hE5) (by decide) (by decide)) ?_
    rintro _ w6 ⟨rfl,hE6⟩
    ((first|(refine Aw rfl rfl ?_;(first|refine KQ rfl rfl rfl ?_|refine KR rfl rfl rfl ?_|refine KS rfl rfl rfl (fun _=>?_) fun _=>?_))|refine Au rfl rfl rfl rfl ?_)<;>(first|refine Bk rfl rfl rfl ?_|refine Bp rfl rfl rfl ?_)<;>refine Ar rfl rfl ?_<;>(refine o_z ?_))
    all_goals
      repeat (first|refine An ?_|refine Ah rfl ?_|refine Ae rfl ?_)
      refine ret1 rfl rfl ⟨?_,hE5.trans' hE6⟩
    · rw [Ch ⟨by omega,by omega,fun i o ho=>hh i (Bn ho) o ho,hgood,by assumption⟩]
    · rw [Bi (fun h=>absurd h.2.2.2.2 (by assumption))]
  · intro w5 hgood hE5
    (refine Am rfl rfl ?_<;>(first|(refine Aw rfl rfl ?_;refine AF rfl rfl ?_)|refine Au rfl rfl rfl rfl ?_)<;>(first|(refine Aw rfl rfl ?_;refine AE rfl rfl ?_)|refine Au rfl rfl rfl rfl ?_))
    refine Au rfl rfl rfl rfl ?_
    ((first|(refine Aw rfl rfl ?_;(first|refine KQ rfl rfl rfl ?_|refine KR rfl rfl rfl ?_|refine KS rfl rfl rfl (fun _=>?_) fun _=>?_))|refine Au rfl rfl rfl rfl ?_)<;>(first|refine Bk rfl rfl rfl ?_|refine Bp rfl rfl rfl ?_)<;>refine Ar rfl rfl ?_<;>(refine o_z ?_))
    repeat (first|refine An ?_|refine Ah rfl ?_|refine Ae rfl ?_)
    refine ret1 rfl rfl ⟨?_,hE4.trans' hE5⟩
    rw [Bi (fun h=>hgood h.2.2.2.1)]
end
section
open Go Go.RowKit
def effsOn (s:List Int):List Eff→List Int→List Int
  | [],out=>out
  | e :: r,out=>effsOn s r (if holdsB e.cond s=true then out.set e.var.toNat e.val else out)
theorem HL (s:List Int):∀ (a b:List Eff) (out:List Int),effsOn s (a ++ b) out=effsOn s b (effsOn s a out)
  | [],_,_=>rfl
  | e :: a,b,out=>by simp [effsOn,HL s a b]
theorem HM (s:List Int):∀ (a:List Eff) (out:List Int),(effsOn s a out).length=out.length
  | [],_=>rfl
  | e :: a,out=>by
    rw [effsOn,HM s a]
    split<;>simp
theorem LH (s:List Int) {l:List Eff} {k:Nat} {e:Eff} (h:l[k]?=some e) (out:List Int):effsOn s (l.take (k + 1)) out=if holdsB e.cond s=true then (effsOn s (l.take k) out).set e.var.toNat e.val else effsOn s (l.take k) out:=by
  rw [List.take_add_one,h,HL];rfl
def EffsIn (s:List Int) (l:List Eff):Prop:=∀ (i:Nat) e,l[i]?=some e→0≤e.var∧e.var < s.length
def succ (o:Opr) (s:List Int):List Int:=effsOn s o.effs s
end
section
open Go Go.RowKit
attribute [local irreducible] ewp owp hwp hwq hws Ev Evg Fn retPost loud loudS Res1
theorem cloneInts {w:World} {sv:Value} {xs:List Int} (hs:V w sv xs) (hl:xs.length * 8≤140737488355328) :
    Fn Tryz.prog 55 [sv] w fun v w'=>Own w' w.heap.size (All w) 3 v xs∧Ext w w':=by
  obtain ⟨A,c,rfl⟩:=hs.form
  refine AI Tryz.func55 rfl Tryz.ntmps55 rfl ?_
  cases A with
  | none =>
    have hx:xs=[]:=by
      cases xs with
      | nil=>rfl
      | cons x xs=>obtain ⟨_,_,_,h,_⟩:=hs.elem (k:=0) (x:=x) rfl;cases h
    subst hx
    ((repeat (first|refine An ?_|refine Ah rfl ?_|refine Ae rfl ?_))<;>(refine Ar rfl rfl ?_<;>(refine o_z ?_))<;>(repeat (first|refine An ?_|refine Ah rfl ?_|refine Ae rfl ?_))<;>(refine Am rfl rfl ?_<;>refine Ft rfl rfl ?_<;>(refine o_z ?_))<;>(repeat (first|refine An ?_|refine Ah rfl ?_|refine Ae rfl ?_))<;>(refine Ar rfl rfl ?_<;>(refine o_z ?_))<;>(repeat (first|refine An ?_|refine Ah rfl ?_|refine Ae rfl ?_)))
    exact ret1 rfl rfl ⟨Own.nil _ _ _ _,Below.refl _ _⟩
  | some ad =>
    ((repeat (first|refine An ?_|refine Ah rfl ?_|refine Ae rfl ?_))<;>(refine Ar rfl rfl ?_<;>(refine o_z ?_))<;>(repeat (first|refine An ?_|refine Ah rfl ?_|refine Ae rfl ?_))<;>(refine Am rfl rfl ?_<;>refine Ft rfl rfl ?_<;>(refine o_z ?_))<;>(repeat (first|refine An ?_|refine Ah rfl ?_|refine Ae rfl ?_)))
    refine DA rfl rfl rfl (by simp) (by decide) rfl fun w1 hN=>?_
    have hE:=hN.ext
    have hown:Own w1 w.heap.size (All w) 3 (.slice (some ⟨w.heap.size,0,none⟩) 0 0) ([]:List Int):=Own.made hN rfl rfl (Nat.lt_irrefl _) (by decide)
    (refine Am rfl rfl ?_)
    refine GU rfl rfl rfl hown (fun k hk=>Nat.lt_of_lt_of_le hk hE.size) hE.size (Vb.agree hs (hE.agree fun _ h=>h)) (by decide) (by simpa using hl) (by simp;omega) rfl fun v' w2 ho hK=>?_
    (refine Ar rfl rfl ?_<;>(refine o_z ?_))
    repeat (first|refine An ?_|refine Ah rfl ?_|refine Ae rfl ?_)
    refine ret1 rfl rfl ⟨by simpa using ho,hE.trans (hown.fits (Nat.le_refl _) hE.size hK)⟩
theorem cloneFacts {w:World} {sv:Value} {xs:List Fct} (hs:V w sv xs) (hl:xs.length * 16≤140737488355328) :
    Fn Tryz.prog 84 [sv] w fun v w'=>Own w' w.heap.size (All w) 123 v xs∧Ext w w':=by
  obtain ⟨A,c,rfl⟩:=hs.form
  refine AI Tryz.func84 rfl Tryz.ntmps84 rfl ?_
  cases A with
  | none =>
    have hx:xs=[]:=by
      cases xs with
      | nil=>rfl
      | cons x xs=>obtain ⟨_,_,_,h,_⟩:=hs.elem (k:=0) (x:=x) rfl;cases h
    subst hx
    ((repeat (first|refine An ?_|refine Ah rfl ?_|refine Ae rfl ?_))<;>(refine Ar rfl rfl ?_<;>(refine o_z ?_))<;>(repeat (first|refine An ?_|refine Ah rfl ?_|refine Ae rfl ?_))<;>(refine Am rfl rfl ?_<;>refine Ft rfl rfl ?_<;>(refine o_z ?_))<;>(repeat (first|refine An ?_|refine Ah rfl ?_|refine Ae rfl ?_))<;>(refine Ar rfl rfl ?_<;>(refine o_z ?_))<;>(repeat (first|refine An ?_|refine Ah rfl ?_|refine Ae rfl ?_)))
    exact ret1 rfl rfl ⟨Own.nil _ _ _ _,Below.refl _ _⟩
  | some ad =>
    ((repeat (first|refine An ?_|refine Ah rfl ?_|refine Ae rfl ?_))<;>(refine Ar rfl rfl ?_<;>(refine o_z ?_))<;>(repeat (first|refine An ?_|refine Ah rfl ?_|refine Ae rfl ?_))<;>(refine Am rfl rfl ?_<;>refine Ft rfl rfl ?_<;>(refine o_z ?_))<;>(repeat (first|refine An ?_|refine Ah rfl ?_|refine Ae rfl ?_)))
    refine DA rfl rfl rfl (by simp) (by decide) rfl fun w1 hN=>?_
    have hE:=hN.ext
    have hown:Own w1 w.heap.size (All w) 123 (.slice (some ⟨w.heap.size,0,none⟩) 0 0) ([]:List Fct):=Own.made hN rfl rfl (Nat.lt_irrefl _) (by decide)
    (refine Am rfl rfl ?_)
    refine GU rfl rfl rfl hown (fun k hk=>Nat.lt_of_lt_of_le hk hE.size) hE.size (Vb.agree hs (hE.agree fun _ h=>h)) (by decide) (by simpa using hl) (by simp;omega) rfl fun v' w2 ho hK=>?_
    (refine Ar rfl rfl ?_<;>(refine o_z ?_))
    repeat (first|refine An ?_|refine Ah rfl ?_|refine Ae rfl ?_)
    refine ret1 rfl rfl ⟨by simpa using ho,hE.trans (hown.fits (Nat.le_refl _) hE.size hK)⟩
def applK (t:Tsk) (s:List Int) (k:Nat):List Int:=((List.range k).filter fun i=>match t.ops[i]? with|some o=>holdsB o.pre s|none=>false).map fun i:Nat=>(i:Int)
def appl (t:Tsk) (s:List Int):List Int:=applK t s t.ops.length
theorem Ni (t:Tsk) (s:List Int) (k:Nat):(applK t s k).length≤k:=by
  unfold applK
  rw [List.length_map]
  exact Nat.le_trans (List.length_filter_le _ _) (by simp)
end
section
open Go Go.RowKit
attribute [local irreducible] ewp owp hwp hwq hws Ev Evg Fn retPost loud loudS Res1
inductive Tr where
  | nil
  | leaf (ops:List Int)
  | node (nx many:Nat) (vals:Nat→Tr) (rest:Tr)
def TrR (w:World) (F:Nat→Prop):Tr→Value→Prop
  | .nil,p=>p=.pointer none
  | .leaf ops,p=>∃ g ov,p=.pointer (some ⟨g,0,none⟩)∧F g∧Blk w g 172 [ov,.bool true,.int .i64 0,.slice none 0 0,.pointer none]∧Vb w F ov ops
  | .node nx k vals rest,p=>∃ g A c rp,p=.pointer (some ⟨g,0,none⟩)∧F g∧Blk w g 172 [.slice none 0 0,.bool false,.int .i64 (nx:Int),.slice A k c,.pointer rp]∧TrR w F rest (.pointer rp) ∧
      ∀ i,i < k→∃ b o q,A=some ⟨b,o,none⟩∧F b∧w.cell? ⟨b,o + i,none⟩=some (.pointer q)∧TrR w F (vals i) (.pointer q)
theorem TrR.agree {w w':World} {F:Nat→Prop} (ha:Agree F w w'):∀ {T:Tr} {p:Value},TrR w F T p→TrR w' F T p
  | .nil,_,h=>h
  | .leaf ops,_,⟨g,ov,h1,h2,h3,h4⟩=>⟨g,ov,h1,h2,h3.keep (ha g h2),h4.agree ha⟩
  | .node nx k vals rest,_,⟨g,A,c,rp,h1,h2,h3,h4,h5⟩=>⟨g,A,c,rp,h1,h2,h3.keep (ha g h2),TrR.agree ha h4,fun i hi=>by
      obtain ⟨b,o,q,g1,g2,g3,g4⟩:=h5 i hi
      exact ⟨b,o,q,g1,g2,(ha.cell g2).trans g3,TrR.agree ha g4⟩⟩
theorem TrR.mono {w:World} {F G:Nat→Prop} (hk:∀ k,F k→G k):∀ {T:Tr} {p:Value},TrR w F T p→TrR w G T p
  | .nil,_,h=>h
  | .leaf ops,_,⟨g,ov,h1,h2,h3,h4⟩=>⟨g,ov,h1,hk _ h2,h3,h4.mono hk⟩
  | .node nx k vals rest,_,⟨g,A,c,rp,h1,h2,h3,h4,h5⟩=>⟨g,A,c,rp,h1,hk _ h2,h3,TrR.mono hk h4,fun i hi=>by
      obtain ⟨b,o,q,g1,g2,g3,g4⟩:=h5 i hi
      exact ⟨b,o,q,g1,hk _ g2,g3,TrR.mono hk g4⟩⟩
theorem TrR.form {w:World} {F:Nat→Prop}:∀ {T:Tr} {p:Value},TrR w F T p→∃ q,p=.pointer q
  | .nil,_,h=>⟨none,h⟩
  | .leaf _,_,⟨_,_,h,_⟩=>⟨_,h⟩
  | .node ..,_,⟨_,_,_,_,h,_⟩=>⟨_,h⟩
def atN (s:List Int) (i:Nat):Nat:=(s[i]?.getD 0).toNat
def coll (s:List Int):Tr→List Int
  | .nil=>[]
  | .leaf ops=>ops
  | .node nx _ vals rest=>coll s (vals (atN s nx)) ++ coll s rest
def look (s:List Int):Tr→List Bool→List Bool
  | .nil,l=>l
  | .leaf _,l=>l
  | .node nx _ vals rest,l=>look s rest (look s (vals (atN s nx)) (l.set nx true))
def Fits (s:List Int):Tr→Prop
  | .nil=>True
  | .leaf _=>True
  | .node nx k vals rest=>(∃ x:Nat,s[nx]?=some (x:Int)∧x < k)∧Fits s (vals (atN s nx))∧Fits s rest
theorem FP (s:List Int):∀ (T:Tr) (l:List Bool),(look s T l).length=l.length
  | .nil,_=>rfl
  | .leaf _,_=>rfl
  | .node nx k vals rest,l=>by rw [look,FP s rest,FP s (vals _)];simp
theorem Own.own_ne {α β:Type} [Rp α] [Rp β] {w:World} {b1 b2:Nat} {F G:Nat→Prop} {e1 e2:TypeId} {u v:Value} {xs:List α} {ys:List β} (h:Own w b1 F e1 u xs) (k:Own w b2 G e2 v ys) (hne:e1≠e2):∀ g,u.ownBlock=some g→v.ownBlock≠some g:=by
  intro g hg hv
  obtain ⟨c1,h1,_⟩:=h
  obtain ⟨c2,h2,_⟩:=k
  rcases h1.2 with ⟨rfl,_⟩|⟨g1,cap1,cur1,rfl,_,hh1,_⟩
  · simp [Value.ownBlock] at hg
  · rcases h2.2 with ⟨rfl,_⟩|⟨g2,cap2,cur2,rfl,_,hh2,_⟩
    · simp [Value.ownBlock] at hv
    · have e1':g1=g:=by simpa [Value.ownBlock] using hg
      have e2':g2=g:=by simpa [Value.ownBlock] using hv
      subst e1';subst e2'
      rw [hh1] at hh2
      injection hh2 with hh2
      injection hh2 with _ ht
      exact hne ht
theorem Own.kept {α:Type} [Rp α] {w w':World} {base:Nat} {F:Nat→Prop} {e:TypeId} {v u:Value} {xs:List α} (h:Own w base F e v xs) (hK:Kept w w' u) (hF:∀ k,F k→k < w.heap.size∧u.ownBlock≠some k) (hne:∀ g,v.ownBlock=some g→u.ownBlock≠some g):Own w' base F e v xs :=
  h.agree (fun k hk=>hK.block k (hF k hk).1 (hF k hk).2) fun g hg=>hK.block g (h.lt g hg).2 (hne g hg)
theorem collect (B:Nat) (s:List Int):∀ (T:Tr) (w:World) (p ov sv lv:Value) (out:List Int) (looked:List Bool),B≤w.heap.size→TrR w (· < B) T p→Vb w (· < B) sv s→Own w B (· < B) 3 ov out→Own w B (· < B) 4 lv looked →
    Fits s T→looked.length=s.length→out.length + (coll s T).length≤1000000 →
    Fn Tryz.prog 130 [p,ov,sv,lv] w fun v w'=>Own w' B (· < B) 3 v (out ++ coll s T)∧Own w' B (· < B) 4 lv (look s T looked)∧Below B w w':=by
  intro T
  induction T with
  | nil =>
    intro w p ov sv lv out looked hB hT hs ho hl _ _ hlen
    have hp:p=.pointer none:=hT
    subst hp
    refine AI Tryz.func130 rfl Tryz.ntmps130 rfl ?_
    ((repeat (first|refine An ?_|refine Ah rfl ?_|refine Ae rfl ?_))<;>(refine Ar rfl rfl ?_<;>(refine o_z ?_))<;>(repeat (first|refine An ?_|refine Ah rfl ?_|refine Ae rfl ?_))<;>(refine Am rfl rfl ?_<;>refine Ep rfl rfl ?_<;>(refine o_z ?_))<;>(repeat (first|refine An ?_|refine Ah rfl ?_|refine Ae rfl ?_))<;>(refine Am rfl rfl ?_<;>refine Ar rfl rfl ?_<;>(refine o_z ?_))<;>(repeat (first|refine An ?_|refine Ah rfl ?_|refine Ae rfl ?_)))
    exact ret1 rfl rfl ⟨by simpa [coll] using ho,hl,Below.refl _ _⟩
  | leaf ops =>
    intro w p ov sv lv out looked hB hT hs ho hl _ _ hlen
    obtain ⟨g,opv',rfl,hg,hb1,hops⟩:=hT
    refine AI Tryz.func130 rfl Tryz.ntmps130 rfl ?_
    ((repeat (first|refine An ?_|refine Ah rfl ?_|refine Ae rfl ?_))<;>(refine Ar rfl rfl ?_<;>(refine o_z ?_))<;>(repeat (first|refine An ?_|refine Ah rfl ?_|refine Ae rfl ?_))<;>(refine Am rfl rfl ?_<;>refine Ep rfl rfl ?_<;>(refine o_z ?_))<;>(repeat (first|refine An ?_|refine Ah rfl ?_|refine Ae rfl ?_))<;>(refine Am rfl rfl ?_<;>refine BK rfl rfl ?_<;>refine AF rfl rfl ?_<;>refine AE rfl rfl ?_<;>(refine o_z ?_))<;>(repeat (first|refine An ?_|refine Ah rfl ?_|refine Ae rfl ?_))<;>(refine Am rfl rfl ?_<;>refine Am rfl rfl ?_<;>refine BK rfl rfl ?_<;>refine AF rfl rfl ?_<;>refine AE rfl rfl ?_)<;>(repeat (first|refine An ?_|refine Ah rfl ?_|refine Ae rfl ?_)))
    simp only [coll] at hlen
    refine GU rfl rfl rfl ho (fun k hk=>Nat.lt_of_lt_of_le hk hB) hB hops (by decide) (by omega) (by omega) rfl fun v' w1 ho1 hK=>?_
    (refine Ar rfl rfl ?_<;>(refine o_z ?_))
    repeat (first|refine An ?_|refine Ah rfl ?_|refine Ae rfl ?_)
    refine ret1 rfl rfl ⟨ho1,?_,ho.fits (Nat.le_refl _) hB hK⟩
    exact hl.kept hK (fun k hk=>⟨Nat.lt_of_lt_of_le hk hB,fun he=>by have:=(ho.lt k he).1;have:k < B:=hk;omega⟩) (fun g hg=>hl.own_ne ho (by decide) g hg)
  | node nx k vals rest ih1 ih2 =>
    intro w p ov sv lv out looked hB hT hs ho hl hfit hll hlen
    obtain ⟨g,A,c,rp,rfl,hg,hb1,hrest,hvals⟩:=hT
    obtain ⟨⟨x,hx,hxk⟩,hfit1,hfit2⟩:=hfit
    obtain ⟨bv,ovv,q,rfl,hbv,hcv,hq⟩:=hvals x hxk
    obtain ⟨As,cs,rfl⟩:=hs.form
    obtain ⟨bs,os,ce,rfl,hbs,_,hds,rfl,_⟩:=hs.elem hx
    have hnx:=Bn hx
    have hat:atN s nx=x:=by simp [atN,hx]
    obtain ⟨gl,capl,_,_,rfl,_⟩:=hl.open (by omega)
    refine AI Tryz.func130 rfl Tryz.ntmps130 rfl ?_
    have hll':nx < looked.length:=by omega
    ((repeat (first|refine An ?_|refine Ah rfl ?_|refine Ae rfl ?_))<;>(refine Ar rfl rfl ?_<;>(refine o_z ?_))<;>(repeat (first|refine An ?_|refine Ah rfl ?_|refine Ae rfl ?_))<;>(refine Am rfl rfl ?_<;>refine Ep rfl rfl ?_<;>(refine o_z ?_))<;>(repeat (first|refine An ?_|refine Ah rfl ?_|refine Ae rfl ?_))<;>(refine Am rfl rfl ?_<;>refine BK rfl rfl ?_<;>refine AF rfl rfl ?_<;>refine AE rfl rfl ?_<;>(refine o_z ?_))<;>(repeat (first|refine An ?_|refine Ah rfl ?_|refine Ae rfl ?_))<;>(refine Am rfl rfl ?_<;>refine Am rfl rfl ?_<;>refine BK rfl rfl ?_<;>refine AF rfl rfl ?_<;>refine AE rfl rfl ?_<;>refine CP rfl rfl rfl ?_)<;>(repeat (first|refine An ?_|refine Ah rfl ?_|refine Ae rfl ?_)))
    refine IZ (i:=nx) (a:=true) rfl rfl rfl hl hll' (show Vb w (· < B) (.bool true) true from rfl) fun w1 hl1 hK1 hz1=>?_
    have hB1:Below B w w1:=hl.fits (Nat.le_refl _) hB hK1
    have ho1:Own w1 B (· < B) 3 ov out:=ho.kept hK1 (fun k hk=>⟨Nat.lt_of_lt_of_le hk hB,fun he=>by have:=(hl.lt k he).1;have:k < B:=hk;omega⟩) (fun g hg=>ho.own_ne hl (by decide) g hg)
    ((refine o_z ?_))
    repeat (first|refine An ?_|refine Ah rfl ?_|refine Ae rfl ?_)
    have hag:∀ w',Below B w1 w'→Agree (· < B) w w':=fun w' h k hk=>(hB1.trans h).block k hk
    replace hb1:∀ w',Below B w1 w'→Blk w' g 172 [.slice none 0 0,.bool false,.int .i64 (nx:Int),.slice (some ⟨bv,ovv,none⟩) k c,.pointer rp]:=fun w' h=>hb1.keep (hag w' h g hg)
    have hd1:∀ w',Below B w1 w'→cellsAt w' bs (os + nx * 1) [.int .i64 (x:Int)]:=fun w' h=>AZ (hag w' h) hbs hds
    have hc1:∀ w',Below B w1 w'→w'.cell? ⟨bv,ovv + x * 1,none⟩=some (.pointer q):=fun w' h=>by rw [Nat.mul_one];exact ((hag w' h).cell hbv).trans hcv
    refine Cc (Below B w1) [(0,true),(1,true),(2,true),(3,true),(4,true),(5,true),(6,true),(7,true),(8,true),(9,true),(10,true),(11,true),(12,true),(13,true),(14,true),(15,true),(16,true),(17,true),(18,true),(19,true),(21,true),(22,true),(20,false),(23,false),(24,true)] (by kernel_rfl) rfl (by kernel_rfl) (Below.refl _ _) ?_
    (refine AH rfl rfl rfl ?_<;>refine Cd rfl rfl rfl ?_<;>refine AR rfl rfl rfl ?_<;>(first|refine Eq rfl rfl rfl ?_|refine AS rfl rfl rfl ?_)<;>refine AH rfl rfl rfl ?_<;>refine Cd rfl rfl rfl ?_<;>refine AR rfl rfl rfl ?_<;>(first|refine Eq rfl rfl rfl ?_|refine AS rfl rfl rfl ?_)<;>refine AH rfl rfl rfl ?_<;>refine AH rfl rfl rfl ?_<;>refine Cd rfl rfl rfl ?_<;>refine AR rfl rfl rfl ?_<;>(first|refine Eq rfl rfl rfl ?_|refine AS rfl rfl rfl ?_)<;>refine Ii rfl rfl rfl rfl ?_<;>(first|refine Eq rfl rfl rfl ?_|refine AS rfl rfl rfl ?_)<;>refine Ii rfl rfl rfl rfl ?_<;>(first|refine Eq rfl rfl rfl ?_|refine AS rfl rfl rfl ?_)<;>refine AH rfl rfl rfl ?_<;>refine AH rfl rfl rfl ?_<;>refine AH rfl rfl rfl ?_<;>refine AH rfl rfl rfl ?_<;>refine AH rfl rfl rfl ?_)
    refine BF rfl ?_
    simp only [coll,hat,List.length_append] at hlen
    refine Bc rfl rfl (ih1 x w1 (.pointer q) ov _ _ out (looked.set nx true) (Nat.le_trans hB hB1.size) (TrR.agree (hag w1 (Below.refl _ _)) hq) (hs.agree (hag w1 (Below.refl _ _))) ho1 hl1 (hat ▸ hfit1) (by simpa using hll) (by omega)) ?_
    rintro v2 w2 ⟨ho2,hl2,hB2⟩
    refine Ck hB2 ?_
    refine BF rfl ?_
    refine Bc rfl rfl (ih2 w2 (.pointer rp) v2 _ _ (out ++ coll s (vals x)) (look s (vals x) (looked.set nx true)) (Nat.le_trans hB (hB1.trans hB2).size) (TrR.agree (hag w2 hB2) hrest) (hs.agree (hag w2 hB2)) ho2 hl2 hfit2 (by rw [FP];simpa using hll) (by rw [List.length_append];omega)) ?_
    rintro v3 w3 ⟨ho3,hl3,hB3⟩
    refine Ck (hB2.trans hB3) ?_
    (refine Dv rfl rfl rfl ?_<;>(refine h_z ?_))
    repeat (first|refine An ?_|refine Ah rfl ?_|refine Ae rfl ?_)
    exact ret1 rfl rfl ⟨by simpa [coll,hat] using ho3,by simpa [look,hat] using hl3,hB1.trans (hB2.trans hB3)⟩
end
section
open Go.Shelf
def Tryz.lays189_ren:Go.Shelf.Ren:=⟨fun|189=>131|125=>102|257=>139|128=>127|129=>128|294=>141|295=>142|296=>143|297=>144|298=>145|299=>146|216=>147|300=>148|301=>149|328=>150|329=>135|330=>136|331=>151|332=>152|215=>103|343=>153|n=>n,fun|28=>22|3=>3|46=>166|0=>0|51=>214|53=>182|4=>4|183=>208|182=>207|131=>152|5=>5|9=>9|218=>221|222=>224|228=>227|229=>100|n=>n,fun|n=>n⟩
theorem Tryz.lays189:Go.Proofs.Lays.n189 Tryz.prog Tryz.lays189_ren:={
  mixed:=by kernel_rfl
  f125:=Tryz.func102.trans (congrArg some (by kernel_rfl))
  f128:=Tryz.func127.trans (congrArg some (by kernel_rfl))
  f129:=Tryz.func128.trans (congrArg some (by kernel_rfl))
  f189:=Tryz.func131.trans (congrArg some (by kernel_rfl))
  f215:=Tryz.func103.trans (congrArg some (by kernel_rfl))
  f216:=Tryz.func147.trans (congrArg some (by kernel_rfl))
  f257:=Tryz.func139.trans (congrArg some (by kernel_rfl))
  f294:=Tryz.func141.trans (congrArg some (by kernel_rfl))
  f295:=Tryz.func142.trans (congrArg some (by kernel_rfl))
  f296:=Tryz.func143.trans (congrArg some (by kernel_rfl))
  f297:=Tryz.func144.trans (congrArg some (by kernel_rfl))
  f298:=Tryz.func145.trans (congrArg some (by kernel_rfl))
  f299:=Tryz.func146.trans (congrArg some (by kernel_rfl))
  f300:=Tryz.func148.trans (congrArg some (by kernel_rfl))
  f301:=Tryz.func149.trans (congrArg some (by kernel_rfl))
  f328:=Tryz.func150.trans (congrArg some (by kernel_rfl))
  f329:=Tryz.func135.trans (congrArg some (by kernel_rfl))
  f330:=Tryz.func136.trans (congrArg some (by kernel_rfl))
  f331:=Tryz.func151.trans (congrArg some (by kernel_rfl))
  f332:=Tryz.func152.trans (congrArg some (by kernel_rfl))
  f343:=Tryz.func153.trans (congrArg some (by kernel_rfl))
  t0:=Tryz.underlying0
  a0:=Tryz.isAgg0
  z0:=Tryz.sizeOf0
  v0:=Tryz.zeroValue0
  t3:=Tryz.underlying3
  a3:=Tryz.isAgg3
  z3:=Tryz.sizeOf3
  v3:=Tryz.zeroValue3
  t4:=Tryz.underlying4
  a4:=Tryz.isAgg4
  z4:=Tryz.sizeOf4
  v4:=Tryz.zeroValue4
  t5:=Tryz.underlying5
  a5:=Tryz.isAgg5
  z5:=Tryz.sizeOf5
  v5:=Tryz.zeroValue5
  t9:=Tryz.underlying9
  a9:=Tryz.isAgg9
  z9:=Tryz.sizeOf9
  v9:=Tryz.zeroValue9
  t28:=Tryz.underlying22
  a28:=Tryz.isAgg22
  z28:=Tryz.sizeOf22
  v28:=Tryz.zeroValue22
  t46:=Tryz.underlying166
  a46:=Tryz.isAgg166
  z46:=Tryz.sizeOf166
  v46:=Tryz.zeroValue166
  t51:=Tryz.underlying214
  a51:=Tryz.isAgg214
  z51:=Tryz.sizeOf214
  v51:=Tryz.zeroValue214
  t53:=Tryz.underlying182
  a53:=Tryz.isAgg182
  z53:=Tryz.sizeOf182
  v53:=Tryz.zeroValue182
  t131:=Tryz.underlying152
  a131:=Tryz.isAgg152
  z131:=Tryz.sizeOf152
  v131:=Tryz.zeroValue152
  t182:=Tryz.underlying207
  a182:=Tryz.isAgg207
  z182:=Tryz.sizeOf207
  v182:=Tryz.zeroValue207
  t183:=Tryz.underlying208
  a183:=Tryz.isAgg208
  z183:=Tryz.sizeOf208
  v183:=Tryz.zeroValue208
  t218:=Tryz.underlying221
  a218:=Tryz.isAgg221
  z218:=Tryz.sizeOf221
  v218:=Tryz.zeroValue221
  t222:=Tryz.underlying224
  a222:=Tryz.isAgg224
  z222:=Tryz.sizeOf224
  v222:=Tryz.zeroValue224
  t228:=Tryz.underlying227
  a228:=Tryz.isAgg227
  z228:=Tryz.sizeOf227
  v228:=Tryz.zeroValue227
  t229:=Tryz.underlying100
  a229:=Tryz.isAgg100
  z229:=Tryz.sizeOf100
  v229:=Tryz.zeroValue100 }
open Go.Sort Go.RowKit in
theorem Tryz.slices_Sort_int (blk off cap:Nat) (zs:List Int) (w:World) (hH:Holds (Value.int .i64) w blk off zs.toArray) (hblk:blk < w.heap.size) (hsz:zs.length < 4611686018427387904) :
    Calls Tryz.prog 131 #[.slice (some ⟨blk,off,none⟩) zs.length cap] w fun e w' =>
      e=.returned (.tuple #[])∧∃ n os,w'=grow (putRow (Value.int .i64) (Sort.ahead w n) blk off (zs.mergeSort fun x y=>decide (x≤y)).toArray) os:=Any.slices_Sort_int Tryz.lays189 blk off cap zs w hH hblk hsz
open Go.RowKit Go.Sort in
theorem Tryz.slices_Sort_int_none (p:Option Addr) (cap:Nat) (w:World) :
    Calls Tryz.prog 131 #[.slice p 0 cap] w fun e w'=>e=.returned (.tuple #[])∧w'=w:=Any.slices_Sort_int_none Tryz.lays189 p cap w
end
section
open Go Go.RowKit
def sortL (xs:List Int):List Int:=xs.mergeSort fun x y=>decide (x≤y)
theorem DE (xs:List Int):(sortL xs).length=xs.length:=List.length_mergeSort xs
theorem HN {w:World} {F:Nat→Prop}:∀ {xs:List Int} {cells:List Value},Chunks w F cells xs→cells=xs.map (Value.int .i64)∧∀ x∈xs,inI64 x
  | [],_,h=>⟨h,fun _ hx=>by simp at hx⟩
  | x :: xs,cells,⟨cs,rest,he,hr,hc⟩=>by
    obtain ⟨h1,h2⟩:=HN hc
    obtain ⟨h3,h4⟩:=hr
    refine ⟨by rw [he,h3,h1];rfl,fun y hy=>?_⟩
    rcases List.mem_cons.1 hy with rfl|hy
    · exact h4
    · exact h2 y hy
theorem HO {w:World} {F:Nat→Prop}:∀ {xs:List Int},(∀ x∈xs,inI64 x)→Chunks w F (xs.map (Value.int .i64)) xs
  | [],_=>rfl
  | x :: xs,h=>⟨[.int .i64 x],xs.map (Value.int .i64),rfl,⟨rfl,h x (by simp)⟩,HO fun y hy=>h y (by simp [hy])⟩
theorem sortInts {w:World} {base:Nat} {F:Nat→Prop} {v:Value} {xs:List Int} (h:Own w base F 3 v xs) (hl:xs.length≤1000000) :
    Fn Tryz.prog 131 [v] w fun r w'=>r=.tuple #[]∧Own w' base F 3 v (sortL xs)∧Kept w w' v:=by
  intro d
  rcases Nat.eq_zero_or_pos xs.length with h0|h0
  · have hx:xs=[]:=List.eq_nil_of_length_eq_zero h0
    subst hx
    have hv:∃ p c,v=.slice p 0 c:=by
      obtain ⟨cells,h1,_⟩:=h
      rcases h1.2 with ⟨rfl,_⟩|⟨g,cap,cur,rfl,_⟩
      · exact ⟨_,_,rfl⟩
      · exact ⟨_,_,rfl⟩
    obtain ⟨p,c,rfl⟩:=hv
    refine (Tryz.slices_Sort_int_none p c (dr w d)).mono fun e w' ⟨he,hw⟩=>⟨_,w,d,he,hw,rfl,by simpa [sortL] using h,⟨rfl,rfl,rfl,Nat.le_refl _,fun _ _ _=>rfl⟩⟩
  · obtain ⟨g,cap,cells,sp,rfl,hg,hFg,hb,hc,hlen,hnc,hcm,htot⟩:=h.open h0
    obtain ⟨rfl,hin⟩:=HN hc
    have hH:Go.Sort.Holds (Value.int .i64) (dr w d) g 0 xs.toArray:=fun j hj=>by
      have hj':j < xs.length:=by simpa using hj
      refine ⟨?_,by rw [Nat.zero_add];exact hb.frozen j⟩
      rw [Nat.zero_add]
      refine hb.cell ?_
      rw [List.getElem?_append_left (by simpa using hj'),List.getElem?_map,List.getElem?_eq_getElem hj']
      simp [hj']
    refine (Tryz.slices_Sort_int g 0 cap xs (dr w d) hH hb.lt (by omega)).mono fun e w' ⟨he,n,os,hw⟩=>⟨_,w',w'.drawn,he,rfl,rfl,?_,?_⟩
    · have hblk:Blk w' g 3 ((sortL xs).map (Value.int .i64) ++ sp):=by
        subst hw
        unfold Blk at hb ⊢
        have hsz:g < w.heap.size:=Blk.lt hb
        show ((w.heap.modify g _) ++ os)[g]?=_
        rw [Array.getElem?_append_left (by simpa using hsz),Array.getElem?_modify,if_pos rfl,hb]
        simp only [Option.map_some,Go.Sort.onCells]
        congr 2
        apply Array.ext
        · simp [Go.Sort.putCells,DE]
        · intro i h1 h2
          simp only [Go.Sort.putCells,Array.getElem_mapIdx,Nat.zero_add,Nat.sub_zero,Nat.zero_le,true_and]
          have e1:(List.mergeSort xs fun x y=>decide (x≤y)).length=xs.length:=List.length_mergeSort xs
          by_cases hi:i < xs.length
          · rw [if_pos (by simpa [e1] using hi)]
            simp only [List.getElem_toArray]
            rw [List.getElem_append_left (by simpa [DE] using hi),List.getElem_map]
            congr 1
            rw [getElem!_pos _ _ (by simpa [e1] using hi)]
            simp [sortL]
          · rw [if_neg (by simpa [e1] using hi)]
            simp only [List.getElem_toArray]
            rw [List.getElem_append_right (by simp;omega),List.getElem_append_right (by simp [DE];omega)]
            simp [DE]
      have:=Own.close (w:=w') (base:=base) (cap:=cap) hg hFg hblk (HO (F:=F) (w:=w') fun x hx=>hin x (by
        have:=(List.mergeSort_perm xs fun x y=>decide (x≤y)).mem_iff.1 hx
        exact this)) (by rw [DE];exact hnc) hcm (by simpa [DE] using htot)
      rwa [DE] at this
    · subst hw
      refine ⟨rfl,rfl,rfl,?_,fun k hk hne=>?_⟩
      · show w.heap.size≤((w.heap.modify g _) ++ os).size
        simp
      · have hkg:g≠k:=fun e=>hne (by simp [Value.ownBlock,e])
        show ((w.heap.modify g _) ++ os)[k]?=_
        rw [Array.getElem?_append_left (by simpa using hk),Array.getElem?_modify,if_neg hkg]
end
section
open Go Go.RowKit
attribute [local irreducible] ewp owp hwp hwq hws Ev Evg Fn retPost loud loudS Res1
def GenR (w:World) (F:Nat→Prop) (gv:Value) (t:Tsk) (T:Tr):Prop :=
  ∃ gb a b c d r,gv=.pointer (some ⟨gb,0,none⟩)∧F gb∧Blk w gb 129 [a,b,c,d,r]∧Vb w F a t.vars∧Vb w F b t.init∧Vb w F c t.goal∧Vb w F d t.ops∧TrR w F T r
theorem Lb (z:Value) (n:Nat) (hz:z.cells=#[z]):(madeCells z.cells (n * 1)).toList=List.replicate n z:=by
  rw [hz,Nat.mul_one]
  apply List.ext_getElem
  · simp [madeCells]
  · intro i h1 h2
    simp [madeCells,Nat.mod_one]
theorem Ij {w:World} {F:Nat→Prop}:∀ n,Chunks w F (List.replicate n (.bool false)) (List.replicate n false)
  | 0=>rfl
  | n + 1=>⟨[.bool false],List.replicate n (.bool false),rfl,rfl,Ij n⟩
noncomputable def findL (t:Tsk) (T:Tr) (s:List Int):List Int:=if bof (StateOk t.vars s)=true then sortL (coll s T) else []
noncomputable def findN (t:Tsk) (T:Tr) (s:List Int):Nat:=if bof (StateOk t.vars s)=true then (look s T (List.replicate s.length false)).count true else 0
theorem MA {l:List Bool} {k:Nat} {b:Bool} (h:l[k]?=some b):(l.take (k + 1)).count true=(l.take k).count true + if b=true then 1 else 0:=by
  rw [List.take_add_one,h,List.count_append]
  cases b<;>simp
theorem genFind {w:World} {gv sv:Value} {t:Tsk} {T:Tr} {s:List Int} (hg:GenR w (All w) gv t T) (hs:V w sv s) (hfit:StateOk t.vars s→Fits s T) (hlen:(coll s T).length≤1000000) (hsl:s.length≤1000000) :
    Fn Tryz.prog 113 [gv,sv] w fun v w'=>Ext w w'∧∃ u,v=.tuple #[u,.int .i64 (findN t T s:Int)]∧Own w' w.heap.size (All w) 3 u (findL t T s):=by
  obtain ⟨gb,a,b,c,d,r,rfl,hgb,hb1,hvars,hinit,hgoal,hops,hT⟩:=hg
  obtain ⟨Av,cv,rfl⟩:=hvars.form
  obtain ⟨As,cs,rfl⟩:=hs.form
  obtain ⟨rp,rfl⟩:=hT.form
  refine AI Tryz.func113 rfl Tryz.ntmps113 rfl ?_
  ((repeat (first|refine An ?_|refine Ah rfl ?_|refine Ae rfl ?_))<;>(refine Ar rfl rfl ?_<;>refine Ar rfl rfl ?_<;>(refine o_z ?_))<;>(repeat (first|refine An ?_|refine Ah rfl ?_|refine Ae rfl ?_))<;>(refine Am rfl rfl ?_<;>refine Ep rfl rfl ?_<;>refine Am rfl rfl ?_<;>(first|(refine Aw rfl rfl ?_;refine Am rfl rfl ?_)|refine Au rfl rfl rfl rfl ?_)<;>(first|(refine Aw rfl rfl ?_;refine BK rfl rfl ?_)|refine Au rfl rfl rfl rfl ?_)<;>(first|(refine Aw rfl rfl ?_;refine AF rfl rfl ?_)|refine Au rfl rfl rfl rfl ?_)<;>(first|(refine Aw rfl rfl ?_;refine AF rfl rfl ?_)|refine Au rfl rfl rfl rfl ?_)<;>(first|(refine Aw rfl rfl ?_;refine AE rfl rfl ?_)|refine Au rfl rfl rfl rfl ?_)<;>(first|(refine Aw rfl rfl ?_;refine Am rfl rfl ?_)|refine Au rfl rfl rfl rfl ?_))<;>(repeat (first|refine An ?_|refine Ah rfl ?_|refine Ae rfl ?_)))
  refine Aw rfl rfl ?_
  refine CJ rfl rfl (taskProper hvars hs) ?_ ?_
  case refine_2 =>
    intro w1 hP hE1
    ((first|(refine Aw rfl rfl ?_;(first|refine CL rfl rfl ?_|refine CM rfl rfl ?_|refine Dn rfl rfl ?_))|refine Au rfl rfl rfl rfl ?_)<;>(first|refine Bk rfl rfl rfl ?_|refine Bp rfl rfl rfl ?_)<;>(refine o_z ?_))
    repeat (first|refine An ?_|refine Ah rfl ?_|refine Ae rfl ?_)
    ((repeat (first|refine An ?_|refine Ah rfl ?_|refine Ae rfl ?_))<;>(refine Ar rfl rfl ?_<;>refine Ar rfl rfl ?_<;>(refine o_z ?_))<;>(repeat (first|refine An ?_|refine Ah rfl ?_|refine Ae rfl ?_)))
    refine ret2 rfl (AB rfl) (AB rfl) ⟨hE1,.slice none 0 0,?_,?_⟩
    · rw [findN,Bi hP];rfl
    · rw [findL,Bi hP];exact Own.nil _ _ _ _
  intro w1 hok hE1
  replace hb1:=hb1.ext hE1
  ((first|(refine Aw rfl rfl ?_;(first|refine CL rfl rfl ?_|refine CM rfl rfl ?_|refine Dn rfl rfl ?_))|refine Au rfl rfl rfl rfl ?_)<;>(first|refine Bk rfl rfl rfl ?_|refine Bp rfl rfl rfl ?_)<;>(refine o_z ?_))
  repeat (first|refine An ?_|refine Ah rfl ?_|refine Ae rfl ?_)
  (refine Am rfl rfl ?_<;>refine AN rfl rfl ?_)
  refine Jm rfl rfl (by omega) (by omega) rfl fun w2 hN2=>?_
  replace hb1:=hb1.ext hN2.ext
  have hE2:Ext w w2:=hE1.trans' hN2.ext
  have hl2:Own w2 w.heap.size (· < w.heap.size) 4 (.slice (some ⟨w1.heap.size,0,none⟩) s.length s.length) (List.replicate s.length false) :=
    (Own.made hN2 (by rw [Lb _ _ rfl];exact Ij _) (by simp) (by have:=hE1.size;omega) (by omega)).lower hE1.size
  (refine Ar rfl rfl ?_<;>(refine o_z ?_))
  repeat (first|refine An ?_|refine Ah rfl ?_|refine Ae rfl ?_)
  (refine Am rfl rfl ?_<;>refine BK rfl rfl ?_<;>refine AF rfl rfl ?_<;>refine AE rfl rfl ?_<;>refine Am rfl rfl ?_<;>refine Am rfl rfl ?_)
  refine Bc rfl rfl (collect w.heap.size s T w2 (.pointer rp) (.slice none 0 0) _ _ [] _ hE2.size (TrR.agree (hE2.agree fun _ h=>h) hT) (Vb.agree hs (hE2.agree fun _ h=>h)) (Own.nil _ _ _ _) hl2 (hfit hok) (by simp) (by simpa using hlen)) ?_
  rintro v3 w3 ⟨ho3,hl3,hB3⟩
  have hE3:Ext w w3:=hE2.trans hB3
  rw [List.nil_append] at ho3
  (refine Ar rfl rfl ?_<;>(refine o_z ?_))
  repeat (first|refine An ?_|refine Ah rfl ?_|refine Ae rfl ?_)
  (refine Am rfl rfl ?_)
  refine Bc rfl rfl (sortInts ho3 hlen) ?_
  rintro _ w4 ⟨rfl,ho4,hK4⟩
  have hE4:Ext w w4:=hE3.trans (ho3.fits (Nat.le_refl _) hE3.size hK4)
  have hl4:=hl3.kept hK4 (fun k hk=>⟨Nat.lt_of_lt_of_le hk hE3.size,fun he=>by have:=(ho3.lt k he).1;have:k < w.heap.size:=hk;omega⟩) (fun g hg=>hl3.own_ne ho3 (by decide) g hg)
  have hlv:Vb w4 _ (.slice (some ⟨w1.heap.size,0,none⟩) s.length s.length) (look s T (List.replicate s.length false)):=hl4.vb
  have hll:(look s T (List.replicate s.length false)).length=s.length:=by rw [FP];simp
  ((refine o_z ?_))
  repeat (first|refine An ?_|refine Ah rfl ?_|refine Ae rfl ?_)
  ((repeat (first|refine An ?_|refine Ah rfl ?_|refine Ae rfl ?_))<;>(refine Ar rfl rfl ?_<;>(refine o_z ?_))<;>(repeat (first|refine An ?_|refine Ah rfl ?_|refine Ae rfl ?_))<;>(refine Am rfl rfl ?_<;>refine AN rfl rfl ?_<;>refine Am rfl rfl ?_<;>(refine o_z ?_))<;>(repeat (first|refine An ?_|refine Ah rfl ?_|refine Ae rfl ?_)))
  refine Br s.length (by omega) (fun n:Nat=>[(7,v3),(8,.int .i64 (n:Int)),(35,.slice (some ⟨w1.heap.size,0,none⟩) s.length s.length)]) (fun k n w'=>w'=w4∧n=((look s T (List.replicate s.length false)).take k).count true) 0
    ⟨rfl,by simp⟩ ⟨rfl,rfl,rfl,rfl,rfl,trivial⟩ (fun _=>⟨rfl,rfl⟩) ⟨rfl,rfl,rfl⟩ ⟨rfl,rfl⟩ ?_ ?_
  · rintro k n _ hk ⟨rfl,hn⟩
    obtain ⟨x,hx⟩:=AD (l:=look s T (List.replicate s.length false)) (k:=k) (by omega)
    obtain ⟨b2,o2,ce,he,_,_,hd1,rfl⟩:=hlv.elem hx
    injection he with he
    injection he with he1 he2
    subst he1;subst he2
    have hnl:n≤k:=by
      rw [hn]
      exact Nat.le_trans List.count_le_length (by rw [List.length_take];omega)
    have hst:=MA hx
    cases x
    · ((repeat (first|refine An ?_|refine Ah rfl ?_|refine Ae rfl ?_))<;>(refine CP rfl rfl rfl ?_<;>refine AE rfl rfl ?_<;>refine Ar rfl rfl ?_<;>(refine o_z ?_))<;>(repeat (first|refine An ?_|refine Ah rfl ?_|refine Ae rfl ?_))<;>(refine Am rfl rfl ?_<;>(refine o_z ?_))<;>(repeat (first|refine An ?_|refine Ah rfl ?_|refine Ae rfl ?_)))
      exact ⟨n,⟨rfl,rfl,rfl,rfl,rfl,trivial⟩,rfl,by rw [hst,hn];simp⟩
    · ((repeat (first|refine An ?_|refine Ah rfl ?_|refine Ae rfl ?_))<;>(refine CP rfl rfl rfl ?_<;>refine AE rfl rfl ?_<;>refine Ar rfl rfl ?_<;>(refine o_z ?_))<;>(repeat (first|refine An ?_|refine Ah rfl ?_|refine Ae rfl ?_))<;>(refine Am rfl rfl ?_<;>(refine o_z ?_))<;>(repeat (first|refine An ?_|refine Ah rfl ?_|refine Ae rfl ?_))<;>(refine Am rfl rfl ?_<;>(first|refine FK rfl rfl ?_|refine FJ rfl rfl rfl ?_)<;>refine Ar rfl rfl ?_<;>(refine o_z ?_))<;>(repeat (first|refine An ?_|refine Ah rfl ?_|refine Ae rfl ?_)))
      exact ⟨n + 1,⟨rfl,rfl,rfl,rfl,rfl,trivial⟩,rfl,by rw [hst,hn];simp⟩
  rintro n _ ⟨rfl,hn⟩
  repeat (first|refine An ?_|refine Ah rfl ?_|refine Ae rfl ?_)
  ((repeat (first|refine An ?_|refine Ah rfl ?_|refine Ae rfl ?_))<;>(refine Am rfl rfl ?_<;>refine Am rfl rfl ?_<;>refine Ar rfl rfl ?_<;>refine Ar rfl rfl ?_<;>(refine o_z ?_))<;>(repeat (first|refine An ?_|refine Ah rfl ?_|refine Ae rfl ?_)))
  refine ret2 rfl (AB rfl) (AB rfl) ⟨hE4,v3,?_,?_⟩
  · rw [findN,Ch hok,if_pos rfl,hn,List.take_of_length_le (by omega)]
  · rw [findL,Ch hok,if_pos rfl]
    exact ho4
section
variable {w : World} {gv sv : Value} {t : Tsk} {T : Tr} {s : List Int}
theorem genApplicable (hg:GenR w (All w) gv t T) (hs:V w sv s) (hfit:StateOk t.vars s→Fits s T) (hlen:(coll s T).length≤1000000) (hsl:s.length≤1000000) :
    Fn Tryz.prog 87 [gv,sv] w fun v w'=>Ext w w'∧Own w' w.heap.size (All w) 3 v (findL t T s):=by
  refine AI Tryz.func87 rfl Tryz.ntmps87 rfl ?_
  ((repeat (first|refine An ?_|refine Ah rfl ?_|refine Ae rfl ?_))<;>(refine Ar rfl rfl ?_<;>(refine o_z ?_))<;>(repeat (first|refine An ?_|refine Ah rfl ?_|refine Ae rfl ?_))<;>(refine Am rfl rfl ?_<;>refine Am rfl rfl ?_)<;>(repeat (first|refine An ?_|refine Ah rfl ?_|refine Ae rfl ?_)))
  refine Bc rfl rfl (genFind hg hs hfit hlen hsl) ?_
  rintro _ w1 ⟨hE,u,rfl,ho⟩
  (refine Am rfl rfl ?_<;>refine Bz rfl rfl rfl ?_<;>refine Bz rfl rfl rfl ?_<;>refine Ar rfl rfl ?_<;>refine Ar rfl rfl ?_<;>(refine o_z ?_))
  repeat (first|refine An ?_|refine Ah rfl ?_|refine Ae rfl ?_)
  ((repeat (first|refine An ?_|refine Ah rfl ?_|refine Ae rfl ?_))<;>(refine Am rfl rfl ?_<;>refine Ar rfl rfl ?_<;>(refine o_z ?_))<;>(repeat (first|refine An ?_|refine Ah rfl ?_|refine Ae rfl ?_)))
  exact ret1 rfl rfl ⟨hE,ho⟩
theorem Own.form {α:Type} [Rp α] {w:World} {base:Nat} {F:Nat→Prop} {e:TypeId} {v:Value} {xs:List α} (h:Own w base F e v xs):∃ A c,v=.slice A xs.length c:=h.vb.form
end
structure Suc where
  op:Int
  state:List Int
instance:Rp Suc where
  isAgg:=true
  size:=2
  R w F cs x:=∃ v,cs=[.int .i64 x.op,v]∧Vb w F v x.state∧inI64 x.op
  len:=by rintro w F cs x ⟨v,rfl,_⟩;rfl
  one:=by rintro w F cs x ⟨v,rfl,h,_⟩ u hu;simp at hu;rcases hu with rfl|rfl<;>first|rfl|exact Vb.one rfl (by assumption)
  agree:=by rintro w w' F cs x ⟨v,rfl,h,h2⟩ ha;exact ⟨v,rfl,h.agree ha,h2⟩
  mono:=by rintro w F G cs x ⟨v,rfl,h,h2⟩ ha;exact ⟨v,rfl,h.mono ha,h2⟩
def sucOf (t:Tsk) (s:List Int) (op:Int):Suc:=⟨op,match t.ops[op.toNat]? with|some o=>succ o s|none=>s⟩
end
section
open Go Go.RowKit
attribute [local irreducible] ewp owp hwp hwq hws Ev Evg Fn retPost loud loudS Res1
def GenB (w:World) (F:Nat→Prop) (gv:Value) (t:Tsk):Prop :=
  ∃ gb a b c d rp,gv=.pointer (some ⟨gb,0,none⟩)∧F gb∧Blk w gb 129 [a,b,c,d,.pointer rp]∧Vb w F a t.vars∧Vb w F b t.init∧Vb w F c t.goal∧Vb w F d t.ops
theorem GenB.agree {w w':World} {F:Nat→Prop} {gv:Value} {t:Tsk} (h:GenB w F gv t) (ha:Agree F w w'):GenB w' F gv t:=by
  obtain ⟨gb,a,b,c,d,r,h1,h2,h3,h4,h5,h6,h7⟩:=h
  exact ⟨gb,a,b,c,d,r,h1,h2,h3.keep (ha gb h2),h4.agree ha,h5.agree ha,h6.agree ha,h7.agree ha⟩
theorem GenB.mono {w:World} {F G:Nat→Prop} {gv:Value} {t:Tsk} (h:GenB w F gv t) (ha:∀ k,F k→G k):GenB w G gv t:=by
  obtain ⟨gb,a,b,c,d,r,h1,h2,h3,h4,h5,h6,h7⟩:=h
  exact ⟨gb,a,b,c,d,r,h1,ha _ h2,h3,h4.mono ha,h5.mono ha,h6.mono ha,h7.mono ha⟩
theorem GenB.ext {w w':World} {gv:Value} {t:Tsk} (h:GenB w (All w) gv t) (hE:Ext w w'):GenB w' (All w') gv t:=(h.agree (hE.agree fun _ h=>h)).mono fun k hk=>Nat.lt_of_lt_of_le hk hE.size
def factOn (l:List Fct) (v:Int):Option Fct:=l.find? fun f=>decide (f.var=v)
def factV:Option Fct→Value
  | some f=>.tuple #[.agg #[.int .i64 f.var,.int .i64 f.val],.bool true]
  | none=>.tuple #[.agg #[.int .i64 0,.int .i64 0],.bool false]
theorem Kv {α:Type} (p:α→Bool):∀ {l:List α} {k:Nat} {x:α},l[k]?=some x→p x=true→(∀ i,i < k→∀ y,l[i]?=some y→p y=false)→l.find? p=some x
  | [],_,_,h,_,_=>by simp at h
  | y :: l,0,x,h,hp,_=>by
    have:y=x:=by simpa using h
    subst this;simp [hp]
  | y :: l,k + 1,x,h,hp,hn=>by
    have hy:=hn 0 (by omega) y rfl
    rw [List.find?_cons,hy]
    exact Kv p (k:=k) (by simpa using h) hp fun i hi z hz=>hn (i + 1) (by omega) z (by simpa using hz)
theorem Nj {α:Type} (p:α→Bool) {l:List α} (hn:∀ i,i < l.length→∀ y,l[i]?=some y→p y=false):l.find? p=none:=by
  rw [List.find?_eq_none]
  intro x hx
  obtain ⟨i,hi⟩:=List.getElem?_of_mem hx
  simp [hn i (Bn hi) x hi]
theorem genFact {w:World} {gv:Value} {t:Tsk} {j:Nat} {o:Opr} {v:Int} (hg:GenB w (All w) gv t) (ho:t.ops[j]?=some o) :
    Fn Tryz.prog 106 [gv,.int .i64 (j:Int),.int .i64 v] w fun r w'=>r=factV (factOn o.pre v)∧Ext w w':=by
  obtain ⟨gb,a,b,c,d,rp,rfl,hgb,hb0,hvars,hinit,hgoal,hops⟩:=hg
  obtain ⟨Ao,co,rfl⟩:=hops.form
  obtain ⟨b2,o2,ce,rfl,hbl,hjl,hd0,p,q,rfl,hp,hq,hc,hnm⟩:=hops.elem ho
  obtain ⟨Ap,cp,rfl⟩:=hp.form
  have hpl:=hp.len
  refine AI Tryz.func106 rfl Tryz.ntmps106 rfl ?_
  repeat (first|refine An ?_|refine Ah rfl ?_|refine Ae rfl ?_)
  refine DS rfl fun w1 hN1=>?_
  have hres:=hN1.blk
  have hE1:Ext w w1:=hN1.ext
  have hb1:=hb0.ext hE1
  have hd1:=If hd0 hbl hE1
  (refine Ar rfl rfl ?_<;>(refine o_z ?_))
  repeat (first|refine An ?_|refine Ah rfl ?_|refine Ae rfl ?_)
  ((repeat (first|refine An ?_|refine Ah rfl ?_|refine Ae rfl ?_))<;>(refine Am rfl rfl ?_<;>refine BK rfl rfl ?_<;>refine AF rfl rfl ?_<;>refine AF rfl rfl ?_<;>refine AE rfl rfl ?_<;>refine Am rfl rfl ?_<;>refine CP rfl rfl rfl ?_<;>refine AF rfl rfl ?_<;>refine AE rfl rfl ?_<;>refine AN rfl rfl ?_<;>refine Am rfl rfl ?_<;>(refine o_z ?_))<;>(repeat (first|refine An ?_|refine Ah rfl ?_|refine Ae rfl ?_)))
  refine Br o.pre.length (by omega) (fun _:Unit=>[(2,.int .i64 v),(6,.pointer (some ⟨w.heap.size,0,none⟩)),(18,.slice Ap o.pre.length cp)]) (fun k _ w'=>Ext w1 w'∧∀ i,i < k→∀ f,o.pre[i]?=some f→decide (f.var=v)=false) ()
    ⟨Below.refl _ _,fun i hi=>by omega⟩ ⟨rfl,rfl,rfl,rfl,rfl,trivial⟩ (fun _=>⟨rfl,rfl⟩) ⟨rfl,rfl,rfl⟩ ⟨rfl,rfl⟩ ?_ ?_
  · rintro k _ w2 hk ⟨hE2,hh⟩
    obtain ⟨f,hf⟩:=AD hk
    obtain ⟨b3,o3,ce,rfl,_,_,hd1,rfl,hr1,hr2⟩:=(hp.ext (hE1.trans' hE2)).elem hf
    ((repeat (first|refine An ?_|refine Ah rfl ?_|refine Ae rfl ?_))<;>(refine CP rfl rfl rfl ?_<;>refine BM rfl rfl ?_)<;>(repeat (first|refine An ?_|refine Ah rfl ?_|refine Ae rfl ?_)))
    refine BU rfl rfl rfl (by simp [Value.cells,Value.oneCell']) fun w3 hN3=>?_
    have hb2:=hN3.blk
    have hE3:Ext w1 w3:=hE2.trans' hN3.ext
    replace hres:=hres.ext hE3
    ((refine o_z ?_))
    repeat (first|refine An ?_|refine Ah rfl ?_|refine Ae rfl ?_)
    ((repeat (first|refine An ?_|refine Ah rfl ?_|refine Ae rfl ?_))<;>(refine AF rfl rfl ?_<;>refine AE rfl rfl ?_<;>refine Am rfl rfl ?_<;>(first|refine Mx rfl rfl rfl ?_|refine My rfl rfl rfl ?_|refine KT rfl rfl rfl (fun _=>?_) fun _=>?_)<;>(refine o_z ?_))<;>(repeat (first|refine An ?_|refine Ah rfl ?_|refine Ae rfl ?_)))
    · (refine BM rfl rfl ?_)
      refine BT rfl rfl hres rfl (Nat.le_refl _) (by simp [Value.cells,Value.oneCell']) fun w4 hU=>?_
      (refine Ar rfl rfl ?_<;>(refine o_z ?_))
      repeat (first|refine An ?_|refine Ah rfl ?_|refine Ae rfl ?_)
      refine ret2 rfl (Gu rfl rfl hU.blk.cellsAt) (AB rfl) ⟨?_,hE1.trans ((hE3.mono hE1.size).trans (hU.below (Nat.le_refl _)))⟩
      rw [factOn,Kv _ hf (by simpa using ‹f.var=v›) hh]
      rfl
    · exact ⟨(),⟨rfl,rfl,rfl,rfl,rfl,trivial⟩,hE3,CA hh fun f' hf'=>by rw [hf] at hf';injection hf' with hf';subst hf';simpa using ‹¬ f.var=v›⟩
  rintro _ w2 ⟨hE2,hh⟩
  replace hres:=hres.ext hE2
  repeat (first|refine An ?_|refine Ah rfl ?_|refine Ae rfl ?_)
  (refine EK rfl rfl rfl ?_)
  refine BT rfl rfl hres rfl (Nat.le_refl _) (by simp [Value.cells,Value.oneCell',setParts]) fun w4 hU=>?_
  (refine Ar rfl rfl ?_<;>(refine o_z ?_))
  repeat (first|refine An ?_|refine Ah rfl ?_|refine Ae rfl ?_)
  refine ret2 rfl (Gu rfl rfl hU.blk.cellsAt) (AB rfl) ⟨?_,hE1.trans ((hE2.mono hE1.size).trans (hU.below (Nat.le_refl _)))⟩
  rw [factOn,Nj _ hh]
  rfl
theorem genBuild1 {w:World} {gv:Value} {t:Tsk} {j:Nat} {o:Opr} {v:Int} {g1 g2:Nat} {r1 r2:TypeId} (hg:GenB w (All w) gv t) (ho:t.ops[j]?=some o) (h1:Blk w g1 r1 [gv]) (h2:Blk w g2 r2 [.int .i64 v]) :
    Fn Tryz.prog 105 ([.int .i64 (j:Int)] ++ [.pointer (some ⟨g1,0,none⟩),.pointer (some ⟨g2,0,none⟩)]) w fun r w'=>r=.bool (factOn o.pre v).isSome∧Ext w w':=by
  have hb1:=h1
  have hb2:=h2
  refine AI Tryz.func105 rfl Tryz.ntmps105 rfl ?_
  ((repeat (first|refine An ?_|refine Ah rfl ?_|refine Ae rfl ?_))<;>(refine Ar rfl rfl ?_<;>(refine o_z ?_))<;>(repeat (first|refine An ?_|refine Ah rfl ?_|refine Ae rfl ?_))<;>(refine AE rfl rfl ?_<;>refine Am rfl rfl ?_<;>refine AE rfl rfl ?_)<;>(repeat (first|refine An ?_|refine Ah rfl ?_|refine Ae rfl ?_)))
  refine Bc rfl rfl (genFact hg ho) ?_
  rintro _ w1 ⟨rfl,hE1⟩
  cases hf:factOn o.pre v with
  | none =>
    simp only [factV]
    (refine Am rfl rfl ?_<;>refine Bz rfl rfl rfl ?_<;>refine Bz rfl rfl rfl ?_)
    refine BU rfl rfl rfl (by simp [Value.cells,Value.oneCell']) fun w2 hN2=>?_
    (refine Ar rfl rfl ?_<;>(refine o_z ?_))
    repeat (first|refine An ?_|refine Ah rfl ?_|refine Ae rfl ?_)
    ((repeat (first|refine An ?_|refine Ah rfl ?_|refine Ae rfl ?_))<;>(refine Am rfl rfl ?_<;>refine Ar rfl rfl ?_<;>(refine o_z ?_))<;>(repeat (first|refine An ?_|refine Ah rfl ?_|refine Ae rfl ?_)))
    exact ret1 rfl rfl ⟨rfl,hE1.trans' hN2.ext⟩
  | some f =>
    simp only [factV]
    (refine Am rfl rfl ?_<;>refine Bz rfl rfl rfl ?_<;>refine Bz rfl rfl rfl ?_)
    refine BU rfl rfl rfl (by simp [Value.cells,Value.oneCell']) fun w2 hN2=>?_
    (refine Ar rfl rfl ?_<;>(refine o_z ?_))
    repeat (first|refine An ?_|refine Ah rfl ?_|refine Ae rfl ?_)
    ((repeat (first|refine An ?_|refine Ah rfl ?_|refine Ae rfl ?_))<;>(refine Am rfl rfl ?_<;>refine Ar rfl rfl ?_<;>(refine o_z ?_))<;>(repeat (first|refine An ?_|refine Ah rfl ?_|refine Ae rfl ?_)))
    exact ret1 rfl rfl ⟨rfl,hE1.trans' hN2.ext⟩
end
section
open Go Go.RowKit
attribute [local irreducible] ewp owp hwp hwq hws Ev Evg Fn retPost loud loudS Res1
def opConds (o:Opr):List (List Fct):=o.pre :: o.effs.map (·.cond)
def conds (t:Tsk):List (List Fct):=t.goal :: t.ops.flatMap opConds
theorem Kw {α β:Type} (f:α→List β) {l:List α} {k:Nat} {x:α} (h:l[k]?=some x):(l.take (k + 1)).flatMap f=(l.take k).flatMap f ++ f x:=by
  rw [List.take_add_one,h];simp
theorem NU {α β:Type} (f:α→β) {l:List α} {k:Nat} {x:α} (h:l[k]?=some x):(l.take (k + 1)).map f=(l.take k).map f ++ [f x]:=by
  rw [List.take_add_one,h];simp
theorem Pc {t:Tsk} (h:∀ (i:Nat) o,t.ops[i]?=some o→o.effs.length≤64) (k:Nat):((t.ops.take k).flatMap opConds).length≤k * 65:=by
  induction k with
  | zero=>simp
  | succ k ih =>
    cases hx:t.ops[k]? with
    | none =>
      have hl:=List.getElem?_eq_none_iff.1 hx
      rw [List.take_of_length_le hl] at ih
      rw [List.take_of_length_le (by omega)]
      omega
    | some o =>
      rw [Kw opConds hx,List.length_append]
      have:=h k o hx
      simp only [opConds,List.length_cons,List.length_map] at *
      omega
theorem taskConditions {w:World} {tv:Value} {t:Tsk} (ht:V w tv t) (hn:t.ops.length≤4096) (hm:∀ (i:Nat) o,t.ops[i]?=some o→o.effs.length≤64) :
    Fn Tryz.prog 98 [tv] w fun v w'=>V w' v (conds t)∧Ext w w':=by
  obtain ⟨cs,rfl,a,b,c,d,rfl,hvars,hinit,hgoal,hops⟩:=ht
  obtain ⟨Av,cv,rfl⟩:=hvars.form
  obtain ⟨Ai,ci,rfl⟩:=hinit.form
  obtain ⟨Ag,cg,rfl⟩:=hgoal.form
  obtain ⟨Ao,co,rfl⟩:=hops.form
  have hF:∀ {w'},Ext w w'→∀ k,All w k→k < w'.heap.size:=fun hE k hk=>Nat.lt_of_lt_of_le hk hE.size
  refine AI Tryz.func98 rfl Tryz.ntmps98 rfl ?_
  repeat (first|refine An ?_|refine Ah rfl ?_|refine Ae rfl ?_)
  refine Do rfl rfl fun w1 hN=>?_
  have hb1:=hN.blk
  have hE1:Ext w w1:=hN.ext
  (refine Ar rfl rfl ?_<;>(refine o_z ?_))
  repeat (first|refine An ?_|refine Ah rfl ?_|refine Ae rfl ?_)
  (refine AF rfl rfl ?_<;>refine AE rfl rfl ?_)
  refine DA rfl rfl rfl (by simp [Value.cells]) (by decide) rfl fun w2 hN2=>?_
  replace hb1:=hb1.ext hN2.ext
  have hE2:Ext w w2:=hE1.trans' hN2.ext
  have hown:Own w2 w.heap.size (All w) 23 (.slice (some ⟨w1.heap.size,0,none⟩) 1 1) [t.goal] :=
    (Own.made hN2 (xs:=[t.goal]) (.single (Vb.agree hgoal (hE2.agree fun _ h=>h))) rfl (fun h=>by have:w1.heap.size < w.heap.size:=h;have:=hE1.size;omega) (by simp)).lower hE1.size
  (refine Ar rfl rfl ?_<;>(refine o_z ?_))
  repeat (first|refine An ?_|refine Ah rfl ?_|refine Ae rfl ?_)
  ((repeat (first|refine An ?_|refine Ah rfl ?_|refine Ae rfl ?_))<;>(refine AF rfl rfl ?_<;>refine AE rfl rfl ?_<;>refine AN rfl rfl ?_<;>refine Am rfl rfl ?_<;>(refine o_z ?_))<;>(repeat (first|refine An ?_|refine Ah rfl ?_|refine Ae rfl ?_)))
  refine Br t.ops.length (by omega) (fun v:Value=>[(1,.pointer (some ⟨w.heap.size,0,none⟩)),(3,v),(12,.slice Ao t.ops.length co)]) (fun k v w'=>Ext w w'∧Blk w' w.heap.size 26 [.slice Av t.vars.length cv,.slice Ai t.init.length ci,.slice Ag t.goal.length cg,.slice Ao t.ops.length co]∧Own w' w.heap.size (All w) 23 v (t.goal :: (t.ops.take k).flatMap opConds)) _
    ⟨hE2,hb1,hown⟩ ⟨rfl,rfl,rfl,rfl,rfl,trivial⟩ (fun _=>⟨rfl,rfl⟩) ⟨rfl,rfl,rfl⟩ ⟨rfl,rfl⟩ ?_ ?_
  · rintro k v w3 hk ⟨hE3,hb1,hown⟩
    have hlk:=Pc hm k
    obtain ⟨o,ho⟩:=AD hk
    obtain ⟨b2,o2,ce,rfl,_,_,hd1,p,q,rfl,hp,hq,hc,hnm⟩:=Vb.elem (Vb.agree hops (hE3.agree fun _ h=>h)) ho
    obtain ⟨Ap,cp,rfl⟩:=hp.form
    obtain ⟨Aq,cq,rfl⟩:=hq.form
    have hql:=hm k o ho
    ((repeat (first|refine An ?_|refine Ah rfl ?_|refine Ae rfl ?_))<;>(refine CP rfl rfl rfl ?_<;>refine BM rfl rfl ?_)<;>(repeat (first|refine An ?_|refine Ah rfl ?_|refine Ae rfl ?_)))
    refine BU rfl rfl rfl (by simp [Value.cells,Value.oneCell']) fun w4 hN4=>?_
    have hb2:=hN4.blk
    replace hb1:=hb1.ext hN4.ext
    have hE4:Ext w w4:=hE3.trans' hN4.ext
    replace hown:=hown.ext hN4.ext (hF hE3)
    replace hp:=hp.agree (hN4.ext.agree (hF hE3))
    replace hq:=hq.agree (hN4.ext.agree (hF hE3))
    ((refine o_z ?_))
    repeat (first|refine An ?_|refine Ah rfl ?_|refine Ae rfl ?_)
    (refine Am rfl rfl ?_<;>refine AF rfl rfl ?_<;>refine AE rfl rfl ?_)
    refine Fc rfl rfl rfl hown (hF hE4) hE4.size hp (by decide) (by decide) (by simp only [List.length_cons,List.length_append,List.length_map,List.length_take];omega) (by simp only [List.length_cons,List.length_append,List.length_map,List.length_take];omega) ⟨rfl,rfl⟩ fun v' w5 hown5 hK=>?_
    replace hb1:=hK.blk hb1 (hown.blk_ne hb1 (by decide))
    replace hb2:=hK.blk hb2 (hown.blk_ne hb2 (by decide))
    have hB5:Below w.heap.size w4 w5:=hown.fits (Nat.le_refl _) hE4.size hK
    have hE5:Ext w w5:=hE4.trans hB5
    replace hq:=hq.below hB5
    (refine Ar rfl rfl ?_<;>(refine o_z ?_))
    repeat (first|refine An ?_|refine Ah rfl ?_|refine Ae rfl ?_)
    ((repeat (first|refine An ?_|refine Ah rfl ?_|refine Ae rfl ?_))<;>(refine AF rfl rfl ?_<;>refine AE rfl rfl ?_<;>refine AN rfl rfl ?_<;>refine Am rfl rfl ?_<;>(refine o_z ?_))<;>(repeat (first|refine An ?_|refine Ah rfl ?_|refine Ae rfl ?_)))
    refine Br o.effs.length (by omega) (fun v:Value=>[(1,.pointer (some ⟨w.heap.size,0,none⟩)),(3,v),(12,.slice (some ⟨b2,o2,none⟩) t.ops.length co),(13,.int .i64 (t.ops.length:Int)),(14,.int .i64 (k:Int)),(24,.slice Aq o.effs.length cq)]) (fun j v w'=>Ext w w'∧Blk w' w.heap.size 26 [.slice Av t.vars.length cv,.slice Ai t.init.length ci,.slice Ag t.goal.length cg,.slice (some ⟨b2,o2,none⟩) t.ops.length co]∧Vb w' (All w) (.slice Aq o.effs.length cq) o.effs∧Own w' w.heap.size (All w) 23 v ((t.goal :: (t.ops.take k).flatMap opConds) ++ o.pre :: (o.effs.take j).map (·.cond))) _
      ⟨hE5,hb1,hq,by simpa using hown5⟩ ⟨rfl,rfl,rfl,rfl,rfl,rfl,rfl,rfl,trivial⟩ (fun _=>⟨rfl,rfl⟩) ⟨rfl,rfl,rfl⟩ ⟨rfl,rfl⟩ ?_ ?_
    · rintro j v6 w6 hj ⟨hE6,hb1,hq,hown⟩
      obtain ⟨e,he⟩:=AD hj
      obtain ⟨b3,o3,ce,rfl,_,_,hd1,cv',rfl,hcond,hr1,hr2⟩:=hq.elem he
      obtain ⟨Ac,cc,rfl⟩:=hcond.form
      ((repeat (first|refine An ?_|refine Ah rfl ?_|refine Ae rfl ?_))<;>(refine CP rfl rfl rfl ?_<;>refine BM rfl rfl ?_)<;>(repeat (first|refine An ?_|refine Ah rfl ?_|refine Ae rfl ?_)))
      refine BU rfl rfl rfl (by simp [Value.cells,Value.oneCell']) fun w7 hN7=>?_
      have hb2:=hN7.blk
      replace hb1:=hb1.ext hN7.ext
      have hE7:Ext w w7:=hE6.trans' hN7.ext
      replace hown:=hown.ext hN7.ext (hF hE6)
      replace hcond:=hcond.agree (hN7.ext.agree (hF hE6))
      replace hq:=hq.agree (hN7.ext.agree (hF hE6))
      ((refine o_z ?_))
      repeat (first|refine An ?_|refine Ah rfl ?_|refine Ae rfl ?_)
      (refine Am rfl rfl ?_<;>refine AF rfl rfl ?_<;>refine AE rfl rfl ?_)
      refine Fc rfl rfl rfl hown (hF hE7) hE7.size hcond (by decide) (by decide) (by simp only [List.length_cons,List.length_append,List.length_map,List.length_take];omega) (by simp only [List.length_cons,List.length_append,List.length_map,List.length_take];omega) ⟨rfl,rfl⟩ fun v' w8 hown8 hK=>?_
      have hB8:Below w.heap.size w7 w8:=hown.fits (Nat.le_refl _) hE7.size hK
      (refine Ar rfl rfl ?_<;>(refine o_z ?_))
      exact ⟨v',⟨rfl,rfl,rfl,rfl,rfl,rfl,rfl,rfl,trivial⟩,hE7.trans hB8,hK.blk hb1 (hown.blk_ne hb1 (by decide)),hq.below hB8,by rw [NU _ he];simpa using hown8⟩
    rintro v6 w6 ⟨hE6,hb1,hq,hown⟩
    repeat (first|refine An ?_|refine Ah rfl ?_|refine Ae rfl ?_)
    exact ⟨v6,⟨rfl,rfl,rfl,rfl,rfl,trivial⟩,hE6,hb1,by rw [Kw opConds ho];simpa [opConds] using hown⟩
  rintro v w3 ⟨hE3,hb1,hown⟩
  repeat (first|refine An ?_|refine Ah rfl ?_|refine Ae rfl ?_)
  ((repeat (first|refine An ?_|refine Ah rfl ?_|refine Ae rfl ?_))<;>(refine Am rfl rfl ?_<;>refine Ar rfl rfl ?_<;>(refine o_z ?_))<;>(repeat (first|refine An ?_|refine Ah rfl ?_|refine Ae rfl ?_)))
  refine ret1 rfl rfl ⟨?_,hE3⟩
  rw [List.take_length] at hown
  exact hown.vb.mono fun k hk=>by
    rcases hk with hk|hk
    · exact hF hE3 k hk
    · exact (hown.lt k hk).2
theorem indexFuncFacts {w:World} {sv:Value} {xs:List (List Fct)} {g:FuncId} [Callable Tryz.prog g] {caps:List Value} {p:List Fct→Prop} (hs:V w sv xs)
    (hg:∀ v x w',x∈xs→Ext w w'→V w' v x→Fn Tryz.prog g ([v] ++ caps) w' fun r w''=>r=.bool (bof (p x))∧Ext w' w'') :
    Fn Tryz.prog 133 [sv,.func (.func g) #[] caps.toArray] w fun v w'=>((∃ k:Nat,v=.int .i64 (k:Int)∧∃ x∈xs,p x)∨(v=.int .i64 (-1)∧∀ x∈xs,¬ p x))∧Ext w w':=by
  obtain ⟨A,c,rfl⟩:=hs.form
  have hl:=hs.len
  refine AI Tryz.func133 rfl Tryz.ntmps133 rfl ?_
  ((repeat (first|refine An ?_|refine Ah rfl ?_|refine Ae rfl ?_))<;>(refine Ar rfl rfl ?_<;>(refine o_z ?_))<;>(repeat (first|refine An ?_|refine Ah rfl ?_|refine Ae rfl ?_))<;>(refine Am rfl rfl ?_<;>refine AN rfl rfl ?_<;>refine Am rfl rfl ?_<;>(refine o_z ?_))<;>(repeat (first|refine An ?_|refine Ah rfl ?_|refine Ae rfl ?_)))
  refine Br xs.length (by omega) (fun _:Unit=>[(0,.slice A xs.length c),(1,.func (.func g) #[] caps.toArray)]) (fun k _ w'=>Ext w w'∧∀ i,i < k→∀ x,xs[i]?=some x→¬ p x) ()
    ⟨Below.refl _ _,fun i hi=>by omega⟩ ⟨rfl,rfl,rfl,rfl,trivial⟩ (fun _=>⟨rfl,rfl⟩) ⟨rfl,rfl,rfl⟩ ⟨rfl,rfl⟩ ?_ ?_
  · rintro k _ w1 hk ⟨hE,hh⟩
    obtain ⟨x,hx⟩:=AD hk
    obtain ⟨b,o,ce,rfl,_,_,hd1,hR⟩:=(hs.ext hE).elem hx
    obtain ⟨v,rfl⟩:=List.length_eq_one_iff.1 (Rp.len hR)
    ((repeat (first|refine An ?_|refine Ah rfl ?_|refine Ae rfl ?_))<;>(refine Am rfl rfl ?_<;>refine Ar rfl rfl ?_<;>(refine o_z ?_))<;>(repeat (first|refine An ?_|refine Ah rfl ?_|refine Ae rfl ?_))<;>(refine Am rfl rfl ?_<;>refine Am rfl rfl ?_<;>refine Am rfl rfl ?_<;>refine CP rfl rfl rfl ?_<;>refine AE rfl rfl ?_)<;>(repeat (first|refine An ?_|refine Ah rfl ?_|refine Ae rfl ?_)))
    refine Ks rfl rfl rfl (hg v x w1 (List.mem_of_getElem? hx) hE hR) ?_
    rintro _ w2 ⟨rfl,hE2⟩
    by_cases hp:p x
    · rw [Ch hp]
      ((refine o_z ?_))
      repeat (first|refine An ?_|refine Ah rfl ?_|refine Ae rfl ?_)
      ((repeat (first|refine An ?_|refine Ah rfl ?_|refine Ae rfl ?_))<;>(refine Am rfl rfl ?_<;>refine Ar rfl rfl ?_<;>(refine o_z ?_))<;>(repeat (first|refine An ?_|refine Ah rfl ?_|refine Ae rfl ?_)))
      exact ret1 rfl rfl ⟨.inl ⟨k,rfl,x,List.mem_of_getElem? hx,hp⟩,hE.trans' hE2⟩
    · rw [Bi hp]
      ((refine o_z ?_))
      repeat (first|refine An ?_|refine Ah rfl ?_|refine Ae rfl ?_)
      exact ⟨(),⟨rfl,rfl,rfl,rfl,trivial⟩,hE.trans' hE2,CA hh fun x' hx'=>by rw [hx] at hx';injection hx' with hx';exact hx' ▸ hp⟩
  rintro _ w1 ⟨hE,hh⟩
  repeat (first|refine An ?_|refine Ah rfl ?_|refine Ae rfl ?_)
  ((repeat (first|refine An ?_|refine Ah rfl ?_|refine Ae rfl ?_))<;>(refine Ar rfl rfl ?_<;>(refine o_z ?_))<;>(repeat (first|refine An ?_|refine Ah rfl ?_|refine Ae rfl ?_)))
  refine ret1 rfl rfl ⟨.inr ⟨rfl,fun x hx=>?_⟩,hE⟩
  obtain ⟨i,hi⟩:=List.getElem?_of_mem hx
  exact hh i (Bn hi) x hi
theorem containsFuncFacts {w:World} {sv:Value} {xs:List (List Fct)} {g:FuncId} [Callable Tryz.prog g] {caps:List Value} {p:List Fct→Prop} (hs:V w sv xs)
    (hg:∀ v x w',x∈xs→Ext w w'→V w' v x→Fn Tryz.prog g ([v] ++ caps) w' fun r w''=>r=.bool (bof (p x))∧Ext w' w'') :
    Fn Tryz.prog 117 [sv,.func (.func g) #[] caps.toArray] w fun v w'=>v=.bool (bof (∃ x∈xs,p x))∧Ext w w':=by
  refine AI Tryz.func117 rfl Tryz.ntmps117 rfl ?_
  ((repeat (first|refine An ?_|refine Ah rfl ?_|refine Ae rfl ?_))<;>(refine Ar rfl rfl ?_<;>(refine o_z ?_))<;>(repeat (first|refine An ?_|refine Ah rfl ?_|refine Ae rfl ?_))<;>(refine Am rfl rfl ?_<;>refine Am rfl rfl ?_)<;>(repeat (first|refine An ?_|refine Ah rfl ?_|refine Ae rfl ?_)))
  refine Bc rfl rfl (indexFuncFacts hs hg) ?_
  rintro v w1 ⟨h,hE⟩
  rcases h with ⟨k,rfl,h⟩|⟨rfl,h⟩
  · ((first|refine JJ rfl rfl rfl ?_|refine JK rfl rfl rfl ?_)<;>refine Ar rfl rfl ?_<;>(refine o_z ?_))
    repeat (first|refine An ?_|refine Ah rfl ?_|refine Ae rfl ?_)
    exact ret1 rfl rfl ⟨by rw [Ch h],hE⟩
  · ((first|refine JJ rfl rfl rfl ?_|refine JK rfl rfl rfl ?_)<;>refine Ar rfl rfl ?_<;>(refine o_z ?_))
    repeat (first|refine An ?_|refine Ah rfl ?_|refine Ae rfl ?_)
    exact ret1 rfl rfl ⟨by rw [Bi (fun ⟨x,hx,hp⟩=>h x hx hp)],hE⟩
theorem taskLarge1 {w:World} {v:Value} {f:List Fct} (hf:V w v f):Fn Tryz.prog 118 ([v] ++ []) w fun r w'=>r=.bool (bof (64 < f.length))∧Ext w w':=by
  obtain ⟨A,c,rfl⟩:=hf.form
  refine AI Tryz.func118 rfl Tryz.ntmps118 rfl ?_
  by_cases h:64 < f.length
  · ((repeat (first|refine An ?_|refine Ah rfl ?_|refine Ae rfl ?_))<;>(refine Ar rfl rfl ?_<;>(refine o_z ?_))<;>(repeat (first|refine An ?_|refine Ah rfl ?_|refine Ae rfl ?_))<;>(refine Am rfl rfl ?_<;>refine AN rfl rfl ?_<;>(first|refine Dt rfl rfl rfl ?_|refine Du rfl rfl rfl ?_)<;>refine Ar rfl rfl ?_<;>(refine o_z ?_))<;>(repeat (first|refine An ?_|refine Ah rfl ?_|refine Ae rfl ?_)))
    exact ret1 rfl rfl ⟨by rw [Ch h],Below.refl _ _⟩
  · ((repeat (first|refine An ?_|refine Ah rfl ?_|refine Ae rfl ?_))<;>(refine Ar rfl rfl ?_<;>(refine o_z ?_))<;>(repeat (first|refine An ?_|refine Ah rfl ?_|refine Ae rfl ?_))<;>(refine Am rfl rfl ?_<;>refine AN rfl rfl ?_<;>(first|refine Dt rfl rfl rfl ?_|refine Du rfl rfl rfl ?_)<;>refine Ar rfl rfl ?_<;>(refine o_z ?_))<;>(repeat (first|refine An ?_|refine Ah rfl ?_|refine Ae rfl ?_)))
    exact ret1 rfl rfl ⟨by rw [Bi h],Below.refl _ _⟩
def Large (t:Tsk):Prop:=64 < t.vars.length∨4096 < t.ops.length∨(∃ (i:Nat) (o:Opr),t.ops[i]?=some o∧64 < o.effs.length)∨∃ f∈conds t,64 < f.length
theorem taskLarge {w:World} {tv:Value} {t:Tsk} (ht:V w tv t):Fn Tryz.prog 97 [tv] w fun v w'=>v=.bool (bof (Large t))∧Ext w w':=by
  have ht0:=ht
  obtain ⟨cs,rfl,a,b,c,d,rfl,hvars,hinit,hgoal,hops⟩:=ht
  obtain ⟨Av,cv,rfl⟩:=hvars.form
  obtain ⟨Ai,ci,rfl⟩:=hinit.form
  obtain ⟨Ag,cg,rfl⟩:=hgoal.form
  obtain ⟨Ao,co,rfl⟩:=hops.form
  have hol:=hops.len
  refine AI Tryz.func97 rfl Tryz.ntmps97 rfl ?_
  repeat (first|refine An ?_|refine Ah rfl ?_|refine Ae rfl ?_)
  refine Do rfl rfl fun w1 hN=>?_
  have hb1:=hN.blk
  have hE1:Ext w w1:=hN.ext
  (refine Ar rfl rfl ?_<;>(refine o_z ?_))
  repeat (first|refine An ?_|refine Ah rfl ?_|refine Ae rfl ?_)
  ((repeat (first|refine An ?_|refine Ah rfl ?_|refine Ae rfl ?_))<;>(refine AF rfl rfl ?_<;>refine AE rfl rfl ?_<;>refine AN rfl rfl ?_<;>(first|refine Dt rfl rfl rfl ?_|refine Du rfl rfl rfl ?_|refine CZ rfl rfl rfl (fun _=>?_) fun _=>?_)<;>refine Am rfl rfl ?_<;>(first|(refine Aw rfl rfl ?_;refine AF rfl rfl ?_)|refine Au rfl rfl rfl rfl ?_)<;>(first|(refine Aw rfl rfl ?_;refine AE rfl rfl ?_)|refine Au rfl rfl rfl rfl ?_)<;>(first|(refine Aw rfl rfl ?_;refine AN rfl rfl ?_)|refine Au rfl rfl rfl rfl ?_)<;>(first|(refine Aw rfl rfl ?_;(first|refine Dt rfl rfl rfl ?_|refine Du rfl rfl rfl ?_|refine CZ rfl rfl rfl (fun _=>?_) fun _=>?_))|refine Au rfl rfl rfl rfl ?_)<;>(first|refine Bk rfl rfl rfl ?_|refine Bp rfl rfl rfl ?_)<;>(refine o_z ?_))<;>(repeat (first|refine An ?_|refine Ah rfl ?_|refine Ae rfl ?_)))
  all_goals try (
    ((repeat (first|refine An ?_|refine Ah rfl ?_|refine Ae rfl ?_))<;>(refine Ar rfl rfl ?_<;>(refine o_z ?_))<;>(repeat (first|refine An ?_|refine Ah rfl ?_|refine Ae rfl ?_)))
    refine ret1 rfl rfl ⟨?_,hE1⟩
    rw [Ch (by first|exact .inl (by omega)|exact .inr (.inl (by omega)))])
  ((repeat (first|refine An ?_|refine Ah rfl ?_|refine Ae rfl ?_))<;>(refine AF rfl rfl ?_<;>refine AE rfl rfl ?_<;>refine AN rfl rfl ?_<;>refine Am rfl rfl ?_<;>(refine o_z ?_))<;>(repeat (first|refine An ?_|refine Ah rfl ?_|refine Ae rfl ?_)))
  refine Br t.ops.length (by omega) (fun _:Unit=>[(1,.pointer (some ⟨w.heap.size,0,none⟩)),(16,.slice Ao t.ops.length co)]) (fun k _ w'=>Ext w1 w'∧∀ i,i < k→∀ o,t.ops[i]?=some o→o.effs.length≤64) ()
    ⟨Below.refl _ _,fun i hi=>by omega⟩ ⟨rfl,rfl,rfl,rfl,trivial⟩ (fun _=>⟨rfl,rfl⟩) ⟨rfl,rfl,rfl⟩ ⟨rfl,rfl⟩ ?_ ?_
  · rintro k _ w4 hk ⟨hE4,hh⟩
    obtain ⟨o,ho⟩:=AD hk
    obtain ⟨b2,o2,ce,rfl,_,_,hd1,p,q,rfl,hp,hq,hc,hn⟩:=(hops.ext (hE1.trans' hE4)).elem ho
    obtain ⟨Ap,cp,rfl⟩:=hp.form
    obtain ⟨Aq,cq,rfl⟩:=hq.form
    ((repeat (first|refine An ?_|refine Ah rfl ?_|refine Ae rfl ?_))<;>(refine CP rfl rfl rfl ?_<;>refine BM rfl rfl ?_)<;>(repeat (first|refine An ?_|refine Ah rfl ?_|refine Ae rfl ?_)))
    refine BU rfl rfl rfl (by simp [Value.cells,Value.oneCell']) fun w5 hN5=>?_
    have hb2:=hN5.blk
    have hE5:Ext w1 w5:=hE4.trans' hN5.ext
    ((refine o_z ?_))
    repeat (first|refine An ?_|refine Ah rfl ?_|refine Ae rfl ?_)
    ((repeat (first|refine An ?_|refine Ah rfl ?_|refine Ae rfl ?_))<;>(refine AF rfl rfl ?_<;>refine AE rfl rfl ?_<;>refine AN rfl rfl ?_<;>(first|refine Dt rfl rfl rfl ?_|refine Du rfl rfl rfl ?_|refine CZ rfl rfl rfl (fun _=>?_) fun _=>?_)<;>(refine o_z ?_))<;>(repeat (first|refine An ?_|refine Ah rfl ?_|refine Ae rfl ?_)))
    · ((repeat (first|refine An ?_|refine Ah rfl ?_|refine Ae rfl ?_))<;>(refine Ar rfl rfl ?_<;>(refine o_z ?_))<;>(repeat (first|refine An ?_|refine Ah rfl ?_|refine Ae rfl ?_)))
      refine ret1 rfl rfl ⟨?_,hE1.trans' hE5⟩
      rw [Ch (.inr (.inr (.inl ⟨k,o,ho,by omega⟩)))]
    · exact ⟨(),⟨rfl,rfl,rfl,rfl,trivial⟩,hE5,CA hh fun o' ho'=>by rw [ho] at ho';injection ho' with ho';subst ho';omega⟩
  rintro _ w4 ⟨hE4,hh⟩
  replace hb1:=hb1.ext hE4
  replace hE4:Ext w w4:=hE1.trans' hE4
  have hm:∀ (i:Nat) o,t.ops[i]?=some o→o.effs.length≤64:=fun i o ho=>hh i (Bn ho) o ho
  repeat (first|refine An ?_|refine Ah rfl ?_|refine Ae rfl ?_)
  (refine BM rfl rfl ?_)
  refine Bc rfl rfl (taskConditions (ht0.ext hE4) (by omega) hm) ?_
  rintro v5 w5 ⟨hv5,hE5⟩
  refine Bc rfl rfl (containsFuncFacts (p:=fun f=>64 < f.length) (caps:=[]) hv5 (fun v x w' _ _ hx=>taskLarge1 hx)) ?_
  rintro v6 w6 ⟨rfl,hE6⟩
  (refine Ar rfl rfl ?_<;>(refine o_z ?_))
  repeat (first|refine An ?_|refine Ah rfl ?_|refine Ae rfl ?_)
  refine ret1 rfl rfl ⟨?_,hE4.trans' (hE5.trans' hE6)⟩
  congr 1
  refine PG ⟨fun h=>.inr (.inr (.inr h)),fun h=>?_⟩
  rcases h with h|h|⟨i,o,ho,h⟩|h
  · omega
  · omega
  · have:=hm i o ho;omega
  · exact h
end
section
open Go Go.RowKit
def errV (n:Int):Value:=if n=0 then .nilIface else .iface 45 (.int .i64 n)
theorem FT:errV 0=.nilIface:=by unfold errV;rfl
theorem Gz {n:Int} (h:n≠0):errV n=.iface 45 (.int .i64 n):=by unfold errV;rw [if_neg h]
theorem NV (n:Int):(errV n).oneCell'=true:=by unfold errV;split<;>rfl
structure Err where
  n:Int
instance:Rp Err where
  isAgg:=false
  size:=1
  R _ _ cs x:=cs=[errV x.n]∧inI64 x.n
  len:=by rintro w F cs x ⟨rfl,_⟩;rfl
  one:=by
    rintro w F cs x ⟨rfl,_⟩ u hu
    have:u=errV x.n:=by simpa using hu
    subst this;exact NV _
  agree:=fun h _=>h
  mono:=fun h _=>h
theorem Vb.err {w:World} {F:Nat→Prop} {v:Value} {x:Err} (h:Vb w F v x):v=errV x.n∧inI64 x.n:=by
  obtain ⟨h1,h2⟩:=h
  exact ⟨by simpa using h1,h2⟩
theorem vErr {w:World} {F:Nat→Prop} {n:Int} (h:inI64 n):Vb w F (errV n) (⟨n⟩:Err):=⟨rfl,h⟩
theorem vErr0 {w:World} {F:Nat→Prop}:Vb w F .nilIface (⟨0⟩:Err):=⟨by rw [FT],by decide⟩
end
section
open Go Go.RowKit
attribute [local irreducible] ewp owp hwp hwq hws Ev Evg Fn retPost loud loudS Res1
def VarsOk (t:Tsk):Prop:=∀ (i:Nat) n,t.vars[i]?=some n→1≤n∧n≤64
def CostsOk (t:Tsk):Prop:=∀ (i:Nat) o,t.ops[i]?=some o→0≤o.cost∧o.cost≤1048576
def CondsOk (t:Tsk):Prop:=∀ (i:Nat) f,(conds t)[i]?=some f→FactsOk t.vars f
def EffsOk (t:Tsk):Prop:=∀ (i:Nat) o,t.ops[i]?=some o→∀ (j:Nat) e,o.effs[j]?=some e→FactOk t.vars ⟨e.var,e.val⟩
def NamesOk (t:Tsk):Prop:=∀ (i:Nat) o,t.ops[i]?=some o→NameOk o.name
noncomputable def checkN (t:Tsk):Int :=
  if bof (Large t)=true then 5 else if bof (VarsOk t∧CostsOk t)=false then 1 else if bof (StateOk t.vars t.init∧CondsOk t∧EffsOk t)=false then 2 else if bof (NamesOk t)=false then 8 else 0
theorem taskCheck {w:World} {tv:Value} {t:Tsk} (ht:V w tv t):Fn Tryz.prog 66 [tv] w fun v w'=>v=errV (checkN t)∧Ext w w':=by
  have ht0:=ht
  obtain ⟨cs,rfl,a,b,c,d,rfl,hvars,hinit,hgoal,hops⟩:=ht
  obtain ⟨Av,cv,rfl⟩:=hvars.form
  obtain ⟨Ai,ci,rfl⟩:=hinit.form
  obtain ⟨Ag,cg,rfl⟩:=hgoal.form
  obtain ⟨Ao,co,rfl⟩:=hops.form
  have hvl:=hvars.len
  have hol:=hops.len
  refine AI Tryz.func66 rfl Tryz.ntmps66 rfl ?_
  repeat (first|refine An ?_|refine Ah rfl ?_|refine Ae rfl ?_)
  refine Do rfl rfl fun w1 hN=>?_
  have hb1:=hN.blk
  have hE1:Ext w w1:=hN.ext
  (refine Ar rfl rfl ?_<;>(refine o_z ?_))
  repeat (first|refine An ?_|refine Ah rfl ?_|refine Ae rfl ?_)
  (refine BM rfl rfl ?_)
  refine CJ rfl rfl (taskLarge (ht0.ext hE1)) ?_ ?_
  case refine_1 =>
    intro w2 hP hE2
    ((refine o_z ?_))
    repeat (first|refine An ?_|refine Ah rfl ?_|refine Ae rfl ?_)
    ((repeat (first|refine An ?_|refine Ah rfl ?_|refine Ae rfl ?_))<;>(refine Jo rfl rfl ?_<;>refine Ar rfl rfl ?_<;>(refine o_z ?_))<;>(repeat (first|refine An ?_|refine Ah rfl ?_|refine Ae rfl ?_)))
    refine ret1 rfl rfl ⟨?_,hE1.trans' hE2⟩
    rw [checkN,Ch hP];rfl
  intro w2 hlarge hE2
  replace hb1:=hb1.ext hE2
  replace hE2:Ext w w2:=hE1.trans' hE2
  have hm:∀ (i:Nat) o,t.ops[i]?=some o→o.effs.length≤64:=fun i o ho=>Nat.le_of_not_lt fun h=>hlarge (.inr (.inr (.inl ⟨i,o,ho,h⟩)))
  have hn4:t.ops.length≤4096:=Nat.le_of_not_lt fun h=>hlarge (.inr (.inl h))
  have c1:checkN t=if bof (VarsOk t∧CostsOk t)=false then 1 else if bof (StateOk t.vars t.init∧CondsOk t∧EffsOk t)=false then 2 else if bof (NamesOk t)=false then 8 else 0:=by rw [checkN,Bi hlarge];rfl
  ((refine o_z ?_))
  repeat (first|refine An ?_|refine Ah rfl ?_|refine Ae rfl ?_)
  ((repeat (first|refine An ?_|refine Ah rfl ?_|refine Ae rfl ?_))<;>(refine AF rfl rfl ?_<;>refine AE rfl rfl ?_<;>refine AN rfl rfl ?_<;>refine Am rfl rfl ?_<;>(refine o_z ?_))<;>(repeat (first|refine An ?_|refine Ah rfl ?_|refine Ae rfl ?_)))
  refine Br t.vars.length (by omega) (fun _:Unit=>[(1,.pointer (some ⟨w.heap.size,0,none⟩)),(19,.slice Av t.vars.length cv)]) (fun k _ w'=>w'=w2∧∀ i,i < k→∀ n,t.vars[i]?=some n→1≤n∧n≤64) ()
    ⟨rfl,fun i hi=>by omega⟩ ⟨rfl,rfl,rfl,rfl,trivial⟩ (fun _=>⟨rfl,rfl⟩) ⟨rfl,rfl,rfl⟩ ⟨rfl,rfl⟩ ?_ ?_
  · rintro k _ _ hk ⟨rfl,hh⟩
    obtain ⟨n,hn⟩:=AD hk
    obtain ⟨b2,o2,ce,rfl,_,_,hd1,rfl,_⟩:=(hvars.ext hE2).elem hn
    ((repeat (first|refine An ?_|refine Ah rfl ?_|refine Ae rfl ?_))<;>(refine CP rfl rfl rfl ?_<;>refine AE rfl rfl ?_<;>refine Ar rfl rfl ?_<;>(refine o_z ?_))<;>(repeat (first|refine An ?_|refine Ah rfl ?_|refine Ae rfl ?_))<;>(refine Am rfl rfl ?_<;>(first|refine CU rfl rfl rfl ?_|refine CV rfl rfl rfl ?_|refine DJ rfl rfl rfl (fun _=>?_) fun _=>?_)<;>refine Am rfl rfl ?_<;>(first|(refine Aw rfl rfl ?_;refine Am rfl rfl ?_)|refine Au rfl rfl rfl rfl ?_)<;>(first|(refine Aw rfl rfl ?_;(first|refine Dt rfl rfl rfl ?_|refine Du rfl rfl rfl ?_|refine CZ rfl rfl rfl (fun _=>?_) fun _=>?_))|refine Au rfl rfl rfl rfl ?_)<;>(first|refine Bk rfl rfl rfl ?_|refine Bp rfl rfl rfl ?_)<;>(refine o_z ?_))<;>(repeat (first|refine An ?_|refine Ah rfl ?_|refine Ae rfl ?_)))
    all_goals try (
      ((repeat (first|refine An ?_|refine Ah rfl ?_|refine Ae rfl ?_))<;>(refine Jo rfl rfl ?_<;>refine Ar rfl rfl ?_<;>(refine o_z ?_))<;>(repeat (first|refine An ?_|refine Ah rfl ?_|refine Ae rfl ?_)))
      refine ret1 rfl rfl ⟨?_,hE2⟩
      rw [c1,Bi (fun h=>by have:=h.1 k n hn;omega)];rfl)
    exact ⟨(),⟨rfl,rfl,rfl,rfl,trivial⟩,rfl,CA hh fun n' hn'=>by rw [hn] at hn';injection hn' with hn';omega⟩
  rintro _ _ ⟨rfl,hdom⟩
  replace hdom:VarsOk t:=fun i n hn=>hdom i (Bn hn) n hn
  repeat (first|refine An ?_|refine Ah rfl ?_|refine Ae rfl ?_)
  ((repeat (first|refine An ?_|refine Ah rfl ?_|refine Ae rfl ?_))<;>(refine AF rfl rfl ?_<;>refine AE rfl rfl ?_<;>refine AN rfl rfl ?_<;>refine Am rfl rfl ?_<;>(refine o_z ?_))<;>(repeat (first|refine An ?_|refine Ah rfl ?_|refine Ae rfl ?_)))
  refine Br t.ops.length (by omega) (fun _:Unit=>[(1,.pointer (some ⟨w.heap.size,0,none⟩)),(34,.slice Ao t.ops.length co)]) (fun k _ w'=>Ext w w'∧Blk w' w.heap.size 26 [.slice Av t.vars.length cv,.slice Ai t.init.length ci,.slice Ag t.goal.length cg,.slice Ao t.ops.length co]∧∀ i,i < k→∀ o,t.ops[i]?=some o→0≤o.cost∧o.cost≤1048576) ()
    ⟨hE2,hb1,fun i hi=>by omega⟩ ⟨rfl,rfl,rfl,rfl,trivial⟩ (fun _=>⟨rfl,rfl⟩) ⟨rfl,rfl,rfl⟩ ⟨rfl,rfl⟩ ?_ ?_
  · rintro k _ w4 hk ⟨hE4,hb1,hh⟩
    obtain ⟨o,ho⟩:=AD hk
    obtain ⟨b2,o2,ce,rfl,_,_,hd1,p,q,rfl,hp,hq,hc,hn⟩:=(hops.ext hE4).elem ho
    obtain ⟨Ap,cp,rfl⟩:=hp.form
    obtain ⟨Aq,cq,rfl⟩:=hq.form
    ((repeat (first|refine An ?_|refine Ah rfl ?_|refine Ae rfl ?_))<;>(refine CP rfl rfl rfl ?_<;>refine BM rfl rfl ?_)<;>(repeat (first|refine An ?_|refine Ah rfl ?_|refine Ae rfl ?_)))
    refine BU rfl rfl rfl (by simp [Value.cells,Value.oneCell']) fun w5 hN5=>?_
    replace hb1:=hb1.ext hN5.ext
    have hb2:=hN5.blk
    have hE5:Ext w w5:=hE4.trans' hN5.ext
    ((refine o_z ?_))
    repeat (first|refine An ?_|refine Ah rfl ?_|refine Ae rfl ?_)
    ((repeat (first|refine An ?_|refine Ah rfl ?_|refine Ae rfl ?_))<;>(refine AF rfl rfl ?_<;>refine AE rfl rfl ?_<;>(first|refine CU rfl rfl rfl ?_|refine CV rfl rfl rfl ?_|refine DJ rfl rfl rfl (fun _=>?_) fun _=>?_)<;>refine Am rfl rfl ?_<;>(first|(refine Aw rfl rfl ?_;refine AF rfl rfl ?_)|refine Au rfl rfl rfl rfl ?_)<;>(first|(refine Aw rfl rfl ?_;refine AE rfl rfl ?_)|refine Au rfl rfl rfl rfl ?_)<;>(first|(refine Aw rfl rfl ?_;(first|refine Dt rfl rfl rfl ?_|refine Du rfl rfl rfl ?_|refine CZ rfl rfl rfl (fun _=>?_) fun _=>?_))|refine Au rfl rfl rfl rfl ?_)<;>(first|refine Bk rfl rfl rfl ?_|refine Bp rfl rfl rfl ?_)<;>(refine o_z ?_))<;>(repeat (first|refine An ?_|refine Ah rfl ?_|refine Ae rfl ?_)))
    all_goals try (
      ((repeat (first|refine An ?_|refine Ah rfl ?_|refine Ae rfl ?_))<;>(refine Jo rfl rfl ?_<;>refine Ar rfl rfl ?_<;>(refine o_z ?_))<;>(repeat (first|refine An ?_|refine Ah rfl ?_|refine Ae rfl ?_)))
      refine ret1 rfl rfl ⟨?_,hE5⟩
      rw [c1,Bi (fun h=>by have:=h.2 k o ho;omega)];rfl)
    exact ⟨(),⟨rfl,rfl,rfl,rfl,trivial⟩,hE5,hb1,CA hh fun o' ho'=>by rw [ho] at ho';injection ho' with ho';subst ho';omega⟩
  rintro _ w3 ⟨hE3,hb1,hcost⟩
  replace hcost:CostsOk t:=fun i o ho=>hcost i (Bn ho) o ho
  have c2:checkN t=if bof (StateOk t.vars t.init∧CondsOk t∧EffsOk t)=false then 2 else if bof (NamesOk t)=false then 8 else 0:=by rw [c1,Ch ⟨hdom,hcost⟩];rfl
  repeat (first|refine An ?_|refine Ah rfl ?_|refine Ae rfl ?_)
  (refine AF rfl rfl ?_<;>refine AE rfl rfl ?_<;>refine AF rfl rfl ?_<;>refine AE rfl rfl ?_)
  refine CJ rfl rfl (taskProper (hvars.ext hE3) (hinit.ext hE3)) ?_ ?_
  case refine_2 =>
    intro w4 hP hE4
    ((first|refine CL rfl rfl ?_|refine CM rfl rfl ?_|refine Dn rfl rfl ?_)<;>(refine o_z ?_))
    repeat (first|refine An ?_|refine Ah rfl ?_|refine Ae rfl ?_)
    ((repeat (first|refine An ?_|refine Ah rfl ?_|refine Ae rfl ?_))<;>(refine Jo rfl rfl ?_<;>refine Ar rfl rfl ?_<;>(refine o_z ?_))<;>(repeat (first|refine An ?_|refine Ah rfl ?_|refine Ae rfl ?_)))
    refine ret1 rfl rfl ⟨?_,hE3.trans' hE4⟩
    rw [c2,Bi (fun h=>hP h.1)];rfl
  intro w4 hst hE4
  replace hb1:=hb1.ext hE4
  replace hE4:Ext w w4:=hE3.trans' hE4
  ((first|refine CL rfl rfl ?_|refine CM rfl rfl ?_|refine Dn rfl rfl ?_)<;>(refine o_z ?_))
  repeat (first|refine An ?_|refine Ah rfl ?_|refine Ae rfl ?_)
  (refine BM rfl rfl ?_)
  refine Bc rfl rfl (taskConditions (ht0.ext hE4) hn4 hm) ?_
  rintro v5 w5 ⟨hv5,hE5⟩
  obtain ⟨Ac,cc,rfl⟩:=hv5.form
  have hcl:=hv5.len
  replace hb1:=hb1.ext hE5
  replace hE5:Ext w w5:=hE4.trans' hE5
  (refine AN rfl rfl ?_<;>refine Am rfl rfl ?_<;>(refine o_z ?_))
  repeat (first|refine An ?_|refine Ah rfl ?_|refine Ae rfl ?_)
  refine Br (conds t).length (by omega) (fun _:Unit=>[(1,.pointer (some ⟨w.heap.size,0,none⟩)),(58,.slice Ac (conds t).length cc)]) (fun k _ w'=>Ext w5 w'∧∀ i,i < k→∀ f,(conds t)[i]?=some f→FactsOk t.vars f) ()
    ⟨Below.refl _ _,fun i hi=>by omega⟩ ⟨rfl,rfl,rfl,rfl,trivial⟩ (fun _=>⟨rfl,rfl⟩) ⟨rfl,rfl,rfl⟩ ⟨rfl,rfl⟩ ?_ ?_
  · rintro k _ w6 hk ⟨hE6,hh⟩
    obtain ⟨f,hf⟩:=AD hk
    have hb1:=hb1.ext hE6
    obtain ⟨b2,o2,ce,rfl,_,_,hd1,v,rfl,hR⟩:=(hv5.ext hE6).elem hf
    ((repeat (first|refine An ?_|refine Ah rfl ?_|refine Ae rfl ?_))<;>(refine CP rfl rfl rfl ?_<;>refine AE rfl rfl ?_<;>refine Ar rfl rfl ?_<;>(refine o_z ?_))<;>(repeat (first|refine An ?_|refine Ah rfl ?_|refine Ae rfl ?_))<;>(refine AF rfl rfl ?_<;>refine AE rfl rfl ?_<;>refine Am rfl rfl ?_)<;>(repeat (first|refine An ?_|refine Ah rfl ?_|refine Ae rfl ?_)))
    refine CJ rfl rfl (taskFacts (hvars.ext (hE5.trans' hE6)) (Vb.of_slice hR)) ?_ ?_
    · intro w7 hP hE7
      ((first|refine CL rfl rfl ?_|refine CM rfl rfl ?_|refine Dn rfl rfl ?_)<;>(refine o_z ?_))
      repeat (first|refine An ?_|refine Ah rfl ?_|refine Ae rfl ?_)
      exact ⟨(),⟨rfl,rfl,rfl,rfl,trivial⟩,hE6.trans' hE7,CA hh fun f' hf'=>by rw [hf] at hf';injection hf' with hf';exact hf' ▸ hP⟩
    · intro w7 hP hE7
      ((first|refine CL rfl rfl ?_|refine CM rfl rfl ?_|refine Dn rfl rfl ?_)<;>(refine o_z ?_))
      repeat (first|refine An ?_|refine Ah rfl ?_|refine Ae rfl ?_)
      ((repeat (first|refine An ?_|refine Ah rfl ?_|refine Ae rfl ?_))<;>(refine Jo rfl rfl ?_<;>refine Ar rfl rfl ?_<;>(refine o_z ?_))<;>(repeat (first|refine An ?_|refine Ah rfl ?_|refine Ae rfl ?_)))
      refine ret1 rfl rfl ⟨?_,hE5.trans' (hE6.trans' hE7)⟩
      rw [c2,Bi (fun h=>hP (h.2.1 k f hf))];rfl
  rintro _ w6 ⟨hE6,hcond⟩
  replace hcond:CondsOk t:=fun i f hf=>hcond i (Bn hf) f hf
  replace hb1:=hb1.ext hE6
  replace hE6:Ext w w6:=hE5.trans' hE6
  repeat (first|refine An ?_|refine Ah rfl ?_|refine Ae rfl ?_)
  ((repeat (first|refine An ?_|refine Ah rfl ?_|refine Ae rfl ?_))<;>(refine AF rfl rfl ?_<;>refine AE rfl rfl ?_<;>refine AN rfl rfl ?_<;>refine Am rfl rfl ?_<;>(refine o_z ?_))<;>(repeat (first|refine An ?_|refine Ah rfl ?_|refine Ae rfl ?_)))
  refine Br t.ops.length (by omega) (fun _:Unit=>[(1,.pointer (some ⟨w.heap.size,0,none⟩)),(72,.slice Ao t.ops.length co)]) (fun k _ w'=>Ext w6 w'∧∀ i,i < k→∀ o,t.ops[i]?=some o→∀ (j:Nat) e,o.effs[j]?=some e→FactOk t.vars ⟨e.var,e.val⟩) ()
    ⟨Below.refl _ _,fun i hi=>by omega⟩ ⟨rfl,rfl,rfl,rfl,trivial⟩ (fun _=>⟨rfl,rfl⟩) ⟨rfl,rfl,rfl⟩ ⟨rfl,rfl⟩ ?_ ?_
  · rintro k _ w7 hk ⟨hE7,hh⟩
    obtain ⟨o,ho⟩:=AD hk
    have hb1:=hb1.ext hE7
    obtain ⟨b2,o2,ce,rfl,_,_,hd1,p,q,rfl,hp,hq,hc,hn⟩:=(hops.ext (hE6.trans' hE7)).elem ho
    obtain ⟨Ap,cp,rfl⟩:=hp.form
    obtain ⟨Aq,cq,rfl⟩:=hq.form
    have hql:=hq.len
    ((repeat (first|refine An ?_|refine Ah rfl ?_|refine Ae rfl ?_))<;>(refine CP rfl rfl rfl ?_<;>refine BM rfl rfl ?_)<;>(repeat (first|refine An ?_|refine Ah rfl ?_|refine Ae rfl ?_)))
    refine BU rfl rfl rfl (by simp [Value.cells,Value.oneCell']) fun w8 hN8=>?_
    replace hb1:=hb1.ext hN8.ext
    have hb2:=hN8.blk
    have hE8:Ext w6 w8:=hE7.trans' hN8.ext
    replace hq:=hq.ext hN8.ext
    ((refine o_z ?_))
    repeat (first|refine An ?_|refine Ah rfl ?_|refine Ae rfl ?_)
    ((repeat (first|refine An ?_|refine Ah rfl ?_|refine Ae rfl ?_))<;>(refine AF rfl rfl ?_<;>refine AE rfl rfl ?_<;>refine AN rfl rfl ?_<;>refine Am rfl rfl ?_<;>(refine o_z ?_))<;>(repeat (first|refine An ?_|refine Ah rfl ?_|refine Ae rfl ?_)))
    refine Br o.effs.length (by omega) (fun _:Unit=>[(1,.pointer (some ⟨w.heap.size,0,none⟩)),(72,.slice (some ⟨b2,o2,none⟩) t.ops.length co),(73,.int .i64 (t.ops.length:Int)),(74,.int .i64 (k:Int)),(79,.slice Aq o.effs.length cq)]) (fun j _ w'=>Ext w8 w'∧∀ i,i < j→∀ e,o.effs[i]?=some e→FactOk t.vars ⟨e.var,e.val⟩) ()
      ⟨Below.refl _ _,fun i hi=>by omega⟩ ⟨rfl,rfl,rfl,rfl,rfl,rfl,rfl,trivial⟩ (fun _=>⟨rfl,rfl⟩) ⟨rfl,rfl,rfl⟩ ⟨rfl,rfl⟩ ?_ ?_
    · rintro j _ w9 hj ⟨hE9,hh9⟩
      obtain ⟨e,he⟩:=AD hj
      have hb1:=hb1.ext hE9
      obtain ⟨b3,o3,ce,rfl,_,_,hd1,cv',rfl,hcn,hr1,hr2⟩:=(hq.ext hE9).elem he
      obtain ⟨Acn,ccn,rfl⟩:=hcn.form
      ((repeat (first|refine An ?_|refine Ah rfl ?_|refine Ae rfl ?_))<;>(refine CP rfl rfl rfl ?_<;>refine BM rfl rfl ?_)<;>(repeat (first|refine An ?_|refine Ah rfl ?_|refine Ae rfl ?_)))
      refine BU rfl rfl rfl (by simp [Value.cells,Value.oneCell']) fun w10 hN10=>?_
      have hb3:=hN10.blk
      replace hb1:=hb1.ext hN10.ext
      have hE10:Ext w w10:=hE6.trans' (hE8.trans' (hE9.trans' hN10.ext))
      ((refine o_z ?_))
      repeat (first|refine An ?_|refine Ah rfl ?_|refine Ae rfl ?_)
      (refine AF rfl rfl ?_<;>refine AE rfl rfl ?_<;>refine AF rfl rfl ?_<;>refine AE rfl rfl ?_<;>refine AF rfl rfl ?_<;>refine AE rfl rfl ?_<;>refine EK rfl rfl rfl ?_)
      refine DA rfl rfl rfl (by simp [Value.cells];rfl) (by decide) rfl fun w11 hN11=>?_
      have hE11:Ext w w11:=hE10.trans' hN11.ext
      have hone:V w11 (.slice (some ⟨w10.heap.size,0,none⟩) 1 1) [(⟨e.var,e.val⟩:Fct)]:=Vb.made hN11 (.single ⟨rfl,hr1,hr2⟩) rfl hN11.blk.lt (by decide)
      refine CJ rfl rfl (taskFacts (hvars.ext hE11) hone) ?_ ?_
      · intro w12 hP hE12
        ((first|refine CL rfl rfl ?_|refine CM rfl rfl ?_|refine Dn rfl rfl ?_)<;>(refine o_z ?_))
        repeat (first|refine An ?_|refine Ah rfl ?_|refine Ae rfl ?_)
        exact ⟨(),⟨rfl,rfl,rfl,rfl,rfl,rfl,rfl,trivial⟩,hE9.trans' (hN10.ext.trans' (hN11.ext.trans' hE12)),CA hh9 fun e' he'=>by rw [he] at he';injection he' with he';subst he';exact FO.1 hP⟩
      · intro w12 hP hE12
        ((first|refine CL rfl rfl ?_|refine CM rfl rfl ?_|refine Dn rfl rfl ?_)<;>(refine o_z ?_))
        repeat (first|refine An ?_|refine Ah rfl ?_|refine Ae rfl ?_)
        ((repeat (first|refine An ?_|refine Ah rfl ?_|refine Ae rfl ?_))<;>(refine Jo rfl rfl ?_<;>refine Ar rfl rfl ?_<;>(refine o_z ?_))<;>(repeat (first|refine An ?_|refine Ah rfl ?_|refine Ae rfl ?_)))
        refine ret1 rfl rfl ⟨?_,hE11.trans' hE12⟩
        rw [c2,Bi (fun h=>hP (FO.2 (h.2.2 k o ho j e he)))];rfl
    rintro _ w9 ⟨hE9,hh9⟩
    repeat (first|refine An ?_|refine Ah rfl ?_|refine Ae rfl ?_)
    exact ⟨(),⟨rfl,rfl,rfl,rfl,trivial⟩,hE8.trans' hE9,CA hh fun o' ho' j e he=>by rw [ho] at ho';injection ho' with ho';subst ho';exact hh9 j (Bn he) e he⟩
  rintro _ w7 ⟨hE7,heff⟩
  replace heff:EffsOk t:=fun i o ho=>heff i (Bn ho) o ho
  have c3:checkN t=if bof (NamesOk t)=false then 8 else 0:=by rw [c2,Ch ⟨hst,hcond,heff⟩];rfl
  replace hb1:=hb1.ext hE7
  replace hE7:Ext w w7:=hE6.trans' hE7
  repeat (first|refine An ?_|refine Ah rfl ?_|refine Ae rfl ?_)
  ((repeat (first|refine An ?_|refine Ah rfl ?_|refine Ae rfl ?_))<;>(refine AF rfl rfl ?_<;>refine AE rfl rfl ?_<;>refine AN rfl rfl ?_<;>refine Am rfl rfl ?_<;>(refine o_z ?_))<;>(repeat (first|refine An ?_|refine Ah rfl ?_|refine Ae rfl ?_)))
  refine Br t.ops.length (by omega) (fun _:Unit=>[(1,.pointer (some ⟨w.heap.size,0,none⟩)),(99,.slice Ao t.ops.length co)]) (fun k _ w'=>Ext w w'∧∀ i,i < k→∀ o,t.ops[i]?=some o→NameOk o.name) ()
    ⟨hE7,fun i hi=>by omega⟩ ⟨rfl,rfl,rfl,rfl,trivial⟩ (fun _=>⟨rfl,rfl⟩) ⟨rfl,rfl,rfl⟩ ⟨rfl,rfl⟩ ?_ ?_
  · rintro k _ w8 hk ⟨hE8,hh⟩
    obtain ⟨o,ho⟩:=AD hk
    obtain ⟨b2,o2,ce,rfl,_,_,hd1,p,q,rfl,hp,hq,hc,hn⟩:=(hops.ext hE8).elem ho
    obtain ⟨Ap,cp,rfl⟩:=hp.form
    obtain ⟨Aq,cq,rfl⟩:=hq.form
    ((repeat (first|refine An ?_|refine Ah rfl ?_|refine Ae rfl ?_))<;>(refine CP rfl rfl rfl ?_<;>refine BM rfl rfl ?_)<;>(repeat (first|refine An ?_|refine Ah rfl ?_|refine Ae rfl ?_)))
    refine BU rfl rfl rfl (by simp [Value.cells,Value.oneCell']) fun w9 hN9=>?_
    have hb2:=hN9.blk
    have hE9:Ext w w9:=hE8.trans' hN9.ext
    ((refine o_z ?_))
    repeat (first|refine An ?_|refine Ah rfl ?_|refine Ae rfl ?_)
    (refine AF rfl rfl ?_<;>refine AE rfl rfl ?_)
    refine CJ rfl rfl (taskNamed hn) ?_ ?_
    · intro w10 hP hE10
      ((first|refine CL rfl rfl ?_|refine CM rfl rfl ?_|refine Dn rfl rfl ?_)<;>(refine o_z ?_))
      repeat (first|refine An ?_|refine Ah rfl ?_|refine Ae rfl ?_)
      exact ⟨(),⟨rfl,rfl,rfl,rfl,trivial⟩,hE9.trans' hE10,CA hh fun o' ho'=>by rw [ho] at ho';injection ho' with ho';exact ho' ▸ hP⟩
    · intro w10 hP hE10
      ((first|refine CL rfl rfl ?_|refine CM rfl rfl ?_|refine Dn rfl rfl ?_)<;>(refine o_z ?_))
      repeat (first|refine An ?_|refine Ah rfl ?_|refine Ae rfl ?_)
      ((repeat (first|refine An ?_|refine Ah rfl ?_|refine Ae rfl ?_))<;>(refine Jo rfl rfl ?_<;>refine Ar rfl rfl ?_<;>(refine o_z ?_))<;>(repeat (first|refine An ?_|refine Ah rfl ?_|refine Ae rfl ?_)))
      refine ret1 rfl rfl ⟨?_,hE9.trans' hE10⟩
      rw [c3,Bi (fun h=>hP (h k o ho))];rfl
  rintro _ w8 ⟨hE8,hnames⟩
  repeat (first|refine An ?_|refine Ah rfl ?_|refine Ae rfl ?_)
  ((repeat (first|refine An ?_|refine Ah rfl ?_|refine Ae rfl ?_))<;>(refine Ar rfl rfl ?_<;>(refine o_z ?_))<;>(repeat (first|refine An ?_|refine Ah rfl ?_|refine Ae rfl ?_)))
  refine ret1 rfl rfl ⟨?_,hE8⟩
  rw [c3,Ch (show NamesOk t from fun i o ho=>hnames i (Bn ho) o ho)];rfl
end
section
open Go Go.RowKit
attribute [local irreducible] ewp owp hwp hwq hws Ev Evg Fn retPost loud loudS Res1
theorem indexFuncInts {w:World} {sv:Value} {xs:List (Int)} {g:FuncId} [Callable Tryz.prog g] {caps:List Value} {p:Int→Prop} (hs:V w sv xs)
    (hg:∀ v x w',x∈xs→Ext w w'→V w' v x→Fn Tryz.prog g ([v] ++ caps) w' fun r w''=>r=.bool (bof (p x))∧Ext w' w'') :
    Fn Tryz.prog 129 [sv,.func (.func g) #[] caps.toArray] w fun v w'=>((∃ k:Nat,v=.int .i64 (k:Int)∧∃ x∈xs,p x)∨(v=.int .i64 (-1)∧∀ x∈xs,¬ p x))∧Ext w w':=by
  obtain ⟨A,c,rfl⟩:=hs.form
  have hl:=hs.len
  refine AI Tryz.func129 rfl Tryz.ntmps129 rfl ?_
  ((repeat (first|refine An ?_|refine Ah rfl ?_|refine Ae rfl ?_))<;>(refine Ar rfl rfl ?_<;>(refine o_z ?_))<;>(repeat (first|refine An ?_|refine Ah rfl ?_|refine Ae rfl ?_))<;>(refine Am rfl rfl ?_<;>refine AN rfl rfl ?_<;>refine Am rfl rfl ?_<;>(refine o_z ?_))<;>(repeat (first|refine An ?_|refine Ah rfl ?_|refine Ae rfl ?_)))
  refine Br xs.length (by omega) (fun _:Unit=>[(0,.slice A xs.length c),(1,.func (.func g) #[] caps.toArray)]) (fun k _ w'=>Ext w w'∧∀ i,i < k→∀ x,xs[i]?=some x→¬ p x) ()
    ⟨Below.refl _ _,fun i hi=>by omega⟩ ⟨rfl,rfl,rfl,rfl,trivial⟩ (fun _=>⟨rfl,rfl⟩) ⟨rfl,rfl,rfl⟩ ⟨rfl,rfl⟩ ?_ ?_
  · rintro k _ w1 hk ⟨hE,hh⟩
    obtain ⟨x,hx⟩:=AD hk
    obtain ⟨b,o,ce,rfl,_,_,hd1,hR⟩:=(hs.ext hE).elem hx
    obtain ⟨v,rfl⟩:=List.length_eq_one_iff.1 (Rp.len hR)
    ((repeat (first|refine An ?_|refine Ah rfl ?_|refine Ae rfl ?_))<;>(refine Am rfl rfl ?_<;>refine Ar rfl rfl ?_<;>(refine o_z ?_))<;>(repeat (first|refine An ?_|refine Ah rfl ?_|refine Ae rfl ?_))<;>(refine Am rfl rfl ?_<;>refine Am rfl rfl ?_<;>refine Am rfl rfl ?_<;>refine CP rfl rfl rfl ?_<;>refine AE rfl rfl ?_)<;>(repeat (first|refine An ?_|refine Ah rfl ?_|refine Ae rfl ?_)))
    refine Ks rfl rfl rfl (hg v x w1 (List.mem_of_getElem? hx) hE hR) ?_
    rintro _ w2 ⟨rfl,hE2⟩
    by_cases hp:p x
    · rw [Ch hp]
      ((refine o_z ?_))
      repeat (first|refine An ?_|refine Ah rfl ?_|refine Ae rfl ?_)
      ((repeat (first|refine An ?_|refine Ah rfl ?_|refine Ae rfl ?_))<;>(refine Am rfl rfl ?_<;>refine Ar rfl rfl ?_<;>(refine o_z ?_))<;>(repeat (first|refine An ?_|refine Ah rfl ?_|refine Ae rfl ?_)))
      exact ret1 rfl rfl ⟨.inl ⟨k,rfl,x,List.mem_of_getElem? hx,hp⟩,hE.trans' hE2⟩
    · rw [Bi hp]
      ((refine o_z ?_))
      repeat (first|refine An ?_|refine Ah rfl ?_|refine Ae rfl ?_)
      exact ⟨(),⟨rfl,rfl,rfl,rfl,trivial⟩,hE.trans' hE2,CA hh fun x' hx'=>by rw [hx] at hx';injection hx' with hx';exact hx' ▸ hp⟩
  rintro _ w1 ⟨hE,hh⟩
  repeat (first|refine An ?_|refine Ah rfl ?_|refine Ae rfl ?_)
  ((repeat (first|refine An ?_|refine Ah rfl ?_|refine Ae rfl ?_))<;>(refine Ar rfl rfl ?_<;>(refine o_z ?_))<;>(repeat (first|refine An ?_|refine Ah rfl ?_|refine Ae rfl ?_)))
  refine ret1 rfl rfl ⟨.inr ⟨rfl,fun x hx=>?_⟩,hE⟩
  obtain ⟨i,hi⟩:=List.getElem?_of_mem hx
  exact hh i (Bn hi) x hi
theorem containsFuncInts {w:World} {sv:Value} {xs:List (Int)} {g:FuncId} [Callable Tryz.prog g] {caps:List Value} {p:Int→Prop} (hs:V w sv xs)
    (hg:∀ v x w',x∈xs→Ext w w'→V w' v x→Fn Tryz.prog g ([v] ++ caps) w' fun r w''=>r=.bool (bof (p x))∧Ext w' w'') :
    Fn Tryz.prog 104 [sv,.func (.func g) #[] caps.toArray] w fun v w'=>v=.bool (bof (∃ x∈xs,p x))∧Ext w w':=by
  refine AI Tryz.func104 rfl Tryz.ntmps104 rfl ?_
  ((repeat (first|refine An ?_|refine Ah rfl ?_|refine Ae rfl ?_))<;>(refine Ar rfl rfl ?_<;>(refine o_z ?_))<;>(repeat (first|refine An ?_|refine Ah rfl ?_|refine Ae rfl ?_))<;>(refine Am rfl rfl ?_<;>refine Am rfl rfl ?_)<;>(repeat (first|refine An ?_|refine Ah rfl ?_|refine Ae rfl ?_)))
  refine Bc rfl rfl (indexFuncInts hs hg) ?_
  rintro v w1 ⟨h,hE⟩
  rcases h with ⟨k,rfl,h⟩|⟨rfl,h⟩
  · ((first|refine JJ rfl rfl rfl ?_|refine JK rfl rfl rfl ?_)<;>refine Ar rfl rfl ?_<;>(refine o_z ?_))
    repeat (first|refine An ?_|refine Ah rfl ?_|refine Ae rfl ?_)
    exact ret1 rfl rfl ⟨by rw [Ch h],hE⟩
  · ((first|refine JJ rfl rfl rfl ?_|refine JK rfl rfl rfl ?_)<;>refine Ar rfl rfl ?_<;>(refine o_z ?_))
    repeat (first|refine An ?_|refine Ah rfl ?_|refine Ae rfl ?_)
    exact ret1 rfl rfl ⟨by rw [Bi (fun ⟨x,hx,hp⟩=>h x hx hp)],hE⟩
end
section
open Go Go.RowKit
attribute [local irreducible] ewp owp hwp hwq hws Ev Evg Fn retPost loud loudS Res1
def preOf (t:Tsk) (op:Int):List Fct:=match t.ops[op.toNat]? with|some o=>o.pre|none=>[]
def tests (t:Tsk) (ops:List Int) (v:Nat):Bool:=ops.any fun op=>(factOn (preOf t op) (v:Int)).isSome
def nextF (t:Tsk) (ops:List Int):Nat→Nat→Nat
  | 0,v=>v
  | k + 1,v=>if tests t ops v=true then v else nextF t ops k (v + 1)
def nextV (t:Tsk) (ops:List Int) (v:Nat):Nat:=nextF t ops (t.vars.length - v) v
def valB (t:Tsk) (u:Nat) (x:Nat) (op:Int):Bool:=match factOn (preOf t op) (u:Int) with|some f=>decide (f.val=(x:Int))|none=>false
def restB (t:Tsk) (u:Nat) (op:Int):Bool:=(factOn (preOf t op) (u:Int)).isNone
def mkT (t:Tsk):Nat→List Int→Nat→Tr
  | 0,_,_=>.nil
  | fuel + 1,ops,v =>
    if ops.isEmpty then .nil
    else if nextV t ops v=t.vars.length then .leaf ops
    else .node (nextV t ops v) (t.vars[nextV t ops v]?.getD 0).toNat (fun x=>mkT t fuel (ops.filter (valB t (nextV t ops v) x)) (nextV t ops v + 1)) (mkT t fuel (ops.filter (restB t (nextV t ops v))) (nextV t ops v + 1))
theorem Hr (t:Tsk) (ops:List Int):∀ (k v:Nat),v≤nextF t ops k v∧nextF t ops k v≤v + k∧(∀ u,v≤u→u < nextF t ops k v→tests t ops u=false)∧(nextF t ops k v < v + k→tests t ops (nextF t ops k v)=true)
  | 0,v=>by simp [nextF];intro u h1 h2;omega
  | k + 1,v=>by
    by_cases h:tests t ops v=true
    · simp only [nextF,h,if_true]
      exact ⟨Nat.le_refl _,by omega,fun u h1 h2=>by omega,fun _=>trivial⟩
    · obtain ⟨h1,h2,h3,h4⟩:=Hr t ops k (v + 1)
      simp only [nextF,h]
      refine ⟨by simp;omega,by simp;omega,fun u hu1 hu2=>?_,fun hlt=>h4 (by simp at hlt;omega)⟩
      by_cases he:u=v
      · subst he;simpa using h
      · exact h3 u (by omega) (by simpa using hu2)
theorem NW (t:Tsk) (ops:List Int) {v u:Nat} (h1:v≤u) (h2:u≤t.vars.length) (h3:∀ x,v≤x→x < u→tests t ops x=false) (h4:u < t.vars.length→tests t ops u=true):nextV t ops v=u:=by
  obtain ⟨g1,g2,g3,g4⟩:=Hr t ops (t.vars.length - v) v
  unfold nextV
  rcases Nat.lt_trichotomy (nextF t ops (t.vars.length - v) v) u with h|h|h
  · have:=h3 _ g1 h
    rw [g4 (by omega)] at this;cases this
  · exact h
  · have:=g3 u h1 h
    rw [h4 (by omega)] at this;cases this
def OpsIn (t:Tsk) (ops:List Int):Prop:=∀ op∈ops,0≤op∧op < t.ops.length
def FitsVals (t:Tsk):Prop:=∀ (i:Nat) o,t.ops[i]?=some o→∀ (v:Nat) f,factOn o.pre (v:Int)=some f→v < t.vars.length→0≤f.val∧∃ n,t.vars[v]?=some n∧f.val < n
structure ByInv (w:World) (base gby:Nat) (vals:List Value) (rv:Value) (L:Nat→List Int) (R:List Int) (m:Nat):Prop where
  len:vals.length=m
  blk:Blk w gby 22 vals
  own:∀ (i:Nat) (u:Value),vals[i]?=some u→Own w base (fun _=>False) 3 u (L i)
  rest:Own w base (fun _=>False) 3 rv R
  apart:∀ (i j:Nat) (u u':Value),i≠j→vals[i]?=some u→vals[j]?=some u'→∀ g,u.ownBlock=some g→u'.ownBlock≠some g
  apartR:∀ (i:Nat) (u:Value),vals[i]?=some u→∀ g,u.ownBlock=some g→rv.ownBlock≠some g
theorem ByInv.ext {w w':World} {base gby:Nat} {vals:List Value} {rv:Value} {L:Nat→List Int} {R:List Int} {m:Nat} (h:ByInv w base gby vals rv L R m) (hE:Ext w w'):ByInv w' base gby vals rv L R m :=
  ⟨h.len,h.blk.ext hE,fun i u hu=>(h.own i u hu).ext hE fun _ hk=>hk.elim,h.rest.ext hE fun _ hk=>hk.elim,h.apart,h.apartR⟩
theorem ByInv.putRest {w w':World} {base gby:Nat} {vals:List Value} {rv rv':Value} {L:Nat→List Int} {R R':List Int} {m:Nat} (h:ByInv w base gby vals rv L R m) (hK:Kept w w' rv) (ho:Own w' base (fun _=>False) 3 rv' R')
    (hat:rv'.ownBlock=rv.ownBlock∨∃ g,rv'.ownBlock=some g∧w.heap.size≤g):ByInv w' base gby vals rv' L R' m:=by
  refine ⟨h.len,hK.blk h.blk (h.rest.blk_ne h.blk (by decide)),fun i u hu=>(h.own i u hu).kept hK (fun _ hk=>hk.elim) (h.apartR i u hu),ho,h.apart,fun i u hu g hg he=>?_⟩
  rcases hat with hat|⟨g',hat,hge⟩
  · exact h.apartR i u hu g hg (hat ▸ he)
  · have:=((h.own i u hu).lt g hg).2
    rw [hat] at he;injection he with he;omega
theorem ByInv.putVal {w w' w'':World} {base gby:Nat} {vals:List Value} {rv u v':Value} {L:Nat→List Int} {R:List Int} {m i:Nat} {xs:List Int} (h:ByInv w base gby vals rv L R m) (hu:vals[i]?=some u) (hK:Kept w w' u) (ho:Own w' base (fun _=>False) 3 v' xs)
    (hat:v'.ownBlock=u.ownBlock∨∃ g,v'.ownBlock=some g∧w.heap.size≤g) (hU:Upd w' w'' gby 22 (vals.set i v')):ByInv w'' base gby (vals.set i v') rv (fun j=>if j=i then xs else L j) R m:=by
  have hi:i < vals.length:=(List.getElem?_eq_some_iff.1 hu).1
  have key:∀ {v:Value} {ys:List Int},Own w' base (fun _=>False) 3 v ys→Own w'' base (fun _=>False) 3 v ys:=fun hv=>by
    have hne:=hv.blk_ne (hK.blk h.blk ((h.own i u hu).blk_ne h.blk (by decide))) (by decide)
    exact hv.agree (fun _ hk=>hk.elim) fun g hg=>hU.other g fun he=>hne (he ▸ hg)
  have sep:∀ {y:Value} {ys:List Int},Own w base (fun _=>False) 3 y ys→(∀ g,u.ownBlock=some g→y.ownBlock≠some g)→∀ g,v'.ownBlock=some g→y.ownBlock≠some g:=fun hy hsep g hg he=>by
    rcases hat with hat|⟨g',hat,hge⟩
    · exact hsep g (hat ▸ hg) he
    · have:=(hy.lt g he).2
      rw [hat] at hg;injection hg with hg;omega
  refine ⟨by rw [List.length_set];exact h.len,hU.blk,fun j y hy=>?_,key (h.rest.kept hK (fun _ hk=>hk.elim) fun g hg he=>h.apartR i u hu g he hg),fun j k y y' hjk hy hy' g hg=>?_,fun j y hy g hg=>?_⟩
  · by_cases hj:j=i
    · subst hj
      rw [List.getElem?_set_self hi] at hy
      injection hy with hy;subst hy
      rw [if_pos rfl];exact key ho
    · rw [List.getElem?_set_ne (Ne.symm hj)] at hy
      rw [if_neg hj]
      exact key ((h.own j y hy).kept hK (fun _ hk=>hk.elim) (h.apart j i y u hj hy hu))
  · by_cases hj:j=i
    · subst hj
      rw [List.getElem?_set_self hi] at hy
      injection hy with hy;subst hy
      rw [List.getElem?_set_ne hjk] at hy'
      exact sep (h.own k y' hy') (h.apart j k u y' hjk hu hy') g hg
    · rw [List.getElem?_set_ne (Ne.symm hj)] at hy
      by_cases hk:k=i
      · subst hk
        rw [List.getElem?_set_self hi] at hy'
        injection hy' with hy';subst hy'
        intro he
        exact sep (h.own j y hy) (h.apart k j u y (Ne.symm hj) hu hy) g he hg
      · rw [List.getElem?_set_ne (Ne.symm hk)] at hy'
        exact h.apart j k y y' hjk hy hy' g hg
  · by_cases hj:j=i
    · subst hj
      rw [List.getElem?_set_self hi] at hy
      injection hy with hy;subst hy
      exact sep h.rest (h.apartR j u hu) g hg
    · rw [List.getElem?_set_ne (Ne.symm hj)] at hy
      exact h.apartR j y hy g hg
instance:Rp Tr where
  isAgg:=false
  size:=1
  R w F cs T:=∃ q,cs=[.pointer q]∧TrR w F T (.pointer q)
  len:=by rintro w F cs x ⟨v,rfl,_⟩;rfl
  one:=by rintro w F cs x ⟨v,rfl,h⟩ u hu;simp at hu;subst hu;rfl
  agree:=by rintro w w' F cs x ⟨v,rfl,h⟩ ha;exact ⟨v,rfl,TrR.agree ha h⟩
  mono:=by rintro w F G cs x ⟨v,rfl,h⟩ ha;exact ⟨v,rfl,TrR.mono ha h⟩
def more (F:Nat→Prop) (w w':World):Nat→Prop:=fun k=>F k∨w.heap.size≤k∧k < w'.heap.size
theorem FQ {p:Int→Bool} {l:List Int} {k:Nat} {x:Int} (h:l[k]?=some x):(l.take (k + 1)).filter p=(l.take k).filter p ++ if p x=true then [x] else []:=by
  rw [List.take_add_one,h,List.filter_append]
  cases hp:p x<;>simp [hp]
theorem Nk (n:Nat):(madeCells (Value.slice none 0 0).cells (n * 1)).toList=List.replicate n (.slice none 0 0):=Lb _ n rfl
theorem genBuild (t:Tsk) (hdom:VarsOk t) (hfv:FitsVals t) (hvl:t.vars.length≤64):∀ (fuel:Nat) (w:World) (gv opsv:Value) (ops:List Int) (v:Nat) (F:Nat→Prop),GenB w (All w) gv t→Vb w F opsv ops→(∀ k,F k→k < w.heap.size)→OpsIn t ops→ops.length≤4096 →
    v≤t.vars.length→t.vars.length < fuel + v→Fn Tryz.prog 81 [gv,opsv,.int .i64 (v:Int)] w fun p w'=>TrR w' (more F w w') (mkT t fuel ops v) p∧Ext w w':=by
  intro fuel
  induction fuel with
  | zero=>intro w gv opsv ops v F _ _ _ _ _ h1 h2;omega
  | succ fuel ih =>
    intro w gv opsv ops v F hg0 hops hF hin hlen hvn hfuel
    obtain ⟨gb,a,b,c,d,rp,rfl,hgb,hbg,hvars,hinit,hgoal,hopsv⟩:=id hg0
    obtain ⟨Av,cv,rfl⟩:=hvars.form
    obtain ⟨Ax,cx,rfl⟩:=hops.form
    refine AI Tryz.func81 rfl Tryz.ntmps81 rfl ?_
    repeat (first|refine An ?_|refine Ah rfl ?_|refine Ae rfl ?_)
    refine Do rfl rfl fun w1 hN1=>?_
    refine Do rfl rfl fun w2 hN2=>?_
    have hE2:Ext w w2:=hN1.ext.trans' hN2.ext
    have hb1:Blk w2 w.heap.size 77 [.pointer (some ⟨gb,0,none⟩)]:=hN1.blk.ext hN2.ext
    have hb2:Blk w2 w1.heap.size 3 [.int .i64 (v:Int)]:=hN2.blk
    have hg12:w1.heap.size≠w.heap.size:=by rw [hN1.size];omega
    have hg2w:w.heap.size≤w1.heap.size:=hN1.ext.size
    have hz1:w1.heap.size=w.heap.size + 1:=hN1.size
    have hz2:w2.heap.size=w1.heap.size + 1:=hN2.size
    (refine Ar rfl rfl ?_<;>(refine o_z ?_))
    repeat (first|refine An ?_|refine Ah rfl ?_|refine Ae rfl ?_)
    by_cases hemp:ops.length=0
    · have:ops=[]:=List.eq_nil_of_length_eq_zero hemp
      subst this
      ((repeat (first|refine An ?_|refine Ah rfl ?_|refine Ae rfl ?_))<;>(refine Am rfl rfl ?_<;>refine AN rfl rfl ?_<;>(first|refine Mx rfl rfl rfl ?_|refine My rfl rfl rfl ?_)<;>(refine o_z ?_))<;>(repeat (first|refine An ?_|refine Ah rfl ?_|refine Ae rfl ?_))<;>(refine Ar rfl rfl ?_<;>(refine o_z ?_))<;>(repeat (first|refine An ?_|refine Ah rfl ?_|refine Ae rfl ?_)))
      exact ret1 rfl rfl ⟨rfl,hE2⟩
    have hemp':ops.isEmpty=false:=by cases ops<;>simp at *
    (refine Am rfl rfl ?_<;>refine AN rfl rfl ?_<;>(first|refine Mx rfl rfl rfl ?_|refine My rfl rfl rfl ?_)<;>(refine o_z ?_))
    refine Ae rfl (AJ ?_)
    refine LY (fun l' w'=>∃ u:Nat,subs l' [(1,.slice Ax ops.length cx),(3,.pointer (some ⟨w.heap.size,0,none⟩)),(5,.pointer (some ⟨w1.heap.size,0,none⟩))]∧Ext w w'∧Blk w' w.heap.size 77 [.pointer (some ⟨gb,0,none⟩)]∧Blk w' w1.heap.size 3 [.int .i64 (u:Int)] ∧
      v≤u∧u≤t.vars.length∧(∀ x,v≤x→x < u→tests t ops x=false)∧(u < t.vars.length→tests t ops u=true)) ?_ ?_
    · repeat (first|refine An ?_|refine Ah rfl ?_|refine Ae rfl ?_)
      refine EB (fun _:Nat=>[(1,.slice Ax ops.length cx),(3,.pointer (some ⟨w.heap.size,0,none⟩)),(5,.pointer (some ⟨w1.heap.size,0,none⟩))]) (fun u w'=>Ext w w'∧Blk w' w.heap.size 77 [.pointer (some ⟨gb,0,none⟩)]∧Blk w' w1.heap.size 3 [.int .i64 (u:Int)] ∧
        v≤u∧u≤t.vars.length∧∀ x,v≤x→x < u→tests t ops x=false) (fun u=>t.vars.length - u) v ⟨hE2,hb1,hb2,Nat.le_refl _,hvn,fun x h1 h2=>by omega⟩ ⟨rfl,rfl,rfl,trivial⟩ ?_
      rintro u w3 ⟨hE3,hb1,hb2,hvu,hun,hno⟩
      have hb3:=hbg.ext hE3
      repeat (first|refine An ?_|refine Ah rfl ?_|refine Ae rfl ?_)
      refine Cc (Ext w3) [(0,true),(1,true),(2,true),(3,true),(4,true),(5,true),(6,true),(7,true),(8,true),(9,true),(10,true),(11,false),(12,true),(13,true)] (by kernel_rfl) rfl (by kernel_rfl) (Below.refl _ _) ?_
      by_cases hlt:u < t.vars.length
      · (refine Gh rfl rfl rfl ?_<;>refine Gh rfl rfl rfl ?_<;>refine Cd rfl rfl rfl ?_<;>refine AR rfl rfl rfl ?_<;>refine AR rfl rfl rfl ?_<;>refine Gh rfl rfl rfl ?_<;>refine Jp rfl rfl rfl ?_<;>(first|refine FM rfl rfl rfl rfl ?_|refine FN rfl rfl rfl rfl ?_|refine Ff rfl rfl rfl rfl (fun _=>?_) fun _=>?_)<;>refine AH rfl rfl rfl ?_<;>(refine Az rfl ?_;(first|(refine Ay rfl rfl ?_;refine Cf rfl rfl ?_)|refine AA rfl rfl rfl rfl ?_))<;>(refine Az rfl ?_;(first|(refine Ay rfl rfl ?_;refine PO rfl rfl rfl ?_)|refine AA rfl rfl rfl rfl ?_)))
        refine BF rfl ?_
        refine Aw rfl rfl ?_
        have hV3:V w3 (.slice Ax ops.length cx) ops:=Vb.mono (Vb.agree hops (hE3.agree hF)) fun k hk=>Nat.lt_of_lt_of_le (hF k hk) hE3.size
        have hex:(∃ x∈ops,(factOn (preOf t x) (u:Int)).isSome=true)↔tests t ops u=true:=by unfold tests;rw [List.any_eq_true]
        refine CJ rfl rfl (containsFuncInts (g:=105) (caps:=[.pointer (some ⟨w.heap.size,0,none⟩),.pointer (some ⟨w1.heap.size,0,none⟩)]) (p:=fun op=>(factOn (preOf t op) (u:Int)).isSome=true) hV3 ?_) ?_ ?_
        · intro vx x w' hx hE' hvx
          obtain ⟨hvx,_⟩:=hvx
          obtain rfl:vx=.int .i64 x:=by simpa using hvx
          obtain ⟨hx0,hx1⟩:=hin x hx
          obtain ⟨j,rfl⟩:=Int.eq_ofNat_of_zero_le hx0
          obtain ⟨o,ho⟩:=AD (l:=t.ops) (k:=j) (by omega)
          refine (genBuild1 (hg0.ext (hE3.trans' hE')) ho (hb1.ext hE') (hb2.ext hE')).mono fun r w'' ⟨hr,hE''⟩=>⟨?_,hE''⟩
          rw [hr,Gf]
          simp [preOf,ho]
        · intro w4 hp hE4
          refine Ck hE4 ?_
          ((refine Az rfl ?_;(first|(refine Ay rfl rfl ?_;(first|refine NN rfl rfl ?_|refine NO rfl rfl ?_|refine NP rfl rfl ?_))|refine AA rfl rfl rfl rfl ?_))<;>(first|refine CF rfl rfl rfl rfl ?_|refine CG rfl rfl rfl rfl ?_)<;>(refine h_z ?_))
          repeat (first|refine An ?_|refine Ah rfl ?_|refine Ae rfl ?_)
          exact ⟨u,⟨rfl,rfl,rfl,trivial⟩,hE3.trans' hE4,hb1.ext hE4,hb2.ext hE4,hvu,hun,hno,fun _=>hex.1 hp⟩
        · intro w4 hp hE4
          refine Ck hE4 ?_
          ((refine Az rfl ?_;(first|(refine Ay rfl rfl ?_;(first|refine NN rfl rfl ?_|refine NO rfl rfl ?_|refine NP rfl rfl ?_))|refine AA rfl rfl rfl rfl ?_))<;>(first|refine CF rfl rfl rfl rfl ?_|refine CG rfl rfl rfl rfl ?_)<;>(refine h_z ?_))
          repeat (first|refine An ?_|refine Ah rfl ?_|refine Ae rfl ?_)
          replace hb1:=hb1.ext hE4
          replace hb2:=hb2.ext hE4
          (refine AE rfl rfl ?_<;>(first|refine FK rfl rfl ?_|refine FJ rfl rfl rfl ?_))
          refine BT rfl rfl hb2 rfl (Nat.le_refl _) (by simp [Value.cells,Value.oneCell']) fun w5 hU=>?_
          ((refine o_z ?_))
          refine ⟨u + 1,⟨rfl,rfl,rfl,trivial⟩,⟨(hE3.trans' hE4).trans (hU.below hg2w),hb1.keep (hU.other _ (fun h=>hg12 h.symm)),hU.blk,by omega,by omega,fun x h1 h2=>?_⟩,by omega⟩
          by_cases he:x=u
          · subst he
            cases hq:tests t ops x
            · rfl
            · exact absurd (hex.2 hq) hp
          · exact hno x h1 (by omega)
      · (refine Gh rfl rfl rfl ?_<;>refine Gh rfl rfl rfl ?_<;>refine Cd rfl rfl rfl ?_<;>refine AR rfl rfl rfl ?_<;>refine AR rfl rfl rfl ?_<;>refine Gh rfl rfl rfl ?_<;>refine Jp rfl rfl rfl ?_<;>(first|refine FM rfl rfl rfl rfl ?_|refine FN rfl rfl rfl rfl ?_|refine Ff rfl rfl rfl rfl (fun _=>?_) fun _=>?_)<;>refine AH rfl rfl rfl ?_<;>(refine Az rfl ?_;(first|(refine Ay rfl rfl ?_;refine Cf rfl rfl ?_)|refine AA rfl rfl rfl rfl ?_))<;>(refine Az rfl ?_;(first|(refine Ay rfl rfl ?_;refine PO rfl rfl rfl ?_)|refine AA rfl rfl rfl rfl ?_)))
        refine BF rfl ?_
        refine Au rfl rfl rfl rfl ?_
        refine Ck (Below.refl _ _) ?_
        ((refine Az rfl ?_;(first|(refine Ay rfl rfl ?_;(first|refine NN rfl rfl ?_|refine NO rfl rfl ?_|refine NP rfl rfl ?_))|refine AA rfl rfl rfl rfl ?_))<;>(first|refine CF rfl rfl rfl rfl ?_|refine CG rfl rfl rfl rfl ?_)<;>(refine h_z ?_))
        repeat (first|refine An ?_|refine Ah rfl ?_|refine Ae rfl ?_)
        exact ⟨u,⟨rfl,rfl,rfl,trivial⟩,hE3,hb1,hb2,hvu,hun,hno,fun h=>absurd h hlt⟩
    rintro l' w3 ⟨u,hsub,hE3,hb1,hb2,hvu,hun,hno,hyes⟩
    refine AP _ hsub ?_
    clear hsub
    have hnx:nextV t ops v=u:=NW t ops hvu hun hno hyes
    have hb3:=hbg.ext hE3
    have hV3:Vb w3 F (.slice Ax ops.length cx) ops:=Vb.agree hops (hE3.agree hF)
    repeat (first|refine An ?_|refine Ah rfl ?_|refine Ae rfl ?_)
    refine Cc (·=w3) [(0,true),(1,true),(2,true),(3,true),(4,true),(5,true),(6,true),(7,true)] (by kernel_rfl) rfl (by kernel_rfl) rfl ?_
    by_cases hlast:u=t.vars.length
    · (refine BZ rfl rfl rfl ?_<;>refine BZ rfl rfl rfl ?_<;>refine Cd rfl rfl rfl ?_<;>refine AR rfl rfl rfl ?_<;>refine AR rfl rfl rfl ?_<;>refine BZ rfl rfl rfl ?_<;>refine Jp rfl rfl rfl ?_<;>(first|refine OO rfl rfl rfl rfl ?_|refine OP rfl rfl rfl rfl ?_|refine OQ rfl rfl rfl rfl (fun _=>?_) fun _=>?_)<;>(refine h_z ?_))<;>(repeat (first|refine An ?_|refine Ah rfl ?_|refine Ae rfl ?_))
      (refine Am rfl rfl ?_<;>refine EK rfl rfl rfl ?_)
      refine Do rfl rfl fun w4 hN4=>?_
      (refine Ar rfl rfl ?_<;>(refine o_z ?_))
      repeat (first|refine An ?_|refine Ah rfl ?_|refine Ae rfl ?_)
      have hE4:Ext w w4:=hE3.trans' hN4.ext
      have hT:mkT t (fuel + 1) ops v=.leaf ops:=by simp only [mkT,hemp',hnx,hlast];simp
      rw [hT]
      refine ret1 rfl rfl ⟨⟨w3.heap.size,.slice Ax ops.length cx,rfl,.inr ⟨hE3.size,hN4.blk.lt⟩,hN4.blk,?_⟩,hE4⟩
      exact Vb.mono (Vb.agree hV3 (hN4.ext.agree fun k hk=>Nat.lt_of_lt_of_le (hF k hk) hE3.size)) fun k hk=>.inl hk
    have hun':u < t.vars.length:=by omega
    obtain ⟨n,hn⟩:=AD hun'
    have hn1:=hdom u n hn
    obtain ⟨m,rfl⟩:=Int.eq_ofNat_of_zero_le (show 0≤n by omega)
    have hT:mkT t (fuel + 1) ops v=.node u m (fun x=>mkT t fuel (ops.filter (valB t u x)) (u + 1)) (mkT t fuel (ops.filter (restB t u)) (u + 1)):=by
      simp only [mkT,hemp',hnx,hlast,hn];simp
    rw [hT]
    clear hT hnx
    (refine BZ rfl rfl rfl ?_<;>refine BZ rfl rfl rfl ?_<;>refine Cd rfl rfl rfl ?_<;>refine AR rfl rfl rfl ?_<;>refine AR rfl rfl rfl ?_<;>refine BZ rfl rfl rfl ?_<;>refine Jp rfl rfl rfl ?_<;>(first|refine OO rfl rfl rfl rfl ?_|refine OP rfl rfl rfl rfl ?_|refine OQ rfl rfl rfl rfl (fun _=>?_) fun _=>?_)<;>(refine h_z ?_))<;>(repeat (first|refine An ?_|refine Ah rfl ?_|refine Ae rfl ?_))
    obtain ⟨bv,ov,ce,rfl,hbv,_,hdv,rfl,_⟩:=hvars.elem hn
    refine Cc (Ext w3) [(0,true),(1,true),(2,true),(3,true),(4,true),(5,true),(6,true),(7,true),(8,false),(9,true)] (by kernel_rfl) rfl (by kernel_rfl) (Below.refl _ _) ?_
    have hb1s:=hb1
    have hb2s:=hb2
    replace hb1:∀ w',Ext w3 w'→Blk w' w.heap.size 77 [.pointer (some ⟨gb,0,none⟩)]:=fun w' h=>hb1s.ext h
    replace hb2:∀ w',Ext w3 w'→Blk w' w1.heap.size 3 [.int .i64 (u:Int)]:=fun w' h=>hb2s.ext h
    have hb3s:=hb3
    replace hb3:∀ w',Ext w3 w'→Blk w' gb 129 [.slice (some ⟨bv,ov,none⟩) t.vars.length cv,b,c,d,.pointer rp]:=fun w' h=>hb3s.ext h
    have hd1:∀ w',Ext w3 w'→cellsAt w' bv (ov + u * 1) [.int .i64 (m:Int)]:=fun w' h=>If hdv hbv (hE3.trans' h)
    ((first|refine Eq rfl rfl rfl ?_|refine AS rfl rfl rfl ?_)<;>refine Cd rfl rfl rfl ?_<;>refine AR rfl rfl rfl ?_<;>refine AR rfl rfl rfl ?_<;>(first|refine Eq rfl rfl rfl ?_|refine AS rfl rfl rfl ?_)<;>(first|refine Eq rfl rfl rfl ?_|refine AS rfl rfl rfl ?_)<;>refine Ii rfl rfl rfl rfl ?_<;>(first|refine Eq rfl rfl rfl ?_|refine AS rfl rfl rfl ?_))
    refine BF rfl ?_
    refine Jm rfl rfl (by omega) (by omega) rfl fun w4 hN4=>?_
    refine Ck hN4.ext ?_
    (refine Dv rfl rfl rfl ?_<;>(refine h_z ?_))
    have hE4:Ext w w4:=hE3.trans' hN4.ext
    have hw23:w2.heap.size≤w3.heap.size:=by have:=hb2s.lt;omega
    replace hb1:=hb1s.ext hN4.ext
    replace hb2:=hb2s.ext hN4.ext
    clear hb3 hd1
    repeat (first|refine An ?_|refine Ah rfl ?_|refine Ae rfl ?_)
    ((repeat (first|refine An ?_|refine Ah rfl ?_|refine Ae rfl ?_))<;>(refine Ar rfl rfl ?_<;>(refine o_z ?_))<;>(repeat (first|refine An ?_|refine Ah rfl ?_|refine Ae rfl ?_))<;>(refine Am rfl rfl ?_<;>refine AN rfl rfl ?_<;>refine Am rfl rfl ?_<;>(refine o_z ?_))<;>(repeat (first|refine An ?_|refine Ah rfl ?_|refine Ae rfl ?_)))
    have hby0:ByInv w4 w2.heap.size w3.heap.size (List.replicate m (.slice none 0 0)) (.slice none 0 0) (fun i=>((ops.take 0).filter (valB t u i))) ((ops.take 0).filter (restB t u)) m:=by
      have hget:∀ (i:Nat) (x:Value),(List.replicate m (Value.slice none 0 0))[i]?=some x→x=.slice none 0 0:=fun i x h=>by
        rw [List.getElem?_replicate] at h;split at h<;>simp at h;exact h.symm
      refine ⟨by simp,by have:=hN4.blk;rwa [Nk] at this,fun i x h=>?_,by simpa using Own.nil _ _ _ _,fun i j x y _ hx _ g hg=>?_,fun i x hx g hg=>?_⟩
      · rw [hget i x h];simpa using Own.nil _ _ _ _
      · rw [hget i x hx] at hg;simp [Value.ownBlock] at hg
      · rw [hget i x hx] at hg;simp [Value.ownBlock] at hg
    refine Br ops.length (by omega) (fun x:List Value×Value=>[(1,.slice Ax ops.length cx),(3,.pointer (some ⟨w.heap.size,0,none⟩)),(5,.pointer (some ⟨w1.heap.size,0,none⟩)),(7,.slice (some ⟨w3.heap.size,0,none⟩) m m),(8,x.2),(55,.slice Ax ops.length cx)])
      (fun k x w'=>Ext w w'∧Blk w' w.heap.size 77 [.pointer (some ⟨gb,0,none⟩)]∧Blk w' w1.heap.size 3 [.int .i64 (u:Int)]∧ByInv w' w2.heap.size w3.heap.size x.1 x.2 (fun i=>((ops.take k).filter (valB t u i))) ((ops.take k).filter (restB t u)) m) (List.replicate m (.slice none 0 0),.slice none 0 0)
      ⟨hE4,hb1,hb2,hby0⟩ ⟨rfl,rfl,rfl,rfl,rfl,rfl,rfl,rfl,trivial⟩ (fun _=>⟨rfl,rfl⟩) ⟨rfl,rfl,rfl⟩ ⟨rfl,rfl⟩ ?_ ?_
    · rintro k ⟨vals,rv⟩ w5 hk ⟨hE5,hb1,hb2,hby⟩
      dsimp only at hby
      obtain ⟨x,hx⟩:=AD hk
      obtain ⟨hx0,hx1⟩:=hin x (List.mem_of_getElem? hx)
      obtain ⟨j,rfl⟩:=Int.eq_ofNat_of_zero_le hx0
      obtain ⟨o,ho⟩:=AD (l:=t.ops) (k:=j) (by omega)
      have hpre:preOf t (j:Int)=o.pre:=by simp [preOf,ho]
      obtain ⟨b2,o2,ce,rfl,hbF,_,hd0,rfl,hxin⟩:=hops.elem hx
      have hd1:=If hd0 (hF _ hbF) hE5
      ((repeat (first|refine An ?_|refine Ah rfl ?_|refine Ae rfl ?_))<;>(refine CP rfl rfl rfl ?_<;>refine AE rfl rfl ?_<;>refine Ar rfl rfl ?_<;>(refine o_z ?_))<;>(repeat (first|refine An ?_|refine Ah rfl ?_|refine Ae rfl ?_))<;>(refine AE rfl rfl ?_<;>refine Am rfl rfl ?_<;>refine AE rfl rfl ?_)<;>(repeat (first|refine An ?_|refine Ah rfl ?_|refine Ae rfl ?_)))
      refine Bc rfl rfl (genFact (hg0.ext hE5) ho) ?_
      rintro _ w6 ⟨rfl,hE6⟩
      replace hb1:=hb1.ext hE6
      replace hb2:=hb2.ext hE6
      replace hby:=hby.ext hE6
      have hE06:Ext w w6:=hE5.trans' hE6
      have hkl:((ops.take k).filter (restB t u)).length≤4096:=Nat.le_trans (List.length_filter_le _ _) (by rw [List.length_take];omega)
      cases hf:factOn o.pre (u:Int) with
      | none =>
        simp only [factV]
        (refine Am rfl rfl ?_<;>refine Bz rfl rfl rfl ?_<;>refine Bz rfl rfl rfl ?_)
        refine BU rfl rfl rfl (by simp [Value.cells,Value.oneCell']) fun w7 hN7=>?_
        replace hb1:=hb1.ext hN7.ext
        replace hb2:=hb2.ext hN7.ext
        replace hby:=hby.ext hN7.ext
        have hE7:Ext w w7:=hE06.trans' hN7.ext
        (refine Ar rfl rfl ?_<;>(refine o_z ?_))
        repeat (first|refine An ?_|refine Ah rfl ?_|refine Ae rfl ?_)
        ((repeat (first|refine An ?_|refine Ah rfl ?_|refine Ae rfl ?_))<;>(refine Am rfl rfl ?_<;>(refine o_z ?_))<;>(repeat (first|refine An ?_|refine Ah rfl ?_|refine Ae rfl ?_)))
        (refine Am rfl rfl ?_<;>refine Am rfl rfl ?_)
        have hl2:=hb2.lt
        refine KZ (a:=(j:Int)) rfl rfl rfl hby.rest (fun _ h=>h.elim) (by omega) ⟨rfl,hxin⟩ (by decide) (by decide) (by omega) (by omega) ⟨rfl,rfl⟩ fun rv' w8 ho8 hK8 hat=>?_
        have hB8:Below w2.heap.size w7 w8:=hby.rest.fits (Nat.le_refl _) (by omega) hK8
        have hby8:=hby.putRest hK8 ho8 hat
        (refine Ar rfl rfl ?_<;>(refine o_z ?_))
        repeat (first|refine An ?_|refine Ah rfl ?_|refine Ae rfl ?_)
        refine ⟨(vals,rv'),⟨rfl,rfl,rfl,rfl,rfl,rfl,rfl,rfl,trivial⟩,hE7.trans (hB8.mono (by omega)),hb1.keep (hB8.block _ (by omega)),hb2.keep (hB8.block _ (by omega)),?_⟩
        have e1:∀ i,(ops.take (k + 1)).filter (valB t u i)=(ops.take k).filter (valB t u i):=fun i=>by rw [FQ hx];simp [valB,hpre,hf]
        have e2:(ops.take (k + 1)).filter (restB t u)=(ops.take k).filter (restB t u) ++ [(j:Int)]:=by rw [FQ hx];simp [restB,hpre,hf]
        dsimp only
        rw [e2]
        simp only [e1]
        exact hby8
      | some f =>
        obtain ⟨hf0,n',hn',hf1⟩:=hfv j o ho u f hf hun'
        rw [hn] at hn';injection hn' with hn';subst hn'
        obtain ⟨x0,hj1⟩:=Int.eq_ofNat_of_zero_le hf0
        have hx0m:x0 < m:=by omega
        obtain ⟨u0,hu0⟩:=AD (l:=vals) (k:=x0) (by rw [hby.len];exact hx0m)
        simp only [factV]
        (refine Am rfl rfl ?_<;>refine Bz rfl rfl rfl ?_<;>refine Bz rfl rfl rfl ?_)
        refine BU rfl rfl rfl (by simp [Value.cells,Value.oneCell']) fun w7 hN7=>?_
        replace hb1:=hb1.ext hN7.ext
        replace hb2:=hb2.ext hN7.ext
        replace hby:=hby.ext hN7.ext
        have hE7:Ext w w7:=hE06.trans' hN7.ext
        have hbf:=hN7.blk
        (refine Ar rfl rfl ?_<;>(refine o_z ?_))
        repeat (first|refine An ?_|refine Ah rfl ?_|refine Ae rfl ?_)
        ((repeat (first|refine An ?_|refine Ah rfl ?_|refine Ae rfl ?_))<;>(refine Am rfl rfl ?_<;>(refine o_z ?_))<;>(repeat (first|refine An ?_|refine Ah rfl ?_|refine Ae rfl ?_)))
        have hl2:=hb2.lt
        have hown0:=hby.own x0 u0 hu0
        have hkl0:((ops.take k).filter (valB t u x0)).length≤4096:=Nat.le_trans (List.length_filter_le _ _) (by rw [List.length_take];omega)
        refine Cc (fun w'=>Blk w' w6.heap.size 123 [.int .i64 f.var,.int .i64 f.val]∧Blk w' w3.heap.size 22 vals) [(0,true),(1,true),(2,true),(3,true),(4,true),(5,true),(6,true),(7,true),(8,true),(9,false),(10,false),(11,true),(12,false)] (by kernel_rfl) rfl (by kernel_rfl) ⟨hbf,hby.blk⟩ ?_
        have hb1s:=hb1
        have hb2s:=hb2
        clear hb2
        replace hb1:∀ w',(Blk w' w6.heap.size 123 [.int .i64 f.var,.int .i64 f.val]∧Blk w' w3.heap.size 22 vals)→Blk w' w6.heap.size 123 [.int .i64 f.var,.int .i64 f.val]:=fun _ h=>h.1
        have hc1:∀ w',(Blk w' w6.heap.size 123 [.int .i64 f.var,.int .i64 f.val]∧Blk w' w3.heap.size 22 vals)→w'.cell? ⟨w3.heap.size,0 + x0 * 1,none⟩=some u0:=fun _ h=>h.2.cell (by rw [Nat.zero_add,Nat.mul_one];exact hu0)
        (refine AH rfl rfl rfl ?_<;>refine AR rfl rfl rfl ?_<;>(first|refine Eq rfl rfl rfl ?_|refine AS rfl rfl rfl ?_)<;>refine AH rfl rfl rfl ?_<;>refine AR rfl rfl rfl ?_<;>(first|refine Eq rfl rfl rfl ?_|refine AS rfl rfl rfl ?_)<;>refine Ii rfl rfl rfl rfl ?_<;>(first|refine Eq rfl rfl rfl ?_|refine AS rfl rfl rfl ?_)<;>refine AH rfl rfl rfl ?_)
        refine BF rfl ?_
        refine DA rfl rfl rfl (by simp [Value.cells]) (by decide) rfl fun w8 hN8=>?_
        refine Ck ⟨hbf.ext hN8.ext,hby.blk.ext hN8.ext⟩ ?_
        refine BF rfl ?_
        refine EQ (α:=Int) (A:=some ⟨w7.heap.size,0,none⟩) (c:=1) (ys:=[(j:Int)]) (cells:=[.int .i64 (j:Int)]) rfl rfl (hown0.ext hN8.ext fun _ h=>h.elim) (fun _ h=>h.elim) (by have:=hN8.size;omega) (.single ⟨rfl,hxin⟩) (fun _=>⟨_,_,rfl,hN8.blk.cellsAt⟩) (by decide) (by rw [List.length_singleton];omega) (by rw [List.length_singleton];omega) rfl fun v' w9 ho9 hg9 hat=>?_
        have hK9:Kept w7 w9 u0:=⟨hg9.os.trans hN8.ext.os,hg9.tape.trans hN8.ext.tape,hg9.output.trans hN8.ext.output,Nat.le_trans hN8.ext.size hg9.size,fun k hk hne=>by rw [hg9.block k (Nat.lt_of_lt_of_le hk hN8.ext.size) (fun he=>hne he.symm),hN8.ext.block k hk]⟩
        have hbf9:=hK9.blk hbf (hown0.blk_ne hbf (by decide))
        have hby9:=hK9.blk hby.blk (hown0.blk_ne hby.blk (by decide))
        have hB9:Below w2.heap.size w7 w9:=hown0.fits (Nat.le_refl _) (by omega) hK9
        refine Ck ⟨hbf9,hby9⟩ ?_
        (refine Ii rfl rfl rfl rfl ?_)
        refine BF rfl ?_
        obtain ⟨A9,c9,rfl⟩:=ho9.form
        refine BT (g:=w3.heap.size) (o:=0 + x0 * 1) rfl rfl hby9 rfl (by rw [hby.len];show 0 + x0 * 1 + 1≤m;omega) (by simp [Value.cells,Value.oneCell']) fun w10 hU=>?_
        have hset:setFrom vals (0 + x0 * 1) [.slice A9 (List.filter (valB t u x0) (List.take k ops) ++ [(j:Int)]).length c9]=vals.set x0 (.slice A9 (List.filter (valB t u x0) (List.take k ops) ++ [(j:Int)]).length c9):=by rw [Nat.zero_add,Nat.mul_one];rfl
        have hU':Upd w9 w10 w3.heap.size 22 (vals.set x0 (.slice A9 (List.filter (valB t u x0) (List.take k ops) ++ [(j:Int)]).length c9)):=hset ▸ hU
        have hby10:=hby.putVal hu0 hK9 ho9 (by
          rcases hat with hat|hat
          · exact .inl hat
          · exact .inr ⟨_,hat,hN8.ext.size⟩) hU'
        have hB10:Below w2.heap.size w9 w10:=hU.below hw23
        refine Fj ?_
        ((refine h_z ?_))
        repeat (first|refine An ?_|refine Ah rfl ?_|refine Ae rfl ?_)
        refine ⟨(vals.set x0 (.slice A9 (List.filter (valB t u x0) (List.take k ops) ++ [(j:Int)]).length c9),rv),⟨rfl,rfl,rfl,rfl,rfl,rfl,rfl,rfl,trivial⟩,hE7.trans ((hB9.trans hB10).mono (by omega)),hb1s.keep ((hB9.trans hB10).block _ (by omega)),hb2s.keep ((hB9.trans hB10).block _ (by omega)),?_⟩
        have e1:∀ i,(ops.take (k + 1)).filter (valB t u i)=if i=x0 then (ops.take k).filter (valB t u x0) ++ [(j:Int)] else (ops.take k).filter (valB t u i):=fun i=>by
          rw [FQ hx]
          by_cases hi:i=x0
          · subst hi;simp [valB,hpre,hf,hj1]
          · have:¬ (f.val=(i:Int)):=by omega
            simp [valB,hpre,hf,hi,this]
        have e2:(ops.take (k + 1)).filter (restB t u)=(ops.take k).filter (restB t u):=by rw [FQ hx];simp [restB,hpre,hf]
        dsimp only
        rw [e2]
        simp only [e1]
        exact hby10
    rintro ⟨vals,rv⟩ w5 ⟨hE5,hb1,hb2,hby⟩
    dsimp only at hby
    rw [List.take_length] at hby
    have hl2:=hb2.lt
    have hb1s:=hb1
    have hb2s:=hb2
    have hflt:∀ p:Int→Bool,OpsIn t (ops.filter p)∧(ops.filter p).length≤4096:=fun p=>⟨fun x hx=>hin x (List.mem_filter.1 hx).1,Nat.le_trans (List.length_filter_le _ _) hlen⟩
    have hrv:Vb w5 (fun k=>rv.ownBlock=some k) rv (ops.filter (restB t u)):=hby.rest.vb.mono fun k hk=>hk.resolve_left id
    repeat (first|refine An ?_|refine Ah rfl ?_|refine Ae rfl ?_)
    refine Cc (Ext w5) [(0,true),(1,true),(2,true),(3,true),(4,true),(5,false),(6,true),(7,false),(8,true)] (by kernel_rfl) rfl (by kernel_rfl) (Below.refl _ _) ?_
    (refine Gh rfl rfl rfl ?_<;>refine Gh rfl rfl rfl ?_<;>refine AH rfl rfl rfl ?_<;>refine Gh rfl rfl rfl ?_<;>(first|refine PM rfl rfl rfl ?_|refine PL rfl rfl rfl rfl ?_))
    refine BF rfl ?_
    refine Bc rfl rfl (ih w5 _ rv _ (u + 1) (fun k=>rv.ownBlock=some k) (hg0.ext hE5) hrv (fun k hk=>(hby.rest.lt k hk).2) (hflt _).1 (hflt _).2 (by omega) (by omega)) ?_
    rintro p6 w6 ⟨hT6,hE6⟩
    obtain ⟨q6,rfl⟩:=hT6.form
    refine Ck hE6 ?_
    (refine Fu rfl rfl rfl rfl ?_)
    refine BF rfl ?_
    refine Do rfl rfl fun w7 hN7=>?_
    refine Ck (hE6.trans' hN7.ext) ?_
    (refine Dv rfl rfl rfl ?_<;>(refine h_z ?_))
    have hnode:Blk w7 w6.heap.size 172 [.slice none 0 0,.bool false,.int .i64 (u:Int),.slice none 0 0,.pointer q6]:=hN7.blk
    have hby6:=hby.ext hE6
    repeat (first|refine An ?_|refine Ah rfl ?_|refine Ae rfl ?_)
    ((repeat (first|refine An ?_|refine Ah rfl ?_|refine Ae rfl ?_))<;>(refine Am rfl rfl ?_<;>refine AN rfl rfl ?_<;>refine Am rfl rfl ?_<;>(refine o_z ?_))<;>(repeat (first|refine An ?_|refine Ah rfl ?_|refine Ae rfl ?_)))
    refine Br m (by omega) (fun x:Value=>[(3,.pointer (some ⟨w.heap.size,0,none⟩)),(5,.pointer (some ⟨w1.heap.size,0,none⟩)),(13,.pointer (some ⟨w6.heap.size,0,none⟩)),(94,.slice (some ⟨w3.heap.size,0,none⟩) m m)])
      (fun k x w'=>Ext w6 w'∧Blk w' w6.heap.size 172 [.slice none 0 0,.bool false,.int .i64 (u:Int),x,.pointer q6]∧∃ G:Nat→Prop,(∀ k,G k→k < w'.heap.size∧w2.heap.size≤k)∧¬ G w6.heap.size∧Own w' w7.heap.size G 127 x ((List.range k).map fun i=>mkT t fuel (ops.filter (valB t u i)) (u + 1))) (.slice none 0 0)
      ⟨hN7.ext,hnode,fun _=>False,fun _ h=>h.elim,id,Own.nil _ _ _ _⟩ ⟨rfl,rfl,rfl,rfl,rfl,rfl,trivial⟩ (fun _=>⟨rfl,rfl⟩) ⟨rfl,rfl,rfl⟩ ⟨rfl,rfl⟩ ?_ ?_
    · rintro k xv w8 hk ⟨hE8,hnd,G,hG,hGn,hown⟩
      obtain ⟨u0,hu0⟩:=AD (l:=vals) (k:=k) (by rw [hby.len];exact hk)
      have hby8:=hby6.ext hE8
      have hE58:Ext w5 w8:=hE6.trans' hE8
      have hE08:Ext w w8:=hE5.trans' hE58
      have hc1:w8.cell? ⟨w3.heap.size,0 + k * 1,none⟩=some u0:=hby8.blk.cell (by rw [Nat.zero_add,Nat.mul_one];exact hu0)
      have hown0:=hby8.own k u0 hu0
      obtain ⟨Ak,ck,rfl⟩:=hown0.form
      obtain ⟨Ax',cx',rfl⟩:=hown.form
      have hz78:w7.heap.size≤w8.heap.size:=by have:=hnd.lt;have:=hN7.size;omega
      ((repeat (first|refine An ?_|refine Ah rfl ?_|refine Ae rfl ?_))<;>(refine CP rfl rfl rfl ?_<;>refine AE rfl rfl ?_<;>refine Ar rfl rfl ?_<;>(refine o_z ?_))<;>(repeat (first|refine An ?_|refine Ah rfl ?_|refine Ae rfl ?_)))
      refine Cc (fun w'=>Blk w' w6.heap.size 172 [.slice none 0 0,.bool false,.int .i64 (u:Int),.slice Ax' ((List.range k).map fun i=>mkT t fuel (ops.filter (valB t u i)) (u + 1)).length cx',.pointer q6]∧Blk w' w.heap.size 77 [.pointer (some ⟨gb,0,none⟩)]∧Blk w' w1.heap.size 3 [.int .i64 (u:Int)]) [(0,true),(1,true),(2,true),(3,true),(4,true),(5,true),(6,true),(7,true),(8,true),(9,false),(10,false),(11,false),(12,true),(13,true),(14,false)] (by kernel_rfl) rfl (by kernel_rfl) ⟨hnd,hb1s.ext hE58,hb2s.ext hE58⟩ ?_
      have hS8:∀ w',Ext w8 w'→Blk w' w6.heap.size 172 [.slice none 0 0,.bool false,.int .i64 (u:Int),.slice Ax' ((List.range k).map fun i=>mkT t fuel (ops.filter (valB t u i)) (u + 1)).length cx',.pointer q6]∧Blk w' w.heap.size 77 [.pointer (some ⟨gb,0,none⟩)]∧Blk w' w1.heap.size 3 [.int .i64 (u:Int)]:=fun w' h=>⟨hnd.ext h,(hb1s.ext hE58).ext h,(hb2s.ext hE58).ext h⟩
      clear hb1 hb2 hc1
      have hb1:∀ w',(Blk w' w6.heap.size 172 [.slice none 0 0,.bool false,.int .i64 (u:Int),.slice Ax' ((List.range k).map fun i=>mkT t fuel (ops.filter (valB t u i)) (u + 1)).length cx',.pointer q6]∧Blk w' w.heap.size 77 [.pointer (some ⟨gb,0,none⟩)]∧Blk w' w1.heap.size 3 [.int .i64 (u:Int)])→Blk w' w6.heap.size 172 [.slice none 0 0,.bool false,.int .i64 (u:Int),.slice Ax' ((List.range k).map fun i=>mkT t fuel (ops.filter (valB t u i)) (u + 1)).length cx',.pointer q6]:=fun _ h=>h.1
      have hb2:∀ w',(Blk w' w6.heap.size 172 [.slice none 0 0,.bool false,.int .i64 (u:Int),.slice Ax' ((List.range k).map fun i=>mkT t fuel (ops.filter (valB t u i)) (u + 1)).length cx',.pointer q6]∧Blk w' w.heap.size 77 [.pointer (some ⟨gb,0,none⟩)]∧Blk w' w1.heap.size 3 [.int .i64 (u:Int)])→Blk w' w.heap.size 77 [.pointer (some ⟨gb,0,none⟩)]:=fun _ h=>h.2.1
      have hb3:∀ w',(Blk w' w6.heap.size 172 [.slice none 0 0,.bool false,.int .i64 (u:Int),.slice Ax' ((List.range k).map fun i=>mkT t fuel (ops.filter (valB t u i)) (u + 1)).length cx',.pointer q6]∧Blk w' w.heap.size 77 [.pointer (some ⟨gb,0,none⟩)]∧Blk w' w1.heap.size 3 [.int .i64 (u:Int)])→Blk w' w1.heap.size 3 [.int .i64 (u:Int)]:=fun _ h=>h.2.2
      (refine AH rfl rfl rfl ?_<;>refine AH rfl rfl rfl ?_<;>refine Cd rfl rfl rfl ?_<;>refine AR rfl rfl rfl ?_<;>(first|refine Eq rfl rfl rfl ?_|refine AS rfl rfl rfl ?_)<;>(first|refine Eq rfl rfl rfl ?_|refine AS rfl rfl rfl ?_)<;>refine AH rfl rfl rfl ?_<;>(first|refine Eq rfl rfl rfl ?_|refine AS rfl rfl rfl ?_)<;>(first|refine PM rfl rfl rfl ?_|refine PL rfl rfl rfl rfl ?_))
      refine BF rfl ?_
      have hu0v:Vb w8 (fun q=>(Value.slice Ak (ops.filter (valB t u k)).length ck).ownBlock=some q) (.slice Ak (ops.filter (valB t u k)).length ck) (ops.filter (valB t u k)):=hown0.vb.mono fun q hq=>hq.resolve_left id
      refine Bc rfl rfl (ih w8 _ _ _ (u + 1) _ (hg0.ext hE08) hu0v (fun q hq=>(hown0.lt q hq).2) (hflt _).1 (hflt _).2 (by omega) (by omega)) ?_
      rintro p9 w9 ⟨hT9,hE9⟩
      obtain ⟨q9,rfl⟩:=hT9.form
      refine Ck (hS8 w9 hE9) ?_
      refine BF rfl ?_
      refine DA rfl rfl rfl (by simp [Value.cells]) (by decide) rfl fun w10 hN10=>?_
      have hE10:Ext w8 w10:=hE9.trans' hN10.ext
      refine Ck (hS8 w10 hE10) ?_
      have hG':∀ q,(G q∨(Value.slice Ak (ops.filter (valB t u k)).length ck).ownBlock=some q∨w8.heap.size≤q∧q < w9.heap.size)→q < w9.heap.size∧w2.heap.size≤q:=fun q hq=>by
        have h9:=hE9.size
        have h6:=hE6.size
        have h7:=hN7.size
        rcases hq with hq|hq|hq
        · have:=hG q hq;exact ⟨by omega,this.2⟩
        · have:=hown0.lt q hq;exact ⟨by omega,this.1⟩
        · exact ⟨hq.2,by omega⟩
      have hGx:∀ g,(Value.slice Ax' ((List.range k).map fun i=>mkT t fuel (ops.filter (valB t u i)) (u + 1)).length cx').ownBlock=some g→¬ (G g∨(Value.slice Ak (ops.filter (valB t u k)).length ck).ownBlock=some g∨w8.heap.size≤g∧g < w9.heap.size):=fun g hg h=>by
        rcases h with h|h|h
        · obtain ⟨_,_,_,h3⟩:=hown;exact h3 g hg h
        · exact hown.own_ne hown0 (by decide) g hg h
        · have:=(hown.lt g hg).2;omega
      have hownG:Own w9 w7.heap.size (fun q=>G q∨(Value.slice Ak (ops.filter (valB t u k)).length ck).ownBlock=some q∨w8.heap.size≤q∧q < w9.heap.size) 127 _ _:=(hown.ext hE9 fun q hq=>(hG q hq).1).mono (fun q hq=>.inl hq) hGx
      have hch:Chunks w10 (fun q=>G q∨(Value.slice Ak (ops.filter (valB t u k)).length ck).ownBlock=some q∨w8.heap.size≤q∧q < w9.heap.size) [.pointer q9] [mkT t fuel (ops.filter (valB t u k)) (u + 1)] :=
        .single (show Rp.R w10 _ [.pointer q9] _ from ⟨q9,rfl,TrR.agree (hN10.ext.agree fun q hq=>(hG' q hq).1) (TrR.mono (fun q hq=>by
          rcases hq with hq|hq
          · exact .inr (.inl hq)
          · exact .inr (.inr hq)) hT9)⟩)
      refine BF rfl ?_
      have hmk:((List.range k).map fun i=>mkT t fuel (ops.filter (valB t u i)) (u + 1)).length≤64:=by simp;omega
      refine EQ (α:=Tr) (A:=some ⟨w9.heap.size,0,none⟩) (c:=1) (ys:=[mkT t fuel (ops.filter (valB t u k)) (u + 1)]) (cells:=[.pointer q9]) rfl rfl (hownG.ext hN10.ext fun q hq=>(hG' q hq).1) (fun q hq=>Nat.lt_of_lt_of_le (hG' q hq).1 hN10.ext.size) (by have:=hE10.size;omega) hch (fun _=>⟨_,_,rfl,hN10.blk.cellsAt⟩) (by decide) (by rw [List.length_singleton];omega) (by rw [List.length_singleton];omega) rfl fun v' w11 ho11 hg11 hat=>?_
      have hown10:=hown.ext hE10 fun q hq=>(hG q hq).1
      have hK11:Kept w8 w11 (.slice Ax' ((List.range k).map fun i=>mkT t fuel (ops.filter (valB t u i)) (u + 1)).length cx'):=⟨hg11.os.trans hE10.os,hg11.tape.trans hE10.tape,hg11.output.trans hE10.output,Nat.le_trans hE10.size hg11.size,fun q hq hne=>by rw [hg11.block q (Nat.lt_of_lt_of_le hq hE10.size) (fun he=>hne he.symm),hE10.block q hq]⟩
      have hB11:Below w7.heap.size w8 w11:=hown.fits (Nat.le_refl _) hz78 hK11
      have hnd11:=hK11.blk hnd (hown.blk_ne hnd (by decide))
      have hz67:=hN7.size
      refine Ck ⟨hnd11,(hb1s.ext hE58).keep (hB11.block _ (by have:=hE6.size;omega)),(hb2s.ext hE58).keep (hB11.block _ (by have:=hE6.size;omega))⟩ ?_
      (refine Cd rfl rfl rfl ?_<;>refine AR rfl rfl rfl ?_)
      refine BF rfl ?_
      obtain ⟨A11,c11,rfl⟩:=ho11.form
      refine BT (g:=w6.heap.size) rfl rfl hnd11 rfl (show 0 + 3 + 1≤5 by decide) (by simp [Value.cells,Value.oneCell']) fun w12 hU=>?_
      refine Fj ?_
      ((refine h_z ?_))
      repeat (first|refine An ?_|refine Ah rfl ?_|refine Ae rfl ?_)
      refine ⟨_,⟨rfl,rfl,rfl,rfl,rfl,rfl,trivial⟩,?_,hU.blk,(fun q=>G q∨(Value.slice Ak (ops.filter (valB t u k)).length ck).ownBlock=some q∨w8.heap.size≤q∧q < w9.heap.size),?_,?_,?_⟩
      · exact hE8.trans ((hB11.mono (by omega)).trans (hU.below (Nat.le_refl _)))
      · intro q hq
        have:=hG' q hq
        have h1:=hN10.ext.size
        have h2:=hg11.size
        exact ⟨by rw [hU.size];omega,this.2⟩
      · rintro (h|h|h)
        · exact hGn h
        · exact hown0.blk_ne hnd (by decide) h
        · have:=hnd.lt;omega
      · rw [List.range_succ,List.map_append]
        have hne:(Value.slice A11 (((List.range k).map fun i=>mkT t fuel (ops.filter (valB t u i)) (u + 1)) ++ [mkT t fuel (ops.filter (valB t u k)) (u + 1)]).length c11).ownBlock≠some w6.heap.size:=ho11.blk_ne hnd11 (by decide)
        exact ho11.agree (hU.agree (by
          rintro (h|h|h)
          · exact hGn h
          · exact hown0.blk_ne hnd (by decide) h
          · have:=hnd.lt;omega)) fun g hg=>hU.other g fun he=>hne (he ▸ hg)
    rintro xv w8 ⟨hE8,hnd,G,hG,hGn,hown⟩
    repeat (first|refine An ?_|refine Ah rfl ?_|refine Ae rfl ?_)
    ((repeat (first|refine An ?_|refine Ah rfl ?_|refine Ae rfl ?_))<;>(refine Am rfl rfl ?_<;>refine Ar rfl rfl ?_<;>(refine o_z ?_))<;>(repeat (first|refine An ?_|refine Ah rfl ?_|refine Ae rfl ?_)))
    have hE08:Ext w w8:=hE5.trans' (hE6.trans' hE8)
    obtain ⟨Ax',cx',rfl⟩:=hown.form
    have hxl:((List.range m).map fun i=>mkT t fuel (ops.filter (valB t u i)) (u + 1)).length=m:=by simp
    rw [hxl] at hnd
    refine ret1 rfl rfl ⟨⟨w6.heap.size,Ax',cx',q6,rfl,.inr ⟨by have:=hE5.size;have:=hE6.size;omega,hnd.lt⟩,hnd,?_,fun i hi=>?_⟩,hE08⟩
    · refine TrR.mono (fun q hq=>?_) (TrR.agree (hE8.agree fun q hq=>?_) hT6)
      · rcases hq with hq|hq
        · have:=hby.rest.lt q hq;have:=hE6.size;have:=hE8.size;exact .inr ⟨by omega,by omega⟩
        · have:=hE8.size;have:=hE5.size;exact .inr ⟨by omega,by omega⟩
      · rcases hq with hq|hq
        · have:=hby.rest.lt q hq;have:=hE6.size;omega
        · exact hq.2
    · have hvb:=hown.vb
      obtain ⟨b9,o9,cs9,hA,hF9,_,hc9,q9,rfl,hT9⟩:=hvb.elem (k:=i) (x:=mkT t fuel (ops.filter (valB t u i)) (u + 1)) (by rw [List.getElem?_map,List.getElem?_range hi];rfl)
      have hsub:∀ q,(G q∨(Value.slice Ax' ((List.range m).map fun i=>mkT t fuel (ops.filter (valB t u i)) (u + 1)).length cx').ownBlock=some q)→more F w w8 q:=fun q hq=>by
        rcases hq with hq|hq
        · have:=hG q hq;exact .inr ⟨by omega,this.1⟩
        · have h1:=hown.lt q hq;have:=hN7.size;have:=hE6.size;exact .inr ⟨by omega,h1.2⟩
      exact ⟨b9,o9,q9,hA,hsub _ hF9,by have:=hc9.1;rwa [show i * Rp.size Tr=i from Nat.mul_one i] at this,TrR.mono hsub hT9⟩
end
section
open Go Go.RowKit
attribute [local irreducible] ewp owp hwp hwq hws Ev Evg Fn retPost loud loudS Res1
def nw (w w':World):Nat→Prop:=fun k=>w.heap.size≤k∧k < w'.heap.size
theorem JM {w:World} {F G:Nat→Prop}:∀ {xs:List Fct} {cells:List Value},Chunks w F cells xs→Chunks w G cells xs
  | [],_,h=>h
  | _ :: _,_,⟨cs,rest,he,hr,hc⟩=>⟨cs,rest,he,hr,JM hc⟩
theorem GV {w:World} {F G:Nat→Prop}:∀ {xs:List Int} {cells:List Value},Chunks w F cells xs→Chunks w G cells xs
  | [],_,h=>h
  | _ :: _,_,⟨cs,rest,he,hr,hc⟩=>⟨cs,rest,he,hr,GV hc⟩
theorem cloneIntsN {w:World} {sv:Value} {xs:List Int} (hs:V w sv xs) (hl:xs.length≤1000000):Fn Tryz.prog 55 [sv] w fun v w'=>Vb w' (nw w w') v xs∧Ext w w' :=
  (cloneInts hs (by omega)).mono fun v w' ⟨ho,hE⟩=>⟨by
    obtain ⟨cells,q1,q2,q3⟩:=id ho
    have ho':Own w' w.heap.size (fun _=>False) 3 v xs:=⟨cells,q1,GV q2,fun _ _ h=>h⟩
    exact ho'.vb.mono fun k hk=>ho.lt k (hk.resolve_left id),hE⟩
theorem cloneFactsN {w:World} {sv:Value} {xs:List Fct} (hs:V w sv xs) (hl:xs.length≤1000000):Fn Tryz.prog 84 [sv] w fun v w'=>Vb w' (nw w w') v xs∧Ext w w' :=
  (cloneFacts hs (by omega)).mono fun v w' ⟨ho,hE⟩=>⟨by
    obtain ⟨cells,q1,q2,q3⟩:=id ho
    have ho':Own w' w.heap.size (fun _=>False) 123 v xs:=⟨cells,q1,JM q2,fun _ _ h=>h⟩
    exact ho'.vb.mono fun k hk=>ho.lt k (hk.resolve_left id),hE⟩
theorem Vb.nwext {α:Type} [Rp α] {w w' w'':World} {v:Value} {x:α} (h:Vb w' (nw w w') v x) (hE:Ext w' w''):Vb w'' (nw w w') v x:=h.agree (hE.agree fun _ hk=>hk.2)
theorem genCopied {w:World} {tv:Value} {t:Tsk} (ht:V w tv t) (hl1:t.vars.length≤1000000) (hl2:t.init.length≤1000000) (hl3:t.goal.length≤1000000) (hl4:t.ops.length≤1000000)
    (hl5:∀ (i:Nat) o,t.ops[i]?=some o→o.pre.length≤1000000∧o.effs.length≤1000000∧∀ (j:Nat) e,o.effs[j]?=some e→e.cond.length≤1000000) :
    Fn Tryz.prog 80 [tv] w fun v w'=>Vb w' (nw w w') v t∧Ext w w':=by
  obtain ⟨cs,rfl,a,b,c,d,rfl,hvars,hinit,hgoal,hops⟩:=ht
  obtain ⟨Av,cv,rfl⟩:=hvars.form
  obtain ⟨Ai,ci,rfl⟩:=hinit.form
  obtain ⟨Ag,cg,rfl⟩:=hgoal.form
  obtain ⟨Ao,co,rfl⟩:=hops.form
  refine AI Tryz.func80 rfl Tryz.ntmps80 rfl ?_
  repeat (first|refine An ?_|refine Ah rfl ?_|refine Ae rfl ?_)
  refine Do rfl rfl fun w1 hN1=>?_
  refine DS rfl fun w2 hN2=>?_
  have hE2:Ext w w2:=hN1.ext.trans' hN2.ext
  have hz1:w1.heap.size=w.heap.size + 1:=hN1.size
  have hz2:w2.heap.size=w1.heap.size + 1:=hN2.size
  have hb1:Blk w2 w.heap.size 26 [.slice Av t.vars.length cv,.slice Ai t.init.length ci,.slice Ag t.goal.length cg,.slice Ao t.ops.length co]:=hN1.blk.ext hN2.ext
  have hres:Blk w2 w1.heap.size 26 [.slice none 0 0,.slice none 0 0,.slice none 0 0,.slice none 0 0]:=hN2.blk
  ((refine o_z ?_))
  refine LY (fun l' w'=>∃ g3 av bv cv',subs l' [(1,.pointer (some ⟨w.heap.size,0,none⟩)),(2,.pointer (some ⟨w1.heap.size,0,none⟩)),(3,.pointer (some ⟨g3,0,none⟩))]∧Ext w2 w'∧w2.heap.size≤g3∧Blk w' g3 26 [av,bv,cv',.slice none 0 0] ∧
    Vb w' (fun k=>nw w2 w' k∧k≠g3) av t.vars∧Vb w' (fun k=>nw w2 w' k∧k≠g3) bv t.init∧Vb w' (fun k=>nw w2 w' k∧k≠g3) cv' t.goal) ?_ ?_
  · have q0:∀ w',Ext w2 w'→Blk w' w.heap.size 26 [.slice Av t.vars.length cv,.slice Ai t.init.length ci,.slice Ag t.goal.length cg,.slice Ao t.ops.length co]:=fun w' h=>hb1.ext h
    refine Nb (Ext w2) ?_
    refine IK (i:=0) rfl (by kernel_rfl) (by kernel_rfl) (by kernel_rfl) rfl rfl (evg fun _ _=>Cj rfl) (Below.refl _ _) ?_
    refine IK (i:=1) rfl (by kernel_rfl) (by kernel_rfl) (by kernel_rfl) rfl rfl (evg fun _ hS=>Cz rfl ((hb1.ext hS).cell rfl)) (Below.refl _ _) ?_
    refine IK (i:=3) rfl (by kernel_rfl) (by kernel_rfl) (by kernel_rfl) rfl rfl (evg fun _ _=>Cj rfl) (Below.refl _ _) ?_
    refine IK (i:=4) rfl (by kernel_rfl) (by kernel_rfl) (by kernel_rfl) rfl rfl (evg fun _ hS=>Cz rfl ((hb1.ext hS).cell rfl)) (Below.refl _ _) ?_
    refine IK (i:=6) rfl (by kernel_rfl) (by kernel_rfl) (by kernel_rfl) rfl rfl (evg fun _ _=>Cj rfl) (Below.refl _ _) ?_
    refine IK (i:=7) rfl (by kernel_rfl) (by kernel_rfl) (by kernel_rfl) rfl rfl (evg fun _ hS=>Cz rfl ((hb1.ext hS).cell rfl)) (Below.refl _ _) ?_
    refine Kb (i:=2) (j:=10) (by kernel_rfl) rfl rfl ?_ ?_
    · refine Bc rfl rfl (cloneIntsN (hvars.ext hE2) hl1) ?_
      rintro av w3 ⟨hav,hE3⟩
      refine Fk hE3 ?_
      refine Kb (i:=5) (j:=10) (by kernel_rfl) rfl rfl ?_ ?_
      · refine Bc rfl rfl (cloneIntsN (hinit.ext (hE2.trans' hE3)) hl2) ?_
        rintro bv w4 ⟨hbv,hE4⟩
        refine Fk (hE3.trans' hE4) ?_
        refine Kb (i:=8) (j:=10) (by kernel_rfl) rfl rfl ?_ ?_
        · refine Bc rfl rfl (cloneFactsN (hgoal.ext (hE2.trans' (hE3.trans' hE4))) hl3) ?_
          rintro cv' w5 ⟨hcv,hE5⟩
          refine Fk (hE3.trans' (hE4.trans' hE5)) ?_
          refine IL [(9,true),(10,false),(11,false)] (by kernel_rfl) rfl (by kernel_rfl) (hE3.trans' (hE4.trans' hE5)) ?_
          obtain ⟨Aa,ca,rfl⟩:=hav.form
          obtain ⟨Ab,cb,rfl⟩:=hbv.form
          obtain ⟨Ac,cc,rfl⟩:=hcv.form
          refine Az rfl ?_
          refine AY (fun _ _=>FI rfl rfl) rfl ?_
          refine BF rfl ?_
          refine DS rfl fun w6 hN6=>?_
          refine Ck (hE3.trans' (hE4.trans' (hE5.trans' hN6.ext))) ?_
          refine BF rfl ?_
          refine BT rfl rfl hN6.blk rfl (Nat.le_refl _) (by simp [Value.cells,Value.oneCell',setParts,setFrom]) fun w7 hU=>?_
          refine Fj (AG ?_)
          have hE7:Ext w5 w7:=(hN6.upd hU).ext
          have s3:=hE3.size;have s4:=hE4.size;have s5:=hE5.size;have s7:=hE7.size
          refine ⟨w5.heap.size,_,_,_,⟨rfl,rfl,rfl,trivial⟩,hE3.trans' (hE4.trans' (hE5.trans' hE7)),by omega,hU.blk,?_,?_,?_⟩
          · exact ((((hav.nwext hE4).agree (hE5.agree fun k hk=>by have:=hk.2;omega)).agree (hE7.agree fun k hk=>by have:=hk.2;omega)).mono fun k hk=>⟨⟨by have:=hk.1;omega,by have:=hk.2;omega⟩,by have:=hk.2;omega⟩)
          · exact ((hbv.nwext hE5).agree (hE7.agree fun k hk=>by have:=hk.2;omega)).mono fun k hk=>⟨⟨by have:=hk.1;omega,by have:=hk.2;omega⟩,by have:=hk.2;omega⟩
          · exact (hcv.nwext hE7).mono fun k hk=>⟨⟨by have:=hk.1;omega,by have:=hk.2;omega⟩,by have:=hk.2;omega⟩
        · refine DS rfl fun w5 hN=>?_
          have hE5:=hN.ext
          refine Fk (hE3.trans' (hE4.trans' hE5)) ?_
          refine IL [(8,false),(9,true),(11,false)] (by kernel_rfl) rfl (by kernel_rfl) (hE3.trans' (hE4.trans' hE5)) ?_
          refine BF rfl ?_
          refine Bc rfl rfl (cloneFactsN (hgoal.ext (hE2.trans' (hE3.trans' (hE4.trans' hE5)))) hl3) ?_
          rintro cv' w6 ⟨hcv,hE6⟩
          refine Ck (hE3.trans' (hE4.trans' (hE5.trans' hE6))) ?_
          have hg3:=hN.blk.ext hE6
          obtain ⟨Aa,ca,rfl⟩:=hav.form
          obtain ⟨Ab,cb,rfl⟩:=hbv.form
          obtain ⟨Ac,cc,rfl⟩:=hcv.form
          refine Az rfl ?_
          refine AY (fun _ _=>FI rfl rfl) rfl ?_
          refine BF rfl ?_
          refine BT rfl rfl hg3 rfl (Nat.le_refl _) (by simp [Value.cells,Value.oneCell',setParts,setFrom]) fun w7 hU=>?_
          refine Fj (AG ?_)
          have s3:=hE3.size;have s4:=hE4.size;have s5:=hE5.size;have s6:=hE6.size;have s7:=hU.size;have sN:=hN.size
          refine ⟨_,_,_,_,⟨rfl,rfl,rfl,trivial⟩,(hE3.trans' (hE4.trans' (hE5.trans' hE6))).trans (hU.below (by omega)),by omega,hU.blk,?_,?_,?_⟩
          · exact (hav.agree fun k hk=>(hU.other k (by have:=hk.2;omega)).trans ((hE4.trans' (hE5.trans' hE6)).block k hk.2)).mono fun k hk=>⟨⟨by have:=hk.1;omega,by have:=hk.2;omega⟩,by have:=hk.2;omega⟩
          · exact (hbv.agree fun k hk=>(hU.other k (by have:=hk.2;omega)).trans ((hE5.trans' hE6).block k hk.2)).mono fun k hk=>⟨⟨by have:=hk.1;omega,by have:=hk.2;omega⟩,by have:=hk.2;omega⟩
          · exact (hcv.agree fun k hk=>hU.other k (by have:=hk.1;omega)).mono fun k hk=>⟨⟨by have:=hk.1;omega,by have:=hk.2;omega⟩,by have:=hk.1;omega⟩
      · refine DS rfl fun w4 hN=>?_
        have hE4:=hN.ext
        refine Fk (hE3.trans' hE4) ?_
        refine IL [(5,false),(8,false),(9,true),(11,false)] (by kernel_rfl) rfl (by kernel_rfl) (hE3.trans' hE4) ?_
        refine BF rfl ?_
        refine Bc rfl rfl (cloneIntsN (hinit.ext (hE2.trans' (hE3.trans' hE4))) hl2) ?_
        rintro bv w5 ⟨hbv,hE5⟩
        refine Ck (hE3.trans' (hE4.trans' hE5)) ?_
        refine BF rfl ?_
        refine Bc rfl rfl (cloneFactsN (hgoal.ext (hE2.trans' (hE3.trans' (hE4.trans' hE5)))) hl3) ?_
        rintro cv' w6 ⟨hcv,hE6⟩
        refine Ck (hE3.trans' (hE4.trans' (hE5.trans' hE6))) ?_
        have hg3:=(hN.blk.ext hE5).ext hE6
        obtain ⟨Aa,ca,rfl⟩:=hav.form
        obtain ⟨Ab,cb,rfl⟩:=hbv.form
        obtain ⟨Ac,cc,rfl⟩:=hcv.form
        refine Az rfl ?_
        refine AY (fun _ _=>FI rfl rfl) rfl ?_
        refine BF rfl ?_
        refine BT rfl rfl hg3 rfl (Nat.le_refl _) (by simp [Value.cells,Value.oneCell',setParts,setFrom]) fun w7 hU=>?_
        refine Fj (AG ?_)
        have s3:=hE3.size;have s4:=hE4.size;have s5:=hE5.size;have s6:=hE6.size;have s7:=hU.size;have sN:=hN.size
        refine ⟨_,_,_,_,⟨rfl,rfl,rfl,trivial⟩,(hE3.trans' (hE4.trans' (hE5.trans' hE6))).trans (hU.below (by omega)),by omega,hU.blk,?_,?_,?_⟩
        · exact (hav.agree fun k hk=>(hU.other k (by have:=hk.2;omega)).trans ((hE4.trans' (hE5.trans' hE6)).block k hk.2)).mono fun k hk=>⟨⟨by have:=hk.1;omega,by have:=hk.2;omega⟩,by have:=hk.2;omega⟩
        · exact (hbv.agree fun k hk=>(hU.other k (by have:=hk.1;omega)).trans (hE6.block k hk.2)).mono fun k hk=>⟨⟨by have:=hk.1;omega,by have:=hk.2;omega⟩,by have:=hk.1;omega⟩
        · exact (hcv.agree fun k hk=>hU.other k (by have:=hk.1;omega)).mono fun k hk=>⟨⟨by have:=hk.1;omega,by have:=hk.2;omega⟩,by have:=hk.1;omega⟩
    · refine DS rfl fun w3 hN=>?_
      have hE3:=hN.ext
      refine Fk hE3 ?_
      refine IL [(2,false),(5,false),(8,false),(9,true),(11,false)] (by kernel_rfl) rfl (by kernel_rfl) hE3 ?_
      refine BF rfl ?_
      refine Bc rfl rfl (cloneIntsN (hvars.ext (hE2.trans' hE3)) hl1) ?_
      rintro av w4 ⟨hav,hE4⟩
      refine Ck (hE3.trans' hE4) ?_
      refine BF rfl ?_
      refine Bc rfl rfl (cloneIntsN (hinit.ext (hE2.trans' (hE3.trans' hE4))) hl2) ?_
      rintro bv w5 ⟨hbv,hE5⟩
      refine Ck (hE3.trans' (hE4.trans' hE5)) ?_
      refine BF rfl ?_
      refine Bc rfl rfl (cloneFactsN (hgoal.ext (hE2.trans' (hE3.trans' (hE4.trans' hE5)))) hl3) ?_
      rintro cv' w6 ⟨hcv,hE6⟩
      refine Ck (hE3.trans' (hE4.trans' (hE5.trans' hE6))) ?_
      have hg3:=((hN.blk.ext hE4).ext hE5).ext hE6
      obtain ⟨Aa,ca,rfl⟩:=hav.form
      obtain ⟨Ab,cb,rfl⟩:=hbv.form
      obtain ⟨Ac,cc,rfl⟩:=hcv.form
      refine Az rfl ?_
      refine AY (fun _ _=>FI rfl rfl) rfl ?_
      refine BF rfl ?_
      refine BT rfl rfl hg3 rfl (Nat.le_refl _) (by simp [Value.cells,Value.oneCell',setParts,setFrom]) fun w7 hU=>?_
      refine Fj (AG ?_)
      have s3:=hE3.size;have s4:=hE4.size;have s5:=hE5.size;have s6:=hE6.size;have s7:=hU.size;have sN:=hN.size
      refine ⟨_,_,_,_,⟨rfl,rfl,rfl,trivial⟩,(hE3.trans' (hE4.trans' (hE5.trans' hE6))).trans (hU.below (by omega)),by omega,hU.blk,?_,?_,?_⟩
      · exact (hav.agree fun k hk=>(hU.other k (by have:=hk.1;omega)).trans ((hE5.trans' hE6).block k hk.2)).mono fun k hk=>⟨⟨by have:=hk.1;omega,by have:=hk.2;omega⟩,by have:=hk.1;omega⟩
      · exact (hbv.agree fun k hk=>(hU.other k (by have:=hk.1;omega)).trans (hE6.block k hk.2)).mono fun k hk=>⟨⟨by have:=hk.1;omega,by have:=hk.2;omega⟩,by have:=hk.1;omega⟩
      · exact (hcv.agree fun k hk=>hU.other k (by have:=hk.1;omega)).mono fun k hk=>⟨⟨by have:=hk.1;omega,by have:=hk.2;omega⟩,by have:=hk.1;omega⟩
  · rintro l' w3 ⟨g3,av,bv,cv',hsub,hE3,hg3,hb3,hav,hbv,hcv⟩
    refine AP _ hsub ?_
    clear hsub
    replace hb1:=hb1.ext hE3
    replace hres:=hres.ext hE3
    have hE03:Ext w w3:=hE2.trans' hE3
    have hg3z:g3 < w3.heap.size:=hb3.lt
    repeat (first|refine An ?_|refine Ah rfl ?_|refine Ae rfl ?_)
    ((repeat (first|refine An ?_|refine Ah rfl ?_|refine Ae rfl ?_))<;>(refine AF rfl rfl ?_<;>refine AE rfl rfl ?_<;>refine AN rfl rfl ?_<;>refine Am rfl rfl ?_<;>(refine o_z ?_))<;>(repeat (first|refine An ?_|refine Ah rfl ?_|refine Ae rfl ?_)))
    refine Br t.ops.length (by omega) (fun _:Unit=>[(2,.pointer (some ⟨w1.heap.size,0,none⟩)),(3,.pointer (some ⟨g3,0,none⟩)),(20,.slice Ao t.ops.length co)])
      (fun k _ w'=>Below w2.heap.size w2 w'∧w3.heap.size≤w'.heap.size∧(∀ q,q < w3.heap.size→q≠g3→w'.heap[q]?=w3.heap[q]?)∧∃ (ov:Value) (G:Nat→Prop),Blk w' g3 26 [av,bv,cv',ov]∧(∀ q,G q→w3.heap.size≤q∧q < w'.heap.size)∧Own w' w3.heap.size G 61 ov (t.ops.take k)) ()
      ⟨hE3,Nat.le_refl _,fun _ _ _=>rfl,.slice none 0 0,fun _=>False,hb3,fun _ h=>h.elim,Own.nil _ _ _ _⟩ ⟨rfl,rfl,rfl,rfl,rfl,trivial⟩ (fun _=>⟨rfl,rfl⟩) ⟨rfl,rfl,rfl⟩ ⟨rfl,rfl⟩ ?_ ?_
    · rintro k _ w4 hk ⟨hB4,hz34,hkeep,ov,G,hb3,hG,hown⟩
      have hE04:Ext w w4:=hE2.trans (hB4.mono (by omega))
      obtain ⟨o,ho⟩:=AD hk
      obtain ⟨hp5,hq5,hc5⟩:=hl5 k o ho
      obtain ⟨b2,o2,ce,rfl,_,_,hd1,p,q,rfl,hp,hq,hc,hn⟩:=(hops.ext hE04).elem ho
      obtain ⟨Ap,cp,rfl⟩:=hp.form
      obtain ⟨Aq,cq,rfl⟩:=hq.form
      obtain ⟨Aov,cov,rfl⟩:=hown.form
      ((repeat (first|refine An ?_|refine Ah rfl ?_|refine Ae rfl ?_))<;>(refine CP rfl rfl rfl ?_<;>refine BM rfl rfl ?_)<;>(repeat (first|refine An ?_|refine Ah rfl ?_|refine Ae rfl ?_)))
      refine BU rfl rfl rfl (by simp [Value.cells,Value.oneCell']) fun w5 hN5=>?_
      have hb2:Blk w5 w4.heap.size 61 [.string o.name,.int .i64 o.cost,.slice Ap o.pre.length cp,.slice Aq o.effs.length cq]:=hN5.blk
      have hz5:=hN5.size
      ((refine o_z ?_))
      repeat (first|refine An ?_|refine Ah rfl ?_|refine Ae rfl ?_)
      clear hd1
      (refine AF rfl rfl ?_<;>refine AE rfl rfl ?_)
      refine Bc rfl rfl (cloneFactsN (hp.ext hN5.ext) hp5) ?_
      rintro pv w6 ⟨hpv,hE6⟩
      obtain ⟨Ap',cp',rfl⟩:=hpv.form
      replace hb2:=hb2.ext hE6
      (refine AF rfl rfl ?_)
      refine BT rfl rfl hb2 rfl (show 0 + 2 + 1≤4 by decide) (by simp [Value.cells,Value.oneCell']) fun w7 hU7=>?_
      have hE47:Ext w4 w7:=(hN5.ext.trans' hE6).trans (hU7.below (Nat.le_refl _))
      replace hb2:Blk w7 w4.heap.size 61 [.string o.name,.int .i64 o.cost,.slice Ap' o.pre.length cp',.slice Aq o.effs.length cq]:=hU7.blk
      have hpv7:Vb w7 (nw w5 w6) (.slice Ap' o.pre.length cp') o.pre:=hpv.agree fun q hq=>hU7.other q (by have:=hq.1;omega)
      ((refine o_z ?_))
      repeat (first|refine An ?_|refine Ah rfl ?_|refine Ae rfl ?_)
      ((repeat (first|refine An ?_|refine Ah rfl ?_|refine Ae rfl ?_))<;>(refine Ar rfl rfl ?_<;>(refine o_z ?_))<;>(repeat (first|refine An ?_|refine Ah rfl ?_|refine Ae rfl ?_))<;>(refine AF rfl rfl ?_<;>refine AE rfl rfl ?_<;>refine AN rfl rfl ?_<;>refine Am rfl rfl ?_<;>(refine o_z ?_))<;>(repeat (first|refine An ?_|refine Ah rfl ?_|refine Ae rfl ?_)))
      refine Br o.effs.length (by omega) (fun ev:Value=>[(2,.pointer (some ⟨w1.heap.size,0,none⟩)),(3,.pointer (some ⟨g3,0,none⟩)),(5,.pointer (some ⟨w4.heap.size,0,none⟩)),(6,ev),(20,.slice (some ⟨b2,o2,none⟩) t.ops.length co),(21,.int .i64 (t.ops.length:Int)),(22,.int .i64 (k:Int)),(31,.slice Aq o.effs.length cq)])
        (fun i ev w'=>Ext w7 w'∧∃ H:Nat→Prop,(∀ q,H q→w7.heap.size≤q∧q < w'.heap.size)∧Own w' w7.heap.size H 76 ev (o.effs.take i)) (.slice none 0 0)
        ⟨Below.refl _ _,fun _=>False,fun _ h=>h.elim,Own.nil _ _ _ _⟩ ⟨rfl,rfl,rfl,rfl,rfl,rfl,rfl,rfl,rfl,rfl,trivial⟩ (fun _=>⟨rfl,rfl⟩) ⟨rfl,rfl,rfl⟩ ⟨rfl,rfl⟩ ?_ ?_
      · rintro i ev w8 hi ⟨hE8,H,hH,hev⟩
        obtain ⟨e,he⟩:=AD hi
        have hce:=hc5 i e he
        obtain ⟨b3,o3,ce,rfl,_,_,hd1,cv8,rfl,hcn,hr1,hr2⟩:=(hq.ext (hE47.trans' hE8)).elem he
        obtain ⟨Acn,ccn,rfl⟩:=hcn.form
        ((repeat (first|refine An ?_|refine Ah rfl ?_|refine Ae rfl ?_))<;>(refine CP rfl rfl rfl ?_<;>refine BM rfl rfl ?_)<;>(repeat (first|refine An ?_|refine Ah rfl ?_|refine Ae rfl ?_)))
        refine BU rfl rfl rfl (by simp [Value.cells,Value.oneCell']) fun w9 hN9=>?_
        have hb4:Blk w9 w8.heap.size 76 [.slice Acn e.cond.length ccn,.int .i64 e.var,.int .i64 e.val]:=hN9.blk
        have hz9:=hN9.size
        ((refine o_z ?_))
        repeat (first|refine An ?_|refine Ah rfl ?_|refine Ae rfl ?_)
        clear hd1
        (refine AF rfl rfl ?_<;>refine AE rfl rfl ?_)
        refine Bc rfl rfl (cloneFactsN (hcn.ext hN9.ext) hce) ?_
        rintro cw w10 ⟨hcw,hE10⟩
        obtain ⟨Acw,ccw,rfl⟩:=hcw.form
        replace hb4:=hb4.ext hE10
        (refine AF rfl rfl ?_)
        refine BT rfl rfl hb4 rfl (show 0 + 0 + 1≤3 by decide) (by simp [Value.cells,Value.oneCell']) fun w11 hU11=>?_
        replace hb4:Blk w11 w8.heap.size 76 [.slice Acw e.cond.length ccw,.int .i64 e.var,.int .i64 e.val]:=hU11.blk
        have hE811:Ext w8 w11:=(hN9.ext.trans' hE10).trans (hU11.below (Nat.le_refl _))
        have hE711:Ext w7 w11:=hE8.trans' hE811
        have hcw11:Vb w11 (nw w9 w10) (.slice Acw e.cond.length ccw) e.cond:=hcw.agree fun q hq=>hU11.other q (by have:=hq.1;omega)
        have s10:=hE10.size
        have s11:=hU11.size
        have hne:∀ g,ev.ownBlock=some g→¬ (H g∨nw w9 w10 g):=fun g hg h=>by
          have hlt:=(hev.lt g hg).2
          rcases h with h|h
          · obtain ⟨_,_,_,h3⟩:=hev;exact h3 g hg h
          · have:=h.1;omega
        have hev11:Own w11 w7.heap.size (fun q=>H q∨nw w9 w10 q) 76 ev _:=(hev.ext hE811 fun q hq=>(hH q hq).2).mono (fun q hq=>.inl hq) hne
        have hH11:∀ q,(H q∨nw w9 w10 q)→w7.heap.size≤q∧q < w11.heap.size:=fun q hq=>by
          rcases hq with hq|hq
          · have:=hH q hq;omega
          · have h1:=hq.1;have h2:=hq.2;have:=hE8.size;omega
        have hil:(o.effs.take i).length≤1000000:=by rw [List.length_take];omega
        ((refine o_z ?_))
        repeat (first|refine An ?_|refine Ah rfl ?_|refine Ae rfl ?_)
        (refine Am rfl rfl ?_<;>refine BM rfl rfl ?_)
        refine Fc (a:=e) rfl rfl rfl hev11 (fun q hq=>(hH11 q hq).2) hE711.size ⟨_,rfl,_,rfl,hcw11.mono fun q hq=>.inr hq,hr1,hr2⟩ (by decide) (by decide) (by omega) (by omega) ⟨rfl,rfl⟩ fun ev' w12 hev12 hK12=>?_
        (refine Ar rfl rfl ?_<;>(refine o_z ?_))
        repeat (first|refine An ?_|refine Ah rfl ?_|refine Ae rfl ?_)
        exact ⟨ev',⟨rfl,rfl,rfl,rfl,rfl,rfl,rfl,rfl,rfl,rfl,trivial⟩,hE711.trans (hev11.fits (Nat.le_refl _) hE711.size hK12),_,fun q hq=>⟨(hH11 q hq).1,Nat.lt_of_lt_of_le (hH11 q hq).2 hK12.size⟩,by rw [List.take_add_one,he];simpa using hev12⟩
      rintro ev w12 ⟨hE12,H,hH,hev⟩
      rw [List.take_length] at hev
      obtain ⟨Aev,cev,rfl⟩:=hev.form
      replace hb2:=hb2.ext hE12
      repeat (first|refine An ?_|refine Ah rfl ?_|refine Ae rfl ?_)
      (refine Am rfl rfl ?_<;>refine AF rfl rfl ?_)
      refine BT rfl rfl hb2 rfl (show 0 + 3 + 1≤4 by decide) (by simp [Value.cells,Value.oneCell']) fun w13 hU13=>?_
      replace hb2:Blk w13 w4.heap.size 61 [.string o.name,.int .i64 o.cost,.slice Ap' o.pre.length cp',.slice Aev o.effs.length cev]:=hU13.blk
      have hE413:Ext w4 w13:=(hE47.trans' hE12).trans (hU13.below (Nat.le_refl _))
      have s6:=hE6.size
      have s7:=hU7.size
      have s12:=hE12.size
      have s13:=hU13.size
      have hb3':=hb3.ext hE413
      have hg3lt:=hb3.lt
      have hpv13:Vb w13 (nw w5 w6) (.slice Ap' o.pre.length cp') o.pre:=hpv7.agree fun q hq=>(hU13.other q (by have:=hq.1;omega)).trans (hE12.block q (by have:=hq.2;omega))
      have hev13:Vb w13 (fun q=>H q∨(Value.slice Aev o.effs.length cev).ownBlock=some q) (.slice Aev o.effs.length cev) o.effs:=hev.vb.agree fun q hq=>hU13.other q (by
        rcases hq with hq|hq
        · have:=(hH q hq).1;omega
        · have:=(hev.lt q hq).1;omega)
      have hne:∀ g,(Value.slice Aov (t.ops.take k).length cov).ownBlock=some g→¬ (G g∨w4.heap.size≤g∧g < w13.heap.size):=fun g hg h=>by
        have hlt:=(hown.lt g hg).2
        rcases h with h|h
        · obtain ⟨_,_,_,h3⟩:=hown;exact h3 g hg h
        · omega
      have hown13:Own w13 w3.heap.size (fun q=>G q∨w4.heap.size≤q∧q < w13.heap.size) 61 _ _:=(hown.ext hE413 fun q hq=>(hG q hq).2).mono (fun q hq=>.inl hq) hne
      have hG13:∀ q,(G q∨w4.heap.size≤q∧q < w13.heap.size)→w3.heap.size≤q∧q < w13.heap.size:=fun q hq=>by
        have:=hE413.size
        rcases hq with hq|hq
        · have:=hG q hq;omega
        · omega
      have hopr:Vb w13 (fun q=>G q∨w4.heap.size≤q∧q < w13.heap.size) (.agg #[.string o.name,.int .i64 o.cost,.slice Ap' o.pre.length cp',.slice Aev o.effs.length cev]) o :=
        ⟨[.string o.name,.int .i64 o.cost,.slice Ap' o.pre.length cp',.slice Aev o.effs.length cev],rfl,_,_,rfl,hpv13.mono fun q hq=>.inr (by have h1:=hq.1;have h2:=hq.2;omega),hev13.mono fun q hq=>.inr (by
          rcases hq with hq|hq
          · have:=hH q hq;omega
          · have:=hev.lt q hq;omega),hc,hn⟩
      have hkl:(t.ops.take k).length≤1000000:=by rw [List.length_take];omega
      ((refine o_z ?_))
      repeat (first|refine An ?_|refine Ah rfl ?_|refine Ae rfl ?_)
      have hbx:=hb2
      clear hb1
      have hb1:=hb3'
      (refine AF rfl rfl ?_<;>refine AE rfl rfl ?_<;>refine BM rfl rfl ?_)
      refine Fc (a:=o) rfl rfl rfl hown13 (fun q hq=>(hG13 q hq).2) (by have:=hE413.size;omega) hopr (by decide) (by decide) (by omega) (by omega) ⟨rfl,rfl⟩ fun ov' w14 hov14 hK14=>?_
      obtain ⟨Aov',cov',rfl⟩:=hov14.form
      have hb3k:=hK14.blk hb3' (hown13.blk_ne hb3' (by decide))
      (refine AF rfl rfl ?_)
      refine BT rfl rfl hb3k rfl (show 0 + 3 + 1≤4 by decide) (by simp [Value.cells,Value.oneCell']) fun w15 hU15=>?_
      ((refine o_z ?_))
      repeat (first|refine An ?_|refine Ah rfl ?_|refine Ae rfl ?_)
      have hB14:Below w3.heap.size w13 w14:=hown13.fits (Nat.le_refl _) (by have:=hE413.size;omega) hK14
      have sz14:=hK14.size
      have sz15:=hU15.size
      refine ⟨(),⟨rfl,rfl,rfl,rfl,rfl,trivial⟩,?_,?_,?_,_,(fun q=>G q∨w4.heap.size≤q∧q < w13.heap.size),hU15.blk,fun q hq=>?_,?_⟩
      · exact hB4.trans (((hE413.mono (by omega)).trans (hB14.mono (by omega))).trans (hU15.below (by omega)))
      · have:=hE413.size;omega
      · intro q hq hne'
        rw [hU15.other q hne',hB14.block q hq,hE413.block q (by omega),hkeep q hq hne']
      · have:=hG13 q hq;omega
      · have hne15:=hov14.blk_ne hb3k (by decide)
        rw [List.take_add_one,ho]
        refine hov14.agree (hU15.agree ?_) fun g hg=>hU15.other g fun he=>hne15 (he ▸ hg)
        rintro (h|h)
        · have:=(hG g3 h).1;omega
        · omega
    rintro _ w4 ⟨hB4,hz34,hkeep,ov,G,hb3,hG,hown⟩
    rw [List.take_length] at hown
    obtain ⟨Aov,cov,rfl⟩:=hown.form
    have hresz:=hres.lt
    replace hres:=hres.keep (hkeep _ hresz (by omega))
    clear hb1
    have hb1:=hb3
    repeat (first|refine An ?_|refine Ah rfl ?_|refine Ae rfl ?_)
    obtain ⟨Aa,ca,rfl⟩:=hav.form
    obtain ⟨Ab,cb,rfl⟩:=hbv.form
    obtain ⟨Ac,cc,rfl⟩:=hcv.form
    (refine BM rfl rfl ?_)
    refine BT rfl rfl hres rfl (Nat.le_refl _) (by simp [Value.cells,Value.oneCell']) fun w5 hU=>?_
    ((refine o_z ?_))
    repeat (first|refine An ?_|refine Ah rfl ?_|refine Ae rfl ?_)
    have hE4:Ext w w4:=hE2.trans (hB4.mono (by omega))
    have s5:=hU.size
    have s04:=hE4.size
    have hcl:∀ {α:Type} [Rp α] {v:Value} {x:α},Vb w3 (fun k=>nw w2 w3 k∧k≠g3) v x→Vb w5 (nw w w5) v x:=fun h=>(h.agree fun q hq=>(hU.other q (by have:=hq.1.1;omega)).trans (hkeep q hq.1.2 hq.2)).mono fun q hq=>⟨by have:=hq.1.1;omega,by have:=hq.1.2;omega⟩
    have hovv:Vb w5 (nw w w5) (.slice Aov t.ops.length cov) t.ops:=(hown.vb.agree fun q hq=>hU.other q (by
      rcases hq with hq|hq
      · have:=(hG q hq).1;omega
      · have:=(hown.lt q hq).1;omega)).mono fun q hq=>by
        rcases hq with hq|hq
        · have:=hG q hq;exact ⟨by omega,by omega⟩
        · have:=hown.lt q hq;exact ⟨by omega,by omega⟩
    refine ret1v rfl (Gu rfl rfl hU.blk.cellsAt) ⟨⟨_,rfl,_,_,_,_,rfl,hcl hav,hcl hbv,hcl hcv,hovv⟩,hE4.trans (hU.below (by omega))⟩
end
section
theorem IP {p:Prop}:bof p=true↔p:=⟨fun h=>Classical.byContradiction fun hn=>(by rw [Bi hn] at h;exact Bool.noConfusion h),Ch⟩
theorem Ek {p:Prop}:bof p=false↔¬ p:=by
  rw [← Bool.not_eq_true,IP]
theorem Hs {vars:List Int} {f:List Fct} (h:FactsOk vars f):∀ (j i:Nat) (x y:Fct),i < j→f[i]?=some x→f[j]?=some y→x.var < y.var
  | 0,i,_,_,hij,_,_=>by omega
  | j + 1,i,x,y,hij,hx,hy=>by
    by_cases he:i=j
    · subst he;exact h.2 i x y hx hy
    · obtain ⟨z,hz⟩:=AD (l:=f) (k:=j) (by have:=Bn hy;omega)
      have h1:=Hs h j i x z (by omega) hx hz
      have h2:=h.2 j z y hz hy
      omega
theorem JN {vars:List Int} {f:List Fct} (h:FactsOk vars f):∀ (i:Nat) (x:Fct),f[i]?=some x→(i:Int)≤x.var
  | 0,x,hx=>(h.1 0 x hx).1
  | i + 1,x,hx=>by
    obtain ⟨z,hz⟩:=AD (l:=f) (k:=i) (by have:=Bn hx;omega)
    have h1:=JN h i z hz
    have h2:=h.2 i z x hz hx
    omega
theorem DZ {vars:List Int} {f:List Fct} (h:FactsOk vars f):f.length≤vars.length:=by
  rcases Nat.eq_zero_or_pos f.length with h0|h0
  · omega
  · obtain ⟨x,hx⟩:=AD (l:=f) (k:=f.length - 1) (by omega)
    have h1:=JN h _ x hx
    obtain ⟨h2,h3,y,hy,_⟩:=h.1 _ x hx
    have:=Bn hy
    omega
theorem GP {t:Tsk} {f:List Fct}:f∈conds t↔f=t.goal∨∃ (i:Nat) (o:Opr),t.ops[i]?=some o∧(f=o.pre∨∃ (j:Nat) (e:Eff),o.effs[j]?=some e∧f=e.cond):=by
  unfold conds opConds
  rw [List.mem_cons,List.mem_flatMap]
  constructor
  · rintro (h|⟨o,ho,hf⟩)
    · exact .inl h
    · obtain ⟨i,hi⟩:=List.getElem?_of_mem ho
      refine .inr ⟨i,o,hi,?_⟩
      rcases List.mem_cons.1 hf with h|h
      · exact .inl h
      · obtain ⟨e,he,rfl⟩:=List.mem_map.1 h
        obtain ⟨j,hj⟩:=List.getElem?_of_mem he
        exact .inr ⟨j,e,hj,rfl⟩
  · rintro (h|⟨i,o,ho,h⟩)
    · exact .inl h
    · refine .inr ⟨o,List.mem_of_getElem? ho,?_⟩
      rcases h with rfl|⟨j,e,he,rfl⟩
      · exact List.mem_cons_self
      · exact List.mem_cons_of_mem _ (List.mem_map.2 ⟨e,List.mem_of_getElem? he,rfl⟩)
theorem Ht {t:Tsk}:checkN t=0↔TaskOk t:=by
  unfold checkN
  constructor
  · intro h
    by_cases h1:Large t
    · rw [if_pos (IP.2 h1)] at h;cases h
    rw [if_neg (fun hh=>h1 (IP.1 hh))] at h
    by_cases h2:VarsOk t∧CostsOk t
    case neg=>rw [if_pos (Ek.2 h2)] at h;cases h
    rw [if_neg (fun hh=>Ek.1 hh h2)] at h
    by_cases h3:StateOk t.vars t.init∧CondsOk t∧EffsOk t
    case neg=>rw [if_pos (Ek.2 h3)] at h;cases h
    rw [if_neg (fun hh=>Ek.1 hh h3)] at h
    by_cases h4:NamesOk t
    case neg=>rw [if_pos (Ek.2 h4)] at h;cases h
    have hc:∀ f∈conds t,FactsOk t.vars f:=fun f hf=>by
      obtain ⟨i,hi⟩:=List.getElem?_of_mem hf
      exact h3.2.1 i f hi
    have hl:t.vars.length≤64∧t.ops.length≤4096∧(∀ (i:Nat) (o:Opr),t.ops[i]?=some o→o.effs.length≤64):=by
      unfold Large at h1
      refine ⟨Nat.le_of_not_lt fun h=>h1 (.inl h),Nat.le_of_not_lt fun h=>h1 (.inr (.inl h)),fun i o ho=>Nat.le_of_not_lt fun h=>h1 (.inr (.inr (.inl ⟨i,o,ho,h⟩)))⟩
    exact ⟨hl.1,hl.2.1,h2.1,h3.1,hc _ (GP.2 (.inl rfl)),fun i o ho=>⟨(h2.2 i o ho).1,(h2.2 i o ho).2,hl.2.2 i o ho,h4 i o ho,hc _ (GP.2 (.inr ⟨i,o,ho,.inl rfl⟩)),fun j e he=>⟨hc _ (GP.2 (.inr ⟨i,o,ho,.inr ⟨j,e,he,rfl⟩⟩)),h3.2.2 i o ho j e he⟩⟩⟩
  · rintro ⟨h1,h2,h3,h4,h5,h6⟩
    have hc:∀ f∈conds t,FactsOk t.vars f:=fun f hf=>by
      rcases GP.1 hf with rfl|⟨i,o,ho,rfl|⟨j,e,he,rfl⟩⟩
      · exact h5
      · exact (h6 i o ho).2.2.2.2.1
      · exact ((h6 i o ho).2.2.2.2.2 j e he).1
    have hL:¬ Large t:=by
      rintro (h|h|⟨i,o,ho,h⟩|⟨f,hf,h⟩)
      · omega
      · omega
      · have:=(h6 i o ho).2.2.1;omega
      · have:=DZ (hc f hf);omega
    have hV:VarsOk t∧CostsOk t:=⟨h3,fun i o ho=>⟨(h6 i o ho).1,(h6 i o ho).2.1⟩⟩
    have hS:StateOk t.vars t.init∧CondsOk t∧EffsOk t:=⟨h4,fun i f hf=>hc f (List.mem_of_getElem? hf),fun i o ho j e he=>((h6 i o ho).2.2.2.2.2 j e he).2⟩
    have hN:NamesOk t:=fun i o ho=>(h6 i o ho).2.2.2.1
    rw [if_neg (fun hh=>hL (IP.1 hh)),if_neg (fun hh=>Ek.1 hh hV),if_neg (fun hh=>Ek.1 hh hS),if_neg (fun hh=>Ek.1 hh hN)]
theorem TaskOk.vars {t:Tsk} (h:TaskOk t):VarsOk t:=h.2.2.1
end
section
def PreOk (t:Tsk):Prop:=∀ (i:Nat) o,t.ops[i]?=some o→FactsOk t.vars o.pre
theorem TaskOk.pre {t:Tsk} (h:TaskOk t):PreOk t:=fun i o ho=>(h.2.2.2.2.2 i o ho).2.2.2.2.1
theorem Ld {t:Tsk} (h:PreOk t) (op:Int):FactsOk t.vars (preOf t op):=by
  unfold preOf
  cases ho:t.ops[op.toNat]? with
  | none=>exact ⟨fun i x hx=>by simp at hx,fun i x y hx=>by simp at hx⟩
  | some o=>exact h _ o ho
theorem GW {l:List Fct} {v:Int} {f:Fct} (h:factOn l v=some f):f∈l∧f.var=v:=by
  unfold factOn at h
  exact ⟨List.mem_of_find?_eq_some h,by simpa using List.find?_some h⟩
theorem LI {l:List Fct} {v:Int} (h:factOn l v=none):∀ f∈l,f.var≠v:=by
  unfold factOn at h
  rw [List.find?_eq_none] at h
  intro f hf
  simpa using h f hf
theorem LJ {vars:List Int} {l:List Fct} (hl:FactsOk vars l) {f g:Fct} (hf:f∈l) (hg:g∈l) (he:f.var=g.var):f=g:=by
  obtain ⟨i,hi⟩:=List.getElem?_of_mem hf
  obtain ⟨j,hj⟩:=List.getElem?_of_mem hg
  rcases Nat.lt_trichotomy i j with h|h|h
  · have:=Hs hl j i f g h hi hj;omega
  · subst h;rw [hi] at hj;injection hj
  · have:=Hs hl i j g f h hj hi;omega
theorem TaskOk.fits {t:Tsk} (h:TaskOk t):FitsVals t:=by
  intro i o ho v f hf hv
  obtain ⟨h1,h2⟩:=GW hf
  obtain ⟨j,hj⟩:=List.getElem?_of_mem h1
  obtain ⟨g1,g2,n,g3,g4⟩:=(h.pre i o ho).1 j f hj
  rw [h2] at g3
  exact ⟨g2,n,by simpa using g3,g4⟩
def hf (t:Tsk) (s:List Int) (v:Nat) (op:Int):Bool:=(preOf t op).all fun f=>decide (f.var < (v:Int)) || hasB s f
theorem Ik {t:Tsk} {s:List Int} {v:Nat} {op:Int}:hf t s v op=true↔∀ f∈preOf t op,f.var < (v:Int)∨hasB s f=true:=by
  unfold hf
  simp [List.all_eq_true]
theorem Ma {t:Tsk} {s:List Int} {v:Nat} {op:Int} (h:factOn (preOf t op) (v:Int)=none):hf t s v op=hf t s (v + 1) op:=by
  rw [Bool.eq_iff_iff,Ik,Ik]
  constructor
  · intro hh f hm
    rcases hh f hm with h1|h1
    · exact .inl (by omega)
    · exact .inr h1
  · intro hh f hm
    have:=LI h f hm
    rcases hh f hm with h1|h1
    · exact .inl (by omega)
    · exact .inr h1
theorem Pd {t:Tsk} {s:List Int} {v:Nat} {op:Int} {f:Fct} (hp:PreOk t) (h:factOn (preOf t op) (v:Int)=some f):hf t s v op=(hasB s f && hf t s (v + 1) op):=by
  obtain ⟨h1,h2⟩:=GW h
  rw [Bool.eq_iff_iff,Bool.and_eq_true,Ik,Ik]
  constructor
  · intro hh
    refine ⟨(hh f h1).resolve_left (by omega),fun g hg=>?_⟩
    rcases hh g hg with h3|h3
    · exact .inl (by omega)
    · exact .inr h3
  · rintro ⟨h3,hh⟩ g hg
    rcases hh g hg with h4|h4
    · by_cases he:g.var=(v:Int)
      · have:g=f:=LJ (Ld hp op) hg h1 (by omega)
        subst this;exact .inr h3
      · exact .inl (by omega)
    · exact .inr h4
theorem Mb {t:Tsk} {s:List Int} {ops:List Int}:∀ (k v:Nat),(∀ x,v≤x→x < v + k→tests t ops x=false)→∀ op∈ops,hf t s v op=hf t s (v + k) op
  | 0,_,_,_,_=>rfl
  | k + 1,v,h,op,ho=>by
    have h0:=h v (Nat.le_refl _) (by omega)
    unfold tests at h0
    rw [List.any_eq_false] at h0
    have h1:=h0 op ho
    have h2:factOn (preOf t op) (v:Int)=none:=by simpa using h1
    rw [Ma h2,Mb k (v + 1) (fun x hx1 hx2=>h x (by omega) (by omega)) op ho]
    congr 1;omega
theorem JO {a b c:Int→Bool} {p:Int→Bool} (h:∀ x,p x=if a x=true then b x else if c x=true then b x else false) (hac:∀ x,a x=true→c x=false) :
    ∀ l:List Int,(l.filter p).Perm ((l.filter a).filter b ++ (l.filter c).filter b)
  | []=>by simp
  | x :: l=>by
    have ih:=JO h hac l
    have hx:=h x
    cases ha:a x
    · cases hc:c x
      · simp only [ha,hc] at hx
        simpa [List.filter_cons,ha,hc,hx] using ih
      · simp only [ha,hc] at hx
        cases hb:b x
        · rw [hb] at hx
          simpa [List.filter_cons,ha,hc,hb,hx] using ih
        · rw [hb] at hx
          simp only [List.filter_cons,ha,hc,hb,hx,if_true,Bool.false_eq_true,if_false]
          exact (ih.cons x).trans (List.perm_middle.symm)
    · have hc:=hac x ha
      simp only [ha] at hx
      cases hb:b x
      · rw [hb] at hx
        simpa [List.filter_cons,ha,hc,hb,hx] using ih
      · rw [hb] at hx
        simp only [List.filter_cons,ha,hc,hb,hx,if_true,Bool.false_eq_true,if_false,List.cons_append]
        exact ih.cons x
theorem PU {t:Tsk} {s:List Int} (hp:PreOk t) (op:Int):hf t s t.vars.length op=true:=by
  rw [Ik]
  intro f hfm
  obtain ⟨i,hi⟩:=List.getElem?_of_mem hfm
  obtain ⟨h1,h2,n,h3,_⟩:=(Ld hp op).1 i f hi
  have:=Bn h3
  exact .inl (by omega)
theorem MB (t:Tsk) (ops:List Int) {v:Nat} (h:v≤t.vars.length):v≤nextV t ops v∧nextV t ops v≤t.vars.length∧(∀ u,v≤u→u < nextV t ops v→tests t ops u=false)∧(nextV t ops v < t.vars.length→tests t ops (nextV t ops v)=true):=by
  obtain ⟨h1,h2,h3,h4⟩:=Hr t ops (t.vars.length - v) v
  exact ⟨h1,by unfold nextV;omega,h3,fun h=>h4 (by unfold nextV at h;omega)⟩
theorem StateOk.at {vars s:List Int} (h:StateOk vars s) {u:Nat} (hu:u < vars.length):∃ (x:Nat) (n:Int),s[u]?=some (x:Int)∧vars[u]?=some n∧(x:Int) < n∧atN s u=x:=by
  obtain ⟨y,hy⟩:=AD (l:=s) (k:=u) (by rw [h.1];exact hu)
  obtain ⟨n,hn⟩:=AD hu
  obtain ⟨h1,h2⟩:=h.2 u y n hy hn
  obtain ⟨x,rfl⟩:=Int.eq_ofNat_of_zero_le h1
  exact ⟨x,n,hy,hn,h2,by simp [atN,hy]⟩
theorem Lf {t:Tsk} {s:List Int} (hp:PreOk t) (hs:StateOk t.vars s):∀ (fuel:Nat) (ops:List Int) (v:Nat),v≤t.vars.length→t.vars.length < fuel + v →
    (coll s (mkT t fuel ops v)).Perm (ops.filter (hf t s v))∧Fits s (mkT t fuel ops v):=by
  intro fuel
  induction fuel with
  | zero=>intro ops v h1 h2;omega
  | succ fuel ih =>
    intro ops v h1 h2
    obtain ⟨g1,g2,g3,g4⟩:=MB t ops h1
    have hsame:=Mb (t:=t) (s:=s) (ops:=ops) (nextV t ops v - v) v (fun x hx1 hx2=>g3 x hx1 (by omega))
    rw [show v + (nextV t ops v - v)=nextV t ops v from by omega] at hsame
    have hfil:ops.filter (hf t s v)=ops.filter (hf t s (nextV t ops v)):=List.filter_congr hsame
    rw [hfil]
    unfold mkT
    by_cases he:ops.isEmpty=true
    · rw [if_pos he]
      have:ops=[]:=by simpa using he
      subst this
      exact ⟨by simp [coll],trivial⟩
    rw [if_neg he]
    by_cases hn:nextV t ops v=t.vars.length
    · rw [if_pos hn,hn]
      have:ops.filter (hf t s t.vars.length)=ops:=List.filter_eq_self.2 fun x _=>PU hp x
      rw [this]
      exact ⟨List.Perm.refl _,trivial⟩
    rw [if_neg hn]
    obtain ⟨x,n,q1,q2,q3,q4⟩:=hs.at (u:=nextV t ops v) (by omega)
    have i1:=ih (ops.filter (valB t (nextV t ops v) x)) (nextV t ops v + 1) (by omega) (by omega)
    have i2:=ih (ops.filter (restB t (nextV t ops v))) (nextV t ops v + 1) (by omega) (by omega)
    refine ⟨?_,⟨x,q1,by rw [q2];simp;omega⟩,by rw [q4];exact i1.2,i2.2⟩
    rw [coll,q4]
    refine (i1.1.append i2.1).trans (JO (a:=valB t (nextV t ops v) x) (c:=restB t (nextV t ops v)) (fun op=>?_) (fun op h=>?_) ops).symm
    · unfold valB restB
      cases ho:factOn (preOf t op) (nextV t ops v:Int) with
      | none=>rw [Ma ho];simp
      | some f =>
        rw [Pd hp ho]
        obtain ⟨_,hv⟩:=GW ho
        rw [Kf (s:=s) hv q1]
        by_cases hx:f.val=(x:Int)
        · simp [hx]
        · simp [hx,Ne.symm hx]
    · unfold valB at h
      unfold restB
      cases ho:factOn (preOf t op) (nextV t ops v:Int) with
      | none=>rw [ho] at h;simp at h
      | some f=>rfl
def allOps (t:Tsk):List Int:=(List.range t.ops.length).map fun i:Nat=>(i:Int)
def treeOf (t:Tsk):Tr:=mkT t (t.vars.length + 1) (allOps t) 0
theorem Kx {α:Type} {p q:α→Bool}:∀ {l:List α},(∀ x∈l,p x=q x)→l.all p=l.all q
  | [],_=>rfl
  | x :: l,h=>by rw [List.all_cons,List.all_cons,h x List.mem_cons_self,Kx fun y hy=>h y (List.mem_cons_of_mem _ hy)]
theorem Pe {t:Tsk} (hp:PreOk t) (s:List Int):appl t s=(allOps t).filter (hf t s 0):=by
  unfold appl applK allOps
  rw [List.filter_map]
  congr 1
  refine List.filter_congr fun i hi=>?_
  obtain ⟨o,ho⟩:=AD (l:=t.ops) (k:=i) (List.mem_range.1 hi)
  simp only [Function.comp,hf,preOf,holdsB,Int.toNat_natCast,ho]
  refine Kx fun f hfm=>?_
  obtain ⟨j,hj⟩:=List.getElem?_of_mem hfm
  have:=((hp i o ho).1 j f hj).1
  have:decide (f.var < ((0:Nat):Int))=false:=decide_eq_false (by omega)
  rw [this,Bool.false_or]
theorem LK (t:Tsk) (s:List Int):(appl t s).Pairwise fun x y=>decide (x≤y)=true:=by
  unfold appl applK
  refine List.Pairwise.map _ (fun a b h=>?_) (List.Pairwise.filter _ List.pairwise_lt_range)
  exact decide_eq_true (by omega)
theorem MC {l m:List Int} (h:l.Perm m) (hm:m.Pairwise fun x y=>decide (x≤y)=true):sortL l=m:=by
  refine List.Perm.eq_of_pairwise (le:=fun x y:Int=>decide (x≤y)=true) (fun a b _ _ h1 h2=>?_) (List.pairwise_mergeSort (fun a b c h1 h2=>?_) (fun a b=>?_) l) hm ((List.mergeSort_perm _ _).trans h)
  · have:=of_decide_eq_true h1;have:=of_decide_eq_true h2;omega
  · have:=of_decide_eq_true h1;have:=of_decide_eq_true h2;exact decide_eq_true (by omega)
  · simp;omega
theorem MD {t:Tsk} {s:List Int} (hp:PreOk t) (hs:StateOk t.vars s):findL t (treeOf t) s=appl t s:=by
  unfold findL
  rw [if_pos (Ch hs)]
  refine MC ?_ (LK t s)
  rw [Pe hp]
  exact (Lf hp hs _ _ 0 (Nat.zero_le _) (by omega)).1
theorem Nl {t:Tsk} {s:List Int} (hp:PreOk t) (hs:StateOk t.vars s):Fits s (treeOf t):=(Lf hp hs _ _ 0 (Nat.zero_le _) (by omega)).2
theorem NX (t:Tsk) (s:List Int):∀ (fuel:Nat) (ops:List Int) (v:Nat),(coll s (mkT t fuel ops v)).length≤ops.length:=by
  intro fuel
  induction fuel with
  | zero=>intro ops v;exact Nat.zero_le _
  | succ fuel ih =>
    intro ops v
    unfold mkT
    by_cases he:ops.isEmpty=true
    · rw [if_pos he];exact Nat.zero_le _
    rw [if_neg he]
    by_cases hn:nextV t ops v=t.vars.length
    · rw [if_pos hn];exact Nat.le_refl _
    rw [if_neg hn,coll,List.length_append]
    refine Nat.le_trans (Nat.add_le_add (ih _ _) (ih _ _)) ?_
    generalize nextV t ops v=u
    generalize atN s u=x
    clear he hn ih
    induction ops with
    | nil=>simp
    | cons op ops ih2 =>
      have hac:valB t u x op=true→restB t u op=false:=by
        unfold valB restB
        cases factOn (preOf t op) (u:Int)<;>simp
      rw [List.filter_cons,List.filter_cons]
      cases ha:valB t u x op
      · cases hc:restB t u op<;>simp<;>omega
      · rw [hac ha];simp;omega
theorem JP (t:Tsk):(allOps t).length=t.ops.length:=by simp [allOps]
theorem NY (t:Tsk) (s:List Int):(coll s (treeOf t)).length≤t.ops.length:=by
  have:=NX t s (t.vars.length + 1) (allOps t) 0
  rwa [JP] at this
end
section
open Go Go.RowKit
attribute [local irreducible] ewp owp hwp hwq hws Ev Evg Fn retPost loud loudS Res1
theorem LL:∀ k,((List.range (k + 1)).map fun i:Nat=>(i:Int))=((List.range k).map fun i:Nat=>(i:Int)) ++ [(k:Int)]:=fun k=>by
  rw [List.range_succ,List.map_append];rfl
theorem genNew {w:World} {tv:Value} {t:Tsk} (ht:V w tv t):Fn Tryz.prog 42 [tv] w fun v w'=>Ext w w' ∧
    ((TaskOk t∧∃ gv,v=.tuple #[gv,.nilIface]∧GenR w' (nw w w') gv t (treeOf t))∨(¬ TaskOk t∧v=.tuple #[.pointer none,errV (checkN t)])):=by
  have ht0:=ht
  obtain ⟨cs,rfl,a,b,c,d,rfl,hvars,hinit,hgoal,hops⟩:=ht
  refine AI Tryz.func42 rfl Tryz.ntmps42 rfl ?_
  repeat (first|refine An ?_|refine Ah rfl ?_|refine Ae rfl ?_)
  refine Do rfl rfl fun w1 hN1=>?_
  have hE1:Ext w w1:=hN1.ext
  have hb1:Blk w1 w.heap.size 26 [a,b,c,d]:=hN1.blk
  have ht1:=ht0.ext hE1
  (refine Ar rfl rfl ?_<;>refine Ar rfl rfl ?_<;>(refine o_z ?_))
  repeat (first|refine An ?_|refine Ah rfl ?_|refine Ae rfl ?_)
  (refine BM rfl rfl ?_)
  refine Bc rfl rfl (taskCheck ht1) ?_
  rintro _ w2 ⟨rfl,hE2⟩
  have hE02:Ext w w2:=hE1.trans' hE2
  have hb1:=hb1.ext hE2
  by_cases hok:TaskOk t
  case neg =>
    have hne:checkN t≠0:=fun h=>hok (Ht.1 h)
    rw [Gz hne]
    (refine Ar rfl rfl ?_<;>(refine o_z ?_))
    repeat (first|refine An ?_|refine Ah rfl ?_|refine Ae rfl ?_)
    ((repeat (first|refine An ?_|refine Ah rfl ?_|refine Ae rfl ?_))<;>(refine Am rfl rfl ?_<;>(first|refine PH rfl rfl ?_|refine PI rfl rfl ?_)<;>(refine o_z ?_))<;>(repeat (first|refine An ?_|refine Ah rfl ?_|refine Ae rfl ?_)))
    ((repeat (first|refine An ?_|refine Ah rfl ?_|refine Ae rfl ?_))<;>(refine Am rfl rfl ?_<;>refine Ar rfl rfl ?_<;>refine Ar rfl rfl ?_<;>(refine o_z ?_))<;>(repeat (first|refine An ?_|refine Ah rfl ?_|refine Ae rfl ?_)))
    exact ret2 rfl (AB rfl) (AB rfl) ⟨hE02,.inr ⟨hok,rfl⟩⟩
  rw [Ht.2 hok,FT]
  (refine Ar rfl rfl ?_<;>(refine o_z ?_))
  repeat (first|refine An ?_|refine Ah rfl ?_|refine Ae rfl ?_)
  ((repeat (first|refine An ?_|refine Ah rfl ?_|refine Ae rfl ?_))<;>(refine Am rfl rfl ?_<;>(first|refine PH rfl rfl ?_|refine PI rfl rfl ?_)<;>(refine o_z ?_))<;>(repeat (first|refine An ?_|refine Ah rfl ?_|refine Ae rfl ?_)))
  have hpre:=hok.pre
  have hl1:t.vars.length≤64:=hok.1
  have hl4:t.ops.length≤4096:=hok.2.1
  have hcp:=genCopied (ht1.ext hE2) (by omega) (by rw [hok.2.2.2.1.1];omega) (by have:=DZ hok.2.2.2.2.1;omega) (by omega) (fun i o ho=>by
    obtain ⟨_,_,h3,_,h5,h6⟩:=hok.2.2.2.2.2 i o ho
    exact ⟨by have:=DZ h5;omega,by omega,fun j e he=>by have:=DZ (h6 j e he).1;omega⟩)
  (refine BM rfl rfl ?_)
  refine Bc rfl rfl hcp ?_
  rintro cvv w3 ⟨hcv,hE3⟩
  obtain ⟨cs',rfl,a',b',c',d',rfl,hvars',hinit',hgoal',hops'⟩:=hcv
  (refine EK rfl rfl rfl ?_)
  refine Do rfl rfl fun w4 hN4=>?_
  have hbg:Blk w4 w3.heap.size 129 [a',b',c',d',.pointer none]:=hN4.blk
  have hE34:Ext w3 w4:=hN4.ext
  have s2:=hE02.size
  have s3:=hE3.size
  have s4:w4.heap.size=w3.heap.size + 1:=hN4.size
  obtain ⟨Ao,co,rfl⟩:=hops'.form
  (refine Ar rfl rfl ?_<;>(refine o_z ?_))
  repeat (first|refine An ?_|refine Ah rfl ?_|refine Ae rfl ?_)
  ((repeat (first|refine An ?_|refine Ah rfl ?_|refine Ae rfl ?_))<;>(refine Ar rfl rfl ?_<;>(refine o_z ?_))<;>(repeat (first|refine An ?_|refine Ah rfl ?_|refine Ae rfl ?_)))
  clear hb1
  have hb1:=hbg
  ((repeat (first|refine An ?_|refine Ah rfl ?_|refine Ae rfl ?_))<;>(refine Am rfl rfl ?_<;>refine BK rfl rfl ?_<;>refine AF rfl rfl ?_<;>refine AF rfl rfl ?_<;>refine AE rfl rfl ?_<;>refine AN rfl rfl ?_<;>refine Am rfl rfl ?_<;>(refine o_z ?_))<;>(repeat (first|refine An ?_|refine Ah rfl ?_|refine Ae rfl ?_)))
  refine Br t.ops.length (by omega) (fun v:Value=>[(1,.pointer (some ⟨w.heap.size,0,none⟩)),(5,.pointer (some ⟨w3.heap.size,0,none⟩)),(6,v)]) (fun k v w'=>Ext w4 w'∧Own w' w4.heap.size (fun _=>False) 3 v ((List.range k).map fun i:Nat=>(i:Int))) (.slice none 0 0)
    ⟨Below.refl _ _,Own.nil _ _ _ _⟩ ⟨rfl,rfl,rfl,rfl,rfl,trivial⟩ (fun _=>⟨rfl,rfl⟩) ⟨rfl,rfl,rfl⟩ ⟨rfl,rfl⟩ ?_ ?_
  · rintro k v w5 hk ⟨hE5,hown⟩
    ((repeat (first|refine An ?_|refine Ah rfl ?_|refine Ae rfl ?_))<;>(refine Am rfl rfl ?_<;>refine Ar rfl rfl ?_<;>(refine o_z ?_))<;>(repeat (first|refine An ?_|refine Ah rfl ?_|refine Ae rfl ?_)))
    (refine Am rfl rfl ?_<;>refine Am rfl rfl ?_)
    refine Fc (a:=(k:Int)) rfl rfl rfl hown (fun _ h=>h.elim) hE5.size ⟨rfl,by omega,by omega⟩ (by decide) (by decide) (by simp;omega) (by simp;omega) ⟨rfl,rfl⟩ fun v' w6 hown6 hK=>?_
    (refine Ar rfl rfl ?_<;>(refine o_z ?_))
    repeat (first|refine An ?_|refine Ah rfl ?_|refine Ae rfl ?_)
    exact ⟨v',⟨rfl,rfl,rfl,rfl,rfl,trivial⟩,hE5.trans (hown.fits (Nat.le_refl _) hE5.size hK),by rw [LL];exact hown6⟩
  rintro v w5 ⟨hE5,hown⟩
  have s5:=hE5.size
  have hE35:=hE34.trans' hE5
  have hbg5:=hbg.ext hE5
  have hB5:GenB w5 (All w5) (.pointer (some ⟨w3.heap.size,0,none⟩)) t:=⟨_,_,_,_,_,_,rfl,by show _ < _;omega,hbg5,(hvars'.agree (hE35.agree fun _ h=>h.2)).mono fun k hk=>by have:=hk.2;show _ < _;omega,(hinit'.agree (hE35.agree fun _ h=>h.2)).mono fun k hk=>by have:=hk.2;show _ < _;omega,(hgoal'.agree (hE35.agree fun _ h=>h.2)).mono fun k hk=>by have:=hk.2;show _ < _;omega,(hops'.agree (hE35.agree fun _ h=>h.2)).mono fun k hk=>by have:=hk.2;show _ < _;omega⟩
  have hov:Vb w5 (nw w4 w5) v (allOps t):=hown.vb.mono fun k hk=>hown.lt k (hk.resolve_left id)
  have hbuild:=genBuild t hok.vars hok.fits hl1 (t.vars.length + 1) w5 _ v (allOps t) 0 (nw w4 w5) hB5 hov (fun k hk=>hk.2) (fun op hop=>by
    obtain ⟨i,hi,rfl⟩:=List.mem_map.1 hop
    have:=List.mem_range.1 hi
    exact ⟨by omega,by omega⟩) (by rw [JP];omega) (Nat.zero_le _) (by omega)
  repeat (first|refine An ?_|refine Ah rfl ?_|refine Ae rfl ?_)
  (refine Am rfl rfl ?_<;>refine Am rfl rfl ?_<;>refine Am rfl rfl ?_)
  refine Bc rfl rfl hbuild ?_
  rintro p w6 ⟨hT,hE6⟩
  obtain ⟨rp,rfl⟩:=hT.form
  have s6:=hE6.size
  (refine BK rfl rfl ?_<;>refine AF rfl rfl ?_)
  refine BT rfl rfl (hbg5.ext hE6) rfl (Nat.le_refl _) (by simp [Value.cells,Value.oneCell']) fun w7 hU=>?_
  ((refine o_z ?_))
  repeat (first|refine An ?_|refine Ah rfl ?_|refine Ae rfl ?_)
  ((repeat (first|refine An ?_|refine Ah rfl ?_|refine Ae rfl ?_))<;>(refine Am rfl rfl ?_<;>refine Ar rfl rfl ?_<;>refine Ar rfl rfl ?_<;>(refine o_z ?_))<;>(repeat (first|refine An ?_|refine Ah rfl ?_|refine Ae rfl ?_)))
  have hE36:=hE35.trans' hE6
  have s7:=hU.size
  have hcl:∀ {α:Type} [Rp α] {v:Value} {x:α},Vb w3 (nw w2 w3) v x→Vb w7 (nw w w7) v x:=fun h=>((h.agree (hE36.agree fun _ h=>h.2)).agree fun q hq=>hU.other q (by have:=hq.2;omega)).mono fun k hk=>⟨by have:=hk.1;omega,by have:=hk.2;omega⟩
  refine ret2 rfl (AB rfl) (AB rfl) ⟨(((hE02.trans' hE3).trans' hE36).trans (hU.below (by omega))),.inl ⟨hok,_,rfl,_,_,_,_,_,_,rfl,⟨by omega,by omega⟩,hU.blk,hcl hvars',hcl hinit',hcl hgoal',hcl hops',?_⟩⟩
  refine TrR.mono (fun k hk=>?_) (TrR.agree (fun q hq=>hU.other q ?_) hT)
  · rcases hk with hk|hk
    · exact ⟨by have:=hk.1;omega,by have:=hk.2;omega⟩
    · exact ⟨by omega,by omega⟩
  · rcases hq with hk|hk
    · have:=hk.1;omega
    · omega
end
section
open Go Go.RowKit
theorem TaskOk.effs {t:Tsk} (h:TaskOk t) {s:List Int} (hs:StateOk t.vars s):∀ (i:Nat) o,t.ops[i]?=some o→EffsIn s o.effs:=fun i o ho j e he=>by
  obtain ⟨h1,_,y,hy,_⟩:=((h.2.2.2.2.2 i o ho).2.2.2.2.2 j e he).2
  refine ⟨h1,?_⟩
  have:=(List.getElem?_eq_some_iff.1 hy).1
  rw [hs.1]
  simp only at h1 this
  omega
end
section
open Go Go.RowKit
attribute [local irreducible] ewp owp hwp hwq hws Ev Evg Fn retPost loud loudS Res1
theorem GenR.mono {w:World} {F G:Nat→Prop} {gv:Value} {t:Tsk} {T:Tr} (h:GenR w F gv t T) (hk:∀ k,F k→G k):GenR w G gv t T:=by
  obtain ⟨gb,a,b,c,d,r,h1,h2,h3,h4,h5,h6,h7,h8⟩:=h
  exact ⟨gb,a,b,c,d,r,h1,hk _ h2,h3,h4.mono hk,h5.mono hk,h6.mono hk,h7.mono hk,TrR.mono hk h8⟩
theorem GenR.agree {w w':World} {F:Nat→Prop} {gv:Value} {t:Tsk} {T:Tr} (h:GenR w F gv t T) (ha:Agree F w w'):GenR w' F gv t T:=by
  obtain ⟨gb,a,b,c,d,r,h1,h2,h3,h4,h5,h6,h7,h8⟩:=h
  exact ⟨gb,a,b,c,d,r,h1,h2,h3.keep (ha gb h2),h4.agree ha,h5.agree ha,h6.agree ha,h7.agree ha,TrR.agree ha h8⟩
theorem GenR.form {w:World} {F:Nat→Prop} {gv:Value} {t:Tsk} {T:Tr} (h:GenR w F gv t T):∃ gb,gv=.pointer (some ⟨gb,0,none⟩):=by
  obtain ⟨gb,a,b,c,d,r,h1,_⟩:=h
  exact ⟨gb,h1⟩
noncomputable def appS (t:Tsk) (s:List Int):List Int:=if bof (StateOk t.vars s)=true then appl t s else []
theorem Hf {t:Tsk} {s:List Int} (h:StateOk t.vars s):appS t s=appl t s:=by unfold appS;rw [if_pos (Ch h)]
theorem Kg {t:Tsk} {s:List Int} (h:¬ StateOk t.vars s):appS t s=[]:=by unfold appS;rw [Bi h];rfl
theorem ME {t:Tsk} (hp:PreOk t) (s:List Int):findL t (treeOf t) s=appS t s:=by
  by_cases h:StateOk t.vars s
  · rw [MD hp h,Hf h]
  · rw [Kg h];unfold findL;rw [Bi h];rfl
theorem NZ {t:Tsk} {s:List Int} {x:Int} (h:x∈appl t s):∃ (j:Nat) (o:Opr),x=(j:Int)∧t.ops[j]?=some o∧holdsB o.pre s=true:=by
  unfold appl applK at h
  obtain ⟨j,hj,rfl⟩:=List.mem_map.1 h
  obtain ⟨h1,h2⟩:=List.mem_filter.1 hj
  obtain ⟨o,ho⟩:=AD (List.mem_range.1 h1)
  rw [ho] at h2
  exact ⟨j,o,rfl,ho,h2⟩
theorem Oa {t:Tsk} {s:List Int} {x:Int} (h:x∈appS t s):StateOk t.vars s∧x∈appl t s:=by
  by_cases hs:StateOk t.vars s
  · rw [Hf hs] at h;exact ⟨hs,h⟩
  · rw [Kg hs] at h;cases h
theorem Oc (t:Tsk) (s:List Int):(appl t s).length≤t.ops.length:=Ni t s _
theorem Od (t:Tsk) (s:List Int):(appS t s).length≤t.ops.length:=by
  by_cases hs:StateOk t.vars s
  · rw [Hf hs];exact Oc t s
  · rw [Kg hs];exact Nat.zero_le _
section
variable {w : World} {gv sv : Value} {t : Tsk} {s : List Int}
theorem applT (hok:TaskOk t) (hg:GenR w (All w) gv t (treeOf t)) (hs:V w sv s) (hsl:s.length≤1000000) :
    Fn Tryz.prog 87 [gv,sv] w fun v w'=>Ext w w'∧Own w' w.heap.size (All w) 3 v (appS t s):=by
  have:=genApplicable hg hs (Nl hok.pre) (by have:=NY t s;have:=hok.2.1;omega) hsl
  rwa [ME hok.pre] at this
end
theorem nilFind {w:World} {sv:Value}:Fn Tryz.prog 113 [.pointer none,sv] w fun v w'=>v=.tuple #[.slice none 0 0,.int .i64 0]∧Ext w w':=by
  refine AI Tryz.func113 rfl Tryz.ntmps113 rfl ?_
  ((repeat (first|refine An ?_|refine Ah rfl ?_|refine Ae rfl ?_))<;>(refine Ar rfl rfl ?_<;>refine Ar rfl rfl ?_<;>(refine o_z ?_))<;>(repeat (first|refine An ?_|refine Ah rfl ?_|refine Ae rfl ?_)))
  (refine Am rfl rfl ?_<;>refine Ep rfl rfl ?_<;>refine Am rfl rfl ?_<;>(first|(refine Aw rfl rfl ?_;refine Am rfl rfl ?_)|refine Au rfl rfl rfl rfl ?_)<;>(first|(refine Aw rfl rfl ?_;refine BK rfl rfl ?_)|refine Au rfl rfl rfl rfl ?_)<;>(first|(refine Aw rfl rfl ?_;refine AF rfl rfl ?_)|refine Au rfl rfl rfl rfl ?_)<;>(first|(refine Aw rfl rfl ?_;refine AF rfl rfl ?_)|refine Au rfl rfl rfl rfl ?_)<;>(first|(refine Aw rfl rfl ?_;refine AE rfl rfl ?_)|refine Au rfl rfl rfl rfl ?_)<;>(first|(refine Aw rfl rfl ?_;refine Am rfl rfl ?_)|refine Au rfl rfl rfl rfl ?_))
  refine Au rfl rfl rfl rfl ?_
  ((first|(refine Aw rfl rfl ?_;(first|refine CL rfl rfl ?_|refine CM rfl rfl ?_|refine Dn rfl rfl ?_))|refine Au rfl rfl rfl rfl ?_)<;>(first|refine Bk rfl rfl rfl ?_|refine Bp rfl rfl rfl ?_)<;>(refine o_z ?_))
  repeat (first|refine An ?_|refine Ah rfl ?_|refine Ae rfl ?_)
  ((repeat (first|refine An ?_|refine Ah rfl ?_|refine Ae rfl ?_))<;>(refine Ar rfl rfl ?_<;>refine Ar rfl rfl ?_<;>(refine o_z ?_))<;>(repeat (first|refine An ?_|refine Ah rfl ?_|refine Ae rfl ?_)))
  exact ret2 rfl (AB rfl) (AB rfl) ⟨rfl,Below.refl _ _⟩
theorem nilApplicable {w:World} {sv:Value}:Fn Tryz.prog 87 [.pointer none,sv] w fun v w'=>v=.slice none 0 0∧Ext w w':=by
  refine AI Tryz.func87 rfl Tryz.ntmps87 rfl ?_
  ((repeat (first|refine An ?_|refine Ah rfl ?_|refine Ae rfl ?_))<;>(refine Ar rfl rfl ?_<;>(refine o_z ?_))<;>(repeat (first|refine An ?_|refine Ah rfl ?_|refine Ae rfl ?_))<;>(refine Am rfl rfl ?_<;>refine Am rfl rfl ?_)<;>(repeat (first|refine An ?_|refine Ah rfl ?_|refine Ae rfl ?_)))
  refine Bc rfl rfl nilFind ?_
  rintro _ w1 ⟨rfl,hE⟩
  (refine Am rfl rfl ?_<;>refine Bz rfl rfl rfl ?_<;>refine Bz rfl rfl rfl ?_<;>refine Ar rfl rfl ?_<;>refine Ar rfl rfl ?_<;>(refine o_z ?_))
  repeat (first|refine An ?_|refine Ah rfl ?_|refine Ae rfl ?_)
  ((repeat (first|refine An ?_|refine Ah rfl ?_|refine Ae rfl ?_))<;>(refine Am rfl rfl ?_<;>refine Ar rfl rfl ?_<;>(refine o_z ?_))<;>(repeat (first|refine An ?_|refine Ah rfl ?_|refine Ae rfl ?_)))
  exact ret1 rfl rfl ⟨rfl,hE⟩
end
section
open Go Go.RowKit
instance:TBool Tryz.prog 4:=⟨Tryz.underlying4⟩
end
section
open Go Go.RowKit
section
variable {P : Program} {l : Env} {w : World} {dst : Option Tmp} {ty : TypeId} {pos : String} {aft : Array Edge}
theorem Hu {t u:TypeId} {x y:Operand} {a b c:Int} (hx:opv l x=some (.int .i64 a)) (hy:opv l y=some (.int .i64 b)) (he:chkI (a + b)=some c):Ev P ⟨dst,.binOp .add t x y u,ty,pos,aft,none⟩ l w (.int .i64 c):=by
  obtain ⟨rfl,h⟩:=GN he
  exact JB hx hy h
theorem JQ {t u:TypeId} {x y:Operand} {a b c:Int} (hx:opv l x=some (.int .i64 a)) (hy:opv l y=some (.int .i64 b)) (he:chkI (a - b)=some c):Ev P ⟨dst,.binOp .sub t x y u,ty,pos,aft,none⟩ l w (.int .i64 c):=by
  obtain ⟨rfl,h⟩:=GN he
  exact MW hx hy h
theorem MF {t u:TypeId} {x y:Operand} {a b c:Int} (hx:opv l x=some (.int .i64 a)) (hy:opv l y=some (.int .i64 b)) (he:chkI (a * b)=some c):Ev P ⟨dst,.binOp .mul t x y u,ty,pos,aft,none⟩ l w (.int .i64 c):=by
  obtain ⟨rfl,h⟩:=GN he
  exact MX hx hy h
theorem Pf {t u:TypeId} {x y:Operand} {a b c:Int} (hx:opv l x=some (.int .i64 a)) (hy:opv l y=some (.int .i64 b)) (he:quoI a b=some c) (hr:inI64 a):Ev P ⟨dst,.binOp .quo t x y u,ty,pos,aft,none⟩ l w (.int .i64 c):=by
  obtain ⟨h1,h2,rfl⟩:=Ku he
  exact PC hx hy h1 h2 hr.2
theorem JR {t e:TypeId} [TSlice P t e] {z:Value} {size bytes:Nat} [TInfo P e z size bytes] {x i:Operand} {k:IntKind} {A:Option Addr} {b o m c j:Nat} {q:Int} (hx:opv l x=some (.slice A m c)) (hq:opv l i=some (.int k q)) (hA:A=some ⟨b,o,none⟩) (hj:q=(j:Int)) (hlt:j < m) :
    Ev P ⟨dst,.indexAddr t x i,ty,pos,aft,none⟩ l w (.pointer (some ⟨b,o + j * size,none⟩)):=by
  subst hA
  exact Fq hx hq hj hlt
theorem PV {t:TypeId} {f off:Nat} [TField P t f off] {x:Operand} {p:Option Addr} {b o:Nat} (hx:opv l x=some (.pointer p)) (hA:p=some ⟨b,o,none⟩):Ev P ⟨dst,.fieldAddr t x f,ty,pos,aft,none⟩ l w (.pointer (some ⟨b,o + off,none⟩)):=by
  subst hA
  exact Cj hx
theorem PW {x:Operand} {p:Option Addr} {ad:Addr} (hx:opv l x=some (.pointer p)) (hA:p=some ad):Ev P ⟨dst,.nilCheck x,ty,pos,aft,none⟩ l w (.pointer p):=by
  subst hA
  exact Ho hx
theorem PX {x:Operand} {n:Int} [TInt P 45 .i64] (hx:opv l x=some (.int .i64 n)) (hn:n≠0):Ev P ⟨dst,.makeInterface 45 x,ty,pos,aft,none⟩ l w (errV n):=by
  rw [Gz hn]
  exact JE hx
theorem QG {t u:TypeId} [h:TBool P t] {x y:Operand} {a b:Bool} (hx:opv l x=some (.bool a)) (hy:opv l y=some (.bool b)):Ev P ⟨dst,.binOp .neq t x y u,ty,pos,aft,none⟩ l w (.bool (!(a == b))):=fun _ _ e ha=>by
  have hd:∀ n:Nat,(Op.equalIn (n + 1) t (.bool a) (.bool b)).run P (dr w e)=.ok (a == b) (dr w e):=fun n=>by simp [Op.equalIn,run_underlying h.eq]
  have h2:(Op.equal t (.bool a) (.bool b)).run P (dr w e)=.ok (a == b) (dr w e):=hd 9999
  simp [execOp,ha.eval hx,ha.eval hy,eqGuard,binOp,h2]
theorem Pg {t u:TypeId} [TIface P t] {x:Operand} {n:Int} (hx:opv l x=some (errV n)):Ev P ⟨dst,.binOp .eql t x (.const .nilIface) u,ty,pos,aft,none⟩ l w (.bool (decide (n=0))):=by
  by_cases h:n=0
  · subst h
    rw [FT] at hx
    exact Kr hx
  · rw [Gz h] at hx
    simpa [h] using Mr (P:=P) (w:=w) (dst:=dst) (ty:=ty) (pos:=pos) (aft:=aft) (t:=t) (u:=u) hx
theorem Ph {t u:TypeId} [TIface P t] {x:Operand} {n:Int} (hx:opv l x=some (errV n)):Ev P ⟨dst,.binOp .neq t x (.const .nilIface) u,ty,pos,aft,none⟩ l w (.bool (decide (n≠0))):=by
  by_cases h:n=0
  · subst h
    rw [FT] at hx
    exact JF hx
  · rw [Gz h] at hx
    simpa [h] using IY (P:=P) (w:=w) (dst:=dst) (ty:=ty) (pos:=pos) (aft:=aft) (t:=t) (u:=u) hx
theorem Pi {t e u:TypeId} [TPtr P t e] {x:Operand} {p:Option Addr} {b:Bool} (hq:p.isNone=b) (hx:opv l x=some (.pointer p)):Ev P ⟨dst,.binOp .neq t x (.const (.pointer none)) u,ty,pos,aft,none⟩ l w (.bool (decide (b=false))):=by
  subst hq
  have:=Mq (P:=P) (w:=w) (dst:=dst) (ty:=ty) (pos:=pos) (aft:=aft) (t:=t) (u:=u) hx
  cases hb:p.isNone<;>simpa [hb] using this
end
section
variable {P : Program} {n : Nat} {ops : Array Oper} {Q : Post} {rest : List Oper} {l : Env} {w : World} {d : Tmp} {ty : TypeId} {pos : String} {aft : Array Edge}
theorem Fw {t u:TypeId} {x y:Operand} {a b c:Int} (hx:opv l x=some (.int .i64 a)) (hy:opv l y=some (.int .i64 b)) (hd:Nat.blt d n=true) (h:owp P n ops Q rest ((d,.int .i64 c) :: l) w) (he:chkI (a + b)=some c:=by assumption):owp P n ops Q (⟨some d,.binOp .add t x y u,ty,pos,aft,none⟩ :: rest) l w:=Ba (Hu hx hy he) hd h
theorem MG {t u:TypeId} {x y:Operand} {a b c:Int} (hx:opv l x=some (.int .i64 a)) (hy:opv l y=some (.int .i64 b)) (hd:Nat.blt d n=true) (h:owp P n ops Q rest ((d,.int .i64 c) :: l) w) (he:chkI (a - b)=some c:=by assumption):owp P n ops Q (⟨some d,.binOp .sub t x y u,ty,pos,aft,none⟩ :: rest) l w:=Ba (JQ hx hy he) hd h
theorem QH {t u:TypeId} {x y:Operand} {a b c:Int} (hx:opv l x=some (.int .i64 a)) (hy:opv l y=some (.int .i64 b)) (hd:Nat.blt d n=true) (h:owp P n ops Q rest ((d,.int .i64 c) :: l) w) (he:chkI (a * b)=some c:=by assumption):owp P n ops Q (⟨some d,.binOp .mul t x y u,ty,pos,aft,none⟩ :: rest) l w:=Ba (MF hx hy he) hd h
theorem QI {t u:TypeId} {x y:Operand} {a b c:Int} (hx:opv l x=some (.int .i64 a)) (hy:opv l y=some (.int .i64 b)) (hd:Nat.blt d n=true) (h:owp P n ops Q rest ((d,.int .i64 c) :: l) w) (he:quoI a b=some c:=by assumption) (hr:inI64 a:=by assumption):owp P n ops Q (⟨some d,.binOp .quo t x y u,ty,pos,aft,none⟩ :: rest) l w:=Ba (Pf hx hy he hr) hd h
theorem BW {t e:TypeId} [TSlice P t e] {z:Value} {size bytes:Nat} [TInfo P e z size bytes] {x i:Operand} {k:IntKind} {A:Option Addr} {b o m c j:Nat} {q:Int} (hx:opv l x=some (.slice A m c)) (hq:opv l i=some (.int k q)) (hd:Nat.blt d n=true) (h:owp P n ops Q rest ((d,.pointer (some ⟨b,o + j * size,none⟩)) :: l) w) (hA:A=some ⟨b,o,none⟩:=by assumption) (hj:q=(j:Int):=by rfl) (hlt:j < m:=by assumption):owp P n ops Q (⟨some d,.indexAddr t x i,ty,pos,aft,none⟩ :: rest) l w:=Ba (JR hx hq hA hj hlt) hd h
theorem QJ {t:TypeId} {f off:Nat} [TField P t f off] {x:Operand} {p:Option Addr} {b o:Nat} (hx:opv l x=some (.pointer p)) (hd:Nat.blt d n=true) (h:owp P n ops Q rest ((d,.pointer (some ⟨b,o + off,none⟩)) :: l) w) (hA:p=some ⟨b,o,none⟩:=by assumption):owp P n ops Q (⟨some d,.fieldAddr t x f,ty,pos,aft,none⟩ :: rest) l w:=Ba (PV hx hA) hd h
theorem QK {x:Operand} {p:Option Addr} {ad:Addr} (hx:opv l x=some (.pointer p)) (hd:Nat.blt d n=true) (h:owp P n ops Q rest ((d,.pointer p) :: l) w) (hA:p=some ad:=by assumption):owp P n ops Q (⟨some d,.nilCheck x,ty,pos,aft,none⟩ :: rest) l w:=Ba (PW hx hA) hd h
theorem PY {t e:TypeId} [TSlice P t e] {z:Value} {size bytes:Nat} [TInfo P e z size bytes] {A A':Option Addr} {m c m' c':Nat} {q:Int} {k:IntKind} {x y:Operand} (hx:opv l x=some (.slice A m c)) (hy:opv l y=some (.int k q)) (hd:Nat.blt d n=true) (h:owp P n ops Q rest ((d,.slice A' m' c') :: l) w) (hc:CutB size A m c 0 q A' m' c':=by assumption):owp P n ops Q (⟨some d,.slice t x none (some y) none,ty,pos,aft,none⟩ :: rest) l w:=Ba (Pb hx hy hc) hd h
theorem Er [TInt P 45 .i64] {x:Operand} {q:Int} (hx:opv l x=some (.int .i64 q)) (hd:Nat.blt d n=true) (h:owp P n ops Q rest ((d,errV q) :: l) w) (hn:q≠0:=by decide):owp P n ops Q (⟨some d,.makeInterface 45 x,ty,pos,aft,none⟩ :: rest) l w:=Ba (PX hx hn) hd h
theorem QL {t u:TypeId} [TIface P t] {x:Operand} {k:Int} (hx:opv l x=some (errV k)) (hd:Nat.blt d n=true) (ht:k=0→owp P n ops Q rest ((d,.bool true) :: l) w) (hf:¬ (k=0)→owp P n ops Q rest ((d,.bool false) :: l) w):owp P n ops Q (⟨some d,.binOp .eql t x (.const .nilIface) u,ty,pos,aft,none⟩ :: rest) l w:=DT (Pg hx) hd ht hf
theorem Fg {t u:TypeId} [TIface P t] {x:Operand} {k:Int} (hx:opv l x=some (errV k)) (hd:Nat.blt d n=true) (ht:k≠0→owp P n ops Q rest ((d,.bool true) :: l) w) (hf:¬ (k≠0)→owp P n ops Q rest ((d,.bool false) :: l) w):owp P n ops Q (⟨some d,.binOp .neq t x (.const .nilIface) u,ty,pos,aft,none⟩ :: rest) l w:=DT (Ph hx) hd ht hf
theorem QM {t e u:TypeId} [TPtr P t e] {x:Operand} {p:Option Addr} {b:Bool} (hq:p.isNone=b) (hx:opv l x=some (.pointer p)) (hd:Nat.blt d n=true) (ht:b=false→owp P n ops Q rest ((d,.bool true) :: l) w) (hf:¬ (b=false)→owp P n ops Q rest ((d,.bool false) :: l) w):owp P n ops Q (⟨some d,.binOp .neq t x (.const (.pointer none)) u,ty,pos,aft,none⟩ :: rest) l w:=DT (Pi hq hx) hd ht hf
variable {S : World → Prop} {r : List (Nat × Bool)} {i : Nat}
theorem QN {t u:TypeId} {x y:Operand} {a b c:Int} (hi:ops[i]?=some ⟨some d,.binOp .add t x y u,ty,pos,aft,none⟩) (hx:opv l x=some (.int .i64 a)) (hy:opv l y=some (.int .i64 b)) (hd:Nat.blt d n=true) (h:hwp P n ops Q S r ((d,.int .i64 c) :: l) w) (he:chkI (a + b)=some c:=by assumption):hwp P n ops Q S ((i,true) :: r) l w:=Az hi (AY (fun _ _=>Hu hx hy he) hd h)
theorem QO {t u:TypeId} {x y:Operand} {a b c:Int} (hx:opv l x=some (.int .i64 a)) (hy:opv l y=some (.int .i64 b)) (hd:Nat.blt d n=true) (h:hwp P n ops Q S r ((d,.int .i64 c) :: l) w) (he:chkI (a + b)=some c:=by assumption):hwq P n ops Q S ⟨some d,.binOp .add t x y u,ty,pos,aft,none⟩ r l w:=AY (fun _ _=>Hu hx hy he) hd h
theorem QP {t u:TypeId} {x y:Operand} {a b c:Int} (hi:ops[i]?=some ⟨some d,.binOp .sub t x y u,ty,pos,aft,none⟩) (hx:opv l x=some (.int .i64 a)) (hy:opv l y=some (.int .i64 b)) (hd:Nat.blt d n=true) (h:hwp P n ops Q S r ((d,.int .i64 c) :: l) w) (he:chkI (a - b)=some c:=by assumption):hwp P n ops Q S ((i,true) :: r) l w:=Az hi (AY (fun _ _=>JQ hx hy he) hd h)
theorem BJ {t e:TypeId} [TSlice P t e] {z:Value} {size bytes:Nat} [TInfo P e z size bytes] {x i':Operand} {k:IntKind} {A:Option Addr} {b o m c j:Nat} {q:Int} (hi:ops[i]?=some ⟨some d,.indexAddr t x i',ty,pos,aft,none⟩) (hx:opv l x=some (.slice A m c)) (hq:opv l i'=some (.int k q)) (hd:Nat.blt d n=true) (h:hwp P n ops Q S r ((d,.pointer (some ⟨b,o + j * size,none⟩)) :: l) w) (hA:A=some ⟨b,o,none⟩:=by assumption) (hj:q=(j:Int):=by rfl) (hlt:j < m:=by assumption):hwp P n ops Q S ((i,true) :: r) l w:=Az hi (AY (fun _ _=>JR hx hq hA hj hlt) hd h)
theorem MH {t e:TypeId} [TSlice P t e] {z:Value} {size bytes:Nat} [TInfo P e z size bytes] {x i':Operand} {k:IntKind} {A:Option Addr} {b o m c j:Nat} {q:Int} (hx:opv l x=some (.slice A m c)) (hq:opv l i'=some (.int k q)) (hd:Nat.blt d n=true) (h:hwp P n ops Q S r ((d,.pointer (some ⟨b,o + j * size,none⟩)) :: l) w) (hA:A=some ⟨b,o,none⟩:=by assumption) (hj:q=(j:Int):=by rfl) (hlt:j < m:=by assumption):hwq P n ops Q S ⟨some d,.indexAddr t x i',ty,pos,aft,none⟩ r l w:=AY (fun _ _=>JR hx hq hA hj hlt) hd h
theorem MI {t u:TypeId} [TBool P t] {x y:Operand} {a b:Bool} (hi:ops[i]?=some ⟨some d,.binOp .neq t x y u,ty,pos,aft,none⟩) (hx:opv l x=some (.bool a)) (hy:opv l y=some (.bool b)) (hd:Nat.blt d n=true) (h:hwp P n ops Q S r ((d,.bool (!(a == b))) :: l) w)  : hwp P n ops Q S ((i,true) :: r) l w:=Az hi (AY (fun _ _=>QG hx hy) hd h)
end
end
section
open Go Go.RowKit
def Bm (w0:World) (O0:Lab) (w:World) (O:Lab):Prop:=St (fun j=>j≠0∧j≠1) w0 O0 w O
section
variable {T : Nat → Prop} {w w' w0 : World} {O O' O0 : Lab}
theorem Bm.st (h:Bm w0 O0 w O) (hS:St T w O w' O') (h0:¬ T 0:=by decide) (h1:¬ T 1:=by decide):Bm w0 O0 w' O' :=
  St.comp h hS fun j hj=>⟨fun e=>h0 (e ▸ hj),fun e=>h1 (e ▸ hj)⟩
theorem Bm.refl:Bm w O w O:=St.refl _ _ _
structure Lbl (f:Nat→Nat) (T:Nat→Prop):Prop where
  z:f 0=0
  nz:∀ j,f j=0→j=0
  o:∀ j,¬ T j→f j=0∨f j=1
theorem Lbl.none:Lbl (fun j=>if j=0 then 0 else 1) nT:=⟨rfl,fun j h=>by by_cases hj:j=0<;>simp_all,fun j _=>by by_cases hj:j=0<;>simp_all⟩
theorem Lbl.one {i:Nat} (hi:i≠0):Lbl (fun j=>if j=0 then 0 else if j=i then 2 else 1) (eT i) :=
  ⟨rfl,fun j h=>by by_cases hj:j=0<;>simp_all;split at h<;>simp_all,fun j h=>by by_cases hj:j=0<;>by_cases hk:j=i<;>simp_all⟩
theorem Lbl.fr0 {f:Nat→Nat} (h:Lbl f T):∀ k,Fr 0 w O k→Fr 0 w (fun k=>f (O k)) k:=fun k hk=>⟨hk.1,by show f (O k)=0;rw [hk.2];exact h.z⟩
theorem Bm.leave {f:Nat→Nat} (g:Nat→Nat) (hf:Lbl f T) (hg:g 0=0) (h:Bm w (fun k=>f (O k)) w' O') :
    ∃ O'',St T w O w' O''∧(∀ k,Fr 0 w' O' k→Fr 0 w' O'' k)∧∀ j,j≠0→j≠1→∀ k,Fr j w' O' k→Fr (g j) w' O'' k:=by
  classical
  have key:∀ k,k < w.heap.size→¬ T (O k)→w'.heap[k]?=w.heap[k]?∧O' k=f (O k):=fun k hk ht =>
    h.same k hk (by rcases hf.o _ ht with e|e<;>simp [e])
  refine ⟨fun k=>if k < w.heap.size∧¬ T (O k) then O k else g (O' k),⟨h.os,h.tape,h.output,h.size,fun k hk ht=>⟨(key k hk ht).1,if_pos ⟨hk,ht⟩⟩⟩,fun k hk=>⟨hk.1,?_⟩,fun j h0 h1 k hk=>⟨hk.1,?_⟩⟩
  · by_cases hc:k < w.heap.size∧¬ T (O k)
    · show (if _ then _ else _)=_
      rw [if_pos hc]
      exact hf.nz _ ((key k hc.1 hc.2).2.symm.trans hk.2)
    · show (if _ then _ else _)=_
      rw [if_neg hc,hk.2,hg]
  · by_cases hc:k < w.heap.size∧¬ T (O k)
    · have h2:=(key k hc.1 hc.2).2.symm.trans hk.2
      rcases hf.o _ hc.2 with e|e<;>rw [e] at h2<;>omega
    · show (if _ then _ else _)=_
      rw [if_neg hc,hk.2]
theorem BR {P:Program} {n:Nat} {ops:Array Oper} {Q:Post} {rest:List Oper} {l:Env} {w:World} {d:Tmp} {ty:TypeId} {pos:String} {aft:Array Edge} {f:FuncId} [Callable P f] {xs:List Operand} {vs:List Value} {ts:Array TypeId} {O:Lab} {R:Value→World→Lab→Prop}
    (hc:Fn P f vs w fun v w'=>∃ O',St T w O w' O'∧R v w' O') (hx:opvs l xs=some vs) (hd:Nat.blt d n=true)
    (h:∀ v w' O',St T w O w' O'→R v w' O'→owp P n ops Q rest ((d,v) :: l) w'):owp P n ops Q (⟨some d,.call { callee:=.value (.func f),args:=xs.toArray,argTypes:=ts },ty,pos,aft,none⟩ :: rest) l w :=
  Bc hx hd hc fun v w' ⟨O',hS,hR⟩=>h v w' O' hS hR
end
def Ent (T:Nat→Prop) (O O0:Lab):Prop:=∃ f,Lbl f T∧O0=fun k=>f (O k)
theorem ent0 {w:World} {O:Lab}:∃ O0,Ent nT O O0∧∀ k,Fr 0 w O k→Fr 0 w O0 k:=⟨_,⟨_,Lbl.none,rfl⟩,Lbl.none.fr0⟩
theorem ent1 {w:World} {O:Lab} {i:Nat} (hi:i≠0):∃ O0,Ent (eT i) O O0∧(∀ k,Fr 0 w O k→Fr 0 w O0 k)∧∀ k,Fr i w O k→Fr 2 w O0 k :=
  ⟨_,⟨_,Lbl.one hi,rfl⟩,(Lbl.one hi).fr0,fun k hk=>⟨hk.1,by simp [hk.2,hi]⟩⟩
theorem Ent.leave {T:Nat→Prop} {w w':World} {O O0 O':Lab} (h:Ent T O O0) (g:Nat→Nat) (hg:g 0=0) (hB:Bm w O0 w' O') :
    ∃ O'',St T w O w' O''∧(∀ k,Fr 0 w' O' k→Fr 0 w' O'' k)∧∀ j,j≠0→j≠1→∀ k,Fr j w' O' k→Fr (g j) w' O'' k:=by
  obtain ⟨f,hf,rfl⟩:=h
  exact Bm.leave g hf hg hB
theorem ret0 {P:Program} {l:Env} {w:World} {fn:Func} {R:Value→World→Prop} (hr:fn.results=#[]) (h:R (.tuple #[]) w):retPost P fn R .ret l w:=⟨_,fun n a d ha=>by simp [ER,hr],h⟩
theorem ret0n {P:Program} {l:Env} {w:World} {fn:Func} {R:Value→World→Prop} (hr:fn.results=#[]) (h:R (.tuple #[]) w):retPost P fn R .normal l w:=⟨_,fun n a d ha=>by simp [ER,hr],h⟩
theorem ret4 {P:Program} {l:Env} {w:World} {fn:Func} {R:Value→World→Prop} {r s q p:ResultVar} {v u x y:Value} (hr:fn.results=#[r,s,q,p]) (h1:Res1 P l w r v) (h2:Res1 P l w s u) (h3:Res1 P l w q x) (h4:Res1 P l w p y) (h:R (.tuple #[v,u,x,y]) w):retPost P fn R .ret l w :=
  ⟨_,fun n a d ha=>by simp [ER,hr,h1 n a d ha,h2 n a d ha,h3 n a d ha,h4 n a d ha],h⟩
class Ow (α:Type) where
  R:World→(Nat→Prop)→(Nat→Prop)→Value→α→Prop
  agree:∀ {w w':World} {F M:Nat→Prop} {v:Value} {x:α},R w F M v x→Agree F w w'→Agree M w w'→R w' F M v x
  mono:∀ {w:World} {F M F' M':Nat→Prop} {v:Value} {x:α},R w F M v x→(∀ k,F k→F' k)→(∀ k,M k→M' k)→(∀ k,F' k→¬ M' k)→R w F' M' v x
class OwP (α:Type) [Ow α]:Prop where
  ptr:∀ {w:World} {F M:Nat→Prop} {v:Value} {x:α},Ow.R w F M v x→∃ g,v=.pointer (some ⟨g,0,none⟩)
def Ob {α:Type} [Ow α] (i:Nat) (w:World) (O:Lab) (v:Value) (x:α):Prop:=Ow.R w (Fr 0 w O) (Fr i w O) v x∧i≠0
theorem frNe {i j:Nat} (h:i≠j) {w:World} {O:Lab}:∀ k,Fr i w O k→¬ Fr j w O k:=fun _ h1 h2=>h (h1.2.symm.trans h2.2)
theorem frNe0 {j:Nat} (h:j≠0) {w:World} {O:Lab}:∀ k,Fr 0 w O k→¬ Fr j w O k:=frNe (Ne.symm h)
section
variable {α : Type} [Ow α] {T : Nat → Prop} {i : Nat} {w w' : World} {O O' : Lab} {v : Value} {x : α}
theorem Ob.st (h:Ob i w O v x) (hS:St T w O w' O') (h0:¬ T 0:=by decide) (hi:¬ T i:=by decide):Ob i w' O' v x :=
  ⟨Ow.mono (Ow.agree h.1 (hS.agree h0) (hS.agree hi)) (hS.fr h0) (hS.fr hi) (frNe0 h.2),h.2⟩
theorem Ob.ptr [OwP α] (h:Ob i w O v x):∃ g,v=.pointer (some ⟨g,0,none⟩):=OwP.ptr h.1
theorem Ob.leave {j:Nat} (h:Ob i w O v x) (h1:∀ k,Fr 0 w O k→Fr 0 w O' k) (h2:∀ k,Fr i w O k→Fr j w O' k) (hj:j≠0):Ob j w O' v x:=⟨Ow.mono h.1 h1 h2 (frNe0 hj),hj⟩
end
def Obo {α:Type} [Ow α] (i:Nat) (w:World) (O:Lab) (v:Value):Option α→Prop
  | none=>v=.pointer none
  | some x=>Ob i w O v x
theorem Obo.st {α:Type} [Ow α] {T:Nat→Prop} {i:Nat} {w w':World} {O O':Lab} {v:Value} {x:Option α} (h:Obo i w O v x) (hS:St T w O w' O') (h0:¬ T 0:=by decide) (hi:¬ T i:=by decide):Obo i w' O' v x:=by
  cases x with
  | none=>exact h
  | some x=>exact Ob.st h hS h0 hi
theorem Obo.ptrq {α:Type} [Ow α] [OwP α] {i:Nat} {w:World} {O:Lab} {v:Value}:∀ {x:Option α},Obo i w O v x→∃ pp,v=.pointer pp∧pp.isNone=x.isNone
  | none,h=>⟨none,h,rfl⟩
  | some _,h=>by obtain ⟨g,rfl⟩:=Ob.ptr h;exact ⟨_,rfl,rfl⟩
theorem Mc {a b:Option Addr} (h:Value.pointer a=.pointer b):a=b:=by injection h
def RwM {α:Type} [Rp α] (w:World) (F M:Nat→Prop) (e:TypeId) (v:Value) (xs:List α):Prop:=Own w 0 F e v xs∧∀ g,v.ownBlock=some g→M g
section
variable {α : Type} [Rp α] {i : Nat} {w w' : World} {O O' : Lab} {v : Value} {xs : List α} {e : TypeId} {F M F' M' : Nat → Prop}
theorem RwM.agree (h:RwM w F M e v xs) (h1:Agree F w w') (h2:Agree M w w'):RwM w' F M e v xs:=⟨h.1.agree h1 fun g hg=>h2 g (h.2 g hg),h.2⟩
theorem RwM.mono (h:RwM w F M e v xs) (h1:∀ k,F k→F' k) (h2:∀ k,M k→M' k) (h3:∀ k,F' k→¬ M' k):RwM w F' M' e v xs :=
  ⟨h.1.mono h1 fun g hg hf=>h3 g hf (h2 g (h.2 g hg)),fun g hg=>h2 g (h.2 g hg)⟩
theorem RwM.rw (h:RwM w F M e v xs) (h1:∀ k,F k→Fr 0 w O k) (h2:∀ k,M k→Fr i w O k) (hi:i≠0):Rw i w O e v xs :=
  ⟨h.1.mono h1 fun g hg hf=>frNe0 hi g hf (h2 g (h.2 g hg)),fun g hg=>(h2 g (h.2 g hg)).2,hi⟩
theorem Rw.m (h:Rw i w O e v xs) (h1:∀ k,Fr 0 w O k→F k) (h2:∀ k,Fr i w O k→M k) (h3:∀ k,F k→¬ M k):RwM w F M e v xs :=
  ⟨h.1.mono h1 fun g hg hf=>h3 g hf (h2 g ⟨(h.1.lt g hg).2,h.2.1 g hg⟩),fun g hg=>h2 g ⟨(h.1.lt g hg).2,h.2.1 g hg⟩⟩
end
theorem cutRw {α:Type} [Rp α] {i:Nat} {w:World} {O:Lab} {e:TypeId} {A:Option Addr} {m c:Nat} {q:Int} {xs u:List α} (h:Rw i w O e (.slice A m c) xs) (he:cutI xs 0 q=some u):Rw i w O e (.slice A u.length c) u∧CutB (Rp.size α) A m c 0 q A u.length c:=by
  obtain ⟨a,b,ha,rfl,h1,h2,rfl⟩:=Nh he
  obtain rfl:a=0:=by omega
  obtain ⟨hm,hc,hc2⟩:=h.len
  have hl:((xs.take b).drop 0).length=b:=by simp;omega
  rw [hl]
  have hob:(Value.slice A b c).ownBlock=(Value.slice A m c).ownBlock:=by cases A<;>rfl
  refine ⟨⟨?_,by rw [hob];exact h.2.1,h.2.2⟩,0,b,rfl,rfl,Nat.zero_le _,by omega,hc,?_⟩
  · obtain ⟨cells,o1,o2,o3⟩:=h.1
    refine ⟨cells.take (b * Rp.size α),⟨by rw [List.length_take,o2.length,hl,Nat.min_eq_left (Nat.mul_le_mul_right _ h2)],?_⟩,by simpa using o2.take b,by rw [hob];exact o3⟩
    rcases o1.2 with ⟨hv,hn⟩|⟨g,cap,cur,hv,hg,hh,hnc,hcm,hcs,hcur⟩
    · injection hv with e1 e2 e3
      have:b=0:=by omega
      subst this
      exact .inl ⟨by rw [e1,e3],hl⟩
    · injection hv with e1 e2 e3
      refine .inr ⟨g,cap,cur,by rw [e1,e3,hl],hg,hh,by omega,hcm,hcs,?_⟩
      rw [hl,← hcur,List.take_take,Nat.min_eq_left (Nat.mul_le_mul_right _ h2)]
  · have:(A.map (·.add (0 * Rp.size α)))=A:=by
      cases A with
      | none=>rfl
      | some ad=>obtain ⟨b',o',p'⟩:=ad;simp [Addr.add]
    split<;>simp_all
def part (O:Lab) (i:Nat) (L:Lab) (ls:List Nat):Lab:=fun k=>if O k=i then ls.getD (L k) (ls.headD 2) else O k
def whole (O:Lab) (i:Nat) (ls:List Nat):Lab:=fun k=>if O k∈ls then i else O k
section
variable {i : Nat} {w : World} {O L : Lab} {ls : List Nat}
theorem IQ (h:i≠0):St (eT i) w O w (part O i L ls):=⟨rfl,rfl,rfl,Nat.le_refl _,fun _ _ hk=>⟨rfl,if_neg hk⟩⟩
theorem CQ (h:i≠0):∀ k,Fr 0 w O k→Fr 0 w (part O i L ls) k:=fun k hk=>⟨hk.1,by unfold part;rw [if_neg (fun e=>h (e.symm.trans hk.2))];exact hk.2⟩
theorem ED {j q:Nat} (hj:ls[j]?=some q):∀ k,(Fr i w O k∧L k=j)→Fr q w (part O i L ls) k:=fun k hk=>⟨hk.1.1,by unfold part;rw [if_pos hk.1.2,hk.2];simp [hj]⟩
theorem Hv (hl:ls≠[]):∀ k,Fr i w O k→∃ q,q∈ls∧Fr q w (part O i L ls) k:=fun k hk=>by
  refine ⟨part O i L ls k,?_,hk.1,rfl⟩
  unfold part
  rw [if_pos hk.2]
  cases h:ls[L k]? with
  | some q=>rw [List.getD_eq_getElem?_getD,h];exact List.mem_of_getElem? h
  | none =>
    rw [List.getD_eq_getElem?_getD,h]
    cases ls with
    | nil=>exact absurd rfl hl
    | cons a l=>simp
theorem Hw:St (·∈ls) w O w (whole O i ls):=⟨rfl,rfl,rfl,Nat.le_refl _,fun _ _ hk=>⟨rfl,if_neg hk⟩⟩
theorem Ca (h:¬ 0∈ls):∀ k,Fr 0 w O k→Fr 0 w (whole O i ls) k:=fun k hk=>⟨hk.1,by unfold whole;rw [if_neg (by rw [hk.2];exact h)];exact hk.2⟩
theorem GQ:∀ q,q∈ls→∀ k,Fr q w O k→Fr i w (whole O i ls) k:=fun q hq k hk=>⟨hk.1,by unfold whole;rw [if_pos (by rw [hk.2];exact hq)]⟩
theorem Ea {j q:Nat} (hj:ls.idxOf q=j) (hq:q∈ls):∀ k,Fr q w O k→Fr i w (whole O i ls) k∧ls.idxOf (O k)=j:=fun k hk=>⟨⟨hk.1,by unfold whole;rw [if_pos (by rw [hk.2];exact hq)]⟩,by rw [hk.2];exact hj⟩
end
theorem Vb.cells1 {α:Type} [Rp α] {w:World} {F:Nat→Prop} {v:Value} {x:α} (h:Vb w F v x) (ha:Rp.isAgg α=false:=by rfl):Rp.R w F [v] x:=by
  unfold Vb at h
  rw [ha] at h
  exact h
def FrS (ls:List Nat) (w:World) (O:Lab):Nat→Prop:=fun k=>k < w.heap.size∧(O k=0∨O k∈ls)
section
variable {α : Type} [Rp α] {T : Nat → Prop} {i l : Nat} {ls ls' lo : List Nat} {w w' : World} {O O' : Lab} {v : Value} {x : α} {xs : List α} {e : TypeId}
theorem St.agreeS (hS:St T w O w' O') (h0:¬ T 0) (hl:∀ q∈ls,¬ T q):Agree (FrS ls w O) w w':=fun k hk=>(hS.same k hk.1 (by rcases hk.2 with e|e;rw [e];exact h0;exact hl _ e)).1
theorem Vb.stS (h:Vb w (FrS ls w O) v x) (hS:St T w O w' O') (h0:¬ T 0:=by decide) (hl:∀ q∈ls,¬ T q:=by decide):Vb w' (FrS ls w' O') v x :=
  (h.agree (hS.agreeS h0 hl)).mono fun k hk=>by
    have:=(hS.same k hk.1 (by rcases hk.2 with e|e;rw [e];exact h0;exact hl _ e)).2
    exact ⟨Nat.lt_of_lt_of_le hk.1 hS.size,by rw [this];exact hk.2⟩
theorem Rw.lend (h:Rw l w O e v xs) (ls:List Nat) (hl:l∈ls):Vb w (FrS ls w O) v xs:=h.1.vb.mono fun k hk=>by
  rcases hk with hk|hk
  · exact ⟨hk.1,.inl hk.2⟩
  · exact ⟨(h.1.lt k hk).2,.inr (by rw [h.2.1 k hk];exact hl)⟩
theorem Vb.shutS (h:Vb w (FrS ls w O) v x) (hS:St (·∈lo) w O w O') (hz:∀ k,Fr 0 w O k→Fr 0 w O' k) (ha:∀ q,q∈lo→∀ k,Fr q w O k→Fr i w O' k) (ls':List Nat) (hl:∀ q∈ls,q∈lo∧i∈ls'∨¬ q∈lo∧q∈ls'):Vb w (FrS ls' w O') v x:=h.mono fun k hk=>by
  refine ⟨hk.1,?_⟩
  rcases hk.2 with e|e
  · exact .inl (hz k ⟨hk.1,e⟩).2
  · rcases hl _ e with ⟨h1,h2⟩|⟨h1,h2⟩
    · right;rw [(ha _ h1 k ⟨hk.1,rfl⟩).2];exact h2
    · right;rw [(hS.same k hk.1 h1).2];exact h2
theorem Vb.opnS (h:Vb w (FrS ls w O) v x) (hS:St (eT i) w O w O') (hi:i≠0) (ha:∀ k,Fr i w O k→∃ q,q∈lo∧Fr q w O' k) (ls':List Nat) (hl:(∀ q∈ls,q≠i→q∈ls')∧∀ q∈lo,q∈ls'):Vb w (FrS ls' w O') v x:=h.mono fun k hk=>by
  refine ⟨hk.1,?_⟩
  by_cases hq:O k=i
  · obtain ⟨q,h1,h2⟩:=ha k ⟨hk.1,hq⟩
    right;rw [h2.2];exact hl.2 q h1
  · rw [(hS.same k hk.1 hq).2]
    rcases hk.2 with e|e
    · exact .inl e
    · exact .inr (hl.1 _ e hq)
end
end
end Go.Proofs.YtkbmbcblgdgjlaaGreat

/- Own text: what the proof of breadthAgrees_holds uses, part 2: rules, models and their proofs, plain laws. -/
import Derived.Test.YthomfnkaicjmbaaPAgrA
set_option linter.unusedVariables false
set_option linter.unusedSimpArgs false
namespace Go.Proofs.Ythomfnkaicjmbaa
open Go Go.RowKit
section
open Go Go.RowKit
attribute [local irreducible] ewp owp hwp hwq hws Ev Evg Fn retPost loud loudS Res1
theorem taskProper {w:World} {vv sv:Value} {vars s:List Int} (ha:V w vv vars) (hb:V w sv s) :
    Fn Try.prog 54 [vv,sv] w fun v w'=>v=.bool (bof (StateOk vars s))∧Ext w w':=by
  obtain ⟨A,ca,rfl⟩:=ha.form
  obtain ⟨B,cb,rfl⟩:=hb.form
  have hal:=hb.len
  refine AL Try.func54 rfl Try.ntmps54 rfl ?_
  by_cases hl:s.length=vars.length
  · ((repeat (first|refine Ah ?_|refine Al ?_|refine Ae ?_|refine Am ?_|refine At ?_|refine Au ?_|refine Ar rfl ?_|refine Aj rfl ?_))<;>(refine o_as rfl rfl ?_<;>(first|refine Ay ?_|refine Az ?_|refine Aw ?_|refine AA ?_))<;>(repeat (first|refine Ah ?_|refine Al ?_|refine Ae ?_|refine Am ?_|refine At ?_|refine Au ?_|refine Ar rfl ?_|refine Aj rfl ?_))<;>(refine o_mv rfl rfl ?_<;>refine o_ln rfl rfl ?_<;>refine o_mv rfl rfl ?_<;>refine o_ln rfl rfl ?_<;>(first|refine o_neT rfl rfl rfl ?_|refine o_neF rfl rfl rfl ?_)<;>(first|refine Ay ?_|refine Az ?_|refine Aw ?_|refine AA ?_))<;>(repeat (first|refine Ah ?_|refine Al ?_|refine Ae ?_|refine Am ?_|refine At ?_|refine Au ?_|refine Ar rfl ?_|refine Aj rfl ?_))<;>(refine o_mv rfl rfl ?_<;>refine o_ln rfl rfl ?_<;>refine o_mv rfl rfl ?_<;>(first|refine Ay ?_|refine Az ?_|refine Aw ?_|refine AA ?_))<;>(repeat (first|refine Ah ?_|refine Al ?_|refine Ae ?_|refine Am ?_|refine At ?_|refine Au ?_|refine Ar rfl ?_|refine Aj rfl ?_)))
    refine Dp (fun k:Nat=>[(0,.slice A vars.length ca),(12,.slice B s.length cb),(13,.int .i64 (s.length:Int)),(14,.int .i64 (k:Int))])
      (fun k w'=>w'=w∧k≤s.length∧∀ (i:Nat) x y,i < k→s[i]?=some x→vars[i]?=some y→0≤x∧x < y) (fun k=>s.length - k) 0 ⟨rfl,Nat.zero_le _,fun i _ _ h=>by omega⟩ ⟨rfl,rfl,rfl,rfl,trivial⟩ ?_
    rintro k _ ⟨rfl,hk,hh⟩
    by_cases hlt:k < s.length
    · obtain ⟨x,hx⟩:=AH hlt
      obtain ⟨y,hy⟩:=AH (l:=vars) (k:=k) (by omega)
      obtain ⟨b1,o1,ce,rfl,_,_,hd1,rfl,_⟩:=ha.elem hy
      obtain ⟨b2,o2,ce,rfl,_,_,hd2,rfl,_⟩:=hb.elem hx
      ((repeat (first|refine Ah ?_|refine Al ?_|refine Ae ?_|refine Am ?_|refine At ?_|refine Au ?_|refine Ar rfl ?_|refine Aj rfl ?_))<;>((first|refine o_ltT rfl rfl rfl ?_|refine o_ltF rfl rfl rfl ?_)<;>(first|refine Ay ?_|refine Az ?_|refine Aw ?_|refine AA ?_))<;>(repeat (first|refine Ah ?_|refine Al ?_|refine Ae ?_|refine Am ?_|refine At ?_|refine Au ?_|refine Ar rfl ?_|refine Aj rfl ?_))<;>(refine o_mv rfl rfl ?_<;>refine o_ia rfl rfl rfl ?_<;>refine o_ld rfl rfl ?_<;>refine o_as rfl rfl ?_<;>refine o_as rfl rfl ?_<;>(first|refine Ay ?_|refine Az ?_|refine Aw ?_|refine AA ?_))<;>(repeat (first|refine Ah ?_|refine Al ?_|refine Ae ?_|refine Am ?_|refine At ?_|refine Au ?_|refine Ar rfl ?_|refine Aj rfl ?_))<;>(refine o_mv rfl rfl ?_<;>(first|refine o_ltT rfl rfl rfl ?_|refine o_ltF rfl rfl rfl ?_|refine o_ltS rfl rfl rfl (fun _=>?_) fun _=>?_)<;>refine o_mv rfl rfl ?_<;>(first|(refine AD rfl rfl ?_;refine o_mv rfl rfl ?_)|refine AB rfl rfl rfl rfl ?_)<;>(first|(refine AD rfl rfl ?_;refine o_mv rfl rfl ?_)|refine AB rfl rfl rfl rfl ?_)<;>(first|(refine AD rfl rfl ?_;refine o_mv rfl rfl ?_)|refine AB rfl rfl rfl rfl ?_)<;>(first|(refine AD rfl rfl ?_;refine o_ia rfl rfl rfl ?_)|refine AB rfl rfl rfl rfl ?_)<;>(first|(refine AD rfl rfl ?_;refine o_ld rfl rfl ?_)|refine AB rfl rfl rfl rfl ?_)<;>(first|(refine AD rfl rfl ?_;(first|refine o_geT rfl rfl rfl ?_|refine o_geF rfl rfl rfl ?_|refine o_geS rfl rfl rfl (fun _=>?_) fun _=>?_))|refine AB rfl rfl rfl rfl ?_)<;>(first|refine o_pt rfl rfl rfl ?_|refine o_pf rfl rfl rfl ?_)<;>(first|refine Ay ?_|refine Az ?_|refine Aw ?_|refine AA ?_))<;>(repeat (first|refine Ah ?_|refine Al ?_|refine Ae ?_|refine Am ?_|refine At ?_|refine Au ?_|refine Ar rfl ?_|refine Aj rfl ?_)))
      case refine_2.refine_2 =>
        ((first|refine o_ic rfl rfl ?_|refine o_ad rfl rfl rfl ?_)<;>refine o_mv rfl rfl ?_<;>(first|refine Ay ?_|refine Az ?_|refine Aw ?_|refine AA ?_))
        refine ⟨k + 1,⟨rfl,rfl,rfl,rfl,trivial⟩,⟨rfl,by omega,fun i x' y' hi h1 h2=>?_⟩,by omega⟩
        by_cases he:i=k
        · subst he
          rw [hx] at h1;rw [hy] at h2
          injection h1 with h1;injection h2 with h2
          omega
        · exact hh i x' y' (by omega) h1 h2
      all_goals
        ((repeat (first|refine Ah ?_|refine Al ?_|refine Ae ?_|refine Am ?_|refine At ?_|refine Au ?_|refine Ar rfl ?_|refine Aj rfl ?_))<;>(refine o_as rfl rfl ?_<;>(first|refine Ay ?_|refine Az ?_|refine Aw ?_|refine AA ?_))<;>(repeat (first|refine Ah ?_|refine Al ?_|refine Ae ?_|refine Am ?_|refine At ?_|refine Au ?_|refine Ar rfl ?_|refine Aj rfl ?_)))
        refine ret1 rfl rfl ⟨?_,Below.refl _ _⟩
        rw [bof_f (fun h=>by have:=h.2 k x y hx hy;omega)]
    · ((repeat (first|refine Ah ?_|refine Al ?_|refine Ae ?_|refine Am ?_|refine At ?_|refine Au ?_|refine Ar rfl ?_|refine Aj rfl ?_))<;>((first|refine o_ltT rfl rfl rfl ?_|refine o_ltF rfl rfl rfl ?_)<;>(first|refine Ay ?_|refine Az ?_|refine Aw ?_|refine AA ?_))<;>(repeat (first|refine Ah ?_|refine Al ?_|refine Ae ?_|refine Am ?_|refine At ?_|refine Au ?_|refine Ar rfl ?_|refine Aj rfl ?_))<;>(refine o_as rfl rfl ?_<;>(first|refine Ay ?_|refine Az ?_|refine Aw ?_|refine AA ?_))<;>(repeat (first|refine Ah ?_|refine Al ?_|refine Ae ?_|refine Am ?_|refine At ?_|refine Au ?_|refine Ar rfl ?_|refine Aj rfl ?_)))
      refine ret1 rfl rfl ⟨?_,Below.refl _ _⟩
      rw [bof_t ⟨hl,fun i x y h1 h2=>hh i x y (by have:=Bg h1;omega) h1 h2⟩]
  · ((repeat (first|refine Ah ?_|refine Al ?_|refine Ae ?_|refine Am ?_|refine At ?_|refine Au ?_|refine Ar rfl ?_|refine Aj rfl ?_))<;>(refine o_as rfl rfl ?_<;>(first|refine Ay ?_|refine Az ?_|refine Aw ?_|refine AA ?_))<;>(repeat (first|refine Ah ?_|refine Al ?_|refine Ae ?_|refine Am ?_|refine At ?_|refine Au ?_|refine Ar rfl ?_|refine Aj rfl ?_))<;>(refine o_mv rfl rfl ?_<;>refine o_ln rfl rfl ?_<;>refine o_mv rfl rfl ?_<;>refine o_ln rfl rfl ?_<;>(first|refine o_neT rfl rfl rfl ?_|refine o_neF rfl rfl rfl ?_)<;>(first|refine Ay ?_|refine Az ?_|refine Aw ?_|refine AA ?_))<;>(repeat (first|refine Ah ?_|refine Al ?_|refine Ae ?_|refine Am ?_|refine At ?_|refine Au ?_|refine Ar rfl ?_|refine Aj rfl ?_))<;>(refine o_as rfl rfl ?_<;>(first|refine Ay ?_|refine Az ?_|refine Aw ?_|refine AA ?_))<;>(repeat (first|refine Ah ?_|refine Al ?_|refine Ae ?_|refine Am ?_|refine At ?_|refine Au ?_|refine Ar rfl ?_|refine Aj rfl ?_)))
    refine ret1 rfl rfl ⟨?_,Below.refl _ _⟩
    rw [bof_f (fun h=>hl h.1)]
def FactOk (vars:List Int) (x:Fct):Prop:=0≤x.var∧0≤x.val∧∃ y,vars[x.var.toNat]?=some y∧x.val < y
def FactsOk (vars:List Int) (f:List Fct):Prop:=(∀ (i:Nat) x,f[i]?=some x→FactOk vars x)∧∀ (i:Nat) x y,f[i]?=some x→f[i + 1]?=some y→x.var < y.var
def FactsTo (vars:List Int) (f:List Fct) (k:Nat):Prop:=(∀ (i:Nat) x,i < k→f[i]?=some x→FactOk vars x)∧∀ (i:Nat) x y,i + 1 < k→f[i]?=some x→f[i + 1]?=some y→x.var < y.var
theorem FactsTo.step {vars:List Int} {f:List Fct} {k:Nat} {x:Fct} (h:FactsTo vars f k) (hx:f[k]?=some x) (ho:FactOk vars x) (hp:∀ y,0 < k→f[k - 1]?=some y→y.var < x.var):FactsTo vars f (k + 1):=by
  refine ⟨fun i y hi hy=>?_,fun i y z hi hy hz=>?_⟩
  · by_cases he:i=k
    · subst he;rw [hx] at hy;injection hy with hy;exact hy ▸ ho
    · exact h.1 i y (by omega) hy
  · by_cases he:i + 1=k
    · rw [he,hx] at hz;injection hz with hz;subst hz
      exact hp y (by omega) (by rw [show k - 1=i from by omega];exact hy)
    · exact h.2 i y z (by omega) hy hz
theorem FactsTo.done {vars:List Int} {f:List Fct} {k:Nat} (h:FactsTo vars f k) (hk:f.length≤k):FactsOk vars f :=
  ⟨fun i x hx=>h.1 i x (by have:=Bg hx;omega) hx,fun i x y hx hy=>h.2 i x y (by have:=Bg hy;omega) hx hy⟩
theorem baseProper {w:World} {vv fv:Value} {vars:List Int} {f:List Fct} (hv:V w vv vars) (hf:V w fv f) :
    Fn Try.prog 51 [vv,fv] w fun v w'=>v=.bool (bof (FactsOk vars f))∧Ext w w':=by
  obtain ⟨A,ca,rfl⟩:=hv.form
  obtain ⟨B,cb,rfl⟩:=hf.form
  have hfl:=hf.len
  refine AL Try.func51 rfl Try.ntmps51 rfl ?_
  ((repeat (first|refine Ah ?_|refine Al ?_|refine Ae ?_|refine Am ?_|refine At ?_|refine Au ?_|refine Ar rfl ?_|refine Aj rfl ?_))<;>(refine o_as rfl rfl ?_<;>(first|refine Ay ?_|refine Az ?_|refine Aw ?_|refine AA ?_))<;>(repeat (first|refine Ah ?_|refine Al ?_|refine Ae ?_|refine Am ?_|refine At ?_|refine Au ?_|refine Ar rfl ?_|refine Aj rfl ?_))<;>(refine o_mv rfl rfl ?_<;>refine o_ln rfl rfl ?_<;>refine o_mv rfl rfl ?_<;>(first|refine Ay ?_|refine Az ?_|refine Aw ?_|refine AA ?_))<;>(repeat (first|refine Ah ?_|refine Al ?_|refine Ae ?_|refine Am ?_|refine At ?_|refine Au ?_|refine Ar rfl ?_|refine Aj rfl ?_)))
  refine Dp (fun k:Nat=>[(0,.slice A vars.length ca),(1,.slice B f.length cb),(7,.slice B f.length cb),(8,.int .i64 (f.length:Int)),(9,.int .i64 (k:Int))])
    (fun k w'=>Ext w w'∧k≤f.length∧FactsTo vars f k) (fun k=>f.length - k) 0 ⟨Below.refl _ _,Nat.zero_le _,⟨fun i _ h=>by omega,fun i _ _ h=>by omega⟩⟩ ⟨rfl,rfl,rfl,rfl,rfl,trivial⟩ ?_
  rintro k w1 ⟨hE,hk,hh⟩
  by_cases hlt:k < f.length
  · obtain ⟨x,hx⟩:=AH hlt
    obtain ⟨b,o,ce,rfl,hb,_,hd1,rfl,hr1,hr2⟩:=(hf.ext hE).elem hx
    ((repeat (first|refine Ah ?_|refine Al ?_|refine Ae ?_|refine Am ?_|refine At ?_|refine Au ?_|refine Ar rfl ?_|refine Aj rfl ?_))<;>((first|refine o_ltT rfl rfl rfl ?_|refine o_ltF rfl rfl rfl ?_)<;>(first|refine Ay ?_|refine Az ?_|refine Aw ?_|refine AA ?_))<;>(repeat (first|refine Ah ?_|refine Al ?_|refine Ae ?_|refine Am ?_|refine At ?_|refine Au ?_|refine Ar rfl ?_|refine Aj rfl ?_))<;>(refine o_mv rfl rfl ?_<;>refine o_ia rfl rfl rfl ?_<;>refine o_la rfl rfl ?_)<;>(repeat (first|refine Ah ?_|refine Al ?_|refine Ae ?_|refine Am ?_|refine At ?_|refine Au ?_|refine Ar rfl ?_|refine Aj rfl ?_)))
    refine De rfl fun w2 hN=>?_
    (refine o_as rfl rfl ?_)
    refine BE rfl rfl hN.blk rfl (Nat.le_refl _) (by simp [Value.cells,Value.oneCell']) fun w3 hU=>?_
    replace hN:=hN.upd hU
    have hb1:=hN.blk
    have hE3:Ext w w3:=hE.trans' hN.ext
    ((first|refine Ay ?_|refine Az ?_|refine Aw ?_|refine AA ?_))
    repeat (first|refine Ah ?_|refine Al ?_|refine Ae ?_|refine Am ?_|refine At ?_|refine Au ?_|refine Ar rfl ?_|refine Aj rfl ?_)
    refine BV (·=w3) [(0,true),(1,true),(2,true),(3,true),(4,true),(5,true),(6,true),(7,true),(8,true),(9,true),(10,true),(11,true),(12,true),(13,true),(14,true),(15,true),(16,true),(17,true),(18,true),(19,true),(20,true),(21,true),(22,true),(23,true),(24,true),(25,true),(26,true),(27,true),(28,true),(29,true),(30,true),(31,true),(32,true),(33,true),(34,true),(35,true),(36,true),(37,true),(38,true),(39,true)] (by kernel_rfl) rfl (by kernel_rfl) rfl ?_
    by_cases hvr:0≤x.var∧x.var < vars.length
    · obtain ⟨j,hj1⟩:=Int.eq_ofNat_of_zero_le hvr.1
      obtain ⟨y,hy⟩:=AH (l:=vars) (k:=j) (by omega)
      obtain ⟨b2,o2,ce2,rfl,_,_,hd2,rfl,_⟩:=(hv.ext hE3).elem hy
      have hjy:vars[x.var.toNat]?=some y:=by rw [hj1];simpa using hy
      have hok:0≤x.val→x.val < y→FactOk vars x:=fun h1 h2=>⟨hvr.1,h1,y,hjy,h2⟩
      have hno:¬ (0≤x.val∧x.val < y)→¬ FactsOk vars f:=fun h1 h2=>h1 (by
        obtain ⟨_,h3,y',h4,h5⟩:=h2.1 k x hx
        rw [hjy] at h4;injection h4 with h4;subst h4;exact ⟨h3,h5⟩)
      by_cases h0:0 < k
      · obtain ⟨z,hz⟩:=AH (l:=f) (k:=k - 1) (by omega)
        obtain ⟨b3,o3,ce3,he3,_,_,hd3,rfl,_⟩:=(hf.ext hE3).elem hz
        injection he3 with he3
        injection he3 with he3 he4
        subst he3;subst he4
        have hj2:(k:Int) - 1=((k - 1:Nat):Int):=by omega
        have hno2:¬ z.var < x.var→¬ FactsOk vars f:=fun h1 h2=>h1 (h2.2 (k - 1) z x hz (by rw [show k - 1 + 1=k from by omega];exact hx))
        (refine h_fa rfl rfl rfl ?_<;>refine h_ldA rfl rfl rfl ?_<;>(first|refine h_ltT rfl rfl rfl rfl ?_|refine h_ltF rfl rfl rfl rfl ?_|refine h_ltS rfl rfl rfl rfl (fun _=>?_) fun _=>?_)<;>refine h_mv rfl rfl rfl ?_<;>(refine hwp_o rfl ?_;(first|(refine AE rfl rfl ?_;refine g_fa rfl rfl ?_)|refine AG rfl rfl rfl rfl ?_))<;>(refine hwp_o rfl ?_;(first|(refine AE rfl rfl ?_;refine g_ldA rfl rfl ?_)|refine AG rfl rfl rfl rfl ?_))<;>(refine hwp_o rfl ?_;(first|(refine AE rfl rfl ?_;refine g_mv rfl rfl ?_)|refine AG rfl rfl rfl rfl ?_))<;>(refine hwp_o rfl ?_;(first|(refine AE rfl rfl ?_;refine g_ln rfl rfl ?_)|refine AG rfl rfl rfl rfl ?_))<;>(refine hwp_o rfl ?_;(first|(refine AE rfl rfl ?_;(first|refine Bu (fun _ _=>AU rfl rfl) rfl (by omega) ?_|refine Bv (fun _ _=>AU rfl rfl) rfl (by omega) ?_|refine AP (fun _ _=>AU rfl rfl) rfl (fun _=>?_) (fun _=>?_)))|refine AG rfl rfl rfl rfl ?_))<;>(first|refine h_pt rfl rfl rfl rfl ?_|refine h_pf rfl rfl rfl rfl ?_)<;>refine h_mv rfl rfl rfl ?_<;>(refine hwp_o rfl ?_;(first|(refine AE rfl rfl ?_;refine g_fa rfl rfl ?_)|refine AG rfl rfl rfl rfl ?_))<;>(refine hwp_o rfl ?_;(first|(refine AE rfl rfl ?_;refine g_ldA rfl rfl ?_)|refine AG rfl rfl rfl rfl ?_))<;>(refine hwp_o rfl ?_;(first|(refine AE rfl rfl ?_;(first|refine Bu (fun _ _=>BY rfl rfl) rfl (by omega) ?_|refine Bv (fun _ _=>BY rfl rfl) rfl (by omega) ?_|refine AP (fun _ _=>BY rfl rfl) rfl (fun _=>?_) (fun _=>?_)))|refine AG rfl rfl rfl rfl ?_))<;>(first|refine h_pt rfl rfl rfl rfl ?_|refine h_pf rfl rfl rfl rfl ?_)<;>refine h_mv rfl rfl rfl ?_<;>(refine hwp_o rfl ?_;(first|(refine AE rfl rfl ?_;refine g_fa rfl rfl ?_)|refine AG rfl rfl rfl rfl ?_))<;>(refine hwp_o rfl ?_;(first|(refine AE rfl rfl ?_;refine g_ldA rfl rfl ?_)|refine AG rfl rfl rfl rfl ?_))<;>(refine hwp_o rfl ?_;(first|(refine AE rfl rfl ?_;refine g_mv rfl rfl ?_)|refine AG rfl rfl rfl rfl ?_))<;>(refine hwp_o rfl ?_;(first|(refine AE rfl rfl ?_;refine g_fa rfl rfl ?_)|refine AG rfl rfl rfl rfl ?_))<;>(refine hwp_o rfl ?_;(first|(refine AE rfl rfl ?_;refine g_ldA rfl rfl ?_)|refine AG rfl rfl rfl rfl ?_))<;>(refine hwp_o rfl ?_;(first|(refine AE rfl rfl ?_;refine g_ia rfl rfl rfl ?_)|refine AG rfl rfl rfl rfl ?_))<;>(refine hwp_o rfl ?_;(first|(refine AE rfl rfl ?_;refine g_ldA rfl rfl ?_)|refine AG rfl rfl rfl rfl ?_))<;>(refine hwp_o rfl ?_;(first|(refine AE rfl rfl ?_;(first|refine Bu (fun _ _=>AU rfl rfl) rfl (by omega) ?_|refine Bv (fun _ _=>AU rfl rfl) rfl (by omega) ?_|refine AP (fun _ _=>AU rfl rfl) rfl (fun _=>?_) (fun _=>?_)))|refine AG rfl rfl rfl rfl ?_))<;>(first|refine h_pt rfl rfl rfl rfl ?_|refine h_pf rfl rfl rfl rfl ?_)<;>refine h_mv rfl rfl rfl ?_<;>(refine hwp_o rfl ?_;(first|(refine AE rfl rfl ?_;refine g_mv rfl rfl ?_)|refine AG rfl rfl rfl rfl ?_))<;>(refine hwp_o rfl ?_;(first|(refine AE rfl rfl ?_;(first|refine Bu (fun _ _=>DH rfl rfl) rfl (by omega) ?_|refine Bv (fun _ _=>DH rfl rfl) rfl (by omega) ?_|refine AP (fun _ _=>DH rfl rfl) rfl (fun _=>?_) (fun _=>?_)))|refine AG rfl rfl rfl rfl ?_))<;>(refine hwp_o rfl ?_;(first|(refine AE rfl rfl ?_;refine g_mv rfl rfl ?_)|refine AG rfl rfl rfl rfl ?_))<;>(refine hwp_o rfl ?_;(first|(refine AE rfl rfl ?_;refine g_mv rfl rfl ?_)|refine AG rfl rfl rfl rfl ?_))<;>(refine hwp_o rfl ?_;(first|(refine AE rfl rfl ?_;refine g_mv rfl rfl ?_)|refine AG rfl rfl rfl rfl ?_))<;>(refine hwp_o rfl ?_;(first|(refine AE rfl rfl ?_;refine g_sb rfl rfl rfl ?_)|refine AG rfl rfl rfl rfl ?_))<;>(refine hwp_o rfl ?_;(first|(refine AE rfl rfl ?_;refine g_ia rfl rfl rfl ?_)|refine AG rfl rfl rfl rfl ?_))<;>(refine hwp_o rfl ?_;(first|(refine AE rfl rfl ?_;refine g_fa rfl rfl ?_)|refine AG rfl rfl rfl rfl ?_))<;>(refine hwp_o rfl ?_;(first|(refine AE rfl rfl ?_;refine g_ldA rfl rfl ?_)|refine AG rfl rfl rfl rfl ?_))<;>(refine hwp_o rfl ?_;(first|(refine AE rfl rfl ?_;refine g_fa rfl rfl ?_)|refine AG rfl rfl rfl rfl ?_))<;>(refine hwp_o rfl ?_;(first|(refine AE rfl rfl ?_;refine g_ldA rfl rfl ?_)|refine AG rfl rfl rfl rfl ?_))<;>(refine hwp_o rfl ?_;(first|(refine AE rfl rfl ?_;(first|refine Bu (fun _ _=>AU rfl rfl) rfl (by omega) ?_|refine Bv (fun _ _=>AU rfl rfl) rfl (by omega) ?_|refine AP (fun _ _=>AU rfl rfl) rfl (fun _=>?_) (fun _=>?_)))|refine AG rfl rfl rfl rfl ?_))<;>(refine hwp_o rfl ?_;(first|(refine AE rfl rfl ?_;(first|refine g_pt rfl rfl rfl ?_|refine g_pf rfl rfl rfl ?_))|refine AG rfl rfl rfl rfl ?_))<;>(first|refine h_pt rfl rfl rfl rfl ?_|refine h_pf rfl rfl rfl rfl ?_)<;>(first|refine AK ?_|refine BR ?_|refine BS ?_))<;>(repeat (first|refine Ah ?_|refine Al ?_|refine Ae ?_|refine Am ?_|refine At ?_|refine Au ?_|refine Ar rfl ?_|refine Aj rfl ?_))
        all_goals first
          | (((first|refine o_ic rfl rfl ?_|refine o_ad rfl rfl rfl ?_)<;>refine o_mv rfl rfl ?_<;>(first|refine Ay ?_|refine Az ?_|refine Aw ?_|refine AA ?_))
             exact ⟨k + 1,⟨rfl,rfl,rfl,rfl,rfl,trivial⟩,⟨hE3,by omega,hh.step hx (hok (by omega) (by omega)) (fun y' _ hy'=>by rw [hz] at hy';injection hy' with hy';subst hy';omega)⟩,by omega⟩)
          | (((repeat (first|refine Ah ?_|refine Al ?_|refine Ae ?_|refine Am ?_|refine At ?_|refine Au ?_|refine Ar rfl ?_|refine Aj rfl ?_))<;>(refine o_as rfl rfl ?_<;>(first|refine Ay ?_|refine Az ?_|refine Aw ?_|refine AA ?_))<;>(repeat (first|refine Ah ?_|refine Al ?_|refine Ae ?_|refine Am ?_|refine At ?_|refine Au ?_|refine Ar rfl ?_|refine Aj rfl ?_)))
             refine ret1 rfl rfl ⟨?_,hE3⟩
             first|rw [bof_f (hno (by omega))]|rw [bof_f (hno2 (by omega))])
      · (refine h_fa rfl rfl rfl ?_<;>refine h_ldA rfl rfl rfl ?_<;>(first|refine h_ltT rfl rfl rfl rfl ?_|refine h_ltF rfl rfl rfl rfl ?_|refine h_ltS rfl rfl rfl rfl (fun _=>?_) fun _=>?_)<;>refine h_mv rfl rfl rfl ?_<;>(refine hwp_o rfl ?_;(first|(refine AE rfl rfl ?_;refine g_fa rfl rfl ?_)|refine AG rfl rfl rfl rfl ?_))<;>(refine hwp_o rfl ?_;(first|(refine AE rfl rfl ?_;refine g_ldA rfl rfl ?_)|refine AG rfl rfl rfl rfl ?_))<;>(refine hwp_o rfl ?_;(first|(refine AE rfl rfl ?_;refine g_mv rfl rfl ?_)|refine AG rfl rfl rfl rfl ?_))<;>(refine hwp_o rfl ?_;(first|(refine AE rfl rfl ?_;refine g_ln rfl rfl ?_)|refine AG rfl rfl rfl rfl ?_))<;>(refine hwp_o rfl ?_;(first|(refine AE rfl rfl ?_;(first|refine Bu (fun _ _=>AU rfl rfl) rfl (by omega) ?_|refine Bv (fun _ _=>AU rfl rfl) rfl (by omega) ?_|refine AP (fun _ _=>AU rfl rfl) rfl (fun _=>?_) (fun _=>?_)))|refine AG rfl rfl rfl rfl ?_))<;>(first|refine h_pt rfl rfl rfl rfl ?_|refine h_pf rfl rfl rfl rfl ?_)<;>refine h_mv rfl rfl rfl ?_<;>(refine hwp_o rfl ?_;(first|(refine AE rfl rfl ?_;refine g_fa rfl rfl ?_)|refine AG rfl rfl rfl rfl ?_))<;>(refine hwp_o rfl ?_;(first|(refine AE rfl rfl ?_;refine g_ldA rfl rfl ?_)|refine AG rfl rfl rfl rfl ?_))<;>(refine hwp_o rfl ?_;(first|(refine AE rfl rfl ?_;(first|refine Bu (fun _ _=>BY rfl rfl) rfl (by omega) ?_|refine Bv (fun _ _=>BY rfl rfl) rfl (by omega) ?_|refine AP (fun _ _=>BY rfl rfl) rfl (fun _=>?_) (fun _=>?_)))|refine AG rfl rfl rfl rfl ?_))<;>(first|refine h_pt rfl rfl rfl rfl ?_|refine h_pf rfl rfl rfl rfl ?_)<;>refine h_mv rfl rfl rfl ?_<;>(refine hwp_o rfl ?_;(first|(refine AE rfl rfl ?_;refine g_fa rfl rfl ?_)|refine AG rfl rfl rfl rfl ?_))<;>(refine hwp_o rfl ?_;(first|(refine AE rfl rfl ?_;refine g_ldA rfl rfl ?_)|refine AG rfl rfl rfl rfl ?_))<;>(refine hwp_o rfl ?_;(first|(refine AE rfl rfl ?_;refine g_mv rfl rfl ?_)|refine AG rfl rfl rfl rfl ?_))<;>(refine hwp_o rfl ?_;(first|(refine AE rfl rfl ?_;refine g_fa rfl rfl ?_)|refine AG rfl rfl rfl rfl ?_))<;>(refine hwp_o rfl ?_;(first|(refine AE rfl rfl ?_;refine g_ldA rfl rfl ?_)|refine AG rfl rfl rfl rfl ?_))<;>(refine hwp_o rfl ?_;(first|(refine AE rfl rfl ?_;refine g_ia rfl rfl rfl ?_)|refine AG rfl rfl rfl rfl ?_))<;>(refine hwp_o rfl ?_;(first|(refine AE rfl rfl ?_;refine g_ldA rfl rfl ?_)|refine AG rfl rfl rfl rfl ?_))<;>(refine hwp_o rfl ?_;(first|(refine AE rfl rfl ?_;(first|refine Bu (fun _ _=>AU rfl rfl) rfl (by omega) ?_|refine Bv (fun _ _=>AU rfl rfl) rfl (by omega) ?_|refine AP (fun _ _=>AU rfl rfl) rfl (fun _=>?_) (fun _=>?_)))|refine AG rfl rfl rfl rfl ?_))<;>(first|refine h_pt rfl rfl rfl rfl ?_|refine h_pf rfl rfl rfl rfl ?_)<;>refine h_mv rfl rfl rfl ?_<;>(refine hwp_o rfl ?_;(first|(refine AE rfl rfl ?_;refine g_mv rfl rfl ?_)|refine AG rfl rfl rfl rfl ?_))<;>(refine hwp_o rfl ?_;(first|(refine AE rfl rfl ?_;(first|refine Bu (fun _ _=>DH rfl rfl) rfl (by omega) ?_|refine Bv (fun _ _=>DH rfl rfl) rfl (by omega) ?_|refine AP (fun _ _=>DH rfl rfl) rfl (fun _=>?_) (fun _=>?_)))|refine AG rfl rfl rfl rfl ?_))<;>(refine hwp_o rfl ?_;(first|(refine AE rfl rfl ?_;refine g_mv rfl rfl ?_)|refine AG rfl rfl rfl rfl ?_))<;>(refine hwp_o rfl ?_;(first|(refine AE rfl rfl ?_;refine g_mv rfl rfl ?_)|refine AG rfl rfl rfl rfl ?_))<;>(refine hwp_o rfl ?_;(first|(refine AE rfl rfl ?_;refine g_mv rfl rfl ?_)|refine AG rfl rfl rfl rfl ?_))<;>(refine hwp_o rfl ?_;(first|(refine AE rfl rfl ?_;refine g_sb rfl rfl rfl ?_)|refine AG rfl rfl rfl rfl ?_))<;>(refine hwp_o rfl ?_;(first|(refine AE rfl rfl ?_;refine g_ia rfl rfl rfl ?_)|refine AG rfl rfl rfl rfl ?_))<;>(refine hwp_o rfl ?_;(first|(refine AE rfl rfl ?_;refine g_fa rfl rfl ?_)|refine AG rfl rfl rfl rfl ?_))<;>(refine hwp_o rfl ?_;(first|(refine AE rfl rfl ?_;refine g_ldA rfl rfl ?_)|refine AG rfl rfl rfl rfl ?_))<;>(refine hwp_o rfl ?_;(first|(refine AE rfl rfl ?_;refine g_fa rfl rfl ?_)|refine AG rfl rfl rfl rfl ?_))<;>(refine hwp_o rfl ?_;(first|(refine AE rfl rfl ?_;refine g_ldA rfl rfl ?_)|refine AG rfl rfl rfl rfl ?_))<;>(refine hwp_o rfl ?_;(first|(refine AE rfl rfl ?_;(first|refine Bu (fun _ _=>AU rfl rfl) rfl (by omega) ?_|refine Bv (fun _ _=>AU rfl rfl) rfl (by omega) ?_|refine AP (fun _ _=>AU rfl rfl) rfl (fun _=>?_) (fun _=>?_)))|refine AG rfl rfl rfl rfl ?_))<;>(refine hwp_o rfl ?_;(first|(refine AE rfl rfl ?_;(first|refine g_pt rfl rfl rfl ?_|refine g_pf rfl rfl rfl ?_))|refine AG rfl rfl rfl rfl ?_))<;>(first|refine h_pt rfl rfl rfl rfl ?_|refine h_pf rfl rfl rfl rfl ?_)<;>(first|refine AK ?_|refine BR ?_|refine BS ?_))<;>(repeat (first|refine Ah ?_|refine Al ?_|refine Ae ?_|refine Am ?_|refine At ?_|refine Au ?_|refine Ar rfl ?_|refine Aj rfl ?_))
        all_goals first
          | (((first|refine o_ic rfl rfl ?_|refine o_ad rfl rfl rfl ?_)<;>refine o_mv rfl rfl ?_<;>(first|refine Ay ?_|refine Az ?_|refine Aw ?_|refine AA ?_))
             exact ⟨k + 1,⟨rfl,rfl,rfl,rfl,rfl,trivial⟩,⟨hE3,by omega,hh.step hx (hok (by omega) (by omega)) (fun y' _ hy'=>by omega)⟩,by omega⟩)
          | (((repeat (first|refine Ah ?_|refine Al ?_|refine Ae ?_|refine Am ?_|refine At ?_|refine Au ?_|refine Ar rfl ?_|refine Aj rfl ?_))<;>(refine o_as rfl rfl ?_<;>(first|refine Ay ?_|refine Az ?_|refine Aw ?_|refine AA ?_))<;>(repeat (first|refine Ah ?_|refine Al ?_|refine Ae ?_|refine Am ?_|refine At ?_|refine Au ?_|refine Ar rfl ?_|refine Aj rfl ?_)))
             refine ret1 rfl rfl ⟨?_,hE3⟩
             rw [bof_f (hno (by omega))])
    · have hno:¬ FactsOk vars f:=fun h=>by
        obtain ⟨h1,h2,y,h3,_⟩:=h.1 k x hx
        have:=Bg h3
        omega
      (refine h_fa rfl rfl rfl ?_<;>refine h_ldA rfl rfl rfl ?_<;>(first|refine h_ltT rfl rfl rfl rfl ?_|refine h_ltF rfl rfl rfl rfl ?_|refine h_ltS rfl rfl rfl rfl (fun _=>?_) fun _=>?_)<;>refine h_mv rfl rfl rfl ?_<;>(refine hwp_o rfl ?_;(first|(refine AE rfl rfl ?_;refine g_fa rfl rfl ?_)|refine AG rfl rfl rfl rfl ?_))<;>(refine hwp_o rfl ?_;(first|(refine AE rfl rfl ?_;refine g_ldA rfl rfl ?_)|refine AG rfl rfl rfl rfl ?_))<;>(refine hwp_o rfl ?_;(first|(refine AE rfl rfl ?_;refine g_mv rfl rfl ?_)|refine AG rfl rfl rfl rfl ?_))<;>(refine hwp_o rfl ?_;(first|(refine AE rfl rfl ?_;refine g_ln rfl rfl ?_)|refine AG rfl rfl rfl rfl ?_))<;>(refine hwp_o rfl ?_;(first|(refine AE rfl rfl ?_;(first|refine Bu (fun _ _=>AU rfl rfl) rfl (by omega) ?_|refine Bv (fun _ _=>AU rfl rfl) rfl (by omega) ?_|refine AP (fun _ _=>AU rfl rfl) rfl (fun _=>?_) (fun _=>?_)))|refine AG rfl rfl rfl rfl ?_))<;>(first|refine h_pt rfl rfl rfl rfl ?_|refine h_pf rfl rfl rfl rfl ?_)<;>refine h_mv rfl rfl rfl ?_<;>(refine hwp_o rfl ?_;(first|(refine AE rfl rfl ?_;refine g_fa rfl rfl ?_)|refine AG rfl rfl rfl rfl ?_))<;>(refine hwp_o rfl ?_;(first|(refine AE rfl rfl ?_;refine g_ldA rfl rfl ?_)|refine AG rfl rfl rfl rfl ?_))<;>(refine hwp_o rfl ?_;(first|(refine AE rfl rfl ?_;(first|refine Bu (fun _ _=>BY rfl rfl) rfl (by omega) ?_|refine Bv (fun _ _=>BY rfl rfl) rfl (by omega) ?_|refine AP (fun _ _=>BY rfl rfl) rfl (fun _=>?_) (fun _=>?_)))|refine AG rfl rfl rfl rfl ?_))<;>(first|refine h_pt rfl rfl rfl rfl ?_|refine h_pf rfl rfl rfl rfl ?_)<;>refine h_mv rfl rfl rfl ?_<;>(refine hwp_o rfl ?_;(first|(refine AE rfl rfl ?_;refine g_fa rfl rfl ?_)|refine AG rfl rfl rfl rfl ?_))<;>(refine hwp_o rfl ?_;(first|(refine AE rfl rfl ?_;refine g_ldA rfl rfl ?_)|refine AG rfl rfl rfl rfl ?_))<;>(refine hwp_o rfl ?_;(first|(refine AE rfl rfl ?_;refine g_mv rfl rfl ?_)|refine AG rfl rfl rfl rfl ?_))<;>(refine hwp_o rfl ?_;(first|(refine AE rfl rfl ?_;refine g_fa rfl rfl ?_)|refine AG rfl rfl rfl rfl ?_))<;>(refine hwp_o rfl ?_;(first|(refine AE rfl rfl ?_;refine g_ldA rfl rfl ?_)|refine AG rfl rfl rfl rfl ?_))<;>(refine hwp_o rfl ?_;(first|(refine AE rfl rfl ?_;refine g_ia rfl rfl rfl ?_)|refine AG rfl rfl rfl rfl ?_))<;>(refine hwp_o rfl ?_;(first|(refine AE rfl rfl ?_;refine g_ldA rfl rfl ?_)|refine AG rfl rfl rfl rfl ?_))<;>(refine hwp_o rfl ?_;(first|(refine AE rfl rfl ?_;(first|refine Bu (fun _ _=>AU rfl rfl) rfl (by omega) ?_|refine Bv (fun _ _=>AU rfl rfl) rfl (by omega) ?_|refine AP (fun _ _=>AU rfl rfl) rfl (fun _=>?_) (fun _=>?_)))|refine AG rfl rfl rfl rfl ?_))<;>(first|refine h_pt rfl rfl rfl rfl ?_|refine h_pf rfl rfl rfl rfl ?_)<;>refine h_mv rfl rfl rfl ?_<;>(refine hwp_o rfl ?_;(first|(refine AE rfl rfl ?_;refine g_mv rfl rfl ?_)|refine AG rfl rfl rfl rfl ?_))<;>(refine hwp_o rfl ?_;(first|(refine AE rfl rfl ?_;(first|refine Bu (fun _ _=>DH rfl rfl) rfl (by omega) ?_|refine Bv (fun _ _=>DH rfl rfl) rfl (by omega) ?_|refine AP (fun _ _=>DH rfl rfl) rfl (fun _=>?_) (fun _=>?_)))|refine AG rfl rfl rfl rfl ?_))<;>(refine hwp_o rfl ?_;(first|(refine AE rfl rfl ?_;refine g_mv rfl rfl ?_)|refine AG rfl rfl rfl rfl ?_))<;>(refine hwp_o rfl ?_;(first|(refine AE rfl rfl ?_;refine g_mv rfl rfl ?_)|refine AG rfl rfl rfl rfl ?_))<;>(refine hwp_o rfl ?_;(first|(refine AE rfl rfl ?_;refine g_mv rfl rfl ?_)|refine AG rfl rfl rfl rfl ?_))<;>(refine hwp_o rfl ?_;(first|(refine AE rfl rfl ?_;refine g_sb rfl rfl rfl ?_)|refine AG rfl rfl rfl rfl ?_))<;>(refine hwp_o rfl ?_;(first|(refine AE rfl rfl ?_;refine g_ia rfl rfl rfl ?_)|refine AG rfl rfl rfl rfl ?_))<;>(refine hwp_o rfl ?_;(first|(refine AE rfl rfl ?_;refine g_fa rfl rfl ?_)|refine AG rfl rfl rfl rfl ?_))<;>(refine hwp_o rfl ?_;(first|(refine AE rfl rfl ?_;refine g_ldA rfl rfl ?_)|refine AG rfl rfl rfl rfl ?_))<;>(refine hwp_o rfl ?_;(first|(refine AE rfl rfl ?_;refine g_fa rfl rfl ?_)|refine AG rfl rfl rfl rfl ?_))<;>(refine hwp_o rfl ?_;(first|(refine AE rfl rfl ?_;refine g_ldA rfl rfl ?_)|refine AG rfl rfl rfl rfl ?_))<;>(refine hwp_o rfl ?_;(first|(refine AE rfl rfl ?_;(first|refine Bu (fun _ _=>AU rfl rfl) rfl (by omega) ?_|refine Bv (fun _ _=>AU rfl rfl) rfl (by omega) ?_|refine AP (fun _ _=>AU rfl rfl) rfl (fun _=>?_) (fun _=>?_)))|refine AG rfl rfl rfl rfl ?_))<;>(refine hwp_o rfl ?_;(first|(refine AE rfl rfl ?_;(first|refine g_pt rfl rfl rfl ?_|refine g_pf rfl rfl rfl ?_))|refine AG rfl rfl rfl rfl ?_))<;>(first|refine h_pt rfl rfl rfl rfl ?_|refine h_pf rfl rfl rfl rfl ?_)<;>(first|refine AK ?_|refine BR ?_|refine BS ?_))<;>(repeat (first|refine Ah ?_|refine Al ?_|refine Ae ?_|refine Am ?_|refine At ?_|refine Au ?_|refine Ar rfl ?_|refine Aj rfl ?_))
      all_goals
        ((repeat (first|refine Ah ?_|refine Al ?_|refine Ae ?_|refine Am ?_|refine At ?_|refine Au ?_|refine Ar rfl ?_|refine Aj rfl ?_))<;>(refine o_as rfl rfl ?_<;>(first|refine Ay ?_|refine Az ?_|refine Aw ?_|refine AA ?_))<;>(repeat (first|refine Ah ?_|refine Al ?_|refine Ae ?_|refine Am ?_|refine At ?_|refine Au ?_|refine Ar rfl ?_|refine Aj rfl ?_)))
        refine ret1 rfl rfl ⟨?_,hE3⟩
        rw [bof_f hno]
  · ((repeat (first|refine Ah ?_|refine Al ?_|refine Ae ?_|refine Am ?_|refine At ?_|refine Au ?_|refine Ar rfl ?_|refine Aj rfl ?_))<;>((first|refine o_ltT rfl rfl rfl ?_|refine o_ltF rfl rfl rfl ?_)<;>(first|refine Ay ?_|refine Az ?_|refine Aw ?_|refine AA ?_))<;>(repeat (first|refine Ah ?_|refine Al ?_|refine Ae ?_|refine Am ?_|refine At ?_|refine Au ?_|refine Ar rfl ?_|refine Aj rfl ?_))<;>(refine o_as rfl rfl ?_<;>(first|refine Ay ?_|refine Az ?_|refine Aw ?_|refine AA ?_))<;>(repeat (first|refine Ah ?_|refine Al ?_|refine Ae ?_|refine Am ?_|refine At ?_|refine Au ?_|refine Ar rfl ?_|refine Aj rfl ?_)))
    refine ret1 rfl rfl ⟨?_,hE⟩
    rw [bof_t (hh.done (by omega))]
theorem taskFacts {w:World} {vv fv:Value} {vars:List Int} {f:List Fct} (hv:V w vv vars) (hf:V w fv f) :
    Fn Try.prog 56 [vv,fv] w fun v w'=>v=.bool (bof (FactsOk vars f))∧Ext w w':=by
  obtain ⟨A,ca,rfl⟩:=hv.form
  obtain ⟨B,cb,rfl⟩:=hf.form
  have hfl:=hf.len
  refine AL Try.func56 rfl Try.ntmps56 rfl ?_
  ((repeat (first|refine Ah ?_|refine Al ?_|refine Ae ?_|refine Am ?_|refine At ?_|refine Au ?_|refine Ar rfl ?_|refine Aj rfl ?_))<;>(refine o_as rfl rfl ?_<;>(first|refine Ay ?_|refine Az ?_|refine Aw ?_|refine AA ?_))<;>(repeat (first|refine Ah ?_|refine Al ?_|refine Ae ?_|refine Am ?_|refine At ?_|refine Au ?_|refine Ar rfl ?_|refine Aj rfl ?_))<;>(refine o_as rfl rfl ?_<;>(first|refine Ay ?_|refine Az ?_|refine Aw ?_|refine AA ?_))<;>(repeat (first|refine Ah ?_|refine Al ?_|refine Ae ?_|refine Am ?_|refine At ?_|refine Au ?_|refine Ar rfl ?_|refine Aj rfl ?_))<;>(refine o_mv rfl rfl ?_<;>refine o_ln rfl rfl ?_<;>refine o_mv rfl rfl ?_<;>(first|refine Ay ?_|refine Az ?_|refine Aw ?_|refine AA ?_))<;>(repeat (first|refine Ah ?_|refine Al ?_|refine Ae ?_|refine Am ?_|refine At ?_|refine Au ?_|refine Ar rfl ?_|refine Aj rfl ?_)))
  refine Dp (X:=Nat×Int) (fun k=>[(0,.slice A vars.length ca),(5,.int .i64 k.2),(8,.slice B f.length cb),(9,.int .i64 (f.length:Int)),(10,.int .i64 (k.1:Int))])
    (fun k w'=>Ext w w'∧k.1≤f.length∧FactsTo vars f k.1∧(k.1=0→k.2=-1)∧∀ y,0 < k.1→f[k.1 - 1]?=some y→y.var=k.2) (fun k=>f.length - k.1) (0,-1) ⟨Below.refl _ _,Nat.zero_le _,⟨fun i _ h=>by simp at h,fun i _ _ h=>by simp at h⟩,fun _=>rfl,fun y h=>by simp at h⟩ ⟨rfl,rfl,rfl,rfl,rfl,trivial⟩ ?_
  rintro ⟨k,m⟩ w1 ⟨hE,hk,hh,hm0,hm⟩
  dsimp only at hk hh hm0 hm ⊢
  by_cases hlt:k < f.length
  · obtain ⟨x,hx⟩:=AH hlt
    obtain ⟨b,o,ce,rfl,hb,_,hd1,rfl,hr1,hr2⟩:=(hf.ext hE).elem hx
    ((repeat (first|refine Ah ?_|refine Al ?_|refine Ae ?_|refine Am ?_|refine At ?_|refine Au ?_|refine Ar rfl ?_|refine Aj rfl ?_))<;>((first|refine o_ltT rfl rfl rfl ?_|refine o_ltF rfl rfl rfl ?_)<;>(first|refine Ay ?_|refine Az ?_|refine Aw ?_|refine AA ?_))<;>(repeat (first|refine Ah ?_|refine Al ?_|refine Ae ?_|refine Am ?_|refine At ?_|refine Au ?_|refine Ar rfl ?_|refine Aj rfl ?_))<;>(refine o_ia rfl rfl rfl ?_<;>refine o_la rfl rfl ?_)<;>(repeat (first|refine Ah ?_|refine Al ?_|refine Ae ?_|refine Am ?_|refine At ?_|refine Au ?_|refine Ar rfl ?_|refine Aj rfl ?_)))
    refine BF rfl rfl rfl (by simp [Value.cells,Value.oneCell']) fun w3 hN=>?_
    have hb1:=hN.blk
    have hE3:Ext w w3:=hE.trans' hN.ext
    ((first|refine Ay ?_|refine Az ?_|refine Aw ?_|refine AA ?_))
    repeat (first|refine Ah ?_|refine Al ?_|refine Ae ?_|refine Am ?_|refine At ?_|refine Au ?_|refine Ar rfl ?_|refine Aj rfl ?_)
    refine BV (·=w3) [(0,true),(1,true),(2,true),(3,true),(4,true),(5,true),(6,true),(7,true),(8,true),(9,true),(10,true),(11,true),(12,true),(13,true),(14,true),(15,true),(16,true),(17,true),(18,true),(19,true),(20,true),(21,true),(22,true),(23,true),(24,true),(25,true)] (by kernel_rfl) rfl (by kernel_rfl) rfl ?_
    have hm1:0 < k→∃ z,f[k - 1]?=some z∧z.var=m:=fun h0=>by
      obtain ⟨z,hz⟩:=AH (l:=f) (k:=k - 1) (by omega)
      exact ⟨z,hz,hm z h0 hz⟩
    have hge:0 < k→0≤m:=fun h0=>by
      obtain ⟨z,hz,he⟩:=hm1 h0
      have:=(hh.1 (k - 1) z (by omega) hz).1
      omega
    have hge':-1≤m:=by
      by_cases h0:0 < k
      · have:=hge h0;omega
      · have:=hm0 (by omega);omega
    have hno0:¬ m < x.var→¬ FactsOk vars f:=fun h1 h2=>by
      by_cases h0:0 < k
      · obtain ⟨z,hz,he⟩:=hm1 h0
        have:=h2.2 (k - 1) z x hz (by rw [show k - 1 + 1=k from by omega];exact hx)
        omega
      · have:=hm0 (by omega)
        have:=(h2.1 k x hx).1
        omega
    by_cases hvr:0≤x.var∧x.var < vars.length
    · obtain ⟨j,hj1⟩:=Int.eq_ofNat_of_zero_le hvr.1
      obtain ⟨y,hy⟩:=AH (l:=vars) (k:=j) (by omega)
      obtain ⟨b2,o2,ce2,rfl,_,_,hd2,rfl,_⟩:=(hv.ext hE3).elem hy
      have hjy:vars[x.var.toNat]?=some y:=by rw [hj1];simpa using hy
      have hok:0≤x.val→x.val < y→FactOk vars x:=fun h1 h2=>⟨hvr.1,h1,y,hjy,h2⟩
      have hno:¬ (0≤x.val∧x.val < y)→¬ FactsOk vars f:=fun h1 h2=>h1 (by
        obtain ⟨_,h3,y',h4,h5⟩:=h2.1 k x hx
        rw [hjy] at h4;injection h4 with h4;subst h4;exact ⟨h3,h5⟩)
      (refine h_fa rfl rfl rfl ?_<;>refine h_ldA rfl rfl rfl ?_<;>refine h_mv rfl rfl rfl ?_<;>(first|refine h_leT rfl rfl rfl rfl ?_|refine h_leF rfl rfl rfl rfl ?_|refine h_leS rfl rfl rfl rfl (fun _=>?_) fun _=>?_)<;>refine h_mv rfl rfl rfl ?_<;>(refine hwp_o rfl ?_;(first|(refine AE rfl rfl ?_;refine g_fa rfl rfl ?_)|refine AG rfl rfl rfl rfl ?_))<;>(refine hwp_o rfl ?_;(first|(refine AE rfl rfl ?_;refine g_ldA rfl rfl ?_)|refine AG rfl rfl rfl rfl ?_))<;>(refine hwp_o rfl ?_;(first|(refine AE rfl rfl ?_;refine g_mv rfl rfl ?_)|refine AG rfl rfl rfl rfl ?_))<;>(refine hwp_o rfl ?_;(first|(refine AE rfl rfl ?_;refine g_ln rfl rfl ?_)|refine AG rfl rfl rfl rfl ?_))<;>(refine hwp_o rfl ?_;(first|(refine AE rfl rfl ?_;(first|refine Bu (fun _ _=>AU rfl rfl) rfl (by omega) ?_|refine Bv (fun _ _=>AU rfl rfl) rfl (by omega) ?_|refine AP (fun _ _=>AU rfl rfl) rfl (fun _=>?_) (fun _=>?_)))|refine AG rfl rfl rfl rfl ?_))<;>(first|refine h_pt rfl rfl rfl rfl ?_|refine h_pf rfl rfl rfl rfl ?_)<;>refine h_mv rfl rfl rfl ?_<;>(refine hwp_o rfl ?_;(first|(refine AE rfl rfl ?_;refine g_fa rfl rfl ?_)|refine AG rfl rfl rfl rfl ?_))<;>(refine hwp_o rfl ?_;(first|(refine AE rfl rfl ?_;refine g_ldA rfl rfl ?_)|refine AG rfl rfl rfl rfl ?_))<;>(refine hwp_o rfl ?_;(first|(refine AE rfl rfl ?_;(first|refine Bu (fun _ _=>BY rfl rfl) rfl (by omega) ?_|refine Bv (fun _ _=>BY rfl rfl) rfl (by omega) ?_|refine AP (fun _ _=>BY rfl rfl) rfl (fun _=>?_) (fun _=>?_)))|refine AG rfl rfl rfl rfl ?_))<;>(first|refine h_pt rfl rfl rfl rfl ?_|refine h_pf rfl rfl rfl rfl ?_)<;>refine h_mv rfl rfl rfl ?_<;>(refine hwp_o rfl ?_;(first|(refine AE rfl rfl ?_;refine g_fa rfl rfl ?_)|refine AG rfl rfl rfl rfl ?_))<;>(refine hwp_o rfl ?_;(first|(refine AE rfl rfl ?_;refine g_ldA rfl rfl ?_)|refine AG rfl rfl rfl rfl ?_))<;>(refine hwp_o rfl ?_;(first|(refine AE rfl rfl ?_;refine g_mv rfl rfl ?_)|refine AG rfl rfl rfl rfl ?_))<;>(refine hwp_o rfl ?_;(first|(refine AE rfl rfl ?_;refine g_fa rfl rfl ?_)|refine AG rfl rfl rfl rfl ?_))<;>(refine hwp_o rfl ?_;(first|(refine AE rfl rfl ?_;refine g_ldA rfl rfl ?_)|refine AG rfl rfl rfl rfl ?_))<;>(refine hwp_o rfl ?_;(first|(refine AE rfl rfl ?_;refine g_ia rfl rfl rfl ?_)|refine AG rfl rfl rfl rfl ?_))<;>(refine hwp_o rfl ?_;(first|(refine AE rfl rfl ?_;refine g_ldA rfl rfl ?_)|refine AG rfl rfl rfl rfl ?_))<;>(refine hwp_o rfl ?_;(first|(refine AE rfl rfl ?_;(first|refine Bu (fun _ _=>AU rfl rfl) rfl (by omega) ?_|refine Bv (fun _ _=>AU rfl rfl) rfl (by omega) ?_|refine AP (fun _ _=>AU rfl rfl) rfl (fun _=>?_) (fun _=>?_)))|refine AG rfl rfl rfl rfl ?_))<;>(first|refine h_pt rfl rfl rfl rfl ?_|refine h_pf rfl rfl rfl rfl ?_)<;>(first|refine AK ?_|refine BR ?_|refine BS ?_))<;>(repeat (first|refine Ah ?_|refine Al ?_|refine Ae ?_|refine Am ?_|refine At ?_|refine Au ?_|refine Ar rfl ?_|refine Aj rfl ?_))
      all_goals try (
        ((repeat (first|refine Ah ?_|refine Al ?_|refine Ae ?_|refine Am ?_|refine At ?_|refine Au ?_|refine Ar rfl ?_|refine Aj rfl ?_))<;>(refine o_as rfl rfl ?_<;>(first|refine Ay ?_|refine Az ?_|refine Aw ?_|refine AA ?_))<;>(repeat (first|refine Ah ?_|refine Al ?_|refine Ae ?_|refine Am ?_|refine At ?_|refine Au ?_|refine Ar rfl ?_|refine Aj rfl ?_)))
        refine ret1 rfl rfl ⟨?_,hE3⟩
        first|rw [bof_f (hno (by omega))]|rw [bof_f (hno0 (by omega))])
      ((repeat (first|refine Ah ?_|refine Al ?_|refine Ae ?_|refine Am ?_|refine At ?_|refine Au ?_|refine Ar rfl ?_|refine Aj rfl ?_))<;>(refine o_fa rfl rfl ?_<;>refine o_ld rfl rfl ?_<;>refine o_as rfl rfl ?_<;>(first|refine Ay ?_|refine Az ?_|refine Aw ?_|refine AA ?_))<;>(repeat (first|refine Ah ?_|refine Al ?_|refine Ae ?_|refine Am ?_|refine At ?_|refine Au ?_|refine Ar rfl ?_|refine Aj rfl ?_)))
      ((first|refine o_ic rfl rfl ?_|refine o_ad rfl rfl rfl ?_)<;>refine o_mv rfl rfl ?_<;>(first|refine Ay ?_|refine Az ?_|refine Aw ?_|refine AA ?_))
      refine ⟨(k + 1,x.var),⟨rfl,rfl,rfl,rfl,rfl,trivial⟩,⟨hE3,hlt,hh.step hx (hok (by omega) (by omega)) (fun y' h0 hy'=>by have:=hm y' h0 hy';omega),fun h=>absurd h (Nat.succ_ne_zero k),fun y' _ hy'=>?_⟩,Nat.sub_lt_sub_left hlt (Nat.lt_succ_self k)⟩
      rw [show k + 1 - 1=k from rfl,hx] at hy'
      exact congrArg Fct.var (Option.some.inj hy').symm
    · have hno:¬ FactsOk vars f:=fun h=>by
        obtain ⟨h1,h2,y,h3,_⟩:=h.1 k x hx
        have:=Bg h3
        omega
      (refine h_fa rfl rfl rfl ?_<;>refine h_ldA rfl rfl rfl ?_<;>refine h_mv rfl rfl rfl ?_<;>(first|refine h_leT rfl rfl rfl rfl ?_|refine h_leF rfl rfl rfl rfl ?_|refine h_leS rfl rfl rfl rfl (fun _=>?_) fun _=>?_)<;>refine h_mv rfl rfl rfl ?_<;>(refine hwp_o rfl ?_;(first|(refine AE rfl rfl ?_;refine g_fa rfl rfl ?_)|refine AG rfl rfl rfl rfl ?_))<;>(refine hwp_o rfl ?_;(first|(refine AE rfl rfl ?_;refine g_ldA rfl rfl ?_)|refine AG rfl rfl rfl rfl ?_))<;>(refine hwp_o rfl ?_;(first|(refine AE rfl rfl ?_;refine g_mv rfl rfl ?_)|refine AG rfl rfl rfl rfl ?_))<;>(refine hwp_o rfl ?_;(first|(refine AE rfl rfl ?_;refine g_ln rfl rfl ?_)|refine AG rfl rfl rfl rfl ?_))<;>(refine hwp_o rfl ?_;(first|(refine AE rfl rfl ?_;(first|refine Bu (fun _ _=>AU rfl rfl) rfl (by omega) ?_|refine Bv (fun _ _=>AU rfl rfl) rfl (by omega) ?_|refine AP (fun _ _=>AU rfl rfl) rfl (fun _=>?_) (fun _=>?_)))|refine AG rfl rfl rfl rfl ?_))<;>(first|refine h_pt rfl rfl rfl rfl ?_|refine h_pf rfl rfl rfl rfl ?_)<;>refine h_mv rfl rfl rfl ?_<;>(refine hwp_o rfl ?_;(first|(refine AE rfl rfl ?_;refine g_fa rfl rfl ?_)|refine AG rfl rfl rfl rfl ?_))<;>(refine hwp_o rfl ?_;(first|(refine AE rfl rfl ?_;refine g_ldA rfl rfl ?_)|refine AG rfl rfl rfl rfl ?_))<;>(refine hwp_o rfl ?_;(first|(refine AE rfl rfl ?_;(first|refine Bu (fun _ _=>BY rfl rfl) rfl (by omega) ?_|refine Bv (fun _ _=>BY rfl rfl) rfl (by omega) ?_|refine AP (fun _ _=>BY rfl rfl) rfl (fun _=>?_) (fun _=>?_)))|refine AG rfl rfl rfl rfl ?_))<;>(first|refine h_pt rfl rfl rfl rfl ?_|refine h_pf rfl rfl rfl rfl ?_)<;>refine h_mv rfl rfl rfl ?_<;>(refine hwp_o rfl ?_;(first|(refine AE rfl rfl ?_;refine g_fa rfl rfl ?_)|refine AG rfl rfl rfl rfl ?_))<;>(refine hwp_o rfl ?_;(first|(refine AE rfl rfl ?_;refine g_ldA rfl rfl ?_)|refine AG rfl rfl rfl rfl ?_))<;>(refine hwp_o rfl ?_;(first|(refine AE rfl rfl ?_;refine g_mv rfl rfl ?_)|refine AG rfl rfl rfl rfl ?_))<;>(refine hwp_o rfl ?_;(first|(refine AE rfl rfl ?_;refine g_fa rfl rfl ?_)|refine AG rfl rfl rfl rfl ?_))<;>(refine hwp_o rfl ?_;(first|(refine AE rfl rfl ?_;refine g_ldA rfl rfl ?_)|refine AG rfl rfl rfl rfl ?_))<;>(refine hwp_o rfl ?_;(first|(refine AE rfl rfl ?_;refine g_ia rfl rfl rfl ?_)|refine AG rfl rfl rfl rfl ?_))<;>(refine hwp_o rfl ?_;(first|(refine AE rfl rfl ?_;refine g_ldA rfl rfl ?_)|refine AG rfl rfl rfl rfl ?_))<;>(refine hwp_o rfl ?_;(first|(refine AE rfl rfl ?_;(first|refine Bu (fun _ _=>AU rfl rfl) rfl (by omega) ?_|refine Bv (fun _ _=>AU rfl rfl) rfl (by omega) ?_|refine AP (fun _ _=>AU rfl rfl) rfl (fun _=>?_) (fun _=>?_)))|refine AG rfl rfl rfl rfl ?_))<;>(first|refine h_pt rfl rfl rfl rfl ?_|refine h_pf rfl rfl rfl rfl ?_)<;>(first|refine AK ?_|refine BR ?_|refine BS ?_))<;>(repeat (first|refine Ah ?_|refine Al ?_|refine Ae ?_|refine Am ?_|refine At ?_|refine Au ?_|refine Ar rfl ?_|refine Aj rfl ?_))
      all_goals
        ((repeat (first|refine Ah ?_|refine Al ?_|refine Ae ?_|refine Am ?_|refine At ?_|refine Au ?_|refine Ar rfl ?_|refine Aj rfl ?_))<;>(refine o_as rfl rfl ?_<;>(first|refine Ay ?_|refine Az ?_|refine Aw ?_|refine AA ?_))<;>(repeat (first|refine Ah ?_|refine Al ?_|refine Ae ?_|refine Am ?_|refine At ?_|refine Au ?_|refine Ar rfl ?_|refine Aj rfl ?_)))
        refine ret1 rfl rfl ⟨?_,hE3⟩
        rw [bof_f hno]
  · ((repeat (first|refine Ah ?_|refine Al ?_|refine Ae ?_|refine Am ?_|refine At ?_|refine Au ?_|refine Ar rfl ?_|refine Aj rfl ?_))<;>((first|refine o_ltT rfl rfl rfl ?_|refine o_ltF rfl rfl rfl ?_)<;>(first|refine Ay ?_|refine Az ?_|refine Aw ?_|refine AA ?_))<;>(repeat (first|refine Ah ?_|refine Al ?_|refine Ae ?_|refine Am ?_|refine At ?_|refine Au ?_|refine Ar rfl ?_|refine Aj rfl ?_))<;>(refine o_as rfl rfl ?_<;>(first|refine Ay ?_|refine Az ?_|refine Aw ?_|refine AA ?_))<;>(repeat (first|refine Ah ?_|refine Al ?_|refine Ae ?_|refine Am ?_|refine At ?_|refine Au ?_|refine Ar rfl ?_|refine Aj rfl ?_)))
    refine ret1 rfl rfl ⟨?_,hE⟩
    rw [bof_t (hh.done (by omega))]
def NameOk (s:ByteArray):Prop:=s.size≤256∧∀ (i:Nat) (h:i < s.size),32≤(s[i]'h).toNat∧(s[i]'h).toNat≤126
theorem taskNamed {w:World} {s:ByteArray} (hs:s.size≤9223372036854775807) :
    Fn Try.prog 57 [.string s] w fun v w'=>v=.bool (bof (NameOk s))∧Ext w w':=by
  refine AL Try.func57 rfl Try.ntmps57 rfl ?_
  ((repeat (first|refine Ah ?_|refine Al ?_|refine Ae ?_|refine Am ?_|refine At ?_|refine Au ?_|refine Ar rfl ?_|refine Aj rfl ?_))<;>(refine o_as rfl rfl ?_<;>(first|refine Ay ?_|refine Az ?_|refine Aw ?_|refine AA ?_))<;>(repeat (first|refine Ah ?_|refine Al ?_|refine Ae ?_|refine Am ?_|refine At ?_|refine Au ?_|refine Ar rfl ?_|refine Aj rfl ?_))<;>(refine o_mv rfl rfl ?_<;>refine o_ls rfl rfl ?_<;>refine o_mv rfl rfl ?_<;>(first|refine Ay ?_|refine Az ?_|refine Aw ?_|refine AA ?_))<;>(repeat (first|refine Ah ?_|refine Al ?_|refine Ae ?_|refine Am ?_|refine At ?_|refine Au ?_|refine Ar rfl ?_|refine Aj rfl ?_)))
  refine Dp (fun k:Nat=>[(0,.string s),(5,.int .i64 (s.size:Int)),(6,.int .i64 (k:Int))])
    (fun k w'=>w'=w∧k≤s.size∧∀ (i:Nat) (h:i < s.size),i < k→32≤(s[i]'h).toNat∧(s[i]'h).toNat≤126) (fun k=>s.size - k) 0 ⟨rfl,Nat.zero_le _,fun i _ h=>by omega⟩ ⟨rfl,rfl,rfl,trivial⟩ ?_
  rintro k _ ⟨rfl,hk,hh⟩
  by_cases hlt:k < s.size
  · ((repeat (first|refine Ah ?_|refine Al ?_|refine Ae ?_|refine Am ?_|refine At ?_|refine Au ?_|refine Ar rfl ?_|refine Aj rfl ?_))<;>((first|refine o_ltT rfl rfl rfl ?_|refine o_ltF rfl rfl rfl ?_)<;>(first|refine Ay ?_|refine Az ?_|refine Aw ?_|refine AA ?_))<;>(repeat (first|refine Ah ?_|refine Al ?_|refine Ae ?_|refine Am ?_|refine At ?_|refine Au ?_|refine Ar rfl ?_|refine Aj rfl ?_))<;>(refine o_mv rfl rfl ?_<;>refine o_as rfl rfl ?_<;>(first|refine Ay ?_|refine Az ?_|refine Aw ?_|refine AA ?_))<;>(repeat (first|refine Ah ?_|refine Al ?_|refine Ae ?_|refine Am ?_|refine At ?_|refine Au ?_|refine Ar rfl ?_|refine Aj rfl ?_))<;>(refine o_mv rfl rfl ?_<;>refine o_mv rfl rfl ?_<;>refine o_ix rfl rfl rfl (by omega) ?_<;>(first|refine o_ltT rfl rfl rfl ?_|refine o_ltF rfl rfl rfl ?_|refine o_ltS rfl rfl rfl (fun _=>?_) fun _=>?_)<;>refine o_mv rfl rfl ?_<;>(first|(refine AD rfl rfl ?_;refine o_mv rfl rfl ?_)|refine AB rfl rfl rfl rfl ?_)<;>(first|(refine AD rfl rfl ?_;refine o_mv rfl rfl ?_)|refine AB rfl rfl rfl rfl ?_)<;>(first|(refine AD rfl rfl ?_;refine o_ix rfl rfl rfl (by omega) ?_)|refine AB rfl rfl rfl rfl ?_)<;>(first|(refine AD rfl rfl ?_;(first|refine o_gtT rfl rfl rfl ?_|refine o_gtF rfl rfl rfl ?_|refine o_gtS rfl rfl rfl (fun _=>?_) fun _=>?_))|refine AB rfl rfl rfl rfl ?_)<;>(first|refine o_pt rfl rfl rfl ?_|refine o_pf rfl rfl rfl ?_)<;>(first|refine Ay ?_|refine Az ?_|refine Aw ?_|refine AA ?_))<;>(repeat (first|refine Ah ?_|refine Al ?_|refine Ae ?_|refine Am ?_|refine At ?_|refine Au ?_|refine Ar rfl ?_|refine Aj rfl ?_)))
    all_goals first
      | (((first|refine o_ic rfl rfl ?_|refine o_ad rfl rfl rfl ?_)<;>refine o_mv rfl rfl ?_<;>(first|refine Ay ?_|refine Az ?_|refine Aw ?_|refine AA ?_))
         refine ⟨k + 1,⟨rfl,rfl,rfl,trivial⟩,⟨rfl,by omega,fun i h hi=>?_⟩,by omega⟩
         by_cases he:i=k
         · subst he;omega
         · exact hh i h (by omega))
      | (((repeat (first|refine Ah ?_|refine Al ?_|refine Ae ?_|refine Am ?_|refine At ?_|refine Au ?_|refine Ar rfl ?_|refine Aj rfl ?_))<;>(refine o_as rfl rfl ?_<;>(first|refine Ay ?_|refine Az ?_|refine Aw ?_|refine AA ?_))<;>(repeat (first|refine Ah ?_|refine Al ?_|refine Ae ?_|refine Am ?_|refine At ?_|refine Au ?_|refine Ar rfl ?_|refine Aj rfl ?_)))
         refine ret1 rfl rfl ⟨?_,Below.refl _ _⟩
         rw [bof_f (fun h=>by have:=h.2 k hlt;omega)])
  · by_cases h256:s.size≤256
    · ((repeat (first|refine Ah ?_|refine Al ?_|refine Ae ?_|refine Am ?_|refine At ?_|refine Au ?_|refine Ar rfl ?_|refine Aj rfl ?_))<;>((first|refine o_ltT rfl rfl rfl ?_|refine o_ltF rfl rfl rfl ?_)<;>(first|refine Ay ?_|refine Az ?_|refine Aw ?_|refine AA ?_))<;>(repeat (first|refine Ah ?_|refine Al ?_|refine Ae ?_|refine Am ?_|refine At ?_|refine Au ?_|refine Ar rfl ?_|refine Aj rfl ?_))<;>(refine o_mv rfl rfl ?_<;>refine o_ls rfl rfl ?_<;>(first|refine o_leT rfl rfl rfl ?_|refine o_leF rfl rfl rfl ?_)<;>refine o_as rfl rfl ?_<;>(first|refine Ay ?_|refine Az ?_|refine Aw ?_|refine AA ?_))<;>(repeat (first|refine Ah ?_|refine Al ?_|refine Ae ?_|refine Am ?_|refine At ?_|refine Au ?_|refine Ar rfl ?_|refine Aj rfl ?_)))
      refine ret1 rfl rfl ⟨?_,Below.refl _ _⟩
      rw [bof_t ⟨h256,fun i h=>hh i h (by omega)⟩]
    · ((repeat (first|refine Ah ?_|refine Al ?_|refine Ae ?_|refine Am ?_|refine At ?_|refine Au ?_|refine Ar rfl ?_|refine Aj rfl ?_))<;>((first|refine o_ltT rfl rfl rfl ?_|refine o_ltF rfl rfl rfl ?_)<;>(first|refine Ay ?_|refine Az ?_|refine Aw ?_|refine AA ?_))<;>(repeat (first|refine Ah ?_|refine Al ?_|refine Ae ?_|refine Am ?_|refine At ?_|refine Au ?_|refine Ar rfl ?_|refine Aj rfl ?_))<;>(refine o_mv rfl rfl ?_<;>refine o_ls rfl rfl ?_<;>(first|refine o_leT rfl rfl rfl ?_|refine o_leF rfl rfl rfl ?_)<;>refine o_as rfl rfl ?_<;>(first|refine Ay ?_|refine Az ?_|refine Aw ?_|refine AA ?_))<;>(repeat (first|refine Ah ?_|refine Al ?_|refine Ae ?_|refine Am ?_|refine At ?_|refine Au ?_|refine Ar rfl ?_|refine Aj rfl ?_)))
      refine ret1 rfl rfl ⟨?_,Below.refl _ _⟩
      rw [bof_f (fun h=>h256 h.1)]
end
section
open Go Go.RowKit
attribute [local irreducible] ewp owp hwp hwq hws Ev Evg Fn retPost loud loudS Res1
theorem ES {vars:List Int} {x:Fct}:FactsOk vars [x]↔FactOk vars x:=by
  constructor
  · intro h;exact h.1 0 x rfl
  · intro h
    refine ⟨fun i y hy=>?_,fun i y z _ hz=>by simp at hz⟩
    cases i with
    | zero=>simp at hy;exact hy ▸ h
    | succ i=>simp at hy
def EffOk (vars:List Int) (e:Eff):Prop:=FactsOk vars e.cond∧FactOk vars ⟨e.var,e.val⟩
def OpOk (vars:List Int) (o:Opr):Prop:=0≤o.cost∧o.cost≤1048576∧o.effs.length≤64∧NameOk o.name∧FactsOk vars o.pre∧∀ (i:Nat) e,o.effs[i]?=some e→EffOk vars e
def TaskOk (t:Tsk):Prop:=t.vars.length≤64∧t.ops.length≤4096∧(∀ (i:Nat) n,t.vars[i]?=some n→1≤n∧n≤64)∧StateOk t.vars t.init∧FactsOk t.vars t.goal∧∀ (i:Nat) o,t.ops[i]?=some o→OpOk t.vars o
theorem Cm {p:Nat→Prop} {k:Nat} (h:∀ i,i < k→p i) (hk:p k):∀ i,i < k + 1→p i:=fun i hi=>by
  by_cases he:i=k
  · subst he;exact hk
  · exact h i (by omega)
theorem baseOperator {w:World} {vv ov:Value} {vars:List Int} {o:Opr} (hv:V w vv vars) (ho:V w ov o) :
    Fn Try.prog 52 [vv,ov] w fun v w'=>v=.bool (bof (OpOk vars o))∧Ext w w':=by
  obtain ⟨Av,cv,rfl⟩:=hv.form
  obtain ⟨cs,rfl,p,q,rfl,hp,hq,hc,hn⟩:=ho
  obtain ⟨Ap,cp,rfl⟩:=hp.form
  obtain ⟨Aq,cq,rfl⟩:=hq.form
  have hql:=hq.len
  refine AL Try.func52 rfl Try.ntmps52 rfl ?_
  repeat (first|refine Ah ?_|refine Al ?_|refine Ae ?_|refine Am ?_|refine At ?_|refine Au ?_|refine Ar rfl ?_|refine Aj rfl ?_)
  refine CN rfl rfl fun w1 hN=>?_
  have hb1:=hN.blk
  have hE1:Ext w w1:=hN.ext
  (refine o_as rfl rfl ?_<;>(first|refine Ay ?_|refine Az ?_|refine Aw ?_|refine AA ?_))
  repeat (first|refine Ah ?_|refine Al ?_|refine Ae ?_|refine Am ?_|refine At ?_|refine Au ?_|refine Ar rfl ?_|refine Aj rfl ?_)
  (refine o_fa rfl rfl ?_<;>refine o_ld rfl rfl ?_<;>(first|refine o_ltT rfl rfl rfl ?_|refine o_ltF rfl rfl rfl ?_|refine o_ltS rfl rfl rfl (fun _=>?_) fun _=>?_)<;>refine o_mv rfl rfl ?_<;>(first|(refine AD rfl rfl ?_;refine o_fa rfl rfl ?_)|refine AB rfl rfl rfl rfl ?_)<;>(first|(refine AD rfl rfl ?_;refine o_ld rfl rfl ?_)|refine AB rfl rfl rfl rfl ?_)<;>(first|(refine AD rfl rfl ?_;(first|refine o_gtT rfl rfl rfl ?_|refine o_gtF rfl rfl rfl ?_|refine o_gtS rfl rfl rfl (fun _=>?_) fun _=>?_))|refine AB rfl rfl rfl rfl ?_)<;>(first|refine o_pt rfl rfl rfl ?_|refine o_pf rfl rfl rfl ?_)<;>refine o_mv rfl rfl ?_<;>(first|(refine AD rfl rfl ?_;refine o_fa rfl rfl ?_)|refine AB rfl rfl rfl rfl ?_)<;>(first|(refine AD rfl rfl ?_;refine o_ld rfl rfl ?_)|refine AB rfl rfl rfl rfl ?_)<;>(first|(refine AD rfl rfl ?_;refine o_ln rfl rfl ?_)|refine AB rfl rfl rfl rfl ?_)<;>(first|(refine AD rfl rfl ?_;(first|refine o_gtT rfl rfl rfl ?_|refine o_gtF rfl rfl rfl ?_|refine o_gtS rfl rfl rfl (fun _=>?_) fun _=>?_))|refine AB rfl rfl rfl rfl ?_)<;>(first|refine o_pt rfl rfl rfl ?_|refine o_pf rfl rfl rfl ?_)<;>refine o_mv rfl rfl ?_<;>(first|(refine AD rfl rfl ?_;refine o_fa rfl rfl ?_)|refine AB rfl rfl rfl rfl ?_)<;>(first|(refine AD rfl rfl ?_;refine o_ld rfl rfl ?_)|refine AB rfl rfl rfl rfl ?_)<;>(first|(refine AD rfl rfl ?_;refine o_ls rfl rfl ?_)|refine AB rfl rfl rfl rfl ?_)<;>(first|(refine AD rfl rfl ?_;(first|refine o_gtT rfl rfl rfl ?_|refine o_gtF rfl rfl rfl ?_|refine o_gtS rfl rfl rfl (fun _=>?_) fun _=>?_))|refine AB rfl rfl rfl rfl ?_)<;>(first|refine o_pt rfl rfl rfl ?_|refine o_pf rfl rfl rfl ?_)<;>refine o_mv rfl rfl ?_<;>(first|(refine AD rfl rfl ?_;refine o_mv rfl rfl ?_)|refine AB rfl rfl rfl rfl ?_)<;>(first|(refine AD rfl rfl ?_;refine o_fa rfl rfl ?_)|refine AB rfl rfl rfl rfl ?_)<;>(first|(refine AD rfl rfl ?_;refine o_ld rfl rfl ?_)|refine AB rfl rfl rfl rfl ?_))
  all_goals try (
    refine AB rfl rfl rfl rfl ?_
    ((first|(refine AD rfl rfl ?_;(first|refine o_nt rfl rfl ?_|refine o_nf rfl rfl ?_|refine o_nn rfl rfl ?_))|refine AB rfl rfl rfl rfl ?_)<;>(first|refine o_pt rfl rfl rfl ?_|refine o_pf rfl rfl rfl ?_)<;>(first|refine Ay ?_|refine Az ?_|refine Aw ?_|refine AA ?_))
    repeat (first|refine Ah ?_|refine Al ?_|refine Ae ?_|refine Am ?_|refine At ?_|refine Au ?_|refine Ar rfl ?_|refine Aj rfl ?_)
    ((repeat (first|refine Ah ?_|refine Al ?_|refine Ae ?_|refine Am ?_|refine At ?_|refine Au ?_|refine Ar rfl ?_|refine Aj rfl ?_))<;>(refine o_as rfl rfl ?_<;>(first|refine Ay ?_|refine Az ?_|refine Aw ?_|refine AA ?_))<;>(repeat (first|refine Ah ?_|refine Al ?_|refine Ae ?_|refine Am ?_|refine At ?_|refine Au ?_|refine Ar rfl ?_|refine Aj rfl ?_)))
    refine ret1 rfl rfl ⟨?_,hE1⟩
    rw [bof_f (fun h=>by obtain ⟨h1,h2,h3,⟨h4,_⟩,_⟩:=h;omega)])
  refine AD rfl rfl ?_
  refine Cs rfl rfl (baseProper (hv.ext hE1) (hp.ext hE1)) ?_ ?_
  case refine_2 =>
    intro w2 hP hE2
    ((first|(refine AD rfl rfl ?_;(first|refine o_nt rfl rfl ?_|refine o_nf rfl rfl ?_|refine o_nn rfl rfl ?_))|refine AB rfl rfl rfl rfl ?_)<;>(first|refine o_pt rfl rfl rfl ?_|refine o_pf rfl rfl rfl ?_)<;>(first|refine Ay ?_|refine Az ?_|refine Aw ?_|refine AA ?_))
    repeat (first|refine Ah ?_|refine Al ?_|refine Ae ?_|refine Am ?_|refine At ?_|refine Au ?_|refine Ar rfl ?_|refine Aj rfl ?_)
    ((repeat (first|refine Ah ?_|refine Al ?_|refine Ae ?_|refine Am ?_|refine At ?_|refine Au ?_|refine Ar rfl ?_|refine Aj rfl ?_))<;>(refine o_as rfl rfl ?_<;>(first|refine Ay ?_|refine Az ?_|refine Aw ?_|refine AA ?_))<;>(repeat (first|refine Ah ?_|refine Al ?_|refine Ae ?_|refine Am ?_|refine At ?_|refine Au ?_|refine Ar rfl ?_|refine Aj rfl ?_)))
    refine ret1 rfl rfl ⟨?_,hE1.trans' hE2⟩
    rw [bof_f (fun h=>hP h.2.2.2.2.1)]
  intro w2 hpre hE2
  replace hb1:=hb1.ext hE2
  have hE2:Ext w w2:=hE1.trans' hE2
  ((first|(refine AD rfl rfl ?_;(first|refine o_nt rfl rfl ?_|refine o_nf rfl rfl ?_|refine o_nn rfl rfl ?_))|refine AB rfl rfl rfl rfl ?_)<;>(first|refine o_pt rfl rfl rfl ?_|refine o_pf rfl rfl rfl ?_)<;>(first|refine Ay ?_|refine Az ?_|refine Aw ?_|refine AA ?_))
  repeat (first|refine Ah ?_|refine Al ?_|refine Ae ?_|refine Am ?_|refine At ?_|refine Au ?_|refine Ar rfl ?_|refine Aj rfl ?_)
  (refine o_fa rfl rfl ?_<;>refine o_ld rfl rfl ?_<;>refine o_ls rfl rfl ?_<;>refine o_mv rfl rfl ?_<;>(first|refine Ay ?_|refine Az ?_|refine Aw ?_|refine AA ?_))
  repeat (first|refine Ah ?_|refine Al ?_|refine Ae ?_|refine Am ?_|refine At ?_|refine Au ?_|refine Ar rfl ?_|refine Aj rfl ?_)
  refine Bn o.name.size hn (fun _:Unit=>[(0,.slice Av vars.length cv),(3,.pointer (some ⟨w.heap.size,0,none⟩))]) (fun k _ w'=>w'=w2∧∀ i,i < k→∀ h:i < o.name.size,32≤(o.name[i]'h).toNat∧(o.name[i]'h).toNat≤126) ()
    ⟨rfl,fun i hi=>by omega⟩ ⟨rfl,rfl,rfl,rfl,trivial⟩ (fun _=>⟨rfl,rfl⟩) ⟨rfl,rfl,rfl⟩ ⟨rfl,rfl⟩ ?_ ?_
  · rintro k _ _ hk ⟨rfl,hh⟩
    ((repeat (first|refine Ah ?_|refine Al ?_|refine Ae ?_|refine Am ?_|refine At ?_|refine Au ?_|refine Ar rfl ?_|refine Aj rfl ?_))<;>(refine o_mv rfl rfl ?_<;>refine o_as rfl rfl ?_<;>(first|refine Ay ?_|refine Az ?_|refine Aw ?_|refine AA ?_))<;>(repeat (first|refine Ah ?_|refine Al ?_|refine Ae ?_|refine Am ?_|refine At ?_|refine Au ?_|refine Ar rfl ?_|refine Aj rfl ?_))<;>(refine o_fa rfl rfl ?_<;>refine o_ld rfl rfl ?_<;>refine o_mv rfl rfl ?_<;>refine o_ix rfl rfl rfl (by omega) ?_<;>(first|refine o_ltT rfl rfl rfl ?_|refine o_ltF rfl rfl rfl ?_|refine o_ltS rfl rfl rfl (fun _=>?_) fun _=>?_)<;>refine o_mv rfl rfl ?_<;>(first|(refine AD rfl rfl ?_;refine o_fa rfl rfl ?_)|refine AB rfl rfl rfl rfl ?_)<;>(first|(refine AD rfl rfl ?_;refine o_ld rfl rfl ?_)|refine AB rfl rfl rfl rfl ?_)<;>(first|(refine AD rfl rfl ?_;refine o_mv rfl rfl ?_)|refine AB rfl rfl rfl rfl ?_)<;>(first|(refine AD rfl rfl ?_;refine o_ix rfl rfl rfl (by omega) ?_)|refine AB rfl rfl rfl rfl ?_)<;>(first|(refine AD rfl rfl ?_;(first|refine o_gtT rfl rfl rfl ?_|refine o_gtF rfl rfl rfl ?_|refine o_gtS rfl rfl rfl (fun _=>?_) fun _=>?_))|refine AB rfl rfl rfl rfl ?_)<;>(first|refine o_pt rfl rfl rfl ?_|refine o_pf rfl rfl rfl ?_)<;>(first|refine Ay ?_|refine Az ?_|refine Aw ?_|refine AA ?_))<;>(repeat (first|refine Ah ?_|refine Al ?_|refine Ae ?_|refine Am ?_|refine At ?_|refine Au ?_|refine Ar rfl ?_|refine Aj rfl ?_)))
    all_goals try (
      ((repeat (first|refine Ah ?_|refine Al ?_|refine Ae ?_|refine Am ?_|refine At ?_|refine Au ?_|refine Ar rfl ?_|refine Aj rfl ?_))<;>(refine o_as rfl rfl ?_<;>(first|refine Ay ?_|refine Az ?_|refine Aw ?_|refine AA ?_))<;>(repeat (first|refine Ah ?_|refine Al ?_|refine Ae ?_|refine Am ?_|refine At ?_|refine Au ?_|refine Ar rfl ?_|refine Aj rfl ?_)))
      refine ret1 rfl rfl ⟨?_,hE2⟩
      rw [bof_f (fun h=>by have:=h.2.2.2.1.2 k hk;omega)])
    exact ⟨(),⟨rfl,rfl,rfl,rfl,trivial⟩,rfl,Cm hh fun _=>by omega⟩
  rintro _ _ ⟨rfl,hname⟩
  have hnok:NameOk o.name:=⟨by omega,fun i h=>hname i h h⟩
  repeat (first|refine Ah ?_|refine Al ?_|refine Ae ?_|refine Am ?_|refine At ?_|refine Au ?_|refine Ar rfl ?_|refine Aj rfl ?_)
  ((repeat (first|refine Ah ?_|refine Al ?_|refine Ae ?_|refine Am ?_|refine At ?_|refine Au ?_|refine Ar rfl ?_|refine Aj rfl ?_))<;>(refine o_fa rfl rfl ?_<;>refine o_ld rfl rfl ?_<;>refine o_ln rfl rfl ?_<;>refine o_mv rfl rfl ?_<;>(first|refine Ay ?_|refine Az ?_|refine Aw ?_|refine AA ?_))<;>(repeat (first|refine Ah ?_|refine Al ?_|refine Ae ?_|refine Am ?_|refine At ?_|refine Au ?_|refine Ar rfl ?_|refine Aj rfl ?_)))
  refine Bn o.effs.length (by omega) (fun _:Unit=>[(0,.slice Av vars.length cv),(3,.pointer (some ⟨w.heap.size,0,none⟩)),(55,.slice Aq o.effs.length cq)]) (fun k _ w'=>Ext w w'∧∀ i,i < k→∀ e,o.effs[i]?=some e→EffOk vars e) ()
    ⟨hE2,fun i hi=>by omega⟩ ⟨rfl,rfl,rfl,rfl,rfl,trivial⟩ (fun _=>⟨rfl,rfl⟩) ⟨rfl,rfl,rfl⟩ ⟨rfl,rfl⟩ ?_ ?_
  · rintro k _ w3 hk ⟨hE3,hh⟩
    obtain ⟨e,he⟩:=AH hk
    obtain ⟨b2,o2,ce,rfl,_,_,hd1,cv',rfl,hcond,hr1,hr2⟩:=(hq.ext hE3).elem he
    obtain ⟨Ac,cc,rfl⟩:=hcond.form
    ((repeat (first|refine Ah ?_|refine Al ?_|refine Ae ?_|refine Am ?_|refine At ?_|refine Au ?_|refine Ar rfl ?_|refine Aj rfl ?_))<;>(refine o_ia rfl rfl rfl ?_<;>refine o_la rfl rfl ?_)<;>(repeat (first|refine Ah ?_|refine Al ?_|refine Ae ?_|refine Am ?_|refine At ?_|refine Au ?_|refine Ar rfl ?_|refine Aj rfl ?_)))
    refine BF rfl rfl rfl (by simp [Value.cells,Value.oneCell']) fun w4 hN4=>?_
    have hb2:=hN4.blk
    have hE4:Ext w w4:=hE3.trans' hN4.ext
    ((first|refine Ay ?_|refine Az ?_|refine Aw ?_|refine AA ?_))
    repeat (first|refine Ah ?_|refine Al ?_|refine Ae ?_|refine Am ?_|refine At ?_|refine Au ?_|refine Ar rfl ?_|refine Aj rfl ?_)
    (refine o_mv rfl rfl ?_<;>refine o_fa rfl rfl ?_<;>refine o_ld rfl rfl ?_)
    refine Cs rfl rfl (baseProper (hv.ext hE4) (hcond.ext hN4.ext)) ?_ ?_
    case refine_2 =>
      intro w5 hP hE5
      ((first|refine o_nt rfl rfl ?_|refine o_nf rfl rfl ?_|refine o_nn rfl rfl ?_)<;>refine o_mv rfl rfl ?_<;>(first|(refine AD rfl rfl ?_;refine o_mv rfl rfl ?_)|refine AB rfl rfl rfl rfl ?_)<;>(first|(refine AD rfl rfl ?_;refine o_fa rfl rfl ?_)|refine AB rfl rfl rfl rfl ?_)<;>(first|(refine AD rfl rfl ?_;refine o_ld rfl rfl ?_)|refine AB rfl rfl rfl rfl ?_)<;>(first|(refine AD rfl rfl ?_;refine o_fa rfl rfl ?_)|refine AB rfl rfl rfl rfl ?_)<;>(first|(refine AD rfl rfl ?_;refine o_ld rfl rfl ?_)|refine AB rfl rfl rfl rfl ?_)<;>(first|(refine AD rfl rfl ?_;refine o_bd rfl rfl rfl ?_)|refine AB rfl rfl rfl rfl ?_))
      refine AB rfl rfl rfl rfl ?_
      refine AB rfl rfl rfl rfl ?_
      ((first|(refine AD rfl rfl ?_;(first|refine o_nt rfl rfl ?_|refine o_nf rfl rfl ?_|refine o_nn rfl rfl ?_))|refine AB rfl rfl rfl rfl ?_)<;>(first|refine o_pt rfl rfl rfl ?_|refine o_pf rfl rfl rfl ?_)<;>(first|refine Ay ?_|refine Az ?_|refine Aw ?_|refine AA ?_))
      repeat (first|refine Ah ?_|refine Al ?_|refine Ae ?_|refine Am ?_|refine At ?_|refine Au ?_|refine Ar rfl ?_|refine Aj rfl ?_)
      ((repeat (first|refine Ah ?_|refine Al ?_|refine Ae ?_|refine Am ?_|refine At ?_|refine Au ?_|refine Ar rfl ?_|refine Aj rfl ?_))<;>(refine o_as rfl rfl ?_<;>(first|refine Ay ?_|refine Az ?_|refine Aw ?_|refine AA ?_))<;>(repeat (first|refine Ah ?_|refine Al ?_|refine Ae ?_|refine Am ?_|refine At ?_|refine Au ?_|refine Ar rfl ?_|refine Aj rfl ?_)))
      refine ret1 rfl rfl ⟨?_,hE4.trans' hE5⟩
      rw [bof_f (fun h=>hP (h.2.2.2.2.2 k e he).1)]
    intro w5 hcok hE5
    replace hb2:=hb2.ext hE5
    ((first|refine o_nt rfl rfl ?_|refine o_nf rfl rfl ?_|refine o_nn rfl rfl ?_)<;>refine o_mv rfl rfl ?_<;>(first|(refine AD rfl rfl ?_;refine o_mv rfl rfl ?_)|refine AB rfl rfl rfl rfl ?_)<;>(first|(refine AD rfl rfl ?_;refine o_fa rfl rfl ?_)|refine AB rfl rfl rfl rfl ?_)<;>(first|(refine AD rfl rfl ?_;refine o_ld rfl rfl ?_)|refine AB rfl rfl rfl rfl ?_)<;>(first|(refine AD rfl rfl ?_;refine o_fa rfl rfl ?_)|refine AB rfl rfl rfl rfl ?_)<;>(first|(refine AD rfl rfl ?_;refine o_ld rfl rfl ?_)|refine AB rfl rfl rfl rfl ?_)<;>(first|(refine AD rfl rfl ?_;refine o_bd rfl rfl rfl ?_)|refine AB rfl rfl rfl rfl ?_))
    refine AD rfl rfl ?_
    refine CV rfl rfl rfl (by simp [Value.cells];rfl) (by decide) rfl fun w6 hN6=>?_
    have hE6:Ext w w6:=hE4.trans' (hE5.trans' hN6.ext)
    refine AD rfl rfl ?_
    have hone:V w6 (.slice (some ⟨w5.heap.size,0,none⟩) 1 1) [(⟨e.var,e.val⟩:Fct)] :=
      .of_slice ⟨_,1,[.int .i64 e.var,.int .i64 e.val],rfl,Nat.le_refl _,by omega,.single ⟨rfl,hr1,hr2⟩,fun _=>⟨_,_,rfl,hN6.blk.lt,hN6.blk.cellsAt⟩⟩
    refine Cs rfl rfl (baseProper (hv.ext hE6) hone) ?_ ?_
    case refine_2 =>
      intro w7 hP hE7
      ((first|(refine AD rfl rfl ?_;(first|refine o_nt rfl rfl ?_|refine o_nf rfl rfl ?_|refine o_nn rfl rfl ?_))|refine AB rfl rfl rfl rfl ?_)<;>(first|refine o_pt rfl rfl rfl ?_|refine o_pf rfl rfl rfl ?_)<;>(first|refine Ay ?_|refine Az ?_|refine Aw ?_|refine AA ?_))
      repeat (first|refine Ah ?_|refine Al ?_|refine Ae ?_|refine Am ?_|refine At ?_|refine Au ?_|refine Ar rfl ?_|refine Aj rfl ?_)
      ((repeat (first|refine Ah ?_|refine Al ?_|refine Ae ?_|refine Am ?_|refine At ?_|refine Au ?_|refine Ar rfl ?_|refine Aj rfl ?_))<;>(refine o_as rfl rfl ?_<;>(first|refine Ay ?_|refine Az ?_|refine Aw ?_|refine AA ?_))<;>(repeat (first|refine Ah ?_|refine Al ?_|refine Ae ?_|refine Am ?_|refine At ?_|refine Au ?_|refine Ar rfl ?_|refine Aj rfl ?_)))
      refine ret1 rfl rfl ⟨?_,hE6.trans' hE7⟩
      rw [bof_f (fun h=>hP (ES.2 (h.2.2.2.2.2 k e he).2))]
    intro w7 hfok hE7
    ((first|(refine AD rfl rfl ?_;(first|refine o_nt rfl rfl ?_|refine o_nf rfl rfl ?_|refine o_nn rfl rfl ?_))|refine AB rfl rfl rfl rfl ?_)<;>(first|refine o_pt rfl rfl rfl ?_|refine o_pf rfl rfl rfl ?_)<;>(first|refine Ay ?_|refine Az ?_|refine Aw ?_|refine AA ?_))
    repeat (first|refine Ah ?_|refine Al ?_|refine Ae ?_|refine Am ?_|refine At ?_|refine Au ?_|refine Ar rfl ?_|refine Aj rfl ?_)
    exact ⟨(),⟨rfl,rfl,rfl,rfl,rfl,trivial⟩,hE6.trans' hE7,Cm hh fun e' he'=>by
      rw [he] at he';injection he' with he';subst he';exact ⟨hcok,ES.1 hfok⟩⟩
  rintro _ w3 ⟨hE3,hh⟩
  repeat (first|refine Ah ?_|refine Al ?_|refine Ae ?_|refine Am ?_|refine At ?_|refine Au ?_|refine Ar rfl ?_|refine Aj rfl ?_)
  ((repeat (first|refine Ah ?_|refine Al ?_|refine Ae ?_|refine Am ?_|refine At ?_|refine Au ?_|refine Ar rfl ?_|refine Aj rfl ?_))<;>(refine o_as rfl rfl ?_<;>(first|refine Ay ?_|refine Az ?_|refine Aw ?_|refine AA ?_))<;>(repeat (first|refine Ah ?_|refine Al ?_|refine Ae ?_|refine Am ?_|refine At ?_|refine Au ?_|refine Ar rfl ?_|refine Aj rfl ?_)))
  refine ret1 rfl rfl ⟨?_,hE3⟩
  rw [bof_t ⟨by omega,by omega,by omega,hnok,hpre,fun i e he=>hh i (Bg he) e he⟩]
theorem baseGood {w:World} {tv:Value} {t:Tsk} (ht:V w tv t) :
    Fn Try.prog 27 [tv] w fun v w'=>v=.bool (bof (TaskOk t))∧Ext w w':=by
  obtain ⟨cs,rfl,a,b,c,d,rfl,hvars,hinit,hgoal,hops⟩:=ht
  obtain ⟨Av,cv,rfl⟩:=hvars.form
  obtain ⟨Ai,ci,rfl⟩:=hinit.form
  obtain ⟨Ag,cg,rfl⟩:=hgoal.form
  obtain ⟨Ao,co,rfl⟩:=hops.form
  have hvl:=hvars.len
  have hol:=hops.len
  refine AL Try.func27 rfl Try.ntmps27 rfl ?_
  repeat (first|refine Ah ?_|refine Al ?_|refine Ae ?_|refine Am ?_|refine At ?_|refine Au ?_|refine Ar rfl ?_|refine Aj rfl ?_)
  refine CN rfl rfl fun w1 hN=>?_
  have hb1:=hN.blk
  have hE1:Ext w w1:=hN.ext
  (refine o_as rfl rfl ?_<;>(first|refine Ay ?_|refine Az ?_|refine Aw ?_|refine AA ?_))
  repeat (first|refine Ah ?_|refine Al ?_|refine Ae ?_|refine Am ?_|refine At ?_|refine Au ?_|refine Ar rfl ?_|refine Aj rfl ?_)
  ((repeat (first|refine Ah ?_|refine Al ?_|refine Ae ?_|refine Am ?_|refine At ?_|refine Au ?_|refine Ar rfl ?_|refine Aj rfl ?_))<;>(refine o_fa rfl rfl ?_<;>refine o_ld rfl rfl ?_<;>refine o_ln rfl rfl ?_<;>(first|refine o_gtT rfl rfl rfl ?_|refine o_gtF rfl rfl rfl ?_|refine o_gtS rfl rfl rfl (fun _=>?_) fun _=>?_)<;>refine o_mv rfl rfl ?_<;>(first|(refine AD rfl rfl ?_;refine o_fa rfl rfl ?_)|refine AB rfl rfl rfl rfl ?_)<;>(first|(refine AD rfl rfl ?_;refine o_ld rfl rfl ?_)|refine AB rfl rfl rfl rfl ?_)<;>(first|(refine AD rfl rfl ?_;refine o_ln rfl rfl ?_)|refine AB rfl rfl rfl rfl ?_)<;>(first|(refine AD rfl rfl ?_;(first|refine o_gtT rfl rfl rfl ?_|refine o_gtF rfl rfl rfl ?_|refine o_gtS rfl rfl rfl (fun _=>?_) fun _=>?_))|refine AB rfl rfl rfl rfl ?_)<;>(first|refine o_pt rfl rfl rfl ?_|refine o_pf rfl rfl rfl ?_)<;>(first|refine Ay ?_|refine Az ?_|refine Aw ?_|refine AA ?_))<;>(repeat (first|refine Ah ?_|refine Al ?_|refine Ae ?_|refine Am ?_|refine At ?_|refine Au ?_|refine Ar rfl ?_|refine Aj rfl ?_)))
  all_goals try (
    ((repeat (first|refine Ah ?_|refine Al ?_|refine Ae ?_|refine Am ?_|refine At ?_|refine Au ?_|refine Ar rfl ?_|refine Aj rfl ?_))<;>(refine o_as rfl rfl ?_<;>(first|refine Ay ?_|refine Az ?_|refine Aw ?_|refine AA ?_))<;>(repeat (first|refine Ah ?_|refine Al ?_|refine Ae ?_|refine Am ?_|refine At ?_|refine Au ?_|refine Ar rfl ?_|refine Aj rfl ?_)))
    refine ret1 rfl rfl ⟨?_,hE1⟩
    rw [bof_f (fun h=>by obtain ⟨h1,h2,_⟩:=h;omega)])
  (refine o_fa rfl rfl ?_<;>refine o_ld rfl rfl ?_<;>refine o_ln rfl rfl ?_<;>refine o_mv rfl rfl ?_<;>(first|refine Ay ?_|refine Az ?_|refine Aw ?_|refine AA ?_))
  repeat (first|refine Ah ?_|refine Al ?_|refine Ae ?_|refine Am ?_|refine At ?_|refine Au ?_|refine Ar rfl ?_|refine Aj rfl ?_)
  refine Bn t.vars.length (by omega) (fun _:Unit=>[(1,.pointer (some ⟨w.heap.size,0,none⟩)),(18,.slice Av t.vars.length cv)]) (fun k _ w'=>w'=w1∧∀ i,i < k→∀ n,t.vars[i]?=some n→1≤n∧n≤64) ()
    ⟨rfl,fun i hi=>by omega⟩ ⟨rfl,rfl,rfl,rfl,trivial⟩ (fun _=>⟨rfl,rfl⟩) ⟨rfl,rfl,rfl⟩ ⟨rfl,rfl⟩ ?_ ?_
  · rintro k _ _ hk ⟨rfl,hh⟩
    obtain ⟨n,hn⟩:=AH hk
    obtain ⟨b2,o2,ce,rfl,_,_,hd1,rfl,_⟩:=(hvars.ext hE1).elem hn
    ((repeat (first|refine Ah ?_|refine Al ?_|refine Ae ?_|refine Am ?_|refine At ?_|refine Au ?_|refine Ar rfl ?_|refine Aj rfl ?_))<;>(refine o_ia rfl rfl rfl ?_<;>refine o_ld rfl rfl ?_<;>refine o_as rfl rfl ?_<;>(first|refine Ay ?_|refine Az ?_|refine Aw ?_|refine AA ?_))<;>(repeat (first|refine Ah ?_|refine Al ?_|refine Ae ?_|refine Am ?_|refine At ?_|refine Au ?_|refine Ar rfl ?_|refine Aj rfl ?_))<;>(refine o_mv rfl rfl ?_<;>(first|refine o_ltT rfl rfl rfl ?_|refine o_ltF rfl rfl rfl ?_|refine o_ltS rfl rfl rfl (fun _=>?_) fun _=>?_)<;>refine o_mv rfl rfl ?_<;>(first|(refine AD rfl rfl ?_;refine o_mv rfl rfl ?_)|refine AB rfl rfl rfl rfl ?_)<;>(first|(refine AD rfl rfl ?_;(first|refine o_gtT rfl rfl rfl ?_|refine o_gtF rfl rfl rfl ?_|refine o_gtS rfl rfl rfl (fun _=>?_) fun _=>?_))|refine AB rfl rfl rfl rfl ?_)<;>(first|refine o_pt rfl rfl rfl ?_|refine o_pf rfl rfl rfl ?_)<;>(first|refine Ay ?_|refine Az ?_|refine Aw ?_|refine AA ?_))<;>(repeat (first|refine Ah ?_|refine Al ?_|refine Ae ?_|refine Am ?_|refine At ?_|refine Au ?_|refine Ar rfl ?_|refine Aj rfl ?_)))
    all_goals try (
      ((repeat (first|refine Ah ?_|refine Al ?_|refine Ae ?_|refine Am ?_|refine At ?_|refine Au ?_|refine Ar rfl ?_|refine Aj rfl ?_))<;>(refine o_as rfl rfl ?_<;>(first|refine Ay ?_|refine Az ?_|refine Aw ?_|refine AA ?_))<;>(repeat (first|refine Ah ?_|refine Al ?_|refine Ae ?_|refine Am ?_|refine At ?_|refine Au ?_|refine Ar rfl ?_|refine Aj rfl ?_)))
      refine ret1 rfl rfl ⟨?_,hE1⟩
      rw [bof_f (fun h=>by have:=h.2.2.1 k n hn;omega)])
    exact ⟨(),⟨rfl,rfl,rfl,rfl,trivial⟩,rfl,Cm hh fun n' hn'=>by rw [hn] at hn';injection hn' with hn';omega⟩
  rintro _ _ ⟨rfl,hdom⟩
  repeat (first|refine Ah ?_|refine Al ?_|refine Ae ?_|refine Am ?_|refine At ?_|refine Au ?_|refine Ar rfl ?_|refine Aj rfl ?_)
  (refine o_fa rfl rfl ?_<;>refine o_ld rfl rfl ?_<;>refine o_fa rfl rfl ?_<;>refine o_ld rfl rfl ?_)
  refine Cs rfl rfl (baseState (hvars.ext hE1) (hinit.ext hE1)) ?_ ?_
  case refine_2 =>
    intro w2 hP hE2
    ((first|refine o_nt rfl rfl ?_|refine o_nf rfl rfl ?_|refine o_nn rfl rfl ?_)<;>refine o_mv rfl rfl ?_<;>(first|(refine AD rfl rfl ?_;refine o_fa rfl rfl ?_)|refine AB rfl rfl rfl rfl ?_)<;>(first|(refine AD rfl rfl ?_;refine o_ld rfl rfl ?_)|refine AB rfl rfl rfl rfl ?_)<;>(first|(refine AD rfl rfl ?_;refine o_fa rfl rfl ?_)|refine AB rfl rfl rfl rfl ?_)<;>(first|(refine AD rfl rfl ?_;refine o_ld rfl rfl ?_)|refine AB rfl rfl rfl rfl ?_))
    refine AB rfl rfl rfl rfl ?_
    ((first|(refine AD rfl rfl ?_;(first|refine o_nt rfl rfl ?_|refine o_nf rfl rfl ?_|refine o_nn rfl rfl ?_))|refine AB rfl rfl rfl rfl ?_)<;>(first|refine o_pt rfl rfl rfl ?_|refine o_pf rfl rfl rfl ?_)<;>(first|refine Ay ?_|refine Az ?_|refine Aw ?_|refine AA ?_))
    repeat (first|refine Ah ?_|refine Al ?_|refine Ae ?_|refine Am ?_|refine At ?_|refine Au ?_|refine Ar rfl ?_|refine Aj rfl ?_)
    ((repeat (first|refine Ah ?_|refine Al ?_|refine Ae ?_|refine Am ?_|refine At ?_|refine Au ?_|refine Ar rfl ?_|refine Aj rfl ?_))<;>(refine o_as rfl rfl ?_<;>(first|refine Ay ?_|refine Az ?_|refine Aw ?_|refine AA ?_))<;>(repeat (first|refine Ah ?_|refine Al ?_|refine Ae ?_|refine Am ?_|refine At ?_|refine Au ?_|refine Ar rfl ?_|refine Aj rfl ?_)))
    refine ret1 rfl rfl ⟨?_,hE1.trans' hE2⟩
    rw [bof_f (fun h=>hP h.2.2.2.1)]
  intro w2 hst hE2
  replace hb1:=hb1.ext hE2
  replace hE2:Ext w w2:=hE1.trans' hE2
  ((first|refine o_nt rfl rfl ?_|refine o_nf rfl rfl ?_|refine o_nn rfl rfl ?_)<;>refine o_mv rfl rfl ?_<;>(first|(refine AD rfl rfl ?_;refine o_fa rfl rfl ?_)|refine AB rfl rfl rfl rfl ?_)<;>(first|(refine AD rfl rfl ?_;refine o_ld rfl rfl ?_)|refine AB rfl rfl rfl rfl ?_)<;>(first|(refine AD rfl rfl ?_;refine o_fa rfl rfl ?_)|refine AB rfl rfl rfl rfl ?_)<;>(first|(refine AD rfl rfl ?_;refine o_ld rfl rfl ?_)|refine AB rfl rfl rfl rfl ?_))
  refine AD rfl rfl ?_
  refine Cs rfl rfl (baseProper (hvars.ext hE2) (hgoal.ext hE2)) ?_ ?_
  case refine_2 =>
    intro w3 hP hE3
    ((first|(refine AD rfl rfl ?_;(first|refine o_nt rfl rfl ?_|refine o_nf rfl rfl ?_|refine o_nn rfl rfl ?_))|refine AB rfl rfl rfl rfl ?_)<;>(first|refine o_pt rfl rfl rfl ?_|refine o_pf rfl rfl rfl ?_)<;>(first|refine Ay ?_|refine Az ?_|refine Aw ?_|refine AA ?_))
    repeat (first|refine Ah ?_|refine Al ?_|refine Ae ?_|refine Am ?_|refine At ?_|refine Au ?_|refine Ar rfl ?_|refine Aj rfl ?_)
    ((repeat (first|refine Ah ?_|refine Al ?_|refine Ae ?_|refine Am ?_|refine At ?_|refine Au ?_|refine Ar rfl ?_|refine Aj rfl ?_))<;>(refine o_as rfl rfl ?_<;>(first|refine Ay ?_|refine Az ?_|refine Aw ?_|refine AA ?_))<;>(repeat (first|refine Ah ?_|refine Al ?_|refine Ae ?_|refine Am ?_|refine At ?_|refine Au ?_|refine Ar rfl ?_|refine Aj rfl ?_)))
    refine ret1 rfl rfl ⟨?_,hE2.trans' hE3⟩
    rw [bof_f (fun h=>hP h.2.2.2.2.1)]
  intro w3 hgo hE3
  replace hb1:=hb1.ext hE3
  replace hE3:Ext w w3:=hE2.trans' hE3
  ((first|(refine AD rfl rfl ?_;(first|refine o_nt rfl rfl ?_|refine o_nf rfl rfl ?_|refine o_nn rfl rfl ?_))|refine AB rfl rfl rfl rfl ?_)<;>(first|refine o_pt rfl rfl rfl ?_|refine o_pf rfl rfl rfl ?_)<;>(first|refine Ay ?_|refine Az ?_|refine Aw ?_|refine AA ?_))
  repeat (first|refine Ah ?_|refine Al ?_|refine Ae ?_|refine Am ?_|refine At ?_|refine Au ?_|refine Ar rfl ?_|refine Aj rfl ?_)
  ((repeat (first|refine Ah ?_|refine Al ?_|refine Ae ?_|refine Am ?_|refine At ?_|refine Au ?_|refine Ar rfl ?_|refine Aj rfl ?_))<;>(refine o_fa rfl rfl ?_<;>refine o_ld rfl rfl ?_<;>refine o_ln rfl rfl ?_<;>refine o_mv rfl rfl ?_<;>(first|refine Ay ?_|refine Az ?_|refine Aw ?_|refine AA ?_))<;>(repeat (first|refine Ah ?_|refine Al ?_|refine Ae ?_|refine Am ?_|refine At ?_|refine Au ?_|refine Ar rfl ?_|refine Aj rfl ?_)))
  refine Bn t.ops.length (by omega) (fun _:Unit=>[(1,.pointer (some ⟨w.heap.size,0,none⟩)),(46,.slice Ao t.ops.length co)]) (fun k _ w'=>Ext w3 w'∧∀ i,i < k→∀ o,t.ops[i]?=some o→OpOk t.vars o) ()
    ⟨Below.refl _ _,fun i hi=>by omega⟩ ⟨rfl,rfl,rfl,rfl,trivial⟩ (fun _=>⟨rfl,rfl⟩) ⟨rfl,rfl,rfl⟩ ⟨rfl,rfl⟩ ?_ ?_
  · rintro k _ w4 hk ⟨hE4,hh⟩
    obtain ⟨o,ho⟩:=AH hk
    replace hb1:=hb1.ext hE4
    have hE34:=hE4
    replace hE4:Ext w w4:=hE3.trans' hE4
    obtain ⟨b2,o2,ce,rfl,_,_,hd1,hRo⟩:=(hops.ext hE4).elem ho
    obtain ⟨p,q,rfl,hp,hq,hc,hn⟩:=id hRo
    obtain ⟨Ap,cp,rfl⟩:=hp.form
    obtain ⟨Aq,cq,rfl⟩:=hq.form
    ((repeat (first|refine Ah ?_|refine Al ?_|refine Ae ?_|refine Am ?_|refine At ?_|refine Au ?_|refine Ar rfl ?_|refine Aj rfl ?_))<;>(refine o_ia rfl rfl rfl ?_<;>refine o_la rfl rfl ?_)<;>(repeat (first|refine Ah ?_|refine Al ?_|refine Ae ?_|refine Am ?_|refine At ?_|refine Au ?_|refine Ar rfl ?_|refine Aj rfl ?_)))
    refine BF rfl rfl rfl (by simp [Value.cells,Value.oneCell']) fun w5 hN5=>?_
    have hb2:=hN5.blk
    replace hb1:=hb1.ext hN5.ext
    have hE5:Ext w w5:=hE4.trans' hN5.ext
    ((first|refine Ay ?_|refine Az ?_|refine Aw ?_|refine AA ?_))
    repeat (first|refine Ah ?_|refine Al ?_|refine Ae ?_|refine Am ?_|refine At ?_|refine Au ?_|refine Ar rfl ?_|refine Aj rfl ?_)
    (refine o_fa rfl rfl ?_<;>refine o_ld rfl rfl ?_<;>refine o_la rfl rfl ?_)
    have hVo:V w4 (.agg #[.string o.name,.int .i64 o.cost,.slice Ap o.pre.length cp,.slice Aq o.effs.length cq]) o:=⟨_,rfl,hRo⟩
    refine Cs rfl rfl (baseOperator (hvars.ext hE5) (hVo.ext hN5.ext)) ?_ ?_
    · intro w6 hP hE6
      ((first|refine o_nt rfl rfl ?_|refine o_nf rfl rfl ?_|refine o_nn rfl rfl ?_)<;>(first|refine Ay ?_|refine Az ?_|refine Aw ?_|refine AA ?_))
      repeat (first|refine Ah ?_|refine Al ?_|refine Ae ?_|refine Am ?_|refine At ?_|refine Au ?_|refine Ar rfl ?_|refine Aj rfl ?_)
      refine ⟨(),⟨rfl,rfl,rfl,rfl,trivial⟩,?_,Cm hh fun o' ho'=>by rw [ho] at ho';injection ho' with ho';exact ho' ▸ hP⟩
      exact hE34.trans' (hN5.ext.trans' hE6)
    · intro w6 hP hE6
      ((first|refine o_nt rfl rfl ?_|refine o_nf rfl rfl ?_|refine o_nn rfl rfl ?_)<;>(first|refine Ay ?_|refine Az ?_|refine Aw ?_|refine AA ?_))
      repeat (first|refine Ah ?_|refine Al ?_|refine Ae ?_|refine Am ?_|refine At ?_|refine Au ?_|refine Ar rfl ?_|refine Aj rfl ?_)
      ((repeat (first|refine Ah ?_|refine Al ?_|refine Ae ?_|refine Am ?_|refine At ?_|refine Au ?_|refine Ar rfl ?_|refine Aj rfl ?_))<;>(refine o_as rfl rfl ?_<;>(first|refine Ay ?_|refine Az ?_|refine Aw ?_|refine AA ?_))<;>(repeat (first|refine Ah ?_|refine Al ?_|refine Ae ?_|refine Am ?_|refine At ?_|refine Au ?_|refine Ar rfl ?_|refine Aj rfl ?_)))
      refine ret1 rfl rfl ⟨?_,hE5.trans' hE6⟩
      rw [bof_f (fun h=>hP (h.2.2.2.2.2 k o ho))]
  rintro _ w4 ⟨hE4,hh⟩
  repeat (first|refine Ah ?_|refine Al ?_|refine Ae ?_|refine Am ?_|refine At ?_|refine Au ?_|refine Ar rfl ?_|refine Aj rfl ?_)
  ((repeat (first|refine Ah ?_|refine Al ?_|refine Ae ?_|refine Am ?_|refine At ?_|refine Au ?_|refine Ar rfl ?_|refine Aj rfl ?_))<;>(refine o_as rfl rfl ?_<;>(first|refine Ay ?_|refine Az ?_|refine Aw ?_|refine AA ?_))<;>(repeat (first|refine Ah ?_|refine Al ?_|refine Ae ?_|refine Am ?_|refine At ?_|refine Au ?_|refine Ar rfl ?_|refine Aj rfl ?_)))
  refine ret1 rfl rfl ⟨?_,hE3.trans' hE4⟩
  rw [bof_t ⟨by omega,by omega,fun i n hn=>hdom i (Bg hn) n hn,hst,hgo,fun i o ho=>hh i (Bg ho) o ho⟩]
def manyF (most:Int):List Int→Int→Int
  | [],n=>n
  | k :: r,n=>if most < n * min (max k 0) (most + 1) then most + 1 else manyF most r (n * min (max k 0) (most + 1))
theorem baseMany {w:World} {vv:Value} {vars:List Int} {most:Int} (hv:V w vv vars) (h1:1≤most) (h2:most≤1048576) :
    Fn Try.prog 31 [vv,.int .i64 most] w fun v w'=>v=.int .i64 (manyF most vars 1)∧Ext w w':=by
  obtain ⟨A,ca,rfl⟩:=hv.form
  have hvl:=hv.len
  refine AL Try.func31 rfl Try.ntmps31 rfl ?_
  ((repeat (first|refine Ah ?_|refine Al ?_|refine Ae ?_|refine Am ?_|refine At ?_|refine Au ?_|refine Ar rfl ?_|refine Aj rfl ?_))<;>(refine o_as rfl rfl ?_<;>(first|refine Ay ?_|refine Az ?_|refine Aw ?_|refine AA ?_))<;>(repeat (first|refine Ah ?_|refine Al ?_|refine Ae ?_|refine Am ?_|refine At ?_|refine Au ?_|refine Ar rfl ?_|refine Aj rfl ?_))<;>(refine o_as rfl rfl ?_<;>(first|refine Ay ?_|refine Az ?_|refine Aw ?_|refine AA ?_))<;>(repeat (first|refine Ah ?_|refine Al ?_|refine Ae ?_|refine Am ?_|refine At ?_|refine Au ?_|refine Ar rfl ?_|refine Aj rfl ?_))<;>(refine o_mv rfl rfl ?_<;>refine o_ln rfl rfl ?_<;>refine o_mv rfl rfl ?_<;>(first|refine Ay ?_|refine Az ?_|refine Aw ?_|refine AA ?_))<;>(repeat (first|refine Ah ?_|refine Al ?_|refine Ae ?_|refine Am ?_|refine At ?_|refine Au ?_|refine Ar rfl ?_|refine Aj rfl ?_)))
  refine Bn vars.length (by omega) (fun n:Int=>[(1,.int .i64 most),(5,.int .i64 n),(8,.slice A vars.length ca)]) (fun k n w'=>w'=w∧0≤n∧n≤most∧manyF most (vars.drop k) n=manyF most vars 1) 1
    ⟨rfl,by omega,h1,rfl⟩ ⟨rfl,rfl,rfl,rfl,rfl,trivial⟩ (fun _=>⟨rfl,rfl⟩) ⟨rfl,rfl,rfl⟩ ⟨rfl,rfl⟩ ?_ ?_
  · rintro k n _ hk ⟨rfl,hn0,hn1,hh⟩
    obtain ⟨x,hx⟩:=AH hk
    obtain ⟨b2,o2,ce,rfl,_,_,hd1,rfl,_⟩:=hv.elem hx
    have hd:vars.drop k=x :: vars.drop (k + 1):=by
      rw [List.drop_eq_getElem_cons hk];congr 1
      rw [List.getElem?_eq_getElem hk] at hx;exact Option.some.inj hx
    rw [hd] at hh
    simp only [manyF] at hh
    have hm0:0≤min (max x 0) (most + 1):=by omega
    have hm1:min (max x 0) (most + 1)≤most + 1:=by omega
    have hp0:0≤n * min (max x 0) (most + 1):=Int.mul_nonneg hn0 hm0
    have hp1:n * min (max x 0) (most + 1)≤1048576 * 1048577:=Int.le_trans (Int.mul_le_mul_of_nonneg_right (Int.le_trans hn1 h2) hm0) (Int.mul_le_mul_of_nonneg_left (by omega) (by omega))
    ((repeat (first|refine Ah ?_|refine Al ?_|refine Ae ?_|refine Am ?_|refine At ?_|refine Au ?_|refine Ar rfl ?_|refine Aj rfl ?_))<;>(refine o_ia rfl rfl rfl ?_<;>refine o_ld rfl rfl ?_<;>refine o_as rfl rfl ?_<;>(first|refine Ay ?_|refine Az ?_|refine Aw ?_|refine AA ?_))<;>(repeat (first|refine Ah ?_|refine Al ?_|refine Ae ?_|refine Am ?_|refine At ?_|refine Au ?_|refine Ar rfl ?_|refine Aj rfl ?_))<;>(refine o_mv rfl rfl ?_<;>refine o_mv rfl rfl ?_<;>refine o_max rfl rfl rfl ?_<;>refine o_mv rfl rfl ?_<;>(first|refine o_ic rfl rfl ?_|refine o_ad rfl rfl rfl ?_)<;>refine o_min rfl rfl rfl ?_<;>refine o_ml rfl rfl rfl ?_<;>refine o_as rfl rfl ?_<;>(first|refine Ay ?_|refine Az ?_|refine Aw ?_|refine AA ?_))<;>(repeat (first|refine Ah ?_|refine Al ?_|refine Ae ?_|refine Am ?_|refine At ?_|refine Au ?_|refine Ar rfl ?_|refine Aj rfl ?_))<;>(refine o_mv rfl rfl ?_<;>refine o_mv rfl rfl ?_<;>(first|refine o_gtT rfl rfl rfl ?_|refine o_gtF rfl rfl rfl ?_|refine o_gtS rfl rfl rfl (fun _=>?_) fun _=>?_)<;>(first|refine Ay ?_|refine Az ?_|refine Aw ?_|refine AA ?_))<;>(repeat (first|refine Ah ?_|refine Al ?_|refine Ae ?_|refine Am ?_|refine At ?_|refine Au ?_|refine Ar rfl ?_|refine Aj rfl ?_)))
    · ((repeat (first|refine Ah ?_|refine Al ?_|refine Ae ?_|refine Am ?_|refine At ?_|refine Au ?_|refine Ar rfl ?_|refine Aj rfl ?_))<;>(refine o_mv rfl rfl ?_<;>(first|refine o_ic rfl rfl ?_|refine o_ad rfl rfl rfl ?_)<;>refine o_as rfl rfl ?_<;>(first|refine Ay ?_|refine Az ?_|refine Aw ?_|refine AA ?_))<;>(repeat (first|refine Ah ?_|refine Al ?_|refine Ae ?_|refine Am ?_|refine At ?_|refine Au ?_|refine Ar rfl ?_|refine Aj rfl ?_)))
      refine ret1 rfl rfl ⟨?_,Below.refl _ _⟩
      rw [if_pos (by assumption)] at hh
      rw [← hh]
    · rw [if_neg (by assumption)] at hh
      exact ⟨n * min (max x 0) (most + 1),⟨rfl,rfl,rfl,rfl,rfl,trivial⟩,rfl,hp0,by omega,hh⟩
  rintro n _ ⟨rfl,_,_,hh⟩
  repeat (first|refine Ah ?_|refine Al ?_|refine Ae ?_|refine Am ?_|refine At ?_|refine Au ?_|refine Ar rfl ?_|refine Aj rfl ?_)
  ((repeat (first|refine Ah ?_|refine Al ?_|refine Ae ?_|refine Am ?_|refine At ?_|refine Au ?_|refine Ar rfl ?_|refine Aj rfl ?_))<;>(refine o_mv rfl rfl ?_<;>refine o_as rfl rfl ?_<;>(first|refine Ay ?_|refine Az ?_|refine Aw ?_|refine AA ?_))<;>(repeat (first|refine Ah ?_|refine Al ?_|refine Ae ?_|refine Am ?_|refine At ?_|refine Au ?_|refine Ar rfl ?_|refine Aj rfl ?_)))
  refine ret1 rfl rfl ⟨?_,Below.refl _ _⟩
  rw [← hh,List.drop_length];rfl
def SmallOk (t:Tsk):Prop:=t.vars.length≤12∧t.ops.length≤20∧(∀ (i:Nat) o,t.ops[i]?=some o→o.effs.length≤8)∧TaskOk t∧manyF 512 t.vars 1≤512
theorem baseSmall {w:World} {tv:Value} {t:Tsk} (ht:V w tv t) :
    Fn Try.prog 11 [tv] w fun v w'=>v=.bool (bof (SmallOk t))∧Ext w w':=by
  have ht0:=ht
  obtain ⟨cs,rfl,a,b,c,d,rfl,hvars,hinit,hgoal,hops⟩:=ht
  obtain ⟨Av,cv,rfl⟩:=hvars.form
  obtain ⟨Ai,ci,rfl⟩:=hinit.form
  obtain ⟨Ag,cg,rfl⟩:=hgoal.form
  obtain ⟨Ao,co,rfl⟩:=hops.form
  have hvl:=hvars.len
  have hol:=hops.len
  refine AL Try.func11 rfl Try.ntmps11 rfl ?_
  repeat (first|refine Ah ?_|refine Al ?_|refine Ae ?_|refine Am ?_|refine At ?_|refine Au ?_|refine Ar rfl ?_|refine Aj rfl ?_)
  refine CN rfl rfl fun w1 hN=>?_
  have hb1:=hN.blk
  have hE1:Ext w w1:=hN.ext
  (refine o_as rfl rfl ?_<;>(first|refine Ay ?_|refine Az ?_|refine Aw ?_|refine AA ?_))
  repeat (first|refine Ah ?_|refine Al ?_|refine Ae ?_|refine Am ?_|refine At ?_|refine Au ?_|refine Ar rfl ?_|refine Aj rfl ?_)
  ((repeat (first|refine Ah ?_|refine Al ?_|refine Ae ?_|refine Am ?_|refine At ?_|refine Au ?_|refine Ar rfl ?_|refine Aj rfl ?_))<;>(refine o_fa rfl rfl ?_<;>refine o_ld rfl rfl ?_<;>refine o_ln rfl rfl ?_<;>(first|refine o_gtT rfl rfl rfl ?_|refine o_gtF rfl rfl rfl ?_|refine o_gtS rfl rfl rfl (fun _=>?_) fun _=>?_)<;>refine o_mv rfl rfl ?_<;>(first|(refine AD rfl rfl ?_;refine o_fa rfl rfl ?_)|refine AB rfl rfl rfl rfl ?_)<;>(first|(refine AD rfl rfl ?_;refine o_ld rfl rfl ?_)|refine AB rfl rfl rfl rfl ?_)<;>(first|(refine AD rfl rfl ?_;refine o_ln rfl rfl ?_)|refine AB rfl rfl rfl rfl ?_)<;>(first|(refine AD rfl rfl ?_;(first|refine o_gtT rfl rfl rfl ?_|refine o_gtF rfl rfl rfl ?_|refine o_gtS rfl rfl rfl (fun _=>?_) fun _=>?_))|refine AB rfl rfl rfl rfl ?_)<;>(first|refine o_pt rfl rfl rfl ?_|refine o_pf rfl rfl rfl ?_)<;>(first|refine Ay ?_|refine Az ?_|refine Aw ?_|refine AA ?_))<;>(repeat (first|refine Ah ?_|refine Al ?_|refine Ae ?_|refine Am ?_|refine At ?_|refine Au ?_|refine Ar rfl ?_|refine Aj rfl ?_)))
  all_goals try (
    ((repeat (first|refine Ah ?_|refine Al ?_|refine Ae ?_|refine Am ?_|refine At ?_|refine Au ?_|refine Ar rfl ?_|refine Aj rfl ?_))<;>(refine o_as rfl rfl ?_<;>(first|refine Ay ?_|refine Az ?_|refine Aw ?_|refine AA ?_))<;>(repeat (first|refine Ah ?_|refine Al ?_|refine Ae ?_|refine Am ?_|refine At ?_|refine Au ?_|refine Ar rfl ?_|refine Aj rfl ?_)))
    refine ret1 rfl rfl ⟨?_,hE1⟩
    rw [bof_f (fun h=>by obtain ⟨h1,h2,_⟩:=h;omega)])
  ((repeat (first|refine Ah ?_|refine Al ?_|refine Ae ?_|refine Am ?_|refine At ?_|refine Au ?_|refine Ar rfl ?_|refine Aj rfl ?_))<;>(refine o_fa rfl rfl ?_<;>refine o_ld rfl rfl ?_<;>refine o_ln rfl rfl ?_<;>refine o_mv rfl rfl ?_<;>(first|refine Ay ?_|refine Az ?_|refine Aw ?_|refine AA ?_))<;>(repeat (first|refine Ah ?_|refine Al ?_|refine Ae ?_|refine Am ?_|refine At ?_|refine Au ?_|refine Ar rfl ?_|refine Aj rfl ?_)))
  refine Bn t.ops.length (by omega) (fun _:Unit=>[(1,.pointer (some ⟨w.heap.size,0,none⟩)),(16,.slice Ao t.ops.length co)]) (fun k _ w'=>Ext w1 w'∧∀ i,i < k→∀ o,t.ops[i]?=some o→o.effs.length≤8) ()
    ⟨Below.refl _ _,fun i hi=>by omega⟩ ⟨rfl,rfl,rfl,rfl,trivial⟩ (fun _=>⟨rfl,rfl⟩) ⟨rfl,rfl,rfl⟩ ⟨rfl,rfl⟩ ?_ ?_
  · rintro k _ w4 hk ⟨hE4,hh⟩
    obtain ⟨o,ho⟩:=AH hk
    obtain ⟨b2,o2,ce,rfl,_,_,hd1,p,q,rfl,hp,hq,hc,hn⟩:=(hops.ext (hE1.trans' hE4)).elem ho
    obtain ⟨Ap,cp,rfl⟩:=hp.form
    obtain ⟨Aq,cq,rfl⟩:=hq.form
    ((repeat (first|refine Ah ?_|refine Al ?_|refine Ae ?_|refine Am ?_|refine At ?_|refine Au ?_|refine Ar rfl ?_|refine Aj rfl ?_))<;>(refine o_ia rfl rfl rfl ?_<;>refine o_la rfl rfl ?_)<;>(repeat (first|refine Ah ?_|refine Al ?_|refine Ae ?_|refine Am ?_|refine At ?_|refine Au ?_|refine Ar rfl ?_|refine Aj rfl ?_)))
    refine BF rfl rfl rfl (by simp [Value.cells,Value.oneCell']) fun w5 hN5=>?_
    have hb2:=hN5.blk
    have hE5:Ext w1 w5:=hE4.trans' hN5.ext
    ((first|refine Ay ?_|refine Az ?_|refine Aw ?_|refine AA ?_))
    repeat (first|refine Ah ?_|refine Al ?_|refine Ae ?_|refine Am ?_|refine At ?_|refine Au ?_|refine Ar rfl ?_|refine Aj rfl ?_)
    ((repeat (first|refine Ah ?_|refine Al ?_|refine Ae ?_|refine Am ?_|refine At ?_|refine Au ?_|refine Ar rfl ?_|refine Aj rfl ?_))<;>(refine o_fa rfl rfl ?_<;>refine o_ld rfl rfl ?_<;>refine o_ln rfl rfl ?_<;>(first|refine o_gtT rfl rfl rfl ?_|refine o_gtF rfl rfl rfl ?_|refine o_gtS rfl rfl rfl (fun _=>?_) fun _=>?_)<;>(first|refine Ay ?_|refine Az ?_|refine Aw ?_|refine AA ?_))<;>(repeat (first|refine Ah ?_|refine Al ?_|refine Ae ?_|refine Am ?_|refine At ?_|refine Au ?_|refine Ar rfl ?_|refine Aj rfl ?_)))
    · ((repeat (first|refine Ah ?_|refine Al ?_|refine Ae ?_|refine Am ?_|refine At ?_|refine Au ?_|refine Ar rfl ?_|refine Aj rfl ?_))<;>(refine o_as rfl rfl ?_<;>(first|refine Ay ?_|refine Az ?_|refine Aw ?_|refine AA ?_))<;>(repeat (first|refine Ah ?_|refine Al ?_|refine Ae ?_|refine Am ?_|refine At ?_|refine Au ?_|refine Ar rfl ?_|refine Aj rfl ?_)))
      refine ret1 rfl rfl ⟨?_,hE1.trans' hE5⟩
      rw [bof_f (fun h=>by have:=h.2.2.1 k o ho;omega)]
    · exact ⟨(),⟨rfl,rfl,rfl,rfl,trivial⟩,hE5,Cm hh fun o' ho'=>by rw [ho] at ho';injection ho' with ho';subst ho';omega⟩
  rintro _ w4 ⟨hE4,hh⟩
  replace hb1:=hb1.ext hE4
  replace hE4:Ext w w4:=hE1.trans' hE4
  repeat (first|refine Ah ?_|refine Al ?_|refine Ae ?_|refine Am ?_|refine At ?_|refine Au ?_|refine Ar rfl ?_|refine Aj rfl ?_)
  (refine o_la rfl rfl ?_)
  refine Cs rfl rfl (baseGood (ht0.ext hE4)) ?_ ?_
  · intro w5 hgood hE5
    replace hb1:=hb1.ext hE5
    replace hE5:Ext w w5:=hE4.trans' hE5
    (refine o_mv rfl rfl ?_<;>(first|(refine AD rfl rfl ?_;refine o_fa rfl rfl ?_)|refine AB rfl rfl rfl rfl ?_)<;>(first|(refine AD rfl rfl ?_;refine o_ld rfl rfl ?_)|refine AB rfl rfl rfl rfl ?_))
    refine AD rfl rfl ?_
    refine Bc rfl rfl (baseMany (hvars.ext hE5) (by decide) (by decide)) ?_
    rintro _ w6 ⟨rfl,hE6⟩
    ((first|(refine AD rfl rfl ?_;(first|refine o_leT rfl rfl rfl ?_|refine o_leF rfl rfl rfl ?_|refine o_leS rfl rfl rfl (fun _=>?_) fun _=>?_))|refine AB rfl rfl rfl rfl ?_)<;>(first|refine o_pt rfl rfl rfl ?_|refine o_pf rfl rfl rfl ?_)<;>refine o_as rfl rfl ?_<;>(first|refine Ay ?_|refine Az ?_|refine Aw ?_|refine AA ?_))
    all_goals
      repeat (first|refine Ah ?_|refine Al ?_|refine Ae ?_|refine Am ?_|refine At ?_|refine Au ?_|refine Ar rfl ?_|refine Aj rfl ?_)
      refine ret1 rfl rfl ⟨?_,hE5.trans' hE6⟩
    · rw [bof_t ⟨by omega,by omega,fun i o ho=>hh i (Bg ho) o ho,hgood,by assumption⟩]
    · rw [bof_f (fun h=>absurd h.2.2.2.2 (by assumption))]
  · intro w5 hgood hE5
    (refine o_mv rfl rfl ?_<;>(first|(refine AD rfl rfl ?_;refine o_fa rfl rfl ?_)|refine AB rfl rfl rfl rfl ?_)<;>(first|(refine AD rfl rfl ?_;refine o_ld rfl rfl ?_)|refine AB rfl rfl rfl rfl ?_))
    refine AB rfl rfl rfl rfl ?_
    ((first|(refine AD rfl rfl ?_;(first|refine o_leT rfl rfl rfl ?_|refine o_leF rfl rfl rfl ?_|refine o_leS rfl rfl rfl (fun _=>?_) fun _=>?_))|refine AB rfl rfl rfl rfl ?_)<;>(first|refine o_pt rfl rfl rfl ?_|refine o_pf rfl rfl rfl ?_)<;>refine o_as rfl rfl ?_<;>(first|refine Ay ?_|refine Az ?_|refine Aw ?_|refine AA ?_))
    repeat (first|refine Ah ?_|refine Al ?_|refine Ae ?_|refine Am ?_|refine At ?_|refine Au ?_|refine Ar rfl ?_|refine Aj rfl ?_)
    refine ret1 rfl rfl ⟨?_,hE4.trans' hE5⟩
    rw [bof_f (fun h=>hgood h.2.2.2.1)]
end
section
open Go Go.RowKit
attribute [local irreducible] ewp owp hwp hwq hws Ev Evg Fn retPost loud loudS Res1
def opConds (o:Opr):List (List Fct):=o.pre :: o.effs.map (·.cond)
def conds (t:Tsk):List (List Fct):=t.goal :: t.ops.flatMap opConds
theorem IM {α β:Type} (f:α→List β) {l:List α} {k:Nat} {x:α} (h:l[k]?=some x):(l.take (k + 1)).flatMap f=(l.take k).flatMap f ++ f x:=by
  rw [List.take_add_one,h];simp
theorem LA {α β:Type} (f:α→β) {l:List α} {k:Nat} {x:α} (h:l[k]?=some x):(l.take (k + 1)).map f=(l.take k).map f ++ [f x]:=by
  rw [List.take_add_one,h];simp
theorem Mb {t:Tsk} (h:∀ (i:Nat) o,t.ops[i]?=some o→o.effs.length≤64) (k:Nat):((t.ops.take k).flatMap opConds).length≤k * 65:=by
  induction k with
  | zero=>simp
  | succ k ih =>
    cases hx:t.ops[k]? with
    | none =>
      have hl:=List.getElem?_eq_none_iff.1 hx
      rw [List.take_of_length_le hl] at ih
      rw [List.take_of_length_le (by omega)]
      omega
    | some o =>
      rw [IM opConds hx,List.length_append]
      have:=h k o hx
      simp only [opConds,List.length_cons,List.length_map] at *
      omega
theorem taskConditions {w:World} {tv:Value} {t:Tsk} (ht:V w tv t) (hn:t.ops.length≤4096) (hm:∀ (i:Nat) o,t.ops[i]?=some o→o.effs.length≤64) :
    Fn Try.prog 55 [tv] w fun v w'=>V w' v (conds t)∧Ext w w':=by
  obtain ⟨cs,rfl,a,b,c,d,rfl,hvars,hinit,hgoal,hops⟩:=ht
  obtain ⟨Av,cv,rfl⟩:=hvars.form
  obtain ⟨Ai,ci,rfl⟩:=hinit.form
  obtain ⟨Ag,cg,rfl⟩:=hgoal.form
  obtain ⟨Ao,co,rfl⟩:=hops.form
  have hF:∀ {w'},Ext w w'→∀ k,All w k→k < w'.heap.size:=fun hE k hk=>Nat.lt_of_lt_of_le hk hE.size
  refine AL Try.func55 rfl Try.ntmps55 rfl ?_
  repeat (first|refine Ah ?_|refine Al ?_|refine Ae ?_|refine Am ?_|refine At ?_|refine Au ?_|refine Ar rfl ?_|refine Aj rfl ?_)
  refine CN rfl rfl fun w1 hN=>?_
  have hb1:=hN.blk
  have hE1:Ext w w1:=hN.ext
  (refine o_as rfl rfl ?_<;>(first|refine Ay ?_|refine Az ?_|refine Aw ?_|refine AA ?_))
  repeat (first|refine Ah ?_|refine Al ?_|refine Ae ?_|refine Am ?_|refine At ?_|refine Au ?_|refine Ar rfl ?_|refine Aj rfl ?_)
  (refine o_fa rfl rfl ?_<;>refine o_ld rfl rfl ?_)
  refine CV rfl rfl rfl (by simp [Value.cells]) (by decide) rfl fun w2 hN2=>?_
  replace hb1:=hb1.ext hN2.ext
  have hE2:Ext w w2:=hE1.trans' hN2.ext
  have hown:Own w2 w.heap.size (All w) 23 (.slice (some ⟨w1.heap.size,0,none⟩) 1 1) [t.goal] :=
    (Own.made hN2 (xs:=[t.goal]) (.single (Vb.agree hgoal (hE2.agree fun _ h=>h))) rfl (fun h=>by have:w1.heap.size < w.heap.size:=h;have:=hE1.size;omega) (by simp)).lower hE1.size
  (refine o_as rfl rfl ?_<;>(first|refine Ay ?_|refine Az ?_|refine Aw ?_|refine AA ?_))
  repeat (first|refine Ah ?_|refine Al ?_|refine Ae ?_|refine Am ?_|refine At ?_|refine Au ?_|refine Ar rfl ?_|refine Aj rfl ?_)
  ((repeat (first|refine Ah ?_|refine Al ?_|refine Ae ?_|refine Am ?_|refine At ?_|refine Au ?_|refine Ar rfl ?_|refine Aj rfl ?_))<;>(refine o_fa rfl rfl ?_<;>refine o_ld rfl rfl ?_<;>refine o_ln rfl rfl ?_<;>refine o_mv rfl rfl ?_<;>(first|refine Ay ?_|refine Az ?_|refine Aw ?_|refine AA ?_))<;>(repeat (first|refine Ah ?_|refine Al ?_|refine Ae ?_|refine Am ?_|refine At ?_|refine Au ?_|refine Ar rfl ?_|refine Aj rfl ?_)))
  refine Bn t.ops.length (by omega) (fun v:Value=>[(1,.pointer (some ⟨w.heap.size,0,none⟩)),(3,v),(12,.slice Ao t.ops.length co)]) (fun k v w'=>Ext w w'∧Blk w' w.heap.size 26 [.slice Av t.vars.length cv,.slice Ai t.init.length ci,.slice Ag t.goal.length cg,.slice Ao t.ops.length co]∧Own w' w.heap.size (All w) 23 v (t.goal :: (t.ops.take k).flatMap opConds)) _
    ⟨hE2,hb1,hown⟩ ⟨rfl,rfl,rfl,rfl,rfl,trivial⟩ (fun _=>⟨rfl,rfl⟩) ⟨rfl,rfl,rfl⟩ ⟨rfl,rfl⟩ ?_ ?_
  · rintro k v w3 hk ⟨hE3,hb1,hown⟩
    have hlk:=Mb hm k
    obtain ⟨o,ho⟩:=AH hk
    obtain ⟨b2,o2,ce,rfl,_,_,hd1,p,q,rfl,hp,hq,hc,hnm⟩:=Vb.elem (Vb.agree hops (hE3.agree fun _ h=>h)) ho
    obtain ⟨Ap,cp,rfl⟩:=hp.form
    obtain ⟨Aq,cq,rfl⟩:=hq.form
    have hql:=hm k o ho
    ((repeat (first|refine Ah ?_|refine Al ?_|refine Ae ?_|refine Am ?_|refine At ?_|refine Au ?_|refine Ar rfl ?_|refine Aj rfl ?_))<;>(refine o_ia rfl rfl rfl ?_<;>refine o_la rfl rfl ?_)<;>(repeat (first|refine Ah ?_|refine Al ?_|refine Ae ?_|refine Am ?_|refine At ?_|refine Au ?_|refine Ar rfl ?_|refine Aj rfl ?_)))
    refine BF rfl rfl rfl (by simp [Value.cells,Value.oneCell']) fun w4 hN4=>?_
    have hb2:=hN4.blk
    replace hb1:=hb1.ext hN4.ext
    have hE4:Ext w w4:=hE3.trans' hN4.ext
    replace hown:=hown.ext hN4.ext (hF hE3)
    replace hp:=hp.agree (hN4.ext.agree (hF hE3))
    replace hq:=hq.agree (hN4.ext.agree (hF hE3))
    ((first|refine Ay ?_|refine Az ?_|refine Aw ?_|refine AA ?_))
    repeat (first|refine Ah ?_|refine Al ?_|refine Ae ?_|refine Am ?_|refine At ?_|refine Au ?_|refine Ar rfl ?_|refine Aj rfl ?_)
    (refine o_mv rfl rfl ?_<;>refine o_fa rfl rfl ?_<;>refine o_ld rfl rfl ?_)
    refine El rfl rfl rfl hown (hF hE4) hE4.size hp (by decide) (by decide) (by simp only [List.length_cons,List.length_append,List.length_map,List.length_take];omega) (by simp only [List.length_cons,List.length_append,List.length_map,List.length_take];omega) ⟨rfl,rfl⟩ fun v' w5 hown5 hK=>?_
    replace hb1:=hK.blk hb1 (hown.blk_ne hb1 (by decide))
    replace hb2:=hK.blk hb2 (hown.blk_ne hb2 (by decide))
    have hB5:Below w.heap.size w4 w5:=hown.fits (Nat.le_refl _) hE4.size hK
    have hE5:Ext w w5:=hE4.trans hB5
    replace hq:=hq.below hB5
    (refine o_as rfl rfl ?_<;>(first|refine Ay ?_|refine Az ?_|refine Aw ?_|refine AA ?_))
    repeat (first|refine Ah ?_|refine Al ?_|refine Ae ?_|refine Am ?_|refine At ?_|refine Au ?_|refine Ar rfl ?_|refine Aj rfl ?_)
    ((repeat (first|refine Ah ?_|refine Al ?_|refine Ae ?_|refine Am ?_|refine At ?_|refine Au ?_|refine Ar rfl ?_|refine Aj rfl ?_))<;>(refine o_fa rfl rfl ?_<;>refine o_ld rfl rfl ?_<;>refine o_ln rfl rfl ?_<;>refine o_mv rfl rfl ?_<;>(first|refine Ay ?_|refine Az ?_|refine Aw ?_|refine AA ?_))<;>(repeat (first|refine Ah ?_|refine Al ?_|refine Ae ?_|refine Am ?_|refine At ?_|refine Au ?_|refine Ar rfl ?_|refine Aj rfl ?_)))
    refine Bn o.effs.length (by omega) (fun v:Value=>[(1,.pointer (some ⟨w.heap.size,0,none⟩)),(3,v),(12,.slice (some ⟨b2,o2,none⟩) t.ops.length co),(13,.int .i64 (t.ops.length:Int)),(14,.int .i64 (k:Int)),(24,.slice Aq o.effs.length cq)]) (fun j v w'=>Ext w w'∧Blk w' w.heap.size 26 [.slice Av t.vars.length cv,.slice Ai t.init.length ci,.slice Ag t.goal.length cg,.slice (some ⟨b2,o2,none⟩) t.ops.length co]∧Vb w' (All w) (.slice Aq o.effs.length cq) o.effs∧Own w' w.heap.size (All w) 23 v ((t.goal :: (t.ops.take k).flatMap opConds) ++ o.pre :: (o.effs.take j).map (·.cond))) _
      ⟨hE5,hb1,hq,by simpa using hown5⟩ ⟨rfl,rfl,rfl,rfl,rfl,rfl,rfl,rfl,trivial⟩ (fun _=>⟨rfl,rfl⟩) ⟨rfl,rfl,rfl⟩ ⟨rfl,rfl⟩ ?_ ?_
    · rintro j v6 w6 hj ⟨hE6,hb1,hq,hown⟩
      obtain ⟨e,he⟩:=AH hj
      obtain ⟨b3,o3,ce,rfl,_,_,hd1,cv',rfl,hcond,hr1,hr2⟩:=hq.elem he
      obtain ⟨Ac,cc,rfl⟩:=hcond.form
      ((repeat (first|refine Ah ?_|refine Al ?_|refine Ae ?_|refine Am ?_|refine At ?_|refine Au ?_|refine Ar rfl ?_|refine Aj rfl ?_))<;>(refine o_ia rfl rfl rfl ?_<;>refine o_la rfl rfl ?_)<;>(repeat (first|refine Ah ?_|refine Al ?_|refine Ae ?_|refine Am ?_|refine At ?_|refine Au ?_|refine Ar rfl ?_|refine Aj rfl ?_)))
      refine BF rfl rfl rfl (by simp [Value.cells,Value.oneCell']) fun w7 hN7=>?_
      have hb2:=hN7.blk
      replace hb1:=hb1.ext hN7.ext
      have hE7:Ext w w7:=hE6.trans' hN7.ext
      replace hown:=hown.ext hN7.ext (hF hE6)
      replace hcond:=hcond.agree (hN7.ext.agree (hF hE6))
      replace hq:=hq.agree (hN7.ext.agree (hF hE6))
      ((first|refine Ay ?_|refine Az ?_|refine Aw ?_|refine AA ?_))
      repeat (first|refine Ah ?_|refine Al ?_|refine Ae ?_|refine Am ?_|refine At ?_|refine Au ?_|refine Ar rfl ?_|refine Aj rfl ?_)
      (refine o_mv rfl rfl ?_<;>refine o_fa rfl rfl ?_<;>refine o_ld rfl rfl ?_)
      refine El rfl rfl rfl hown (hF hE7) hE7.size hcond (by decide) (by decide) (by simp only [List.length_cons,List.length_append,List.length_map,List.length_take];omega) (by simp only [List.length_cons,List.length_append,List.length_map,List.length_take];omega) ⟨rfl,rfl⟩ fun v' w8 hown8 hK=>?_
      have hB8:Below w.heap.size w7 w8:=hown.fits (Nat.le_refl _) hE7.size hK
      (refine o_as rfl rfl ?_<;>(first|refine Ay ?_|refine Az ?_|refine Aw ?_|refine AA ?_))
      exact ⟨v',⟨rfl,rfl,rfl,rfl,rfl,rfl,rfl,rfl,trivial⟩,hE7.trans hB8,hK.blk hb1 (hown.blk_ne hb1 (by decide)),hq.below hB8,by rw [LA _ he];simpa using hown8⟩
    rintro v6 w6 ⟨hE6,hb1,hq,hown⟩
    repeat (first|refine Ah ?_|refine Al ?_|refine Ae ?_|refine Am ?_|refine At ?_|refine Au ?_|refine Ar rfl ?_|refine Aj rfl ?_)
    exact ⟨v6,⟨rfl,rfl,rfl,rfl,rfl,trivial⟩,hE6,hb1,by rw [IM opConds ho];simpa [opConds] using hown⟩
  rintro v w3 ⟨hE3,hb1,hown⟩
  repeat (first|refine Ah ?_|refine Al ?_|refine Ae ?_|refine Am ?_|refine At ?_|refine Au ?_|refine Ar rfl ?_|refine Aj rfl ?_)
  ((repeat (first|refine Ah ?_|refine Al ?_|refine Ae ?_|refine Am ?_|refine At ?_|refine Au ?_|refine Ar rfl ?_|refine Aj rfl ?_))<;>(refine o_mv rfl rfl ?_<;>refine o_as rfl rfl ?_<;>(first|refine Ay ?_|refine Az ?_|refine Aw ?_|refine AA ?_))<;>(repeat (first|refine Ah ?_|refine Al ?_|refine Ae ?_|refine Am ?_|refine At ?_|refine Au ?_|refine Ar rfl ?_|refine Aj rfl ?_)))
  refine ret1 rfl rfl ⟨?_,hE3⟩
  rw [List.take_length] at hown
  exact hown.vb.mono fun k hk=>by
    rcases hk with hk|hk
    · exact hF hE3 k hk
    · exact (hown.lt k hk).2
theorem indexFuncFacts {w:World} {sv:Value} {xs:List (List Fct)} {g:FuncId} [Callable Try.prog g] {caps:List Value} {p:List Fct→Prop} (hs:V w sv xs)
    (hg:∀ v x w',x∈xs→Ext w w'→V w' v x→Fn Try.prog g ([v] ++ caps) w' fun r w''=>r=.bool (bof (p x))∧Ext w' w'') :
    Fn Try.prog 83 [sv,.func (.func g) #[] caps.toArray] w fun v w'=>((∃ k:Nat,v=.int .i64 (k:Int)∧∃ x∈xs,p x)∨(v=.int .i64 (-1)∧∀ x∈xs,¬ p x))∧Ext w w':=by
  obtain ⟨A,c,rfl⟩:=hs.form
  have hl:=hs.len
  refine AL Try.func83 rfl Try.ntmps83 rfl ?_
  ((repeat (first|refine Ah ?_|refine Al ?_|refine Ae ?_|refine Am ?_|refine At ?_|refine Au ?_|refine Ar rfl ?_|refine Aj rfl ?_))<;>(refine o_as rfl rfl ?_<;>(first|refine Ay ?_|refine Az ?_|refine Aw ?_|refine AA ?_))<;>(repeat (first|refine Ah ?_|refine Al ?_|refine Ae ?_|refine Am ?_|refine At ?_|refine Au ?_|refine Ar rfl ?_|refine Aj rfl ?_))<;>(refine o_mv rfl rfl ?_<;>refine o_ln rfl rfl ?_<;>refine o_mv rfl rfl ?_<;>(first|refine Ay ?_|refine Az ?_|refine Aw ?_|refine AA ?_))<;>(repeat (first|refine Ah ?_|refine Al ?_|refine Ae ?_|refine Am ?_|refine At ?_|refine Au ?_|refine Ar rfl ?_|refine Aj rfl ?_)))
  refine Bn xs.length (by omega) (fun _:Unit=>[(0,.slice A xs.length c),(1,.func (.func g) #[] caps.toArray)]) (fun k _ w'=>Ext w w'∧∀ i,i < k→∀ x,xs[i]?=some x→¬ p x) ()
    ⟨Below.refl _ _,fun i hi=>by omega⟩ ⟨rfl,rfl,rfl,rfl,trivial⟩ (fun _=>⟨rfl,rfl⟩) ⟨rfl,rfl,rfl⟩ ⟨rfl,rfl⟩ ?_ ?_
  · rintro k _ w1 hk ⟨hE,hh⟩
    obtain ⟨x,hx⟩:=AH hk
    obtain ⟨b,o,ce,rfl,_,_,hd1,hR⟩:=(hs.ext hE).elem hx
    obtain ⟨v,rfl⟩:=List.length_eq_one_iff.1 (Rp.len hR)
    ((repeat (first|refine Ah ?_|refine Al ?_|refine Ae ?_|refine Am ?_|refine At ?_|refine Au ?_|refine Ar rfl ?_|refine Aj rfl ?_))<;>(refine o_mv rfl rfl ?_<;>refine o_as rfl rfl ?_<;>(first|refine Ay ?_|refine Az ?_|refine Aw ?_|refine AA ?_))<;>(repeat (first|refine Ah ?_|refine Al ?_|refine Ae ?_|refine Am ?_|refine At ?_|refine Au ?_|refine Ar rfl ?_|refine Aj rfl ?_))<;>(refine o_mv rfl rfl ?_<;>refine o_mv rfl rfl ?_<;>refine o_mv rfl rfl ?_<;>refine o_ia rfl rfl rfl ?_<;>refine o_ld rfl rfl ?_)<;>(repeat (first|refine Ah ?_|refine Al ?_|refine Ae ?_|refine Am ?_|refine At ?_|refine Au ?_|refine Ar rfl ?_|refine Aj rfl ?_)))
    refine IK rfl rfl rfl (hg v x w1 (List.mem_of_getElem? hx) hE hR) ?_
    rintro _ w2 ⟨rfl,hE2⟩
    by_cases hp:p x
    · rw [bof_t hp]
      ((first|refine Ay ?_|refine Az ?_|refine Aw ?_|refine AA ?_))
      repeat (first|refine Ah ?_|refine Al ?_|refine Ae ?_|refine Am ?_|refine At ?_|refine Au ?_|refine Ar rfl ?_|refine Aj rfl ?_)
      ((repeat (first|refine Ah ?_|refine Al ?_|refine Ae ?_|refine Am ?_|refine At ?_|refine Au ?_|refine Ar rfl ?_|refine Aj rfl ?_))<;>(refine o_mv rfl rfl ?_<;>refine o_as rfl rfl ?_<;>(first|refine Ay ?_|refine Az ?_|refine Aw ?_|refine AA ?_))<;>(repeat (first|refine Ah ?_|refine Al ?_|refine Ae ?_|refine Am ?_|refine At ?_|refine Au ?_|refine Ar rfl ?_|refine Aj rfl ?_)))
      exact ret1 rfl rfl ⟨.inl ⟨k,rfl,x,List.mem_of_getElem? hx,hp⟩,hE.trans' hE2⟩
    · rw [bof_f hp]
      ((first|refine Ay ?_|refine Az ?_|refine Aw ?_|refine AA ?_))
      repeat (first|refine Ah ?_|refine Al ?_|refine Ae ?_|refine Am ?_|refine At ?_|refine Au ?_|refine Ar rfl ?_|refine Aj rfl ?_)
      exact ⟨(),⟨rfl,rfl,rfl,rfl,trivial⟩,hE.trans' hE2,Cm hh fun x' hx'=>by rw [hx] at hx';injection hx' with hx';exact hx' ▸ hp⟩
  rintro _ w1 ⟨hE,hh⟩
  repeat (first|refine Ah ?_|refine Al ?_|refine Ae ?_|refine Am ?_|refine At ?_|refine Au ?_|refine Ar rfl ?_|refine Aj rfl ?_)
  ((repeat (first|refine Ah ?_|refine Al ?_|refine Ae ?_|refine Am ?_|refine At ?_|refine Au ?_|refine Ar rfl ?_|refine Aj rfl ?_))<;>(refine o_as rfl rfl ?_<;>(first|refine Ay ?_|refine Az ?_|refine Aw ?_|refine AA ?_))<;>(repeat (first|refine Ah ?_|refine Al ?_|refine Ae ?_|refine Am ?_|refine At ?_|refine Au ?_|refine Ar rfl ?_|refine Aj rfl ?_)))
  refine ret1 rfl rfl ⟨.inr ⟨rfl,fun x hx=>?_⟩,hE⟩
  obtain ⟨i,hi⟩:=List.getElem?_of_mem hx
  exact hh i (Bg hi) x hi
theorem containsFuncFacts {w:World} {sv:Value} {xs:List (List Fct)} {g:FuncId} [Callable Try.prog g] {caps:List Value} {p:List Fct→Prop} (hs:V w sv xs)
    (hg:∀ v x w',x∈xs→Ext w w'→V w' v x→Fn Try.prog g ([v] ++ caps) w' fun r w''=>r=.bool (bof (p x))∧Ext w' w'') :
    Fn Try.prog 69 [sv,.func (.func g) #[] caps.toArray] w fun v w'=>v=.bool (bof (∃ x∈xs,p x))∧Ext w w':=by
  refine AL Try.func69 rfl Try.ntmps69 rfl ?_
  ((repeat (first|refine Ah ?_|refine Al ?_|refine Ae ?_|refine Am ?_|refine At ?_|refine Au ?_|refine Ar rfl ?_|refine Aj rfl ?_))<;>(refine o_as rfl rfl ?_<;>(first|refine Ay ?_|refine Az ?_|refine Aw ?_|refine AA ?_))<;>(repeat (first|refine Ah ?_|refine Al ?_|refine Ae ?_|refine Am ?_|refine At ?_|refine Au ?_|refine Ar rfl ?_|refine Aj rfl ?_))<;>(refine o_mv rfl rfl ?_<;>refine o_mv rfl rfl ?_)<;>(repeat (first|refine Ah ?_|refine Al ?_|refine Ae ?_|refine Am ?_|refine At ?_|refine Au ?_|refine Ar rfl ?_|refine Aj rfl ?_)))
  refine Bc rfl rfl (indexFuncFacts hs hg) ?_
  rintro v w1 ⟨h,hE⟩
  rcases h with ⟨k,rfl,h⟩|⟨rfl,h⟩
  · ((first|refine o_geT rfl rfl rfl ?_|refine o_geF rfl rfl rfl ?_)<;>refine o_as rfl rfl ?_<;>(first|refine Ay ?_|refine Az ?_|refine Aw ?_|refine AA ?_))
    repeat (first|refine Ah ?_|refine Al ?_|refine Ae ?_|refine Am ?_|refine At ?_|refine Au ?_|refine Ar rfl ?_|refine Aj rfl ?_)
    exact ret1 rfl rfl ⟨by rw [bof_t h],hE⟩
  · ((first|refine o_geT rfl rfl rfl ?_|refine o_geF rfl rfl rfl ?_)<;>refine o_as rfl rfl ?_<;>(first|refine Ay ?_|refine Az ?_|refine Aw ?_|refine AA ?_))
    repeat (first|refine Ah ?_|refine Al ?_|refine Ae ?_|refine Am ?_|refine At ?_|refine Au ?_|refine Ar rfl ?_|refine Aj rfl ?_)
    exact ret1 rfl rfl ⟨by rw [bof_f (fun ⟨x,hx,hp⟩=>h x hx hp)],hE⟩
theorem taskLarge1 {w:World} {v:Value} {f:List Fct} (hf:V w v f):Fn Try.prog 70 ([v] ++ []) w fun r w'=>r=.bool (bof (64 < f.length))∧Ext w w':=by
  obtain ⟨A,c,rfl⟩:=hf.form
  refine AL Try.func70 rfl Try.ntmps70 rfl ?_
  by_cases h:64 < f.length
  · ((repeat (first|refine Ah ?_|refine Al ?_|refine Ae ?_|refine Am ?_|refine At ?_|refine Au ?_|refine Ar rfl ?_|refine Aj rfl ?_))<;>(refine o_as rfl rfl ?_<;>(first|refine Ay ?_|refine Az ?_|refine Aw ?_|refine AA ?_))<;>(repeat (first|refine Ah ?_|refine Al ?_|refine Ae ?_|refine Am ?_|refine At ?_|refine Au ?_|refine Ar rfl ?_|refine Aj rfl ?_))<;>(refine o_mv rfl rfl ?_<;>refine o_ln rfl rfl ?_<;>(first|refine o_gtT rfl rfl rfl ?_|refine o_gtF rfl rfl rfl ?_)<;>refine o_as rfl rfl ?_<;>(first|refine Ay ?_|refine Az ?_|refine Aw ?_|refine AA ?_))<;>(repeat (first|refine Ah ?_|refine Al ?_|refine Ae ?_|refine Am ?_|refine At ?_|refine Au ?_|refine Ar rfl ?_|refine Aj rfl ?_)))
    exact ret1 rfl rfl ⟨by rw [bof_t h],Below.refl _ _⟩
  · ((repeat (first|refine Ah ?_|refine Al ?_|refine Ae ?_|refine Am ?_|refine At ?_|refine Au ?_|refine Ar rfl ?_|refine Aj rfl ?_))<;>(refine o_as rfl rfl ?_<;>(first|refine Ay ?_|refine Az ?_|refine Aw ?_|refine AA ?_))<;>(repeat (first|refine Ah ?_|refine Al ?_|refine Ae ?_|refine Am ?_|refine At ?_|refine Au ?_|refine Ar rfl ?_|refine Aj rfl ?_))<;>(refine o_mv rfl rfl ?_<;>refine o_ln rfl rfl ?_<;>(first|refine o_gtT rfl rfl rfl ?_|refine o_gtF rfl rfl rfl ?_)<;>refine o_as rfl rfl ?_<;>(first|refine Ay ?_|refine Az ?_|refine Aw ?_|refine AA ?_))<;>(repeat (first|refine Ah ?_|refine Al ?_|refine Ae ?_|refine Am ?_|refine At ?_|refine Au ?_|refine Ar rfl ?_|refine Aj rfl ?_)))
    exact ret1 rfl rfl ⟨by rw [bof_f h],Below.refl _ _⟩
def Large (t:Tsk):Prop:=64 < t.vars.length∨4096 < t.ops.length∨(∃ (i:Nat) (o:Opr),t.ops[i]?=some o∧64 < o.effs.length)∨∃ f∈conds t,64 < f.length
theorem taskLarge {w:World} {tv:Value} {t:Tsk} (ht:V w tv t):Fn Try.prog 53 [tv] w fun v w'=>v=.bool (bof (Large t))∧Ext w w':=by
  have ht0:=ht
  obtain ⟨cs,rfl,a,b,c,d,rfl,hvars,hinit,hgoal,hops⟩:=ht
  obtain ⟨Av,cv,rfl⟩:=hvars.form
  obtain ⟨Ai,ci,rfl⟩:=hinit.form
  obtain ⟨Ag,cg,rfl⟩:=hgoal.form
  obtain ⟨Ao,co,rfl⟩:=hops.form
  have hol:=hops.len
  refine AL Try.func53 rfl Try.ntmps53 rfl ?_
  repeat (first|refine Ah ?_|refine Al ?_|refine Ae ?_|refine Am ?_|refine At ?_|refine Au ?_|refine Ar rfl ?_|refine Aj rfl ?_)
  refine CN rfl rfl fun w1 hN=>?_
  have hb1:=hN.blk
  have hE1:Ext w w1:=hN.ext
  (refine o_as rfl rfl ?_<;>(first|refine Ay ?_|refine Az ?_|refine Aw ?_|refine AA ?_))
  repeat (first|refine Ah ?_|refine Al ?_|refine Ae ?_|refine Am ?_|refine At ?_|refine Au ?_|refine Ar rfl ?_|refine Aj rfl ?_)
  ((repeat (first|refine Ah ?_|refine Al ?_|refine Ae ?_|refine Am ?_|refine At ?_|refine Au ?_|refine Ar rfl ?_|refine Aj rfl ?_))<;>(refine o_fa rfl rfl ?_<;>refine o_ld rfl rfl ?_<;>refine o_ln rfl rfl ?_<;>(first|refine o_gtT rfl rfl rfl ?_|refine o_gtF rfl rfl rfl ?_|refine o_gtS rfl rfl rfl (fun _=>?_) fun _=>?_)<;>refine o_mv rfl rfl ?_<;>(first|(refine AD rfl rfl ?_;refine o_fa rfl rfl ?_)|refine AB rfl rfl rfl rfl ?_)<;>(first|(refine AD rfl rfl ?_;refine o_ld rfl rfl ?_)|refine AB rfl rfl rfl rfl ?_)<;>(first|(refine AD rfl rfl ?_;refine o_ln rfl rfl ?_)|refine AB rfl rfl rfl rfl ?_)<;>(first|(refine AD rfl rfl ?_;(first|refine o_gtT rfl rfl rfl ?_|refine o_gtF rfl rfl rfl ?_|refine o_gtS rfl rfl rfl (fun _=>?_) fun _=>?_))|refine AB rfl rfl rfl rfl ?_)<;>(first|refine o_pt rfl rfl rfl ?_|refine o_pf rfl rfl rfl ?_)<;>(first|refine Ay ?_|refine Az ?_|refine Aw ?_|refine AA ?_))<;>(repeat (first|refine Ah ?_|refine Al ?_|refine Ae ?_|refine Am ?_|refine At ?_|refine Au ?_|refine Ar rfl ?_|refine Aj rfl ?_)))
  all_goals try (
    ((repeat (first|refine Ah ?_|refine Al ?_|refine Ae ?_|refine Am ?_|refine At ?_|refine Au ?_|refine Ar rfl ?_|refine Aj rfl ?_))<;>(refine o_as rfl rfl ?_<;>(first|refine Ay ?_|refine Az ?_|refine Aw ?_|refine AA ?_))<;>(repeat (first|refine Ah ?_|refine Al ?_|refine Ae ?_|refine Am ?_|refine At ?_|refine Au ?_|refine Ar rfl ?_|refine Aj rfl ?_)))
    refine ret1 rfl rfl ⟨?_,hE1⟩
    rw [bof_t (by first|exact .inl (by omega)|exact .inr (.inl (by omega)))])
  ((repeat (first|refine Ah ?_|refine Al ?_|refine Ae ?_|refine Am ?_|refine At ?_|refine Au ?_|refine Ar rfl ?_|refine Aj rfl ?_))<;>(refine o_fa rfl rfl ?_<;>refine o_ld rfl rfl ?_<;>refine o_ln rfl rfl ?_<;>refine o_mv rfl rfl ?_<;>(first|refine Ay ?_|refine Az ?_|refine Aw ?_|refine AA ?_))<;>(repeat (first|refine Ah ?_|refine Al ?_|refine Ae ?_|refine Am ?_|refine At ?_|refine Au ?_|refine Ar rfl ?_|refine Aj rfl ?_)))
  refine Bn t.ops.length (by omega) (fun _:Unit=>[(1,.pointer (some ⟨w.heap.size,0,none⟩)),(16,.slice Ao t.ops.length co)]) (fun k _ w'=>Ext w1 w'∧∀ i,i < k→∀ o,t.ops[i]?=some o→o.effs.length≤64) ()
    ⟨Below.refl _ _,fun i hi=>by omega⟩ ⟨rfl,rfl,rfl,rfl,trivial⟩ (fun _=>⟨rfl,rfl⟩) ⟨rfl,rfl,rfl⟩ ⟨rfl,rfl⟩ ?_ ?_
  · rintro k _ w4 hk ⟨hE4,hh⟩
    obtain ⟨o,ho⟩:=AH hk
    obtain ⟨b2,o2,ce,rfl,_,_,hd1,p,q,rfl,hp,hq,hc,hn⟩:=(hops.ext (hE1.trans' hE4)).elem ho
    obtain ⟨Ap,cp,rfl⟩:=hp.form
    obtain ⟨Aq,cq,rfl⟩:=hq.form
    ((repeat (first|refine Ah ?_|refine Al ?_|refine Ae ?_|refine Am ?_|refine At ?_|refine Au ?_|refine Ar rfl ?_|refine Aj rfl ?_))<;>(refine o_ia rfl rfl rfl ?_<;>refine o_la rfl rfl ?_)<;>(repeat (first|refine Ah ?_|refine Al ?_|refine Ae ?_|refine Am ?_|refine At ?_|refine Au ?_|refine Ar rfl ?_|refine Aj rfl ?_)))
    refine BF rfl rfl rfl (by simp [Value.cells,Value.oneCell']) fun w5 hN5=>?_
    have hb2:=hN5.blk
    have hE5:Ext w1 w5:=hE4.trans' hN5.ext
    ((first|refine Ay ?_|refine Az ?_|refine Aw ?_|refine AA ?_))
    repeat (first|refine Ah ?_|refine Al ?_|refine Ae ?_|refine Am ?_|refine At ?_|refine Au ?_|refine Ar rfl ?_|refine Aj rfl ?_)
    ((repeat (first|refine Ah ?_|refine Al ?_|refine Ae ?_|refine Am ?_|refine At ?_|refine Au ?_|refine Ar rfl ?_|refine Aj rfl ?_))<;>(refine o_fa rfl rfl ?_<;>refine o_ld rfl rfl ?_<;>refine o_ln rfl rfl ?_<;>(first|refine o_gtT rfl rfl rfl ?_|refine o_gtF rfl rfl rfl ?_|refine o_gtS rfl rfl rfl (fun _=>?_) fun _=>?_)<;>(first|refine Ay ?_|refine Az ?_|refine Aw ?_|refine AA ?_))<;>(repeat (first|refine Ah ?_|refine Al ?_|refine Ae ?_|refine Am ?_|refine At ?_|refine Au ?_|refine Ar rfl ?_|refine Aj rfl ?_)))
    · ((repeat (first|refine Ah ?_|refine Al ?_|refine Ae ?_|refine Am ?_|refine At ?_|refine Au ?_|refine Ar rfl ?_|refine Aj rfl ?_))<;>(refine o_as rfl rfl ?_<;>(first|refine Ay ?_|refine Az ?_|refine Aw ?_|refine AA ?_))<;>(repeat (first|refine Ah ?_|refine Al ?_|refine Ae ?_|refine Am ?_|refine At ?_|refine Au ?_|refine Ar rfl ?_|refine Aj rfl ?_)))
      refine ret1 rfl rfl ⟨?_,hE1.trans' hE5⟩
      rw [bof_t (.inr (.inr (.inl ⟨k,o,ho,by omega⟩)))]
    · exact ⟨(),⟨rfl,rfl,rfl,rfl,trivial⟩,hE5,Cm hh fun o' ho'=>by rw [ho] at ho';injection ho' with ho';subst ho';omega⟩
  rintro _ w4 ⟨hE4,hh⟩
  replace hb1:=hb1.ext hE4
  replace hE4:Ext w w4:=hE1.trans' hE4
  have hm:∀ (i:Nat) o,t.ops[i]?=some o→o.effs.length≤64:=fun i o ho=>hh i (Bg ho) o ho
  repeat (first|refine Ah ?_|refine Al ?_|refine Ae ?_|refine Am ?_|refine At ?_|refine Au ?_|refine Ar rfl ?_|refine Aj rfl ?_)
  (refine o_la rfl rfl ?_)
  refine Bc rfl rfl (taskConditions (ht0.ext hE4) (by omega) hm) ?_
  rintro v5 w5 ⟨hv5,hE5⟩
  refine Bc rfl rfl (containsFuncFacts (p:=fun f=>64 < f.length) (caps:=[]) hv5 (fun v x w' _ _ hx=>taskLarge1 hx)) ?_
  rintro v6 w6 ⟨rfl,hE6⟩
  (refine o_as rfl rfl ?_<;>(first|refine Ay ?_|refine Az ?_|refine Aw ?_|refine AA ?_))
  repeat (first|refine Ah ?_|refine Al ?_|refine Ae ?_|refine Am ?_|refine At ?_|refine Au ?_|refine Ar rfl ?_|refine Aj rfl ?_)
  refine ret1 rfl rfl ⟨?_,hE4.trans' (hE5.trans' hE6)⟩
  congr 1
  refine MB ⟨fun h=>.inr (.inr (.inr h)),fun h=>?_⟩
  rcases h with h|h|⟨i,o,ho,h⟩|h
  · omega
  · omega
  · have:=hm i o ho;omega
  · exact h
end
section
open Go Go.RowKit
def errV (n:Int):Value:=if n=0 then .nilIface else .iface 52 (.int .i64 n)
theorem FL:errV 0=.nilIface:=by unfold errV;rfl
theorem Gt {n:Int} (h:n≠0):errV n=.iface 52 (.int .i64 n):=by unfold errV;rw [if_neg h]
theorem AM (n:Int):(errV n).oneCell'=true:=by unfold errV;split<;>rfl
structure Err where
  n:Int
instance:Rp Err where
  isAgg:=false
  size:=1
  R _ _ cs x:=cs=[errV x.n]∧inI64 x.n
  len:=by rintro w F cs x ⟨rfl,_⟩;rfl
  one:=by
    rintro w F cs x ⟨rfl,_⟩ u hu
    have:u=errV x.n:=by simpa using hu
    subst this;exact AM _
  agree:=fun h _=>h
  mono:=fun h _=>h
theorem Vb.err {w:World} {F:Nat→Prop} {v:Value} {x:Err} (h:Vb w F v x):v=errV x.n∧inI64 x.n:=by
  obtain ⟨h1,h2⟩:=h
  exact ⟨by simpa using h1,h2⟩
theorem vErr {w:World} {F:Nat→Prop} {n:Int} (h:inI64 n):Vb w F (errV n) (⟨n⟩:Err):=⟨rfl,h⟩
theorem vErr0 {w:World} {F:Nat→Prop}:Vb w F .nilIface (⟨0⟩:Err):=⟨by rw [FL],by decide⟩
end
section
open Go Go.RowKit
attribute [local irreducible] ewp owp hwp hwq hws Ev Evg Fn retPost loud loudS Res1
def VarsOk (t:Tsk):Prop:=∀ (i:Nat) n,t.vars[i]?=some n→1≤n∧n≤64
def CostsOk (t:Tsk):Prop:=∀ (i:Nat) o,t.ops[i]?=some o→0≤o.cost∧o.cost≤1048576
def CondsOk (t:Tsk):Prop:=∀ (i:Nat) f,(conds t)[i]?=some f→FactsOk t.vars f
def EffsOk (t:Tsk):Prop:=∀ (i:Nat) o,t.ops[i]?=some o→∀ (j:Nat) e,o.effs[j]?=some e→FactOk t.vars ⟨e.var,e.val⟩
def NamesOk (t:Tsk):Prop:=∀ (i:Nat) o,t.ops[i]?=some o→NameOk o.name
noncomputable def checkN (t:Tsk):Int :=
  if bof (Large t)=true then 5 else if bof (VarsOk t∧CostsOk t)=false then 1 else if bof (StateOk t.vars t.init∧CondsOk t∧EffsOk t)=false then 2 else if bof (NamesOk t)=false then 8 else 0
theorem taskCheck {w:World} {tv:Value} {t:Tsk} (ht:V w tv t):Fn Try.prog 29 [tv] w fun v w'=>v=errV (checkN t)∧Ext w w':=by
  have ht0:=ht
  obtain ⟨cs,rfl,a,b,c,d,rfl,hvars,hinit,hgoal,hops⟩:=ht
  obtain ⟨Av,cv,rfl⟩:=hvars.form
  obtain ⟨Ai,ci,rfl⟩:=hinit.form
  obtain ⟨Ag,cg,rfl⟩:=hgoal.form
  obtain ⟨Ao,co,rfl⟩:=hops.form
  have hvl:=hvars.len
  have hol:=hops.len
  refine AL Try.func29 rfl Try.ntmps29 rfl ?_
  repeat (first|refine Ah ?_|refine Al ?_|refine Ae ?_|refine Am ?_|refine At ?_|refine Au ?_|refine Ar rfl ?_|refine Aj rfl ?_)
  refine CN rfl rfl fun w1 hN=>?_
  have hb1:=hN.blk
  have hE1:Ext w w1:=hN.ext
  (refine o_as rfl rfl ?_<;>(first|refine Ay ?_|refine Az ?_|refine Aw ?_|refine AA ?_))
  repeat (first|refine Ah ?_|refine Al ?_|refine Ae ?_|refine Am ?_|refine At ?_|refine Au ?_|refine Ar rfl ?_|refine Aj rfl ?_)
  (refine o_la rfl rfl ?_)
  refine Cs rfl rfl (taskLarge (ht0.ext hE1)) ?_ ?_
  case refine_1 =>
    intro w2 hP hE2
    ((first|refine Ay ?_|refine Az ?_|refine Aw ?_|refine AA ?_))
    repeat (first|refine Ah ?_|refine Al ?_|refine Ae ?_|refine Am ?_|refine At ?_|refine Au ?_|refine Ar rfl ?_|refine Aj rfl ?_)
    ((repeat (first|refine Ah ?_|refine Al ?_|refine Ae ?_|refine Am ?_|refine At ?_|refine Au ?_|refine Ar rfl ?_|refine Aj rfl ?_))<;>(refine o_mi rfl rfl ?_<;>refine o_as rfl rfl ?_<;>(first|refine Ay ?_|refine Az ?_|refine Aw ?_|refine AA ?_))<;>(repeat (first|refine Ah ?_|refine Al ?_|refine Ae ?_|refine Am ?_|refine At ?_|refine Au ?_|refine Ar rfl ?_|refine Aj rfl ?_)))
    refine ret1 rfl rfl ⟨?_,hE1.trans' hE2⟩
    rw [checkN,bof_t hP];rfl
  intro w2 hlarge hE2
  replace hb1:=hb1.ext hE2
  replace hE2:Ext w w2:=hE1.trans' hE2
  have hm:∀ (i:Nat) o,t.ops[i]?=some o→o.effs.length≤64:=fun i o ho=>Nat.le_of_not_lt fun h=>hlarge (.inr (.inr (.inl ⟨i,o,ho,h⟩)))
  have hn4:t.ops.length≤4096:=Nat.le_of_not_lt fun h=>hlarge (.inr (.inl h))
  have c1:checkN t=if bof (VarsOk t∧CostsOk t)=false then 1 else if bof (StateOk t.vars t.init∧CondsOk t∧EffsOk t)=false then 2 else if bof (NamesOk t)=false then 8 else 0:=by rw [checkN,bof_f hlarge];rfl
  ((first|refine Ay ?_|refine Az ?_|refine Aw ?_|refine AA ?_))
  repeat (first|refine Ah ?_|refine Al ?_|refine Ae ?_|refine Am ?_|refine At ?_|refine Au ?_|refine Ar rfl ?_|refine Aj rfl ?_)
  ((repeat (first|refine Ah ?_|refine Al ?_|refine Ae ?_|refine Am ?_|refine At ?_|refine Au ?_|refine Ar rfl ?_|refine Aj rfl ?_))<;>(refine o_fa rfl rfl ?_<;>refine o_ld rfl rfl ?_<;>refine o_ln rfl rfl ?_<;>refine o_mv rfl rfl ?_<;>(first|refine Ay ?_|refine Az ?_|refine Aw ?_|refine AA ?_))<;>(repeat (first|refine Ah ?_|refine Al ?_|refine Ae ?_|refine Am ?_|refine At ?_|refine Au ?_|refine Ar rfl ?_|refine Aj rfl ?_)))
  refine Bn t.vars.length (by omega) (fun _:Unit=>[(1,.pointer (some ⟨w.heap.size,0,none⟩)),(19,.slice Av t.vars.length cv)]) (fun k _ w'=>w'=w2∧∀ i,i < k→∀ n,t.vars[i]?=some n→1≤n∧n≤64) ()
    ⟨rfl,fun i hi=>by omega⟩ ⟨rfl,rfl,rfl,rfl,trivial⟩ (fun _=>⟨rfl,rfl⟩) ⟨rfl,rfl,rfl⟩ ⟨rfl,rfl⟩ ?_ ?_
  · rintro k _ _ hk ⟨rfl,hh⟩
    obtain ⟨n,hn⟩:=AH hk
    obtain ⟨b2,o2,ce,rfl,_,_,hd1,rfl,_⟩:=(hvars.ext hE2).elem hn
    ((repeat (first|refine Ah ?_|refine Al ?_|refine Ae ?_|refine Am ?_|refine At ?_|refine Au ?_|refine Ar rfl ?_|refine Aj rfl ?_))<;>(refine o_ia rfl rfl rfl ?_<;>refine o_ld rfl rfl ?_<;>refine o_as rfl rfl ?_<;>(first|refine Ay ?_|refine Az ?_|refine Aw ?_|refine AA ?_))<;>(repeat (first|refine Ah ?_|refine Al ?_|refine Ae ?_|refine Am ?_|refine At ?_|refine Au ?_|refine Ar rfl ?_|refine Aj rfl ?_))<;>(refine o_mv rfl rfl ?_<;>(first|refine o_ltT rfl rfl rfl ?_|refine o_ltF rfl rfl rfl ?_|refine o_ltS rfl rfl rfl (fun _=>?_) fun _=>?_)<;>refine o_mv rfl rfl ?_<;>(first|(refine AD rfl rfl ?_;refine o_mv rfl rfl ?_)|refine AB rfl rfl rfl rfl ?_)<;>(first|(refine AD rfl rfl ?_;(first|refine o_gtT rfl rfl rfl ?_|refine o_gtF rfl rfl rfl ?_|refine o_gtS rfl rfl rfl (fun _=>?_) fun _=>?_))|refine AB rfl rfl rfl rfl ?_)<;>(first|refine o_pt rfl rfl rfl ?_|refine o_pf rfl rfl rfl ?_)<;>(first|refine Ay ?_|refine Az ?_|refine Aw ?_|refine AA ?_))<;>(repeat (first|refine Ah ?_|refine Al ?_|refine Ae ?_|refine Am ?_|refine At ?_|refine Au ?_|refine Ar rfl ?_|refine Aj rfl ?_)))
    all_goals try (
      ((repeat (first|refine Ah ?_|refine Al ?_|refine Ae ?_|refine Am ?_|refine At ?_|refine Au ?_|refine Ar rfl ?_|refine Aj rfl ?_))<;>(refine o_mi rfl rfl ?_<;>refine o_as rfl rfl ?_<;>(first|refine Ay ?_|refine Az ?_|refine Aw ?_|refine AA ?_))<;>(repeat (first|refine Ah ?_|refine Al ?_|refine Ae ?_|refine Am ?_|refine At ?_|refine Au ?_|refine Ar rfl ?_|refine Aj rfl ?_)))
      refine ret1 rfl rfl ⟨?_,hE2⟩
      rw [c1,bof_f (fun h=>by have:=h.1 k n hn;omega)];rfl)
    exact ⟨(),⟨rfl,rfl,rfl,rfl,trivial⟩,rfl,Cm hh fun n' hn'=>by rw [hn] at hn';injection hn' with hn';omega⟩
  rintro _ _ ⟨rfl,hdom⟩
  replace hdom:VarsOk t:=fun i n hn=>hdom i (Bg hn) n hn
  repeat (first|refine Ah ?_|refine Al ?_|refine Ae ?_|refine Am ?_|refine At ?_|refine Au ?_|refine Ar rfl ?_|refine Aj rfl ?_)
  ((repeat (first|refine Ah ?_|refine Al ?_|refine Ae ?_|refine Am ?_|refine At ?_|refine Au ?_|refine Ar rfl ?_|refine Aj rfl ?_))<;>(refine o_fa rfl rfl ?_<;>refine o_ld rfl rfl ?_<;>refine o_ln rfl rfl ?_<;>refine o_mv rfl rfl ?_<;>(first|refine Ay ?_|refine Az ?_|refine Aw ?_|refine AA ?_))<;>(repeat (first|refine Ah ?_|refine Al ?_|refine Ae ?_|refine Am ?_|refine At ?_|refine Au ?_|refine Ar rfl ?_|refine Aj rfl ?_)))
  refine Bn t.ops.length (by omega) (fun _:Unit=>[(1,.pointer (some ⟨w.heap.size,0,none⟩)),(34,.slice Ao t.ops.length co)]) (fun k _ w'=>Ext w w'∧Blk w' w.heap.size 26 [.slice Av t.vars.length cv,.slice Ai t.init.length ci,.slice Ag t.goal.length cg,.slice Ao t.ops.length co]∧∀ i,i < k→∀ o,t.ops[i]?=some o→0≤o.cost∧o.cost≤1048576) ()
    ⟨hE2,hb1,fun i hi=>by omega⟩ ⟨rfl,rfl,rfl,rfl,trivial⟩ (fun _=>⟨rfl,rfl⟩) ⟨rfl,rfl,rfl⟩ ⟨rfl,rfl⟩ ?_ ?_
  · rintro k _ w4 hk ⟨hE4,hb1,hh⟩
    obtain ⟨o,ho⟩:=AH hk
    obtain ⟨b2,o2,ce,rfl,_,_,hd1,p,q,rfl,hp,hq,hc,hn⟩:=(hops.ext hE4).elem ho
    obtain ⟨Ap,cp,rfl⟩:=hp.form
    obtain ⟨Aq,cq,rfl⟩:=hq.form
    ((repeat (first|refine Ah ?_|refine Al ?_|refine Ae ?_|refine Am ?_|refine At ?_|refine Au ?_|refine Ar rfl ?_|refine Aj rfl ?_))<;>(refine o_ia rfl rfl rfl ?_<;>refine o_la rfl rfl ?_)<;>(repeat (first|refine Ah ?_|refine Al ?_|refine Ae ?_|refine Am ?_|refine At ?_|refine Au ?_|refine Ar rfl ?_|refine Aj rfl ?_)))
    refine BF rfl rfl rfl (by simp [Value.cells,Value.oneCell']) fun w5 hN5=>?_
    replace hb1:=hb1.ext hN5.ext
    have hb2:=hN5.blk
    have hE5:Ext w w5:=hE4.trans' hN5.ext
    ((first|refine Ay ?_|refine Az ?_|refine Aw ?_|refine AA ?_))
    repeat (first|refine Ah ?_|refine Al ?_|refine Ae ?_|refine Am ?_|refine At ?_|refine Au ?_|refine Ar rfl ?_|refine Aj rfl ?_)
    ((repeat (first|refine Ah ?_|refine Al ?_|refine Ae ?_|refine Am ?_|refine At ?_|refine Au ?_|refine Ar rfl ?_|refine Aj rfl ?_))<;>(refine o_fa rfl rfl ?_<;>refine o_ld rfl rfl ?_<;>(first|refine o_ltT rfl rfl rfl ?_|refine o_ltF rfl rfl rfl ?_|refine o_ltS rfl rfl rfl (fun _=>?_) fun _=>?_)<;>refine o_mv rfl rfl ?_<;>(first|(refine AD rfl rfl ?_;refine o_fa rfl rfl ?_)|refine AB rfl rfl rfl rfl ?_)<;>(first|(refine AD rfl rfl ?_;refine o_ld rfl rfl ?_)|refine AB rfl rfl rfl rfl ?_)<;>(first|(refine AD rfl rfl ?_;(first|refine o_gtT rfl rfl rfl ?_|refine o_gtF rfl rfl rfl ?_|refine o_gtS rfl rfl rfl (fun _=>?_) fun _=>?_))|refine AB rfl rfl rfl rfl ?_)<;>(first|refine o_pt rfl rfl rfl ?_|refine o_pf rfl rfl rfl ?_)<;>(first|refine Ay ?_|refine Az ?_|refine Aw ?_|refine AA ?_))<;>(repeat (first|refine Ah ?_|refine Al ?_|refine Ae ?_|refine Am ?_|refine At ?_|refine Au ?_|refine Ar rfl ?_|refine Aj rfl ?_)))
    all_goals try (
      ((repeat (first|refine Ah ?_|refine Al ?_|refine Ae ?_|refine Am ?_|refine At ?_|refine Au ?_|refine Ar rfl ?_|refine Aj rfl ?_))<;>(refine o_mi rfl rfl ?_<;>refine o_as rfl rfl ?_<;>(first|refine Ay ?_|refine Az ?_|refine Aw ?_|refine AA ?_))<;>(repeat (first|refine Ah ?_|refine Al ?_|refine Ae ?_|refine Am ?_|refine At ?_|refine Au ?_|refine Ar rfl ?_|refine Aj rfl ?_)))
      refine ret1 rfl rfl ⟨?_,hE5⟩
      rw [c1,bof_f (fun h=>by have:=h.2 k o ho;omega)];rfl)
    exact ⟨(),⟨rfl,rfl,rfl,rfl,trivial⟩,hE5,hb1,Cm hh fun o' ho'=>by rw [ho] at ho';injection ho' with ho';subst ho';omega⟩
  rintro _ w3 ⟨hE3,hb1,hcost⟩
  replace hcost:CostsOk t:=fun i o ho=>hcost i (Bg ho) o ho
  have c2:checkN t=if bof (StateOk t.vars t.init∧CondsOk t∧EffsOk t)=false then 2 else if bof (NamesOk t)=false then 8 else 0:=by rw [c1,bof_t ⟨hdom,hcost⟩];rfl
  repeat (first|refine Ah ?_|refine Al ?_|refine Ae ?_|refine Am ?_|refine At ?_|refine Au ?_|refine Ar rfl ?_|refine Aj rfl ?_)
  (refine o_fa rfl rfl ?_<;>refine o_ld rfl rfl ?_<;>refine o_fa rfl rfl ?_<;>refine o_ld rfl rfl ?_)
  refine Cs rfl rfl (taskProper (hvars.ext hE3) (hinit.ext hE3)) ?_ ?_
  case refine_2 =>
    intro w4 hP hE4
    ((first|refine o_nt rfl rfl ?_|refine o_nf rfl rfl ?_|refine o_nn rfl rfl ?_)<;>(first|refine Ay ?_|refine Az ?_|refine Aw ?_|refine AA ?_))
    repeat (first|refine Ah ?_|refine Al ?_|refine Ae ?_|refine Am ?_|refine At ?_|refine Au ?_|refine Ar rfl ?_|refine Aj rfl ?_)
    ((repeat (first|refine Ah ?_|refine Al ?_|refine Ae ?_|refine Am ?_|refine At ?_|refine Au ?_|refine Ar rfl ?_|refine Aj rfl ?_))<;>(refine o_mi rfl rfl ?_<;>refine o_as rfl rfl ?_<;>(first|refine Ay ?_|refine Az ?_|refine Aw ?_|refine AA ?_))<;>(repeat (first|refine Ah ?_|refine Al ?_|refine Ae ?_|refine Am ?_|refine At ?_|refine Au ?_|refine Ar rfl ?_|refine Aj rfl ?_)))
    refine ret1 rfl rfl ⟨?_,hE3.trans' hE4⟩
    rw [c2,bof_f (fun h=>hP h.1)];rfl
  intro w4 hst hE4
  replace hb1:=hb1.ext hE4
  replace hE4:Ext w w4:=hE3.trans' hE4
  ((first|refine o_nt rfl rfl ?_|refine o_nf rfl rfl ?_|refine o_nn rfl rfl ?_)<;>(first|refine Ay ?_|refine Az ?_|refine Aw ?_|refine AA ?_))
  repeat (first|refine Ah ?_|refine Al ?_|refine Ae ?_|refine Am ?_|refine At ?_|refine Au ?_|refine Ar rfl ?_|refine Aj rfl ?_)
  (refine o_la rfl rfl ?_)
  refine Bc rfl rfl (taskConditions (ht0.ext hE4) hn4 hm) ?_
  rintro v5 w5 ⟨hv5,hE5⟩
  obtain ⟨Ac,cc,rfl⟩:=hv5.form
  have hcl:=hv5.len
  replace hb1:=hb1.ext hE5
  replace hE5:Ext w w5:=hE4.trans' hE5
  (refine o_ln rfl rfl ?_<;>refine o_mv rfl rfl ?_<;>(first|refine Ay ?_|refine Az ?_|refine Aw ?_|refine AA ?_))
  repeat (first|refine Ah ?_|refine Al ?_|refine Ae ?_|refine Am ?_|refine At ?_|refine Au ?_|refine Ar rfl ?_|refine Aj rfl ?_)
  refine Bn (conds t).length (by omega) (fun _:Unit=>[(1,.pointer (some ⟨w.heap.size,0,none⟩)),(58,.slice Ac (conds t).length cc)]) (fun k _ w'=>Ext w5 w'∧∀ i,i < k→∀ f,(conds t)[i]?=some f→FactsOk t.vars f) ()
    ⟨Below.refl _ _,fun i hi=>by omega⟩ ⟨rfl,rfl,rfl,rfl,trivial⟩ (fun _=>⟨rfl,rfl⟩) ⟨rfl,rfl,rfl⟩ ⟨rfl,rfl⟩ ?_ ?_
  · rintro k _ w6 hk ⟨hE6,hh⟩
    obtain ⟨f,hf⟩:=AH hk
    have hb1:=hb1.ext hE6
    obtain ⟨b2,o2,ce,rfl,_,_,hd1,v,rfl,hR⟩:=(hv5.ext hE6).elem hf
    ((repeat (first|refine Ah ?_|refine Al ?_|refine Ae ?_|refine Am ?_|refine At ?_|refine Au ?_|refine Ar rfl ?_|refine Aj rfl ?_))<;>(refine o_ia rfl rfl rfl ?_<;>refine o_ld rfl rfl ?_<;>refine o_as rfl rfl ?_<;>(first|refine Ay ?_|refine Az ?_|refine Aw ?_|refine AA ?_))<;>(repeat (first|refine Ah ?_|refine Al ?_|refine Ae ?_|refine Am ?_|refine At ?_|refine Au ?_|refine Ar rfl ?_|refine Aj rfl ?_))<;>(refine o_fa rfl rfl ?_<;>refine o_ld rfl rfl ?_<;>refine o_mv rfl rfl ?_)<;>(repeat (first|refine Ah ?_|refine Al ?_|refine Ae ?_|refine Am ?_|refine At ?_|refine Au ?_|refine Ar rfl ?_|refine Aj rfl ?_)))
    refine Cs rfl rfl (taskFacts (hvars.ext (hE5.trans' hE6)) (Vb.of_slice hR)) ?_ ?_
    · intro w7 hP hE7
      ((first|refine o_nt rfl rfl ?_|refine o_nf rfl rfl ?_|refine o_nn rfl rfl ?_)<;>(first|refine Ay ?_|refine Az ?_|refine Aw ?_|refine AA ?_))
      repeat (first|refine Ah ?_|refine Al ?_|refine Ae ?_|refine Am ?_|refine At ?_|refine Au ?_|refine Ar rfl ?_|refine Aj rfl ?_)
      exact ⟨(),⟨rfl,rfl,rfl,rfl,trivial⟩,hE6.trans' hE7,Cm hh fun f' hf'=>by rw [hf] at hf';injection hf' with hf';exact hf' ▸ hP⟩
    · intro w7 hP hE7
      ((first|refine o_nt rfl rfl ?_|refine o_nf rfl rfl ?_|refine o_nn rfl rfl ?_)<;>(first|refine Ay ?_|refine Az ?_|refine Aw ?_|refine AA ?_))
      repeat (first|refine Ah ?_|refine Al ?_|refine Ae ?_|refine Am ?_|refine At ?_|refine Au ?_|refine Ar rfl ?_|refine Aj rfl ?_)
      ((repeat (first|refine Ah ?_|refine Al ?_|refine Ae ?_|refine Am ?_|refine At ?_|refine Au ?_|refine Ar rfl ?_|refine Aj rfl ?_))<;>(refine o_mi rfl rfl ?_<;>refine o_as rfl rfl ?_<;>(first|refine Ay ?_|refine Az ?_|refine Aw ?_|refine AA ?_))<;>(repeat (first|refine Ah ?_|refine Al ?_|refine Ae ?_|refine Am ?_|refine At ?_|refine Au ?_|refine Ar rfl ?_|refine Aj rfl ?_)))
      refine ret1 rfl rfl ⟨?_,hE5.trans' (hE6.trans' hE7)⟩
      rw [c2,bof_f (fun h=>hP (h.2.1 k f hf))];rfl
  rintro _ w6 ⟨hE6,hcond⟩
  replace hcond:CondsOk t:=fun i f hf=>hcond i (Bg hf) f hf
  replace hb1:=hb1.ext hE6
  replace hE6:Ext w w6:=hE5.trans' hE6
  repeat (first|refine Ah ?_|refine Al ?_|refine Ae ?_|refine Am ?_|refine At ?_|refine Au ?_|refine Ar rfl ?_|refine Aj rfl ?_)
  ((repeat (first|refine Ah ?_|refine Al ?_|refine Ae ?_|refine Am ?_|refine At ?_|refine Au ?_|refine Ar rfl ?_|refine Aj rfl ?_))<;>(refine o_fa rfl rfl ?_<;>refine o_ld rfl rfl ?_<;>refine o_ln rfl rfl ?_<;>refine o_mv rfl rfl ?_<;>(first|refine Ay ?_|refine Az ?_|refine Aw ?_|refine AA ?_))<;>(repeat (first|refine Ah ?_|refine Al ?_|refine Ae ?_|refine Am ?_|refine At ?_|refine Au ?_|refine Ar rfl ?_|refine Aj rfl ?_)))
  refine Bn t.ops.length (by omega) (fun _:Unit=>[(1,.pointer (some ⟨w.heap.size,0,none⟩)),(72,.slice Ao t.ops.length co)]) (fun k _ w'=>Ext w6 w'∧∀ i,i < k→∀ o,t.ops[i]?=some o→∀ (j:Nat) e,o.effs[j]?=some e→FactOk t.vars ⟨e.var,e.val⟩) ()
    ⟨Below.refl _ _,fun i hi=>by omega⟩ ⟨rfl,rfl,rfl,rfl,trivial⟩ (fun _=>⟨rfl,rfl⟩) ⟨rfl,rfl,rfl⟩ ⟨rfl,rfl⟩ ?_ ?_
  · rintro k _ w7 hk ⟨hE7,hh⟩
    obtain ⟨o,ho⟩:=AH hk
    have hb1:=hb1.ext hE7
    obtain ⟨b2,o2,ce,rfl,_,_,hd1,p,q,rfl,hp,hq,hc,hn⟩:=(hops.ext (hE6.trans' hE7)).elem ho
    obtain ⟨Ap,cp,rfl⟩:=hp.form
    obtain ⟨Aq,cq,rfl⟩:=hq.form
    have hql:=hq.len
    ((repeat (first|refine Ah ?_|refine Al ?_|refine Ae ?_|refine Am ?_|refine At ?_|refine Au ?_|refine Ar rfl ?_|refine Aj rfl ?_))<;>(refine o_ia rfl rfl rfl ?_<;>refine o_la rfl rfl ?_)<;>(repeat (first|refine Ah ?_|refine Al ?_|refine Ae ?_|refine Am ?_|refine At ?_|refine Au ?_|refine Ar rfl ?_|refine Aj rfl ?_)))
    refine BF rfl rfl rfl (by simp [Value.cells,Value.oneCell']) fun w8 hN8=>?_
    replace hb1:=hb1.ext hN8.ext
    have hb2:=hN8.blk
    have hE8:Ext w6 w8:=hE7.trans' hN8.ext
    replace hq:=hq.ext hN8.ext
    ((first|refine Ay ?_|refine Az ?_|refine Aw ?_|refine AA ?_))
    repeat (first|refine Ah ?_|refine Al ?_|refine Ae ?_|refine Am ?_|refine At ?_|refine Au ?_|refine Ar rfl ?_|refine Aj rfl ?_)
    ((repeat (first|refine Ah ?_|refine Al ?_|refine Ae ?_|refine Am ?_|refine At ?_|refine Au ?_|refine Ar rfl ?_|refine Aj rfl ?_))<;>(refine o_fa rfl rfl ?_<;>refine o_ld rfl rfl ?_<;>refine o_ln rfl rfl ?_<;>refine o_mv rfl rfl ?_<;>(first|refine Ay ?_|refine Az ?_|refine Aw ?_|refine AA ?_))<;>(repeat (first|refine Ah ?_|refine Al ?_|refine Ae ?_|refine Am ?_|refine At ?_|refine Au ?_|refine Ar rfl ?_|refine Aj rfl ?_)))
    refine Bn o.effs.length (by omega) (fun _:Unit=>[(1,.pointer (some ⟨w.heap.size,0,none⟩)),(72,.slice (some ⟨b2,o2,none⟩) t.ops.length co),(73,.int .i64 (t.ops.length:Int)),(74,.int .i64 (k:Int)),(79,.slice Aq o.effs.length cq)]) (fun j _ w'=>Ext w8 w'∧∀ i,i < j→∀ e,o.effs[i]?=some e→FactOk t.vars ⟨e.var,e.val⟩) ()
      ⟨Below.refl _ _,fun i hi=>by omega⟩ ⟨rfl,rfl,rfl,rfl,rfl,rfl,rfl,trivial⟩ (fun _=>⟨rfl,rfl⟩) ⟨rfl,rfl,rfl⟩ ⟨rfl,rfl⟩ ?_ ?_
    · rintro j _ w9 hj ⟨hE9,hh9⟩
      obtain ⟨e,he⟩:=AH hj
      have hb1:=hb1.ext hE9
      obtain ⟨b3,o3,ce,rfl,_,_,hd1,cv',rfl,hcn,hr1,hr2⟩:=(hq.ext hE9).elem he
      obtain ⟨Acn,ccn,rfl⟩:=hcn.form
      ((repeat (first|refine Ah ?_|refine Al ?_|refine Ae ?_|refine Am ?_|refine At ?_|refine Au ?_|refine Ar rfl ?_|refine Aj rfl ?_))<;>(refine o_ia rfl rfl rfl ?_<;>refine o_la rfl rfl ?_)<;>(repeat (first|refine Ah ?_|refine Al ?_|refine Ae ?_|refine Am ?_|refine At ?_|refine Au ?_|refine Ar rfl ?_|refine Aj rfl ?_)))
      refine BF rfl rfl rfl (by simp [Value.cells,Value.oneCell']) fun w10 hN10=>?_
      have hb3:=hN10.blk
      replace hb1:=hb1.ext hN10.ext
      have hE10:Ext w w10:=hE6.trans' (hE8.trans' (hE9.trans' hN10.ext))
      ((first|refine Ay ?_|refine Az ?_|refine Aw ?_|refine AA ?_))
      repeat (first|refine Ah ?_|refine Al ?_|refine Ae ?_|refine Am ?_|refine At ?_|refine Au ?_|refine Ar rfl ?_|refine Aj rfl ?_)
      (refine o_fa rfl rfl ?_<;>refine o_ld rfl rfl ?_<;>refine o_fa rfl rfl ?_<;>refine o_ld rfl rfl ?_<;>refine o_fa rfl rfl ?_<;>refine o_ld rfl rfl ?_<;>refine o_bd rfl rfl rfl ?_)
      refine CV rfl rfl rfl (by simp [Value.cells];rfl) (by decide) rfl fun w11 hN11=>?_
      have hE11:Ext w w11:=hE10.trans' hN11.ext
      have hone:V w11 (.slice (some ⟨w10.heap.size,0,none⟩) 1 1) [(⟨e.var,e.val⟩:Fct)]:=Vb.made hN11 (.single ⟨rfl,hr1,hr2⟩) rfl hN11.blk.lt (by decide)
      refine Cs rfl rfl (taskFacts (hvars.ext hE11) hone) ?_ ?_
      · intro w12 hP hE12
        ((first|refine o_nt rfl rfl ?_|refine o_nf rfl rfl ?_|refine o_nn rfl rfl ?_)<;>(first|refine Ay ?_|refine Az ?_|refine Aw ?_|refine AA ?_))
        repeat (first|refine Ah ?_|refine Al ?_|refine Ae ?_|refine Am ?_|refine At ?_|refine Au ?_|refine Ar rfl ?_|refine Aj rfl ?_)
        exact ⟨(),⟨rfl,rfl,rfl,rfl,rfl,rfl,rfl,trivial⟩,hE9.trans' (hN10.ext.trans' (hN11.ext.trans' hE12)),Cm hh9 fun e' he'=>by rw [he] at he';injection he' with he';subst he';exact ES.1 hP⟩
      · intro w12 hP hE12
        ((first|refine o_nt rfl rfl ?_|refine o_nf rfl rfl ?_|refine o_nn rfl rfl ?_)<;>(first|refine Ay ?_|refine Az ?_|refine Aw ?_|refine AA ?_))
        repeat (first|refine Ah ?_|refine Al ?_|refine Ae ?_|refine Am ?_|refine At ?_|refine Au ?_|refine Ar rfl ?_|refine Aj rfl ?_)
        ((repeat (first|refine Ah ?_|refine Al ?_|refine Ae ?_|refine Am ?_|refine At ?_|refine Au ?_|refine Ar rfl ?_|refine Aj rfl ?_))<;>(refine o_mi rfl rfl ?_<;>refine o_as rfl rfl ?_<;>(first|refine Ay ?_|refine Az ?_|refine Aw ?_|refine AA ?_))<;>(repeat (first|refine Ah ?_|refine Al ?_|refine Ae ?_|refine Am ?_|refine At ?_|refine Au ?_|refine Ar rfl ?_|refine Aj rfl ?_)))
        refine ret1 rfl rfl ⟨?_,hE11.trans' hE12⟩
        rw [c2,bof_f (fun h=>hP (ES.2 (h.2.2 k o ho j e he)))];rfl
    rintro _ w9 ⟨hE9,hh9⟩
    repeat (first|refine Ah ?_|refine Al ?_|refine Ae ?_|refine Am ?_|refine At ?_|refine Au ?_|refine Ar rfl ?_|refine Aj rfl ?_)
    exact ⟨(),⟨rfl,rfl,rfl,rfl,trivial⟩,hE8.trans' hE9,Cm hh fun o' ho' j e he=>by rw [ho] at ho';injection ho' with ho';subst ho';exact hh9 j (Bg he) e he⟩
  rintro _ w7 ⟨hE7,heff⟩
  replace heff:EffsOk t:=fun i o ho=>heff i (Bg ho) o ho
  have c3:checkN t=if bof (NamesOk t)=false then 8 else 0:=by rw [c2,bof_t ⟨hst,hcond,heff⟩];rfl
  replace hb1:=hb1.ext hE7
  replace hE7:Ext w w7:=hE6.trans' hE7
  repeat (first|refine Ah ?_|refine Al ?_|refine Ae ?_|refine Am ?_|refine At ?_|refine Au ?_|refine Ar rfl ?_|refine Aj rfl ?_)
  ((repeat (first|refine Ah ?_|refine Al ?_|refine Ae ?_|refine Am ?_|refine At ?_|refine Au ?_|refine Ar rfl ?_|refine Aj rfl ?_))<;>(refine o_fa rfl rfl ?_<;>refine o_ld rfl rfl ?_<;>refine o_ln rfl rfl ?_<;>refine o_mv rfl rfl ?_<;>(first|refine Ay ?_|refine Az ?_|refine Aw ?_|refine AA ?_))<;>(repeat (first|refine Ah ?_|refine Al ?_|refine Ae ?_|refine Am ?_|refine At ?_|refine Au ?_|refine Ar rfl ?_|refine Aj rfl ?_)))
  refine Bn t.ops.length (by omega) (fun _:Unit=>[(1,.pointer (some ⟨w.heap.size,0,none⟩)),(99,.slice Ao t.ops.length co)]) (fun k _ w'=>Ext w w'∧∀ i,i < k→∀ o,t.ops[i]?=some o→NameOk o.name) ()
    ⟨hE7,fun i hi=>by omega⟩ ⟨rfl,rfl,rfl,rfl,trivial⟩ (fun _=>⟨rfl,rfl⟩) ⟨rfl,rfl,rfl⟩ ⟨rfl,rfl⟩ ?_ ?_
  · rintro k _ w8 hk ⟨hE8,hh⟩
    obtain ⟨o,ho⟩:=AH hk
    obtain ⟨b2,o2,ce,rfl,_,_,hd1,p,q,rfl,hp,hq,hc,hn⟩:=(hops.ext hE8).elem ho
    obtain ⟨Ap,cp,rfl⟩:=hp.form
    obtain ⟨Aq,cq,rfl⟩:=hq.form
    ((repeat (first|refine Ah ?_|refine Al ?_|refine Ae ?_|refine Am ?_|refine At ?_|refine Au ?_|refine Ar rfl ?_|refine Aj rfl ?_))<;>(refine o_ia rfl rfl rfl ?_<;>refine o_la rfl rfl ?_)<;>(repeat (first|refine Ah ?_|refine Al ?_|refine Ae ?_|refine Am ?_|refine At ?_|refine Au ?_|refine Ar rfl ?_|refine Aj rfl ?_)))
    refine BF rfl rfl rfl (by simp [Value.cells,Value.oneCell']) fun w9 hN9=>?_
    have hb2:=hN9.blk
    have hE9:Ext w w9:=hE8.trans' hN9.ext
    ((first|refine Ay ?_|refine Az ?_|refine Aw ?_|refine AA ?_))
    repeat (first|refine Ah ?_|refine Al ?_|refine Ae ?_|refine Am ?_|refine At ?_|refine Au ?_|refine Ar rfl ?_|refine Aj rfl ?_)
    (refine o_fa rfl rfl ?_<;>refine o_ld rfl rfl ?_)
    refine Cs rfl rfl (taskNamed hn) ?_ ?_
    · intro w10 hP hE10
      ((first|refine o_nt rfl rfl ?_|refine o_nf rfl rfl ?_|refine o_nn rfl rfl ?_)<;>(first|refine Ay ?_|refine Az ?_|refine Aw ?_|refine AA ?_))
      repeat (first|refine Ah ?_|refine Al ?_|refine Ae ?_|refine Am ?_|refine At ?_|refine Au ?_|refine Ar rfl ?_|refine Aj rfl ?_)
      exact ⟨(),⟨rfl,rfl,rfl,rfl,trivial⟩,hE9.trans' hE10,Cm hh fun o' ho'=>by rw [ho] at ho';injection ho' with ho';exact ho' ▸ hP⟩
    · intro w10 hP hE10
      ((first|refine o_nt rfl rfl ?_|refine o_nf rfl rfl ?_|refine o_nn rfl rfl ?_)<;>(first|refine Ay ?_|refine Az ?_|refine Aw ?_|refine AA ?_))
      repeat (first|refine Ah ?_|refine Al ?_|refine Ae ?_|refine Am ?_|refine At ?_|refine Au ?_|refine Ar rfl ?_|refine Aj rfl ?_)
      ((repeat (first|refine Ah ?_|refine Al ?_|refine Ae ?_|refine Am ?_|refine At ?_|refine Au ?_|refine Ar rfl ?_|refine Aj rfl ?_))<;>(refine o_mi rfl rfl ?_<;>refine o_as rfl rfl ?_<;>(first|refine Ay ?_|refine Az ?_|refine Aw ?_|refine AA ?_))<;>(repeat (first|refine Ah ?_|refine Al ?_|refine Ae ?_|refine Am ?_|refine At ?_|refine Au ?_|refine Ar rfl ?_|refine Aj rfl ?_)))
      refine ret1 rfl rfl ⟨?_,hE9.trans' hE10⟩
      rw [c3,bof_f (fun h=>hP (h k o ho))];rfl
  rintro _ w8 ⟨hE8,hnames⟩
  repeat (first|refine Ah ?_|refine Al ?_|refine Ae ?_|refine Am ?_|refine At ?_|refine Au ?_|refine Ar rfl ?_|refine Aj rfl ?_)
  ((repeat (first|refine Ah ?_|refine Al ?_|refine Ae ?_|refine Am ?_|refine At ?_|refine Au ?_|refine Ar rfl ?_|refine Aj rfl ?_))<;>(refine o_as rfl rfl ?_<;>(first|refine Ay ?_|refine Az ?_|refine Aw ?_|refine AA ?_))<;>(repeat (first|refine Ah ?_|refine Al ?_|refine Ae ?_|refine Am ?_|refine At ?_|refine Au ?_|refine Ar rfl ?_|refine Aj rfl ?_)))
  refine ret1 rfl rfl ⟨?_,hE8⟩
  rw [c3,bof_t (show NamesOk t from fun i o ho=>hnames i (Bg ho) o ho)];rfl
end
section
theorem Hy {p:Prop}:bof p=true↔p:=⟨fun h=>Classical.byContradiction fun hn=>(by rw [bof_f hn] at h;exact Bool.noConfusion h),bof_t⟩
theorem Dx {p:Prop}:bof p=false↔¬ p:=by
  rw [← Bool.not_eq_true,Hy]
theorem Gu {vars:List Int} {f:List Fct} (h:FactsOk vars f):∀ (j i:Nat) (x y:Fct),i < j→f[i]?=some x→f[j]?=some y→x.var < y.var
  | 0,i,_,_,hij,_,_=>by omega
  | j + 1,i,x,y,hij,hx,hy=>by
    by_cases he:i=j
    · subst he;exact h.2 i x y hx hy
    · obtain ⟨z,hz⟩:=AH (l:=f) (k:=j) (by have:=Bg hy;omega)
      have h1:=Gu h j i x z (by omega) hx hz
      have h2:=h.2 j z y hz hy
      omega
theorem Ie {vars:List Int} {f:List Fct} (h:FactsOk vars f):∀ (i:Nat) (x:Fct),f[i]?=some x→(i:Int)≤x.var
  | 0,x,hx=>(h.1 0 x hx).1
  | i + 1,x,hx=>by
    obtain ⟨z,hz⟩:=AH (l:=f) (k:=i) (by have:=Bg hx;omega)
    have h1:=Ie h i z hz
    have h2:=h.2 i z x hz hx
    omega
theorem ET {vars:List Int} {f:List Fct} (h:FactsOk vars f):f.length≤vars.length:=by
  rcases Nat.eq_zero_or_pos f.length with h0|h0
  · omega
  · obtain ⟨x,hx⟩:=AH (l:=f) (k:=f.length - 1) (by omega)
    have h1:=Ie h _ x hx
    obtain ⟨h2,h3,y,hy,_⟩:=h.1 _ x hx
    have:=Bg hy
    omega
theorem FM {t:Tsk} {f:List Fct}:f∈conds t↔f=t.goal∨∃ (i:Nat) (o:Opr),t.ops[i]?=some o∧(f=o.pre∨∃ (j:Nat) (e:Eff),o.effs[j]?=some e∧f=e.cond):=by
  unfold conds opConds
  rw [List.mem_cons,List.mem_flatMap]
  constructor
  · rintro (h|⟨o,ho,hf⟩)
    · exact .inl h
    · obtain ⟨i,hi⟩:=List.getElem?_of_mem ho
      refine .inr ⟨i,o,hi,?_⟩
      rcases List.mem_cons.1 hf with h|h
      · exact .inl h
      · obtain ⟨e,he,rfl⟩:=List.mem_map.1 h
        obtain ⟨j,hj⟩:=List.getElem?_of_mem he
        exact .inr ⟨j,e,hj,rfl⟩
  · rintro (h|⟨i,o,ho,h⟩)
    · exact .inl h
    · refine .inr ⟨o,List.mem_of_getElem? ho,?_⟩
      rcases h with rfl|⟨j,e,he,rfl⟩
      · exact List.mem_cons_self
      · exact List.mem_cons_of_mem _ (List.mem_map.2 ⟨e,List.mem_of_getElem? he,rfl⟩)
theorem FA {t:Tsk}:checkN t=0↔TaskOk t:=by
  unfold checkN
  constructor
  · intro h
    by_cases h1:Large t
    · rw [if_pos (Hy.2 h1)] at h;cases h
    rw [if_neg (fun hh=>h1 (Hy.1 hh))] at h
    by_cases h2:VarsOk t∧CostsOk t
    case neg=>rw [if_pos (Dx.2 h2)] at h;cases h
    rw [if_neg (fun hh=>Dx.1 hh h2)] at h
    by_cases h3:StateOk t.vars t.init∧CondsOk t∧EffsOk t
    case neg=>rw [if_pos (Dx.2 h3)] at h;cases h
    rw [if_neg (fun hh=>Dx.1 hh h3)] at h
    by_cases h4:NamesOk t
    case neg=>rw [if_pos (Dx.2 h4)] at h;cases h
    have hc:∀ f∈conds t,FactsOk t.vars f:=fun f hf=>by
      obtain ⟨i,hi⟩:=List.getElem?_of_mem hf
      exact h3.2.1 i f hi
    have hl:t.vars.length≤64∧t.ops.length≤4096∧(∀ (i:Nat) (o:Opr),t.ops[i]?=some o→o.effs.length≤64):=by
      unfold Large at h1
      refine ⟨Nat.le_of_not_lt fun h=>h1 (.inl h),Nat.le_of_not_lt fun h=>h1 (.inr (.inl h)),fun i o ho=>Nat.le_of_not_lt fun h=>h1 (.inr (.inr (.inl ⟨i,o,ho,h⟩)))⟩
    exact ⟨hl.1,hl.2.1,h2.1,h3.1,hc _ (FM.2 (.inl rfl)),fun i o ho=>⟨(h2.2 i o ho).1,(h2.2 i o ho).2,hl.2.2 i o ho,h4 i o ho,hc _ (FM.2 (.inr ⟨i,o,ho,.inl rfl⟩)),fun j e he=>⟨hc _ (FM.2 (.inr ⟨i,o,ho,.inr ⟨j,e,he,rfl⟩⟩)),h3.2.2 i o ho j e he⟩⟩⟩
  · rintro ⟨h1,h2,h3,h4,h5,h6⟩
    have hc:∀ f∈conds t,FactsOk t.vars f:=fun f hf=>by
      rcases FM.1 hf with rfl|⟨i,o,ho,rfl|⟨j,e,he,rfl⟩⟩
      · exact h5
      · exact (h6 i o ho).2.2.2.2.1
      · exact ((h6 i o ho).2.2.2.2.2 j e he).1
    have hL:¬ Large t:=by
      rintro (h|h|⟨i,o,ho,h⟩|⟨f,hf,h⟩)
      · omega
      · omega
      · have:=(h6 i o ho).2.2.1;omega
      · have:=ET (hc f hf);omega
    have hV:VarsOk t∧CostsOk t:=⟨h3,fun i o ho=>⟨(h6 i o ho).1,(h6 i o ho).2.1⟩⟩
    have hS:StateOk t.vars t.init∧CondsOk t∧EffsOk t:=⟨h4,fun i f hf=>hc f (List.mem_of_getElem? hf),fun i o ho j e he=>((h6 i o ho).2.2.2.2.2 j e he).2⟩
    have hN:NamesOk t:=fun i o ho=>(h6 i o ho).2.2.2.1
    rw [if_neg (fun hh=>hL (Hy.1 hh)),if_neg (fun hh=>Dx.1 hh hV),if_neg (fun hh=>Dx.1 hh hS),if_neg (fun hh=>Dx.1 hh hN)]
theorem TaskOk.vars {t:Tsk} (h:TaskOk t):VarsOk t:=h.2.2.1
end
section
open Go Go.RowKit
section
variable {P : Program} {l : Env} {w : World} {dst : Option Tmp} {ty : TypeId} {pos : String} {aft : Array Edge}
theorem If {t u:TypeId} {x y:Operand} {a b c:Int} (hx:opv l x=some (.int .i64 a)) (hy:opv l y=some (.int .i64 b)) (he:chkI (a + b)=some c):Ev P ⟨dst,.binOp .add t x y u,ty,pos,aft,none⟩ l w (.int .i64 c):=by
  obtain ⟨rfl,h⟩:=FJ he
  exact Jf hx hy h
theorem Ig {t u:TypeId} {x y:Operand} {a b c:Int} (hx:opv l x=some (.int .i64 a)) (hy:opv l y=some (.int .i64 b)) (he:chkI (a - b)=some c):Ev P ⟨dst,.binOp .sub t x y u,ty,pos,aft,none⟩ l w (.int .i64 c):=by
  obtain ⟨rfl,h⟩:=FJ he
  exact KM hx hy h
theorem Kz {t u:TypeId} {x y:Operand} {a b c:Int} (hx:opv l x=some (.int .i64 a)) (hy:opv l y=some (.int .i64 b)) (he:chkI (a * b)=some c):Ev P ⟨dst,.binOp .mul t x y u,ty,pos,aft,none⟩ l w (.int .i64 c):=by
  obtain ⟨rfl,h⟩:=FJ he
  exact KN hx hy h
theorem Jo {t e:TypeId} [TSlice P t e] {z:Value} {size bytes:Nat} [TInfo P e z size bytes] {x i:Operand} {k:IntKind} {A:Option Addr} {b o m c j:Nat} {q:Int} (hx:opv l x=some (.slice A m c)) (hq:opv l i=some (.int k q)) (hA:A=some ⟨b,o,none⟩) (hj:q=(j:Int)) (hlt:j < m) :
    Ev P ⟨dst,.indexAddr t x i,ty,pos,aft,none⟩ l w (.pointer (some ⟨b,o + j * size,none⟩)):=by
  subst hA
  exact EE hx hq hj hlt
theorem MG {t:TypeId} {f off:Nat} [TField P t f off] {x:Operand} {p:Option Addr} {b o:Nat} (hx:opv l x=some (.pointer p)) (hA:p=some ⟨b,o,none⟩):Ev P ⟨dst,.fieldAddr t x f,ty,pos,aft,none⟩ l w (.pointer (some ⟨b,o + off,none⟩)):=by
  subst hA
  exact CW hx
theorem MH {x:Operand} {p:Option Addr} {ad:Addr} (hx:opv l x=some (.pointer p)) (hA:p=some ad):Ev P ⟨dst,.nilCheck x,ty,pos,aft,none⟩ l w (.pointer p):=by
  subst hA
  exact HO hx
theorem MI {x:Operand} {n:Int} [TInt P 52 .i64] (hx:opv l x=some (.int .i64 n)) (hn:n≠0):Ev P ⟨dst,.makeInterface 52 x,ty,pos,aft,none⟩ l w (errV n):=by
  rw [Gt hn]
  exact Ia hx
theorem Hz {t u:TypeId} [TIface P t] {x:Operand} {n:Int} (hx:opv l x=some (errV n)):Ev P ⟨dst,.binOp .eql t x (.const .nilIface) u,ty,pos,aft,none⟩ l w (.bool (decide (n=0))):=by
  by_cases h:n=0
  · subst h
    rw [FL] at hx
    exact KR hx
  · rw [Gt h] at hx
    simpa [h] using Kw (P:=P) (w:=w) (dst:=dst) (ty:=ty) (pos:=pos) (aft:=aft) (t:=t) (u:=u) hx
theorem Mc {t u:TypeId} [TIface P t] {x:Operand} {n:Int} (hx:opv l x=some (errV n)):Ev P ⟨dst,.binOp .neq t x (.const .nilIface) u,ty,pos,aft,none⟩ l w (.bool (decide (n≠0))):=by
  by_cases h:n=0
  · subst h
    rw [FL] at hx
    exact Ib hx
  · rw [Gt h] at hx
    simpa [h] using HG (P:=P) (w:=w) (dst:=dst) (ty:=ty) (pos:=pos) (aft:=aft) (t:=t) (u:=u) hx
end
section
variable {P : Program} {n : Nat} {ops : Array Oper} {Q : Post} {rest : List Oper} {l : Env} {w : World} {d : Tmp} {ty : TypeId} {pos : String} {aft : Array Edge}
theorem o_adE {t u:TypeId} {x y:Operand} {a b c:Int} (hx:opv l x=some (.int .i64 a)) (hy:opv l y=some (.int .i64 b)) (hd:Nat.blt d n=true) (h:owp P n ops Q rest ((d,.int .i64 c) :: l) w) (he:chkI (a + b)=some c:=by assumption):owp P n ops Q (⟨some d,.binOp .add t x y u,ty,pos,aft,none⟩ :: rest) l w:=AV (If hx hy he) hd h
theorem o_sbE {t u:TypeId} {x y:Operand} {a b c:Int} (hx:opv l x=some (.int .i64 a)) (hy:opv l y=some (.int .i64 b)) (hd:Nat.blt d n=true) (h:owp P n ops Q rest ((d,.int .i64 c) :: l) w) (he:chkI (a - b)=some c:=by assumption):owp P n ops Q (⟨some d,.binOp .sub t x y u,ty,pos,aft,none⟩ :: rest) l w:=AV (Ig hx hy he) hd h
theorem o_mlE {t u:TypeId} {x y:Operand} {a b c:Int} (hx:opv l x=some (.int .i64 a)) (hy:opv l y=some (.int .i64 b)) (hd:Nat.blt d n=true) (h:owp P n ops Q rest ((d,.int .i64 c) :: l) w) (he:chkI (a * b)=some c:=by assumption):owp P n ops Q (⟨some d,.binOp .mul t x y u,ty,pos,aft,none⟩ :: rest) l w:=AV (Kz hx hy he) hd h
theorem o_iaE {t e:TypeId} [TSlice P t e] {z:Value} {size bytes:Nat} [TInfo P e z size bytes] {x i:Operand} {k:IntKind} {A:Option Addr} {b o m c j:Nat} {q:Int} (hx:opv l x=some (.slice A m c)) (hq:opv l i=some (.int k q)) (hd:Nat.blt d n=true) (h:owp P n ops Q rest ((d,.pointer (some ⟨b,o + j * size,none⟩)) :: l) w) (hA:A=some ⟨b,o,none⟩:=by assumption) (hj:q=(j:Int):=by rfl) (hlt:j < m:=by assumption):owp P n ops Q (⟨some d,.indexAddr t x i,ty,pos,aft,none⟩ :: rest) l w:=AV (Jo hx hq hA hj hlt) hd h
theorem o_faE {t:TypeId} {f off:Nat} [TField P t f off] {x:Operand} {p:Option Addr} {b o:Nat} (hx:opv l x=some (.pointer p)) (hd:Nat.blt d n=true) (h:owp P n ops Q rest ((d,.pointer (some ⟨b,o + off,none⟩)) :: l) w) (hA:p=some ⟨b,o,none⟩:=by assumption):owp P n ops Q (⟨some d,.fieldAddr t x f,ty,pos,aft,none⟩ :: rest) l w:=AV (MG hx hA) hd h
theorem o_ncE {x:Operand} {p:Option Addr} {ad:Addr} (hx:opv l x=some (.pointer p)) (hd:Nat.blt d n=true) (h:owp P n ops Q rest ((d,.pointer p) :: l) w) (hA:p=some ad:=by assumption):owp P n ops Q (⟨some d,.nilCheck x,ty,pos,aft,none⟩ :: rest) l w:=AV (MH hx hA) hd h
theorem MJ {t e:TypeId} [TSlice P t e] {z:Value} {size bytes:Nat} [TInfo P e z size bytes] {A A':Option Addr} {m c m' c':Nat} {q:Int} {k:IntKind} {x y:Operand} (hx:opv l x=some (.slice A m c)) (hy:opv l y=some (.int k q)) (hd:Nat.blt d n=true) (h:owp P n ops Q rest ((d,.slice A' m' c') :: l) w) (hc:CutB size A m c 0 q A' m' c':=by assumption):owp P n ops Q (⟨some d,.slice t x none (some y) none,ty,pos,aft,none⟩ :: rest) l w:=AV (Ma hx hy hc) hd h
theorem o_miE [TInt P 52 .i64] {x:Operand} {q:Int} (hx:opv l x=some (.int .i64 q)) (hd:Nat.blt d n=true) (h:owp P n ops Q rest ((d,errV q) :: l) w) (hn:q≠0:=by decide):owp P n ops Q (⟨some d,.makeInterface 52 x,ty,pos,aft,none⟩ :: rest) l w:=AV (MI hx hn) hd h
theorem o_erS {t u:TypeId} [TIface P t] {x:Operand} {k:Int} (hx:opv l x=some (errV k)) (hd:Nat.blt d n=true) (ht:k=0→owp P n ops Q rest ((d,.bool true) :: l) w) (hf:¬ (k=0)→owp P n ops Q rest ((d,.bool false) :: l) w):owp P n ops Q (⟨some d,.binOp .eql t x (.const .nilIface) u,ty,pos,aft,none⟩ :: rest) l w:=Dw (Hz hx) hd ht hf
theorem o_rnS {t u:TypeId} [TIface P t] {x:Operand} {k:Int} (hx:opv l x=some (errV k)) (hd:Nat.blt d n=true) (ht:k≠0→owp P n ops Q rest ((d,.bool true) :: l) w) (hf:¬ (k≠0)→owp P n ops Q rest ((d,.bool false) :: l) w):owp P n ops Q (⟨some d,.binOp .neq t x (.const .nilIface) u,ty,pos,aft,none⟩ :: rest) l w:=Dw (Mc hx) hd ht hf
variable {S : World → Prop} {r : List (Nat × Bool)} {i : Nat}
theorem h_adE {t u:TypeId} {x y:Operand} {a b c:Int} (hi:ops[i]?=some ⟨some d,.binOp .add t x y u,ty,pos,aft,none⟩) (hx:opv l x=some (.int .i64 a)) (hy:opv l y=some (.int .i64 b)) (hd:Nat.blt d n=true) (h:hwp P n ops Q S r ((d,.int .i64 c) :: l) w) (he:chkI (a + b)=some c:=by assumption):hwp P n ops Q S ((i,true) :: r) l w:=hwp_o hi (AY (fun _ _=>If hx hy he) hd h)
theorem h_sbE {t u:TypeId} {x y:Operand} {a b c:Int} (hi:ops[i]?=some ⟨some d,.binOp .sub t x y u,ty,pos,aft,none⟩) (hx:opv l x=some (.int .i64 a)) (hy:opv l y=some (.int .i64 b)) (hd:Nat.blt d n=true) (h:hwp P n ops Q S r ((d,.int .i64 c) :: l) w) (he:chkI (a - b)=some c:=by assumption):hwp P n ops Q S ((i,true) :: r) l w:=hwp_o hi (AY (fun _ _=>Ig hx hy he) hd h)
theorem h_iaE {t e:TypeId} [TSlice P t e] {z:Value} {size bytes:Nat} [TInfo P e z size bytes] {x i':Operand} {k:IntKind} {A:Option Addr} {b o m c j:Nat} {q:Int} (hi:ops[i]?=some ⟨some d,.indexAddr t x i',ty,pos,aft,none⟩) (hx:opv l x=some (.slice A m c)) (hq:opv l i'=some (.int k q)) (hd:Nat.blt d n=true) (h:hwp P n ops Q S r ((d,.pointer (some ⟨b,o + j * size,none⟩)) :: l) w) (hA:A=some ⟨b,o,none⟩:=by assumption) (hj:q=(j:Int):=by rfl) (hlt:j < m:=by assumption):hwp P n ops Q S ((i,true) :: r) l w:=hwp_o hi (AY (fun _ _=>Jo hx hq hA hj hlt) hd h)
theorem g_iaE {t e:TypeId} [TSlice P t e] {z:Value} {size bytes:Nat} [TInfo P e z size bytes] {x i':Operand} {k:IntKind} {A:Option Addr} {b o m c j:Nat} {q:Int} (hx:opv l x=some (.slice A m c)) (hq:opv l i'=some (.int k q)) (hd:Nat.blt d n=true) (h:hwp P n ops Q S r ((d,.pointer (some ⟨b,o + j * size,none⟩)) :: l) w) (hA:A=some ⟨b,o,none⟩:=by assumption) (hj:q=(j:Int):=by rfl) (hlt:j < m:=by assumption):hwq P n ops Q S ⟨some d,.indexAddr t x i',ty,pos,aft,none⟩ r l w:=AY (fun _ _=>Jo hx hq hA hj hlt) hd h
end
end
section
open Go Go.RowKit
def Bm (w0:World) (O0:Lab) (w:World) (O:Lab):Prop:=St (fun j=>j≠0∧j≠1) w0 O0 w O
section
variable {T : Nat → Prop} {w w' w0 : World} {O O' O0 : Lab}
theorem Bm.st (h:Bm w0 O0 w O) (hS:St T w O w' O') (h0:¬ T 0:=by decide) (h1:¬ T 1:=by decide):Bm w0 O0 w' O' :=
  St.comp h hS fun j hj=>⟨fun e=>h0 (e ▸ hj),fun e=>h1 (e ▸ hj)⟩
theorem Bm.refl:Bm w O w O:=St.refl _ _ _
structure Lbl (f:Nat→Nat) (T:Nat→Prop):Prop where
  z:f 0=0
  nz:∀ j,f j=0→j=0
  o:∀ j,¬ T j→f j=0∨f j=1
theorem Lbl.none:Lbl (fun j=>if j=0 then 0 else 1) nT:=⟨rfl,fun j h=>by by_cases hj:j=0<;>simp_all,fun j _=>by by_cases hj:j=0<;>simp_all⟩
theorem Lbl.one {i:Nat} (hi:i≠0):Lbl (fun j=>if j=0 then 0 else if j=i then 2 else 1) (eT i) :=
  ⟨rfl,fun j h=>by by_cases hj:j=0<;>simp_all;split at h<;>simp_all,fun j h=>by by_cases hj:j=0<;>by_cases hk:j=i<;>simp_all⟩
theorem Lbl.fr0 {f:Nat→Nat} (h:Lbl f T):∀ k,Fr 0 w O k→Fr 0 w (fun k=>f (O k)) k:=fun k hk=>⟨hk.1,by show f (O k)=0;rw [hk.2];exact h.z⟩
theorem Bm.leave {f:Nat→Nat} (g:Nat→Nat) (hf:Lbl f T) (hg:g 0=0) (h:Bm w (fun k=>f (O k)) w' O') :
    ∃ O'',St T w O w' O''∧(∀ k,Fr 0 w' O' k→Fr 0 w' O'' k)∧∀ j,j≠0→j≠1→∀ k,Fr j w' O' k→Fr (g j) w' O'' k:=by
  classical
  have key:∀ k,k < w.heap.size→¬ T (O k)→w'.heap[k]?=w.heap[k]?∧O' k=f (O k):=fun k hk ht =>
    h.same k hk (by rcases hf.o _ ht with e|e<;>simp [e])
  refine ⟨fun k=>if k < w.heap.size∧¬ T (O k) then O k else g (O' k),⟨h.os,h.tape,h.output,h.size,fun k hk ht=>⟨(key k hk ht).1,if_pos ⟨hk,ht⟩⟩⟩,fun k hk=>⟨hk.1,?_⟩,fun j h0 h1 k hk=>⟨hk.1,?_⟩⟩
  · by_cases hc:k < w.heap.size∧¬ T (O k)
    · show (if _ then _ else _)=_
      rw [if_pos hc]
      exact hf.nz _ ((key k hc.1 hc.2).2.symm.trans hk.2)
    · show (if _ then _ else _)=_
      rw [if_neg hc,hk.2,hg]
  · by_cases hc:k < w.heap.size∧¬ T (O k)
    · have h2:=(key k hc.1 hc.2).2.symm.trans hk.2
      rcases hf.o _ hc.2 with e|e<;>rw [e] at h2<;>omega
    · show (if _ then _ else _)=_
      rw [if_neg hc,hk.2]
theorem Bi {P:Program} {n:Nat} {ops:Array Oper} {Q:Post} {rest:List Oper} {l:Env} {w:World} {d:Tmp} {ty:TypeId} {pos:String} {aft:Array Edge} {f:FuncId} [Callable P f] {xs:List Operand} {vs:List Value} {ts:Array TypeId} {O:Lab} {R:Value→World→Lab→Prop}
    (hc:Fn P f vs w fun v w'=>∃ O',St T w O w' O'∧R v w' O') (hx:opvs l xs=some vs) (hd:Nat.blt d n=true)
    (h:∀ v w' O',St T w O w' O'→R v w' O'→owp P n ops Q rest ((d,v) :: l) w'):owp P n ops Q (⟨some d,.call { callee:=.value (.func f),args:=xs.toArray,argTypes:=ts },ty,pos,aft,none⟩ :: rest) l w :=
  Bc hx hd hc fun v w' ⟨O',hS,hR⟩=>h v w' O' hS hR
end
def Ent (T:Nat→Prop) (O O0:Lab):Prop:=∃ f,Lbl f T∧O0=fun k=>f (O k)
theorem ent0 {w:World} {O:Lab}:∃ O0,Ent nT O O0∧∀ k,Fr 0 w O k→Fr 0 w O0 k:=⟨_,⟨_,Lbl.none,rfl⟩,Lbl.none.fr0⟩
theorem ent1 {w:World} {O:Lab} {i:Nat} (hi:i≠0):∃ O0,Ent (eT i) O O0∧(∀ k,Fr 0 w O k→Fr 0 w O0 k)∧∀ k,Fr i w O k→Fr 2 w O0 k :=
  ⟨_,⟨_,Lbl.one hi,rfl⟩,(Lbl.one hi).fr0,fun k hk=>⟨hk.1,by simp [hk.2,hi]⟩⟩
theorem Ent.leave {T:Nat→Prop} {w w':World} {O O0 O':Lab} (h:Ent T O O0) (g:Nat→Nat) (hg:g 0=0) (hB:Bm w O0 w' O') :
    ∃ O'',St T w O w' O''∧(∀ k,Fr 0 w' O' k→Fr 0 w' O'' k)∧∀ j,j≠0→j≠1→∀ k,Fr j w' O' k→Fr (g j) w' O'' k:=by
  obtain ⟨f,hf,rfl⟩:=h
  exact Bm.leave g hf hg hB
theorem ret0n {P:Program} {l:Env} {w:World} {fn:Func} {R:Value→World→Prop} (hr:fn.results=#[]) (h:R (.tuple #[]) w):retPost P fn R .normal l w:=⟨_,fun n a d ha=>by simp [EF,hr],h⟩
theorem ret4 {P:Program} {l:Env} {w:World} {fn:Func} {R:Value→World→Prop} {r s q p:ResultVar} {v u x y:Value} (hr:fn.results=#[r,s,q,p]) (h1:Res1 P l w r v) (h2:Res1 P l w s u) (h3:Res1 P l w q x) (h4:Res1 P l w p y) (h:R (.tuple #[v,u,x,y]) w):retPost P fn R .ret l w :=
  ⟨_,fun n a d ha=>by simp [EF,hr,h1 n a d ha,h2 n a d ha,h3 n a d ha,h4 n a d ha],h⟩
class Ow (α:Type) where
  R:World→(Nat→Prop)→(Nat→Prop)→Value→α→Prop
  agree:∀ {w w':World} {F M:Nat→Prop} {v:Value} {x:α},R w F M v x→Agree F w w'→Agree M w w'→R w' F M v x
  mono:∀ {w:World} {F M F' M':Nat→Prop} {v:Value} {x:α},R w F M v x→(∀ k,F k→F' k)→(∀ k,M k→M' k)→(∀ k,F' k→¬ M' k)→R w F' M' v x
class OwP (α:Type) [Ow α]:Prop where
  ptr:∀ {w:World} {F M:Nat→Prop} {v:Value} {x:α},Ow.R w F M v x→∃ g,v=.pointer (some ⟨g,0,none⟩)
def Ob {α:Type} [Ow α] (i:Nat) (w:World) (O:Lab) (v:Value) (x:α):Prop:=Ow.R w (Fr 0 w O) (Fr i w O) v x∧i≠0
theorem frNe {i j:Nat} (h:i≠j) {w:World} {O:Lab}:∀ k,Fr i w O k→¬ Fr j w O k:=fun _ h1 h2=>h (h1.2.symm.trans h2.2)
theorem frNe0 {j:Nat} (h:j≠0) {w:World} {O:Lab}:∀ k,Fr 0 w O k→¬ Fr j w O k:=frNe (Ne.symm h)
section
variable {α : Type} [Ow α] {T : Nat → Prop} {i : Nat} {w w' : World} {O O' : Lab} {v : Value} {x : α}
theorem Ob.st (h:Ob i w O v x) (hS:St T w O w' O') (h0:¬ T 0:=by decide) (hi:¬ T i:=by decide):Ob i w' O' v x :=
  ⟨Ow.mono (Ow.agree h.1 (hS.agree h0) (hS.agree hi)) (hS.fr h0) (hS.fr hi) (frNe0 h.2),h.2⟩
theorem Ob.ptr [OwP α] (h:Ob i w O v x):∃ g,v=.pointer (some ⟨g,0,none⟩):=OwP.ptr h.1
theorem Ob.leave {j:Nat} (h:Ob i w O v x) (h1:∀ k,Fr 0 w O k→Fr 0 w O' k) (h2:∀ k,Fr i w O k→Fr j w O' k) (hj:j≠0):Ob j w O' v x:=⟨Ow.mono h.1 h1 h2 (frNe0 hj),hj⟩
end
def Obo {α:Type} [Ow α] (i:Nat) (w:World) (O:Lab) (v:Value):Option α→Prop
  | none=>v=.pointer none
  | some x=>Ob i w O v x
theorem Obo.st {α:Type} [Ow α] {T:Nat→Prop} {i:Nat} {w w':World} {O O':Lab} {v:Value} {x:Option α} (h:Obo i w O v x) (hS:St T w O w' O') (h0:¬ T 0:=by decide) (hi:¬ T i:=by decide):Obo i w' O' v x:=by
  cases x with
  | none=>exact h
  | some x=>exact Ob.st h hS h0 hi
def RwM {α:Type} [Rp α] (w:World) (F M:Nat→Prop) (e:TypeId) (v:Value) (xs:List α):Prop:=Own w 0 F e v xs∧∀ g,v.ownBlock=some g→M g
section
variable {α : Type} [Rp α] {i : Nat} {w w' : World} {O O' : Lab} {v : Value} {xs : List α} {e : TypeId} {F M F' M' : Nat → Prop}
theorem RwM.agree (h:RwM w F M e v xs) (h1:Agree F w w') (h2:Agree M w w'):RwM w' F M e v xs:=⟨h.1.agree h1 fun g hg=>h2 g (h.2 g hg),h.2⟩
theorem RwM.mono (h:RwM w F M e v xs) (h1:∀ k,F k→F' k) (h2:∀ k,M k→M' k) (h3:∀ k,F' k→¬ M' k):RwM w F' M' e v xs :=
  ⟨h.1.mono h1 fun g hg hf=>h3 g hf (h2 g (h.2 g hg)),fun g hg=>h2 g (h.2 g hg)⟩
theorem RwM.rw (h:RwM w F M e v xs) (h1:∀ k,F k→Fr 0 w O k) (h2:∀ k,M k→Fr i w O k) (hi:i≠0):Rw i w O e v xs :=
  ⟨h.1.mono h1 fun g hg hf=>frNe0 hi g hf (h2 g (h.2 g hg)),fun g hg=>(h2 g (h.2 g hg)).2,hi⟩
theorem Rw.m (h:Rw i w O e v xs) (h1:∀ k,Fr 0 w O k→F k) (h2:∀ k,Fr i w O k→M k) (h3:∀ k,F k→¬ M k):RwM w F M e v xs :=
  ⟨h.1.mono h1 fun g hg hf=>h3 g hf (h2 g ⟨(h.1.lt g hg).2,h.2.1 g hg⟩),fun g hg=>h2 g ⟨(h.1.lt g hg).2,h.2.1 g hg⟩⟩
end
theorem Rw.leave {α:Type} [Rp α] {i j:Nat} {w:World} {O O':Lab} {e:TypeId} {v:Value} {xs:List α} (h:Rw i w O e v xs) (h1:∀ k,Fr 0 w O k→Fr 0 w O' k) (h2:∀ k,Fr i w O k→Fr j w O' k) (hj:j≠0):Rw j w O' e v xs:=(h.m (fun _ h=>h) (fun _ h=>h) (frNe0 h.2.2)).rw h1 h2 hj
theorem cutRw {α:Type} [Rp α] {i:Nat} {w:World} {O:Lab} {e:TypeId} {A:Option Addr} {m c:Nat} {q:Int} {xs u:List α} (h:Rw i w O e (.slice A m c) xs) (he:cutI xs 0 q=some u):Rw i w O e (.slice A u.length c) u∧CutB (Rp.size α) A m c 0 q A u.length c:=by
  obtain ⟨a,b,ha,rfl,h1,h2,rfl⟩:=La he
  obtain rfl:a=0:=by omega
  obtain ⟨hm,hc,hc2⟩:=h.len
  have hl:((xs.take b).drop 0).length=b:=by simp;omega
  rw [hl]
  have hob:(Value.slice A b c).ownBlock=(Value.slice A m c).ownBlock:=by cases A<;>rfl
  refine ⟨⟨?_,by rw [hob];exact h.2.1,h.2.2⟩,0,b,rfl,rfl,Nat.zero_le _,by omega,hc,?_⟩
  · obtain ⟨cells,o1,o2,o3⟩:=h.1
    refine ⟨cells.take (b * Rp.size α),⟨by rw [List.length_take,o2.length,hl,Nat.min_eq_left (Nat.mul_le_mul_right _ h2)],?_⟩,by simpa using o2.take b,by rw [hob];exact o3⟩
    rcases o1.2 with ⟨hv,hn⟩|⟨g,cap,cur,hv,hg,hh,hnc,hcm,hcs,hcur⟩
    · injection hv with e1 e2 e3
      have:b=0:=by omega
      subst this
      exact .inl ⟨by rw [e1,e3],hl⟩
    · injection hv with e1 e2 e3
      refine .inr ⟨g,cap,cur,by rw [e1,e3,hl],hg,hh,by omega,hcm,hcs,?_⟩
      rw [hl,← hcur,List.take_take,Nat.min_eq_left (Nat.mul_le_mul_right _ h2)]
  · have:(A.map (·.add (0 * Rp.size α)))=A:=by
      cases A with
      | none=>rfl
      | some ad=>obtain ⟨b',o',p'⟩:=ad;simp [Addr.add]
    split<;>simp_all
def part (O:Lab) (i:Nat) (L:Lab) (ls:List Nat):Lab:=fun k=>if O k=i then ls.getD (L k) (ls.headD 2) else O k
def whole (O:Lab) (i:Nat) (ls:List Nat):Lab:=fun k=>if O k∈ls then i else O k
section
variable {i : Nat} {w : World} {O L : Lab} {ls : List Nat}
theorem HA (h:i≠0):St (eT i) w O w (part O i L ls):=⟨rfl,rfl,rfl,Nat.le_refl _,fun _ _ hk=>⟨rfl,if_neg hk⟩⟩
theorem CX (h:i≠0):∀ k,Fr 0 w O k→Fr 0 w (part O i L ls) k:=fun k hk=>⟨hk.1,by unfold part;rw [if_neg (fun e=>h (e.symm.trans hk.2))];exact hk.2⟩
theorem DN {j q:Nat} (hj:ls[j]?=some q):∀ k,(Fr i w O k∧L k=j)→Fr q w (part O i L ls) k:=fun k hk=>⟨hk.1.1,by unfold part;rw [if_pos hk.1.2,hk.2];simp [hj]⟩
theorem Gv (hl:ls≠[]):∀ k,Fr i w O k→∃ q,q∈ls∧Fr q w (part O i L ls) k:=fun k hk=>by
  refine ⟨part O i L ls k,?_,hk.1,rfl⟩
  unfold part
  rw [if_pos hk.2]
  cases h:ls[L k]? with
  | some q=>rw [List.getD_eq_getElem?_getD,h];exact List.mem_of_getElem? h
  | none =>
    rw [List.getD_eq_getElem?_getD,h]
    cases ls with
    | nil=>exact absurd rfl hl
    | cons a l=>simp
theorem Gw:St (·∈ls) w O w (whole O i ls):=⟨rfl,rfl,rfl,Nat.le_refl _,fun _ _ hk=>⟨rfl,if_neg hk⟩⟩
theorem Cn (h:¬ 0∈ls):∀ k,Fr 0 w O k→Fr 0 w (whole O i ls) k:=fun k hk=>⟨hk.1,by unfold whole;rw [if_neg (by rw [hk.2];exact h)];exact hk.2⟩
theorem FN:∀ q,q∈ls→∀ k,Fr q w O k→Fr i w (whole O i ls) k:=fun q hq k hk=>⟨hk.1,by unfold whole;rw [if_pos (by rw [hk.2];exact hq)]⟩
theorem Dj {j q:Nat} (hj:ls.idxOf q=j) (hq:q∈ls):∀ k,Fr q w O k→Fr i w (whole O i ls) k∧ls.idxOf (O k)=j:=fun k hk=>⟨⟨hk.1,by unfold whole;rw [if_pos (by rw [hk.2];exact hq)]⟩,by rw [hk.2];exact hj⟩
end
structure BxR (t e:TypeId) (α:Type) where
  l:List α
instance {t e:TypeId} {α:Type} [Rp α]:Ow (BxR t e α) where
  R w F M v x:=∃ (g:Nat) (L:Lab) (c0:Value),v=.pointer (some ⟨g,0,none⟩)∧Blk w g t [c0]∧M g∧L g=0∧RwM w F (fun k=>M k∧L k=1) e c0 x.l
  agree:=by rintro w w' F M v x ⟨g,L,c0,rfl,hb,hM,hL,h0⟩ a1 a2;exact ⟨g,L,c0,rfl,hb.keep (a2 g hM),hM,hL,h0.agree a1 fun k hk=>a2 k hk.1⟩
  mono:=by rintro w F M F' M' v x ⟨g,L,c0,rfl,hb,hM,hL,h0⟩ a1 a2 a3;exact ⟨g,L,c0,rfl,hb,a2 g hM,hL,h0.mono a1 (fun k hk=>⟨a2 k hk.1,hk.2⟩) fun k hf hm=>a3 k hf hm.1⟩
theorem BxR.opn {t e:TypeId} {α:Type} [Rp α] {i:Nat} {w:World} {O:Lab} {p:Nat} {x:BxR t e α} (h:Ob i w O (.pointer (some ⟨p,0,none⟩)) x) (l0 l1:Nat) (hl:l0≠0∧l1≠0):∃ (O':Lab) (c0:Value),St (eT i) w O w O'∧(∀ k,Fr i w O k→∃ q,q∈[l0,l1]∧Fr q w O' k)∧Lc l0 w O' p t [c0]∧Rw l1 w O' e c0 x.l:=by
  obtain ⟨⟨g,L,c0,hv,hb,hM,hL,h0⟩,hi⟩:=h
  obtain rfl:p=g:=by injection hv with hv;injection hv with hv;injection hv
  exact ⟨part O i L [l0,l1],c0,HA hi,Gv (by simp),⟨hb,(DN (j:=0) rfl p ⟨hM,hL⟩).2⟩,h0.rw (CX hi) (DN (j:=1) rfl) hl.2⟩
theorem BxR.shut {t e:TypeId} {α:Type} [Rp α] {w:World} {O:Lab} {p:Nat} {x:BxR t e α} {l0 l1:Nat} {c0:Value} (hd:¬ 0∈[l0,l1]∧[l0,l1].idxOf l0=0∧[l0,l1].idxOf l1=1) (hb:Lc l0 w O p t [c0]) (h0:Rw l1 w O e c0 x.l):∃ O',St (·∈[l0,l1]) w O w O'∧(∀ k,Fr 0 w O k→Fr 0 w O' k)∧(∀ q,q∈[l0,l1]→∀ k,Fr q w O k→Fr l0 w O' k)∧Ob l0 w O' (.pointer (some ⟨p,0,none⟩)) x:=by
  have hb1:l0≠0:=fun e=>hd.1 (by simp [e])
  have hg:=Dj (i:=l0) hd.2.1 (by simp) p ⟨hb.1.lt,hb.2⟩
  exact ⟨whole O l0 [l0,l1],Gw,Cn hd.1,FN,⟨p,fun k=>[l0,l1].idxOf (O k),c0,rfl,hb.1,hg.1,hg.2,h0.m (Cn hd.1) (Dj hd.2.2 (by simp)) (fun k a b=>frNe0 hb1 k a b.1)⟩,hb1⟩
def FrS (ls:List Nat) (w:World) (O:Lab):Nat→Prop:=fun k=>k < w.heap.size∧(O k=0∨O k∈ls)
section
variable {α : Type} [Rp α] {T : Nat → Prop} {i l : Nat} {ls ls' lo : List Nat} {w w' : World} {O O' : Lab} {v : Value} {x : α} {xs : List α} {e : TypeId}
theorem St.agreeS (hS:St T w O w' O') (h0:¬ T 0) (hl:∀ q∈ls,¬ T q):Agree (FrS ls w O) w w':=fun k hk=>(hS.same k hk.1 (by rcases hk.2 with e|e;rw [e];exact h0;exact hl _ e)).1
theorem Vb.stS (h:Vb w (FrS ls w O) v x) (hS:St T w O w' O') (h0:¬ T 0:=by decide) (hl:∀ q∈ls,¬ T q:=by decide):Vb w' (FrS ls w' O') v x :=
  (h.agree (hS.agreeS h0 hl)).mono fun k hk=>by
    have:=(hS.same k hk.1 (by rcases hk.2 with e|e;rw [e];exact h0;exact hl _ e)).2
    exact ⟨Nat.lt_of_lt_of_le hk.1 hS.size,by rw [this];exact hk.2⟩
theorem Rw.lend (h:Rw l w O e v xs) (ls:List Nat) (hl:l∈ls):Vb w (FrS ls w O) v xs:=h.1.vb.mono fun k hk=>by
  rcases hk with hk|hk
  · exact ⟨hk.1,.inl hk.2⟩
  · exact ⟨(h.1.lt k hk).2,.inr (by rw [h.2.1 k hk];exact hl)⟩
theorem Vb.shutS (h:Vb w (FrS ls w O) v x) (hS:St (·∈lo) w O w O') (hz:∀ k,Fr 0 w O k→Fr 0 w O' k) (ha:∀ q,q∈lo→∀ k,Fr q w O k→Fr i w O' k) (ls':List Nat) (hl:∀ q∈ls,q∈lo∧i∈ls'∨¬ q∈lo∧q∈ls'):Vb w (FrS ls' w O') v x:=h.mono fun k hk=>by
  refine ⟨hk.1,?_⟩
  rcases hk.2 with e|e
  · exact .inl (hz k ⟨hk.1,e⟩).2
  · rcases hl _ e with ⟨h1,h2⟩|⟨h1,h2⟩
    · right;rw [(ha _ h1 k ⟨hk.1,rfl⟩).2];exact h2
    · right;rw [(hS.same k hk.1 h1).2];exact h2
theorem Vb.opnS (h:Vb w (FrS ls w O) v x) (hS:St (eT i) w O w O') (hi:i≠0) (ha:∀ k,Fr i w O k→∃ q,q∈lo∧Fr q w O' k) (ls':List Nat) (hl:(∀ q∈ls,q≠i→q∈ls')∧∀ q∈lo,q∈ls'):Vb w (FrS ls' w O') v x:=h.mono fun k hk=>by
  refine ⟨hk.1,?_⟩
  by_cases hq:O k=i
  · obtain ⟨q,h1,h2⟩:=ha k ⟨hk.1,hq⟩
    right;rw [h2.2];exact hl.2 q h1
  · rw [(hS.same k hk.1 hq).2]
    rcases hk.2 with e|e
    · exact .inl e
    · exact .inr (hl.1 _ e hq)
end
end
section
open Go Go.RowKit
def wpAnyX (P:Program) (ops:Array Oper) (Q:Exit→Act→World→Prop) (S:Array Bool→World→Prop):Nat→Array Bool→Act→World→Prop
  | 0,listed,a,w=>Region.ready .any ops listed=[]∧Q .normal a w
  | fuel + 1,listed,a,w =>
    (Region.ready .any ops listed=[]→Q .normal a w) ∧
    ∀ i∈Region.ready .any ops listed,wpOp P ops Q i (fun a' w'=>(isLast ops i=false→S (listed.setIfInBounds i true) w')∧wpAnyX P ops Q S fuel (listed.setIfInBounds i true) a' w') a w
theorem Ih {P:Program} {ops:Array Oper} {Q:Exit→Act→World→Prop} {S:Array Bool→World→Prop}:∀ (fuel:Nat) (listed:Array Bool) (a:Act) (w:World),wpAnyX P ops Q S fuel listed a w→wpAny P .any ops Q fuel listed a w
  | 0,_,_,_,h=>h
  | fuel + 1,_,_,_,h=>⟨h.1,fun i hi=>wpOp_mono (fun a' w' h'=>Ih fuel _ a' w' h'.2) (h.2 i hi)⟩
theorem Jp {P:Program} {ops:Array Oper} {Q:Exit→Act→World→Prop} {S:Array Bool→World→Prop} {Si:World→Prop} {i:Nat} {oi:Oper} {v:Value} (hi:ops[i]?=some oi) (hsel:∀ (j:Nat) (o:Oper) cs b,ops[j]?=some o→o.op≠.select cs b)
    (hQ:∀ c a w,Q (.panic c) (a.put oi.dst v) w→Q (.panic c) a w) (hinv:∀ listed w,S (listed.setIfInBounds i true) w→S listed w) (hinv':∀ listed w,S listed w→S (listed.setIfInBounds i true) w)
    (hSi:∀ listed w,Closed ops listed→i∈Region.ready .any ops listed→S listed w→Si w) :
    ∀ (fuel:Nat) (listed:Array Bool) (a:Act) (w:World),Closed ops listed →
      (∀ j oj,ops[j]?=some oj→j≠i→listed.getD j true=false→(∀ e∈oj.after,Region.binds .any e=true→e.on≠i)→oi.apart ops oj=true) →
      i∈Region.ready .any ops listed→YieldsIf P ops Si oi v a→S listed w →
      wpAnyX P ops Q S fuel (listed.setIfInBounds i true) (a.put oi.dst v) w→wpAnyX P ops Q S (fuel + 1) listed a w:=by
  intro fuel
  induction fuel with
  | zero =>
    intro listed a w hcl _ hr hy hS H
    refine ⟨fun h=>(by rw [h] at hr;cases hr),fun j hj=>?_⟩
    by_cases hji:j=i
    · subst hji;exact hy.wpOp hi (hSi _ _ hcl hr hS) ⟨fun _=>hinv' _ _ hS,H⟩
    · have:=ready_mono hj hji
      rw [H.1] at this
      cases this
  | succ fuel ih =>
    intro listed a w hcl hfree hr hy hS H
    refine ⟨fun h=>(by rw [h] at hr;cases hr),fun j hj=>?_⟩
    by_cases hji:j=i
    · subst hji;exact hy.wpOp hi (hSi _ _ hcl hr hS) ⟨fun _=>hinv' _ _ hS,H⟩
    · have h1:=H.2 j (ready_mono hj hji)
      obtain ⟨hjun,oj,hoj,hall⟩:=mem_ready.1 hj
      have hnot:∀ e∈oj.after,Region.binds .any e=true→e.on≠i:=fun e he hb heq=>by
        have h1:=hall e he hb
        have h0:=(mem_ready.1 hr).1
        rw [heq] at h1
        rcases Nat.lt_or_ge i listed.size with h'|h'
        · simp [h'] at h0 h1;rw [h0] at h1;cases h1
        · simp [Array.getElem?_eq_none h'] at h1
      have hap:=hfree j oj hoj hji hjun hnot
      have hrj:i∈Region.ready .any ops (listed.setIfInBounds j true):=ready_mono hr (Ne.symm hji)
      have hil:i < ops.size:=by
        rcases Nat.lt_or_ge i ops.size with h|h
        · exact h
        · rw [Array.getElem?_eq_none h] at hi;cases hi
      have hnl:isLast ops j=false:=by
        cases hl:isLast ops j with
        | false=>rfl
        | true =>
          exfalso
          have h4:=List.all_eq_true.1 hl i (List.mem_range.2 hil)
          rw [Bool.or_eq_true] at h4
          rcases h4 with h4|h4
          · exact hji (by simpa using h4:i=j).symm
          · have h5:=Er hcl ops.size j i oj hoj hall h4
            have h6:=(mem_ready.1 hr).1
            rcases Nat.lt_or_ge i listed.size with h'|h'
            · simp [h'] at h5 h6;rw [h6] at h5;cases h5
            · simp [Array.getElem?_eq_none h'] at h5
      have hfree':∀ k ok,ops[k]?=some ok→k≠i→(listed.setIfInBounds j true).getD k true=false →
          (∀ e∈ok.after,Region.binds .any e=true→e.on≠i)→oi.apart ops ok=true:=fun k ok hk hki hun hno=>by
        refine hfree k ok hk hki ?_ hno
        by_cases hjk:j=k
        · subst hjk;exact hjun
        · rw [getD_set_ne true hjk] at hun;exact hun
      have h2:=wpOp_putIf hoj hap (fun cs b=>hsel i oi cs b hi) (fun cs b=>hsel j oj cs b hoj) hQ hy h1
      refine wpOp_mono (fun a' w' h3=>?_) h2
      have hS':S (listed.setIfInBounds j true) w':=hinv _ _ (by
        have:=h3.2.1 hnl
        rwa [Array.setIfInBounds_comm _ _ (Ne.symm hji)] at this)
      refine ⟨fun _=>hS',ih (listed.setIfInBounds j true) a' w' (hcl.set hj) hfree' hrj h3.1 hS' ?_⟩
      rw [Array.setIfInBounds_comm _ _ hji]
      exact h3.2.2
theorem HJ {P:Program} {ops:Array Oper} {Q:Exit→Act→World→Prop} {S S':Array Bool→World→Prop} (P0:Array Bool→Prop) (hP:∀ listed i,P0 listed→P0 (listed.setIfInBounds i true)) (hS:∀ listed w,P0 listed→S' listed w→S listed w) :
    ∀ (fuel:Nat) (listed:Array Bool) (a:Act) (w:World),P0 listed→wpAnyX P ops Q S' fuel listed a w→wpAnyX P ops Q S fuel listed a w
  | 0,_,_,_,_,h=>h
  | fuel + 1,listed,_,_,hp,h=>⟨h.1,fun i hi=>wpOp_mono (fun a' w' h'=>⟨fun hl=>hS _ _ (hP _ i hp) (h'.1 hl),HJ P0 hP hS fuel _ a' w' (hP _ i hp) h'.2⟩) (h.2 i hi)⟩
def tcs (acts:List (Nat×List Nat)) (listed:Array Bool):List Nat:=(acts.filter fun p=>listed.getD p.1 false).flatMap (·.2)
def tci (ops:Array Oper) (acts:List (Nat×List Nat)) (i:Nat):List Nat:=(acts.filter fun p=>!comesB ops ops.size p.1 i).flatMap (·.2)
def Sx (acts:List (Nat×List Nat)) (w0:World) (O0:Lab) (listed:Array Bool) (w:World):Prop:=∃ d O',St (·∈tcs acts listed) w0 O0 (dr w d) O'
theorem St.mono {T T':Nat→Prop} {w w':World} {O O':Lab} (h:St T w O w' O') (ht:∀ i,T i→T' i):St T' w O w' O' :=
  ⟨h.os,h.tape,h.output,h.size,fun k hk hn=>h.same k hk fun e=>hn (ht _ e)⟩
theorem St.lst {T:Nat→Prop} {w w':World} {O O':Lab} (h:St T w O w' O') (ls:List Nat) (ht:∀ i,T i→i∈ls):St (·∈ls) w O w' O':=h.mono ht
theorem St.cmp {T:Nat→Prop} {ls:List Nat} {w w' w'':World} {O O' O'':Lab} (h:St (·∈ls) w O w' O') (k:St T w' O' w'' O'') (ls':List Nat) (ht:∀ i,T i→i∈ls') (hl:(ls.all (ls'.contains ·))=true):St (·∈ls') w O w'' O'' :=
  St.comp (h.mono fun q hq=>by simpa using List.all_eq_true.1 hl q hq) (k.mono ht) fun _ h=>h
theorem Kg {acts:List (Nat×List Nat)} {i:Nat} (hi:(acts.any (·.1 == i))=false) (listed:Array Bool):tcs acts (listed.setIfInBounds i true)=tcs acts listed:=by
  unfold tcs
  congr 1
  apply List.filter_congr
  intro p hp
  have:p.1≠i:=fun e=>by
    have h2:(acts.any (·.1 == i))=true:=List.any_eq_true.2 ⟨p,hp,by simp [e]⟩
    rw [hi] at h2;cases h2
  exact getD_set_ne false (Ne.symm this)
theorem Md {ops:Array Oper} {acts:List (Nat×List Nat)} {i:Nat} {listed:Array Bool} (hb:(acts.all fun p=>(ops[p.1]?).isSome)=true) (hcl:Closed ops listed) (hr:i∈Region.ready .any ops listed):∀ q,q∈tcs acts listed→q∈tci ops acts i:=by
  intro q hq
  unfold tcs at hq
  unfold tci
  rw [List.mem_flatMap] at hq ⊢
  obtain ⟨p,hp,hq⟩:=hq
  rw [List.mem_filter] at hp
  refine ⟨p,List.mem_filter.2 ⟨hp.1,?_⟩,hq⟩
  cases hc:comesB ops ops.size p.1 i with
  | false=>rfl
  | true =>
    exfalso
    have hp2:=hp.2
    have hs:=List.all_eq_true.1 hb p hp.1
    obtain ⟨o,ho⟩:=Option.isSome_iff_exists.1 hs
    have h5:=Er hcl ops.size p.1 i o ho (fun e he hbi=>hcl p.1 o hp2 ho e he hbi) hc
    have h6:=(mem_ready.1 hr).1
    rcases Nat.lt_or_ge i listed.size with h'|h'
    · simp [h'] at h5 h6;rw [h6] at h5;cases h5
    · simp [Array.getElem?_eq_none h'] at h5
def hwx (P:Program) (n:Nat) (ops:Array Oper) (Q:Post) (acts:List (Nat×List Nat)) (w0:World) (O0:Lab) (fuel:Nat) (listed:Array Bool) (l:Env) (w:World):Prop :=
  Closed ops listed→∀ a d,Ok n a l→wpAnyX P ops (lift n Q) (Sx acts w0 O0) fuel listed a (dr w d)
def loudX (P:Program) (n:Nat) (ops:Array Oper) (Q:Post) (acts:List (Nat×List Nat)) (w0:World) (O0:Lab) (i:Nat) (fuel:Nat) (listed:Array Bool):Post
  | .normal,l,w=>(isLast ops i=false→Sx acts w0 O0 (listed.setIfInBounds i true) w)∧hwx P n ops Q acts w0 O0 fuel (listed.setIfInBounds i true) l w
  | _,_,_=>False
abbrev SS (w0:World) (O0:Lab) (ls:List Nat):World→Prop:=fun w'=>∃ O',St (·∈ls) w0 O0 w' O'
theorem Sx.dr {acts:List (Nat×List Nat)} {w0 w:World} {O0:Lab} {listed:Array Bool} (h:Sx acts w0 O0 listed w) (d:Nat):Sx acts w0 O0 listed (dr w d):=by
  obtain ⟨e,O',h⟩:=h
  exact ⟨e,O',h⟩
theorem Ii {P:Program} {ops:Array Oper} {Q Q':Exit→Act→World→Prop} {acts:List (Nat×List Nat)} {w0:World} {O0:Lab} {fuel:Nat} (ls:List Nat) (hs:Region.noSelect ops=true) (hb:(acts.all fun p=>(ops[p.1]?).isSome)=true) (hQ:∀ c a w,¬ Q (.panic c) a w) :
    ∀ (ord:List (Nat×Bool)) (listed:Array Bool) (a:Act) (w:World),Closed ops listed→ordPre ops listed ord=true→(ord.all fun p=>(tci ops acts p.1).all (ls.contains ·) && !acts.any (·.1 == p.1))=true→Sx acts w0 O0 listed w →
      (∀ a w,Closed ops (listAll listed ord)→Q' .normal a w→wpAnyX P ops Q (Sx acts w0 O0) fuel (listAll listed ord) a w)→wpOrd P ops Q' (fun w'=>∃ d',SS w0 O0 ls (dr w' d')) ord a w→wpAnyX P ops Q (Sx acts w0 O0) (ord.length + fuel) listed a w
  | [],listed,a,w,hcl,_,_,_,hk,h=>by rw [List.length_nil,Nat.zero_add];exact hk a w hcl h
  | (i, true) :: r,listed,a,w,hcl,hc,hl,hS,hk,h=>by
    simp only [ordPre,Bool.and_eq_true] at hc
    rw [List.all_cons,Bool.and_eq_true,Bool.and_eq_true] at hl
    obtain ⟨o,v,ho,hy,hr⟩:=h
    have hi:i∈Region.ready .any ops listed:=by simpa using hc.1
    have hna:(acts.any (·.1 == i))=false:=by simpa using hl.1.2
    have e1:∀ listed w,Sx acts w0 O0 (listed.setIfInBounds i true) w→Sx acts w0 O0 listed w:=fun listed w h=>by unfold Sx at *;rwa [Kg hna] at h
    have e2:∀ listed w,Sx acts w0 O0 listed w→Sx acts w0 O0 (listed.setIfInBounds i true) w:=fun listed w h=>by unfold Sx at *;rwa [Kg hna]
    have:=Jp ho (Region.noSelect_spec hs) (fun c a w hq=>(hQ c _ _ hq).elim) e1 e2 (fun listed w hc hr ⟨d,O',hS⟩=>(⟨d,O',hS.mono fun q hq=>by
        have:=List.all_eq_true.1 hl.1.1 q (Md hb hc hr q hq)
        simpa using this⟩:∃ d',SS w0 O0 ls (Proofs.Ythomfnkaicjmbaa.dr w d'))) (r.length + fuel) listed a w hcl (Region.free_spec ho hc.2.1) hi hy hS (Ii ls hs hb hQ r _ _ w (hcl.set hi) hc.2.2 hl.2 (e2 _ _ hS) hk hr)
    rwa [List.length_cons,show r.length + 1 + fuel=r.length + fuel + 1 from by omega]
  | (i,false) :: r,listed,a,w,hcl,hc,_,_,_,_=>by simp [ordPre] at hc
section
variable {P : Program} {n : Nat} {ops : Array Oper} {Q : Post} {acts : List (Nat × List Nat)} {w0 : World} {O0 : Lab} {l : Env} {w : World}
theorem MK {fuel tot:Nat} {listed:Array Bool} (ls:List Nat) (ord:List (Nat×Bool)) (hs:(Region.noSelect ops && (acts.all fun p=>(ops[p.1]?).isSome) && ordPre ops listed ord && (ord.all fun p=>(tci ops acts p.1).all (ls.contains ·) && !acts.any (·.1 == p.1)))=true) (hl:ord.length + fuel=tot)
    (h:hwp P n ops (thn (hwx P n ops Q acts w O0 fuel (listAll listed ord)) fun _ _ _=>False) (SS w O0 ls) ord l w):hwx P n ops Q acts w O0 tot listed l w:=fun hcl a e ha=>by
  subst hl
  simp only [Bool.and_eq_true] at hs
  obtain ⟨⟨⟨h1,h2⟩,h3⟩,h4⟩:=hs
  refine Ii (P:=P) ls h1 h2 (Q:=lift n Q) (fun c a w hq=>hq.1) ord listed a (dr w e) hcl h3 (by simpa using h4) ⟨w.drawn,O0,St.refl _ _ _⟩ ?_ (h a e ha)
  rintro a' w' hcl' ⟨_,l',w₀,d',rfl,ho,hh⟩
  exact hh hcl' a' d' ho
theorem LB {fuel i:Nat} {o:Oper} {listed:Array Bool} (hi:ops[i]?=some o) (hr:i∈Region.ready .any ops listed) (h:owp P n ops (loudX P n ops Q acts w0 O0 i fuel listed) [o] l w) (hcl:Closed ops listed) (a:Act) (e:Nat) (ha:Ok n a l) :
    wpOp P ops (lift n Q) i (fun a' w'=>(isLast ops i=false→Sx acts w0 O0 (listed.setIfInBounds i true) w')∧wpAnyX P ops (lift n Q) (Sx acts w0 O0) fuel (listed.setIfInBounds i true) a' w') a (dr w e):=by
  have h1:=h a e ha
  unfold wpList at h1
  unfold wpOp
  simp only [hi]
  have conv:∀ a' w',lift n (loudX P n ops Q acts w0 O0 i fuel listed) .normal a' w'→(isLast ops i=false→Sx acts w0 O0 (listed.setIfInBounds i true) w')∧wpAnyX P ops (lift n Q) (Sx acts w0 O0) fuel (listed.setIfInBounds i true) a' w':=by
    rintro a' w' ⟨_,l',w₀,d',rfl,ho,hS,hh⟩
    exact ⟨fun hl=>(hS hl).dr d',hh (hcl.set hr) a' d' ho⟩
  have nope:∀ e' a' w',lift n (loudX P n ops Q acts w0 O0 i fuel listed) e' a' w'→e'=.normal:=by
    rintro e' a' w' ⟨hn,l',w₀,d',rfl,ho,hh⟩
    cases e'<;>first|rfl|exact hh.elim
  by_cases hw:Region.wanted o (yielded ops a.tmps)=true
  · rw [if_pos hw] at h1
    rw [if_pos hw]
    rcases h1 with h1|⟨h1,a0,w0,h2⟩
    · refine .inl ?_
      unfold Oper.wp at *
      generalize (execOp a.eval o).run P (dr w e)=res at *
      cases res with
      | ok nx w' =>
        cases nx<;>simp only [Oper.upon] at h1 ⊢ <;>
          first
            | exact conv _ _ h1
            | exact Calls.mono h1 (fun en w'' he=>by
                cases en with
                | returned v=>exact conv _ _ he
                | panicked c=>exact absurd (nope _ _ _ he) (by simp)
                | outgrown=>obtain ⟨a0,w0,hq⟩:=he;exact absurd (nope _ _ _ hq) (by simp))
            | exact Rows.mono h1 (fun _ _ he=>conv _ _ he)
            | exact h1.elim
      | halt x w'=>cases x<;>simp only [Oper.upon] at h1 ⊢<;>first|exact h1.elim|exact absurd (nope _ _ _ h1) (by simp)
    · exact absurd (nope _ _ _ h2) (by simp)
  · rw [if_neg hw] at h1
    rw [if_neg hw]
    exact conv _ _ h1
theorem x_one {fuel i:Nat} {oi:Oper} {listed:Array Bool} (hr:Region.ready .any ops listed=[i]) (hi:ops[i]?=some oi) (h1:owp P n ops (loudX P n ops Q acts w0 O0 i fuel listed) [oi] l w):hwx P n ops Q acts w0 O0 (fuel + 1) listed l w:=fun hcl a e ha=>by
  refine ⟨fun h0=>by rw [hr] at h0;simp at h0,fun k hk=>?_⟩
  have hk':=hk
  rw [hr] at hk
  have:k=i:=by simpa using hk
  subst this
  exact LB hi hk' h1 hcl a e ha
theorem x_go {fuel i:Nat} {listed:Array Bool} {ls:List Nat} {O':Lab} (acts':List (Nat×List Nat)) (hZ:St (·∈ls) w0 O0 w O') (hs:(ls.all ((tcs acts (listed.setIfInBounds i true)).contains ·) && acts'.all (acts.contains ·))=true) (h2:hwx P n ops Q acts' w O' fuel (listed.setIfInBounds i true) l w):owp P n ops (loudX P n ops Q acts w0 O0 i fuel listed) [] l w:=by
  rw [Bool.and_eq_true] at hs
  have hls:∀ q,q∈ls→q∈tcs acts (listed.setIfInBounds i true):=fun q hq=>by simpa using List.all_eq_true.1 hs.1 q hq
  have hac:∀ p,p∈acts'→p∈acts:=fun q hq=>by simpa using List.all_eq_true.1 hs.2 q hq
  refine AA ⟨fun _=>⟨w.drawn,O',hZ.mono hls⟩,fun hcl a d ha=>?_⟩
  refine HJ (fun listed'=>∀ j,(listed.setIfInBounds i true).getD j false=true→listed'.getD j false=true) (fun listed' k h j hj=>getD_set_true (h j hj)) ?_ _ _ _ _ (fun j hj=>hj) (h2 hcl a d ha)
  rintro listed' v hp ⟨e,O'',hS⟩
  refine ⟨e,O'',((hZ.mono fun q hq=>?_).comp (hS.mono fun q hq=>?_) fun _ h=>h:St (·∈tcs acts listed') w0 O0 _ O'')⟩
  · have:=hls q hq
    unfold tcs at this ⊢
    rw [List.mem_flatMap] at this ⊢
    obtain ⟨p,h1,h3⟩:=this
    rw [List.mem_filter] at h1
    exact ⟨p,List.mem_filter.2 ⟨h1.1,hp _ h1.2⟩,h3⟩
  · unfold tcs at hq ⊢
    rw [List.mem_flatMap] at hq ⊢
    obtain ⟨p,h1,h3⟩:=hq
    rw [List.mem_filter] at h1
    exact ⟨p,List.mem_filter.2 ⟨hac _ h1.1,h1.2⟩,h3⟩
theorem ML {fuel i:Nat} {listed:Array Bool} (hl:isLast ops i=true) (h2:hwx P n ops Q acts w0 O0 fuel (listed.setIfInBounds i true) l w):owp P n ops (loudX P n ops Q acts w0 O0 i fuel listed) [] l w:=AA ⟨(fun h=>by rw [hl] at h;exact Bool.noConfusion h),h2⟩
theorem x_nil {listed:Array Bool} (hr:Region.ready .any ops listed=[]) (h:Q .normal l w):hwx P n ops Q acts w0 O0 0 listed l w:=fun _ _ _ ha=>⟨hr,Fv trivial ha h⟩
def maskOf (ms:List Nat) (o:Oper):Nat:=o.after.toList.foldl (fun m e=>if Region.binds .any e=true then m ||| (2 ^ e.on ||| ms.getD e.on 0) else m) 0
def masksFrom:List Oper→List Nat→List Nat
  | [],ms=>ms
  | o :: r,ms=>masksFrom r (ms ++ [maskOf ms o])
def bef (ops:Array Oper) (j k:Nat):Bool:=((masksFrom ops.toList []).getD j 0).testBit k
theorem HK {ops:Array Oper}:∀ (f j k:Nat),comesB ops f j k=true→comesB ops (f + 1) j k=true
  | 0,j,k,h=>by simp [comesB] at h
  | f + 1,j,k,h=>by
    rw [comesB] at h ⊢
    cases hj:ops[j]? with
    | none=>rw [hj] at h;simp at h
    | some o =>
      rw [hj] at h
      simp only [Option.any_some,Array.any_eq_true'] at h ⊢
      obtain ⟨e,he,h⟩:=h
      refine ⟨e,he,?_⟩
      simp only [Bool.and_eq_true,Bool.or_eq_true] at h ⊢
      refine ⟨h.1,h.2.imp id fun h=>HK f e.on k h⟩
theorem IN {ops:Array Oper} {f g j k:Nat} (h:comesB ops f j k=true) (hl:f≤g):comesB ops g j k=true:=by
  induction hl with
  | refl=>exact h
  | step _ ih=>exact HK _ _ _ ih
theorem IO {ms:List Nat} {k:Nat}:∀ (l:List Edge) (m:Nat),(l.foldl (fun m e=>if Region.binds .any e=true then m ||| (2 ^ e.on ||| ms.getD e.on 0) else m) m).testBit k=true→m.testBit k=true∨∃ e∈l,Region.binds .any e=true∧(e.on=k∨(ms.getD e.on 0).testBit k=true)
  | [],m,h=>.inl h
  | e :: l,m,h=>by
    rw [List.foldl_cons] at h
    rcases IO l _ h with h|⟨e',h1,h2⟩
    · by_cases hb:Region.binds .any e=true
      · rw [if_pos hb,Nat.testBit_or,Nat.testBit_or,Nat.testBit_two_pow,Bool.or_eq_true,Bool.or_eq_true] at h
        rcases h with h|h|h
        · exact .inl h
        · exact .inr ⟨e,List.mem_cons_self,hb,.inl (by simpa using h)⟩
        · exact .inr ⟨e,List.mem_cons_self,hb,.inr h⟩
      · rw [if_neg hb] at h;exact .inl h
    · exact .inr ⟨e',List.mem_cons_of_mem _ h1,h2⟩
theorem Jq {ops:Array Oper}:∀ (rest pre:List Oper) (ms:List Nat),ops.toList=pre ++ rest→ms.length=pre.length→(∀ a k,(ms.getD a 0).testBit k=true→comesB ops (a + 1) a k=true)→(masksFrom rest ms).length=ops.size∧∀ a k,((masksFrom rest ms).getD a 0).testBit k=true→comesB ops (a + 1) a k=true
  | [],pre,ms,h1,h2,h3=>⟨by rw [masksFrom,h2,← Array.length_toList,h1,List.append_nil],h3⟩
  | o :: rest,pre,ms,h1,h2,h3=>by
    refine Jq rest (pre ++ [o]) (ms ++ [maskOf ms o]) (by rw [h1,List.append_assoc];rfl) (by simp [h2]) fun a k hk=>?_
    by_cases ha:a < ms.length
    · rw [List.getD_eq_getElem?_getD,List.getElem?_append_left ha,← List.getD_eq_getElem?_getD] at hk;exact h3 a k hk
    · by_cases ha2:a=ms.length
      · subst ha2
        have:(ms ++ [maskOf ms o]).getD ms.length 0=maskOf ms o:=by simp
        rw [this] at hk
        rcases IO _ _ hk with h|⟨e,he,hb,h⟩
        · simp at h
        · have ho:ops[ms.length]?=some o:=by rw [← Array.getElem?_toList,h1,h2];simp
          rw [comesB,ho]
          simp only [Option.any_some,Array.any_eq_true',Bool.and_eq_true,Bool.or_eq_true]
          refine ⟨e,by simpa using he,hb,?_⟩
          rcases h with h|h
          · exact .inl (by simpa using h)
          · have hlt:e.on < ms.length:=by
              rcases Nat.lt_or_ge e.on ms.length with h'|h'
              · exact h'
              · rw [List.getD_eq_getElem?_getD,List.getElem?_eq_none h'] at h;simp at h
            exact .inr (IN (h3 _ _ h) hlt)
      · rw [List.getD_eq_getElem?_getD,List.getElem?_eq_none (by simp;omega)] at hk;simp at hk
theorem IP {ops:Array Oper} {j k:Nat} (h:bef ops j k=true):comesB ops ops.size j k=true:=by
  obtain ⟨h1,h2⟩:=Jq (ops:=ops) ops.toList [] [] (by simp) rfl (fun a k h=>by simp at h)
  refine IN (h2 j k h) ?_
  rcases Nat.lt_or_ge j ops.size with h'|h'
  · exact h'
  · unfold bef at h
    rw [List.getD_eq_getElem?_getD,List.getElem?_eq_none (by omega)] at h;simp at h
theorem x_pre {fuel tot:Nat} {listed:Array Bool} (ls:List Nat) (ord:List (Nat×Bool)) (hs:(Region.noSelect ops && (acts.all fun p=>(ops[p.1]?).isSome) && ordPre ops listed ord && (ord.all fun p=>(acts.all fun q=>q.2.all (ls.contains ·) || bef ops q.1 p.1) && !acts.any (·.1 == p.1)))=true) (hl:ord.length + fuel=tot)
    (h:hwp P n ops (thn (hwx P n ops Q acts w O0 fuel (listAll listed ord)) fun _ _ _=>False) (SS w O0 ls) ord l w):hwx P n ops Q acts w O0 tot listed l w:=by
  refine MK ls ord ?_ hl h
  simp only [Bool.and_eq_true] at hs ⊢
  refine ⟨hs.1,List.all_eq_true.2 fun p hp=>?_⟩
  have h1:=List.all_eq_true.1 hs.2 p hp
  rw [Bool.and_eq_true] at h1 ⊢
  refine ⟨List.all_eq_true.2 fun q hq=>?_,h1.2⟩
  unfold tci at hq
  rw [List.mem_flatMap] at hq
  obtain ⟨a,ha,hqa⟩:=hq
  rw [List.mem_filter] at ha
  have h2:=List.all_eq_true.1 h1.1 a ha.1
  rw [Bool.or_eq_true] at h2
  rcases h2 with h2|h2
  · exact List.all_eq_true.1 h2 q hqa
  · have:=ha.2;rw [IP h2] at this;simp at this
theorem x_end {fuel i:Nat} {listed:Array Bool} (hl:((List.range ops.size).all fun k=>k == i || bef ops i k)=true) (h2:hwx P n ops Q acts w0 O0 fuel (listed.setIfInBounds i true) l w):owp P n ops (loudX P n ops Q acts w0 O0 i fuel listed) [] l w:=by
  refine ML ?_ h2
  refine List.all_eq_true.2 fun k hk=>?_
  have:=List.all_eq_true.1 hl k hk
  rw [Bool.or_eq_true] at this ⊢
  exact this.imp id IP
theorem BZ [hm:Mixed P] {id:Nat} {L:List Oper} (acts:List (Nat×List Nat)) (O:Lab) (h:hwx P n L.toArray Q acts w O L.toArray.size (Array.replicate L.toArray.size false) l w):ewp P n (.region id L.toArray true) Q l w:=fun a d ha =>
  wp_region_any hm.eq (Ih _ _ _ _ (h (fun m om hm=>by
      simp only [Array.getD_eq_getD_getElem?,Array.getElem?_replicate] at hm
      split at hm<;>simp at hm) a (d + 1) ha))
end
end
section
open Go Go.RowKit
attribute [local irreducible] ewp owp hwp hwq hws Ev Evg Fn retPost loud loudS Res1
section
variable {w : World} {A : Nat → Prop} (hA : ∀ k, A k → k < w.heap.size) {v0 v1 : Value}
include hA
omit hA in
def Dq (f:List Fct) (s:List Int):Option Bool:=some (holdsB f s)
theorem FB {x0:List Fct} (h0:Vb w A v0 x0) {x1:List Int} (h1:Vb w A v1 x1) {r:Bool} (hm:Dq x0 x1=some r):Fn Try.prog 43 [v0,v1] w fun v w'=>Ext w w'∧Vb w' (upA A w w') v r:=by
  obtain rfl:=sm hm
  refine (baseHolds (h0.mono hA) (h1.mono hA)).mono fun v w' h=>⟨h.2,?_⟩
  rw [h.1,bof_b];exact vBool
omit hA in
def BK (f:List Fct) (s:List Int):Option Bool:=some (holdsB f s)
theorem Dr {x0:List Fct} (h0:Vb w A v0 x0) {x1:List Int} (h1:Vb w A v1 x1) {r:Bool} (hm:BK x0 x1=some r):Fn Try.prog 37 [v0,v1] w fun v w'=>Ext w w'∧Vb w' (upA A w w') v r:=by
  obtain rfl:=sm hm
  refine (taskHolds (h0.mono hA) (h1.mono hA)).mono fun v w' h=>⟨h.2,?_⟩
  rw [h.1,bof_b];exact vBool
omit hA in
noncomputable def EU (x:List Int) (y:List Int):Option Bool:=some (bof (x=y))
theorem JR {x0:List Int} (h0:Vb w A v0 x0) {x1:List Int} (h1:Vb w A v1 x1) {r:Bool} (hm:EU x0 x1=some r):Fn Try.prog 33 [v0,v1] w fun v w'=>Ext w w'∧Vb w' (upA A w w') v r:=by
  obtain rfl:=sm hm
  refine (baseInts (h0.mono hA) (h1.mono hA)).mono fun v w' h=>⟨h.2,?_⟩
  rw [h.1];exact vBool
omit hA in
noncomputable def DJ (x:List Int) (y:List Int):Option Bool:=some (bof (StateOk x y))
theorem GM {x0:List Int} (h0:Vb w A v0 x0) {x1:List Int} (h1:Vb w A v1 x1) {r:Bool} (hm:DJ x0 x1=some r):Fn Try.prog 54 [v0,v1] w fun v w'=>Ext w w'∧Vb w' (upA A w w') v r:=by
  obtain rfl:=sm hm
  refine (taskProper (h0.mono hA) (h1.mono hA)).mono fun v w' h=>⟨h.2,?_⟩
  rw [h.1];exact vBool
omit hA in
noncomputable def FC (t:Tsk):Option Bool:=some (bof (SmallOk t))
theorem Jr {x0:Tsk} (h0:Vb w A v0 x0) {r:Bool} (hm:FC x0=some r):Fn Try.prog 11 [v0] w fun v w'=>Ext w w'∧Vb w' (upA A w w') v r:=by
  obtain rfl:=sm hm
  refine (baseSmall (h0.mono hA)).mono fun v w' h=>⟨h.2,?_⟩
  rw [h.1];exact vBool
end
noncomputable def FD (t:Tsk):Option Err:=some ⟨checkN t⟩
theorem Ij (t:Tsk):inI64 (checkN t):=by unfold checkN;(repeat' split)<;>decide
theorem Js {w:World} {A:Nat→Prop} (hA:∀ k,A k→k < w.heap.size) {v0:Value} {x0:Tsk} (h0:Vb w A v0 x0) {r:Err} (hm:FD x0=some r):Fn Try.prog 29 [v0] w fun v w'=>Ext w w'∧Vb w' (upA A w w') v r:=by
  obtain rfl:=sm hm
  refine (taskCheck (h0.mono hA)).mono fun v w' h=>⟨h.2,?_⟩
  rw [h.1]
  exact vErr (Ij _)
def Bp (xs:List Int):Option (List Int):=if xs.length * 8≤140737488355328∧xs.length≤9223372036854775807 then some xs else none
theorem Dd {w:World} {A:Nat→Prop} (hA:∀ k,A k→k < w.heap.size) {v0:Value} {x0:List Int} (h0:Vb w A v0 x0) {r:List Int} (hm:Bp x0=some r) :
    Fn Try.prog 65 [v0] w fun v w'=>Ext w w'∧RowR w w' (upA A w w') 3 v r:=by
  obtain ⟨⟨hl,hl2⟩,rfl⟩:=Fz hm
  obtain ⟨O,hB,hA0⟩:=enter hA
  replace h0:=h0.mono hA0
  obtain ⟨Ad,c,rfl⟩:=h0.form
  refine AL Try.func65 rfl Try.ntmps65 rfl ?_
  cases Ad with
  | none =>
    have hx:x0=[]:=by
      cases x0 with
      | nil=>rfl
      | cons x xs=>obtain ⟨_,_,_,h,_⟩:=h0.elem (k:=0) (x:=x) rfl;cases h
    subst hx
    ((repeat (first|refine Ah ?_|refine Al ?_|refine Ae ?_|refine Am ?_|refine At ?_|refine Au ?_|refine Ar rfl ?_|refine Aj rfl ?_))<;>(refine o_as rfl rfl ?_<;>(first|refine Ay ?_|refine Az ?_|refine Aw ?_|refine AA ?_))<;>(repeat (first|refine Ah ?_|refine Al ?_|refine Ae ?_|refine Am ?_|refine At ?_|refine Au ?_|refine Ar rfl ?_|refine Aj rfl ?_))<;>(refine o_mv rfl rfl ?_<;>refine o_sn rfl rfl ?_<;>(first|refine Ay ?_|refine Az ?_|refine Aw ?_|refine AA ?_))<;>(repeat (first|refine Ah ?_|refine Al ?_|refine Ae ?_|refine Am ?_|refine At ?_|refine Au ?_|refine Ar rfl ?_|refine Aj rfl ?_))<;>(refine o_as rfl rfl ?_<;>(first|refine Ay ?_|refine Az ?_|refine Aw ?_|refine AA ?_))<;>(repeat (first|refine Ah ?_|refine Al ?_|refine Ae ?_|refine Am ?_|refine At ?_|refine Au ?_|refine Ar rfl ?_|refine Aj rfl ?_)))
    exact ret1 rfl rfl ⟨Below.refl _ _,RowR.nil⟩
  | some ad =>
    ((repeat (first|refine Ah ?_|refine Al ?_|refine Ae ?_|refine Am ?_|refine At ?_|refine Au ?_|refine Ar rfl ?_|refine Aj rfl ?_))<;>(refine o_as rfl rfl ?_<;>(first|refine Ay ?_|refine Az ?_|refine Aw ?_|refine AA ?_))<;>(repeat (first|refine Ah ?_|refine Al ?_|refine Ae ?_|refine Am ?_|refine At ?_|refine Au ?_|refine Ar rfl ?_|refine Aj rfl ?_))<;>(refine o_mv rfl rfl ?_<;>refine o_sn rfl rfl ?_<;>(first|refine Ay ?_|refine Az ?_|refine Aw ?_|refine AA ?_))<;>(repeat (first|refine Ah ?_|refine Al ?_|refine Ae ?_|refine Am ?_|refine At ?_|refine Au ?_|refine Ar rfl ?_|refine Aj rfl ?_)))
    refine Ch 2 (by decide) O (xs:=([]:List Int)) rfl rfl rfl rfl trivial (by decide) (by decide) rfl fun g w1 O1 S1 h1=>?_
    replace hB:=hB.st S1 (fun h=>h) (fun h=>h)
    replace h0:=h0.st S1 (fun h=>h)
    (refine o_mv rfl rfl ?_)
    refine Es rfl h1 h0.rd rfl rfl (by decide) (by simpa using hl) (by simpa using hl2) rfl fun A2 c2 w2 O2 S2 h2=>?_
    replace hB:=hB.st S2 (by decide) (by decide)
    rw [List.nil_append] at h2 ⊢
    (refine o_as rfl rfl ?_<;>(first|refine Ay ?_|refine Az ?_|refine Aw ?_|refine AA ?_))
    repeat (first|refine Ah ?_|refine Al ?_|refine Ae ?_|refine Am ?_|refine At ?_|refine Au ?_|refine Ar rfl ?_|refine Aj rfl ?_)
    exact ret1 rfl rfl ⟨hB.ext,h2.out hB (by decide)⟩
end
section
open Go Go.RowKit
attribute [local irreducible] ewp owp hwp hwq hws Ev Evg Fn retPost loud loudS Res1
structure Rsl where
  verdict:Int
  plan:List Int
  cost:Int
  expanded:Int
instance:Rp Rsl where
  isAgg:=true
  size:=4
  R w F cs x:=∃ v0,cs=[.int .i64 x.verdict,v0,.int .i64 x.cost,.int .i64 x.expanded]∧Vb w F v0 x.plan∧inI64 x.verdict∧inI64 x.cost∧inI64 x.expanded
  len:=by rintro w F cs x ⟨v0,rfl,h0,h1,h2,h3⟩;rfl
  one:=by rintro w F cs x ⟨v0,rfl,h0,h1,h2,h3⟩ u hu;simp at hu;rcases hu with rfl|rfl|rfl|rfl<;>first|rfl|exact Vb.one rfl (by assumption)
  agree:=by rintro w w' F cs x ⟨v0,rfl,h0,h1,h2,h3⟩ ha;exact ⟨v0,rfl,h0.agree ha,h1,h2,h3⟩
  mono:=by rintro w F G cs x ⟨v0,rfl,h0,h1,h2,h3⟩ ha;exact ⟨v0,rfl,h0.mono ha,h1,h2,h3⟩
noncomputable def CY (x0:Tsk) (x1:List Int) (x2:Int):Option ((List Int)×Err) :=
  bnd (if x2 < 0 then (some true) else (if (x0.ops.length:Int)≤x2 then (some true) else (some false)):Option Bool) fun y28=>if y28=true then (some (([]:List Int),(⟨1⟩:Err))) else (bnd (DJ x0.vars x1) fun q41=>if q41=true then bnd (atI x0.ops x2) fun a48=>bnd (BK a48.pre x1) fun q69=>if q69=true then bnd (Bp x1) fun q76=>bnd (atI x0.ops x2) fun a86=>bnd (rng (ρ:=(List Int)×Err) (fun (k113:Nat) (a114:Eff) (s111:(List Int))=>bnd (BK a114.cond x1) fun q148=>if q148=true then bnd (atI s111 a114.var) fun a155=>some (.next (s111.set (a114.var:Int).toNat a114.val)) else some (.next s111)) a86.effs 0 q76) fun res109=>fin res109 fun (s173:(List Int))=>some (s173,(⟨0⟩:Err)) else some (([]:List Int),(⟨12⟩:Err)) else some (([]:List Int),(⟨2⟩:Err)))
theorem Jt {w:World} {A:Nat→Prop} (hA:∀ k,A k→k < w.heap.size) {vx0:Value} {x0:Tsk} (hx0:Vb w A vx0 x0) {vx1:Value} {x1:List Int} (hx1:Vb w A vx1 x1) {x2:Int} (rx2:inI64 x2) {r:(List Int)×Err} (hm:CY x0 x1 x2=some r) :
    Fn Try.prog 71 [vx0,vx1,(.int .i64 x2)] w fun v w'=>Ext w w'∧T2 w' (upA A w w') v r:=by
 obtain ⟨O,hB,hA0⟩:=enter hA
 replace hx0:=hx0.mono hA0
 obtain ⟨cs4,rfl,v5,v6,v7,v8,rfl,h9,h12,h15,h18⟩:=hx0
 obtain ⟨A10,c11,rfl⟩:=h9.form
 obtain ⟨A13,c14,rfl⟩:=h12.form
 obtain ⟨A16,c17,rfl⟩:=h15.form
 obtain ⟨A19,c20,rfl⟩:=h18.form
 replace hx1:=hx1.mono hA0
 obtain ⟨A21,c22,rfl⟩:=hx1.form
 refine AL Try.func71 rfl Try.ntmps71 rfl ?_
 unfold CY at hm
 refine Ah (Ae (l_box 2 O rfl rfl fun g23 w24 O25 S26 h27=>?_))
 replace h27:Lc 2 w24 O25 g23 26 [(.slice A10 x0.vars.length c11),(.slice A13 x0.init.length c14),(.slice A16 x0.goal.length c17),(.slice A19 x0.ops.length c20)]:=h27
 refine o_as rfl rfl (o_as rfl rfl (o_z ?_))
 refine Ah (Al (Ah ?_))
 obtain ⟨y28,hy29,hm⟩:=bs hm
 refine AN (fun l' w'=>∃ (x31:Unit) (O':Lab),subs l' [(1,(.slice A21 x1.length c22)),(2,(.int .i64 x2)),(3,(.pointer (some ⟨g23,0,none⟩))),(11,(.bool y28))]∧Bs w A w' O'∧Vb w' (Fr 0 w' O') (.slice A21 x1.length c22) x1∧Lc 2 w' O' g23 26 [(.slice A10 x0.vars.length c11),(.slice A13 x0.init.length c14),(.slice A16 x0.goal.length c17),(.slice A19 x0.ops.length c20)]∧Vb w' (Fr 0 w' O') (.slice A10 x0.vars.length c11) x0.vars∧Vb w' (Fr 0 w' O') (.slice A13 x0.init.length c14) x0.init∧Vb w' (Fr 0 w' O') (.slice A16 x0.goal.length c17) x0.goal∧Vb w' (Fr 0 w' O') (.slice A19 x0.ops.length c20) x0.ops) ?_ ?_
 ·
  refine Ae (o_mv rfl rfl (o_ltS rfl rfl rfl (fun c32=>?_) fun c32=>?_))
  ·
   replace hy29:=ip hy29 c32
   refine o_mv rfl rfl (AB rfl rfl rfl rfl (AB rfl rfl rfl rfl (AB rfl rfl rfl rfl (AB rfl rfl rfl rfl (AB rfl rfl rfl rfl (o_pt rfl rfl rfl (o_as rfl rfl (o_z ?_))))))))
   obtain rfl:=sm hy29
   replace hB:=hB.st S26
   replace hx1:=hx1.st S26
   replace h9:=h9.st S26
   replace h12:=h12.st S26
   replace h15:=h15.st S26
   replace h18:=h18.st S26
   exact ⟨(),_,⟨rfl,rfl,rfl,rfl,trivial⟩,hB,hx1,h27,h9,h12,h15,h18⟩
  ·
   replace hy29:=im hy29 c32
   refine o_mv rfl rfl (AD rfl rfl (o_mv rfl rfl (AD rfl rfl (o_fa rfl rfl (AD rfl rfl (o_ld (hc:=Blk.cell (i:=3) (h27.1) rfl) rfl rfl ?_))))))
   refine AD rfl rfl (o_ln rfl rfl ?_)
   replace h18:=h18.st S26
   have l34:x0.ops.length≤9223372036854775807:=Nat.le_trans h18.len.2.1 h18.len.2.2
   have r33:inI64 (x0.ops.length:Int):=rngNat l34
   refine AD rfl rfl (o_geS rfl rfl rfl (fun c35=>?_) fun c35=>?_)
   ·
    replace hy29:=ip hy29 c35
    refine o_pf rfl rfl rfl (o_as rfl rfl (o_z ?_))
    obtain rfl:=sm hy29
    replace hB:=hB.st S26
    replace hx1:=hx1.st S26
    replace h9:=h9.st S26
    replace h12:=h12.st S26
    replace h15:=h15.st S26
    exact ⟨(),_,⟨rfl,rfl,rfl,rfl,trivial⟩,hB,hx1,h27,h9,h12,h15,h18⟩
   ·
    replace hy29:=im hy29 c35
    refine o_pf rfl rfl rfl (o_as rfl rfl (o_z ?_))
    obtain rfl:=sm hy29
    replace hB:=hB.st S26
    replace hx1:=hx1.st S26
    replace h9:=h9.st S26
    replace h12:=h12.st S26
    replace h15:=h15.st S26
    exact ⟨(),_,⟨rfl,rfl,rfl,rfl,trivial⟩,hB,hx1,h27,h9,h12,h15,h18⟩
 replace hB:=hB.st S26
 replace hx1:=hx1.st S26
 replace h9:=h9.st S26
 replace h12:=h12.st S26
 replace h15:=h15.st S26
 replace h18:=h18.st S26
 rintro l36 w37 ⟨x31,O38,hs39,hB,hx1,h27,h9,h12,h15,h18⟩
 refine AT _ hs39 ?_
 refine Cl rfl (fun c40=>?_) (fun c40=>?_)
 ·
  replace hm:=ip hm c40
  refine Ah (Ae (o_miE rfl rfl ?_))
  refine o_as rfl rfl (o_as rfl rfl (o_z ?_))
  refine Au ?_
  obtain rfl:=sm hm
  exact ret2 rfl (AF rfl) (AF rfl) ⟨hB.ext,_,_,rfl,(Vb.mono (F:=Fr 0 w37 O38) (Vb.nil _ _) hB.out),(vErr (by decide))⟩
 ·
  replace hm:=im' hm c40
  refine Ah (Ae (o_fa rfl rfl (o_ld (hc:=Blk.cell (i:=0) (h27.1) rfl) rfl rfl ?_)))
  refine o_mv rfl rfl ?_
  obtain ⟨q41,e42,hm⟩:=bs hm
  refine BG (O:=O38) (A:=All w37) (R:=fun w' F v=>Vb w' F v q41) (GM (fun _ h=>h) (Vb.mono (F:=Fr 0 w37 O38) h9 Fr.lt) (Vb.mono (F:=Fr 0 w37 O38) hx1 Fr.lt) e42) rfl rfl fun v47 w43 O44 S45 h46=>?_
  obtain rfl:=h46.bool
  cases q41
  case false =>
   replace hm:=iF hm
   refine o_nf rfl rfl (o_as rfl rfl (o_z ?_))
   refine Ar rfl (Ah (Ae (o_miE rfl rfl ?_)))
   refine o_as rfl rfl (o_as rfl rfl (o_z ?_))
   refine Au ?_
   obtain rfl:=sm hm
   replace hB:=hB.st S45
   exact ret2 rfl (AF rfl) (AF rfl) ⟨hB.ext,_,_,rfl,(Vb.mono (F:=Fr 0 w43 O44) (Vb.nil _ _) hB.out),(vErr (by decide))⟩
  replace hm:=iT hm
  refine o_nt rfl rfl (o_as rfl rfl (o_z ?_))
  refine Aj rfl (Ah (Ae (o_fa rfl rfl ?_)))
  replace h27:=h27.st S45
  refine o_ld (hc:=Blk.cell (i:=3) (h27.1) rfl) rfl rfl ?_
  refine o_mv rfl rfl ?_
  obtain ⟨a48,e49,hm⟩:=bs hm
  obtain ⟨p51,x50⟩:=AS e49
  replace h18:=h18.st S45
  obtain ⟨b52,o53,ce54,hA55,hl56,hd57,v59,v60,rfl,h61,h64,r67,z68⟩:=h18.elem' x50
  obtain ⟨A62,c63,rfl⟩:=h61.form
  obtain ⟨A65,c66,rfl⟩:=h64.form
  refine o_iaE (hA:=hA55) (hj:=(Int.toNat_of_nonneg p51).symm) (hlt:=hl56) rfl rfl rfl ?_
  refine o_fa rfl rfl (o_ld (hc:=cat2 hd57) rfl rfl ?_)
  refine o_mv rfl rfl ?_
  obtain ⟨q69,e70,hm⟩:=bs hm
  replace hx1:=hx1.st S45
  refine BG (O:=O44) (A:=All w43) (R:=fun w' F v=>Vb w' F v q69) (Dr (fun _ h=>h) (Vb.mono (F:=Fr 0 w43 O44) h61 Fr.lt) (Vb.mono (F:=Fr 0 w43 O44) hx1 Fr.lt) e70) rfl rfl fun v75 w71 O72 S73 h74=>?_
  obtain rfl:=h74.bool
  cases q69
  case false =>
   replace hm:=iF hm
   refine o_nf rfl rfl (o_as rfl rfl (o_z ?_))
   refine Ar rfl (Ah (Ae (o_miE rfl rfl ?_)))
   refine o_as rfl rfl (o_as rfl rfl (o_z ?_))
   refine Au ?_
   obtain rfl:=sm hm
   replace hB:=(hB.st S45).st S73
   exact ret2 rfl (AF rfl) (AF rfl) ⟨hB.ext,_,_,rfl,(Vb.mono (F:=Fr 0 w71 O72) (Vb.nil _ _) hB.out),(vErr (by decide))⟩
  replace hm:=iT hm
  refine o_nt rfl rfl (o_as rfl rfl (o_z ?_))
  refine Aj rfl (Am (Ah (Ae (o_mv rfl rfl ?_))))
  obtain ⟨q76,e77,hm⟩:=bs hm
  replace hx1:=hx1.st S73
  refine Fd 3 (by decide) (O:=O72) (Dd Fr.lt hx1 e77) rfl rfl fun A83 c84 w78 O79 S80 h81=>?_
  refine o_as rfl rfl (o_z ?_)
  refine Ah (Ah (Ae (o_fa rfl rfl ?_)))
  replace h27:=(h27.st S73).st S80
  refine o_ld (hc:=Blk.cell (i:=3) (h27.1) rfl) rfl rfl ?_
  refine o_mv rfl rfl ?_
  obtain ⟨a86,e87,hm⟩:=bs hm
  obtain ⟨p89,x88⟩:=AS e87
  replace h18:=(h18.st S73).st S80
  obtain ⟨b90,o91,ce92,hA93,hl94,hd95,v97,v98,rfl,h99,h102,r105,z106⟩:=h18.elem' x88
  obtain ⟨A100,c101,rfl⟩:=h99.form
  obtain ⟨A103,c104,rfl⟩:=h102.form
  refine o_iaE (hA:=hA93) (hj:=(Int.toNat_of_nonneg p89).symm) (hlt:=hl94) rfl rfl rfl ?_
  refine o_fa rfl rfl (o_ld (hc:=cat3 hd95) rfl rfl ?_)
  refine o_ln rfl rfl ?_
  have l108:a86.effs.length≤9223372036854775807:=Nat.le_trans h102.len.2.1 h102.len.2.2
  have r107:inI64 (a86.effs.length:Int):=rngNat l108
  refine o_mv rfl rfl (o_z ?_)
  obtain ⟨res109,hL110,hm⟩:=bs hm
  refine AN (aft res109 (fun (s111:(List Int)) (x112:Unit)=>[(8,(.slice A83 q76.length c84))]) (fun s111 x112 w'=>∃ O':Lab,Bs w A w' O'∧Rw 3 w' O' 3 (.slice A83 q76.length c84) s111)) ?_ ?_
  ·
   refine Al ?_
   replace hB:=((hB.st S45).st S73).st S80
   replace hx1:=hx1.st S80
   refine Ck (σ:=(List Int)) (X:=Unit) (a86.effs.length) hL110 rfl l108 (fun (s111:(List Int)) (x112:Unit)=>[(1,(.slice A21 x1.length c22)),(8,(.slice A83 q76.length c84)),(47,(.slice A103 a86.effs.length c104))]) _ (fun s111 x112 w'=>∃ O':Lab,Bs w A w' O'∧Vb w' (Fr 0 w' O') (.slice A21 x1.length c22) x1∧Rw 3 w' O' 3 (.slice A83 q76.length c84) s111∧Vb w' (Fr 0 w' O') (.slice A103 a86.effs.length c104) a86.effs) _ () ⟨O79,hB,hx1,h81,h102⟩ ⟨rfl,rfl,rfl,rfl,rfl,trivial⟩ (fun _ _=>⟨rfl,rfl⟩) (fun _ _=>⟨rfl,trivial⟩) (fun _ _ _ ⟨O',hB,hx1,h126,h102⟩=>⟨O',hB,h126⟩) ⟨rfl,rfl,rfl⟩ ⟨rfl,rfl⟩ ?_
   rintro k113 a114 s111 x112 w115 cc117 hx118 ⟨O116,hB,hx1,h126,h102⟩ hf119 hret120 hbrk121
   have rk113:inI64 (k113:Int):=rngK hx118 l108
   refine Ah (Ae ?_)
   obtain ⟨b128,o129,ce130,hA131,hl132,hd133,v135,rfl,h136,r139,r140⟩:=h102.elem' hx118
   obtain ⟨A137,c138,rfl⟩:=h136.form
   refine o_iaE (hA:=hA131) (hj:=rfl) (hlt:=hl132) rfl rfl rfl ?_
   refine o_la (hl:=rfl) (hc:=hd133) rfl rfl ?_
   refine Bz 4 O116 rfl fun g141 w142 O143 S144 h145=>?_
   refine AR h145 rfl rfl rfl (Nat.le_of_ble_eq_true rfl) (by first|exact allOne rfl|simp [Value.cells,Value.oneCell',AM]) fun w146 S147 h145=>?_
   replace h145:Lc 4 w146 O143 g141 59 [(.slice A137 a114.cond.length c138),(.int .i64 a114.var),(.int .i64 a114.val)]:=h145
   refine o_z ?_
   refine Ah (Ae (o_fa rfl rfl (o_ld (hc:=Blk.cell (i:=0) (h145.1) rfl) rfl rfl ?_)))
   refine o_mv rfl rfl ?_
   obtain ⟨q148,e149,hf119⟩:=bs hf119
   replace hx1:=(hx1.st S144).st S147
   replace h136:=(h136.st S144).st S147
   refine BG (O:=O143) (A:=All w146) (R:=fun w' F v=>Vb w' F v q148) (Dr (fun _ h=>h) (Vb.mono (F:=Fr 0 w146 O143) h136 Fr.lt) (Vb.mono (F:=Fr 0 w146 O143) hx1 Fr.lt) e149) rfl rfl fun v154 w150 O151 S152 h153=>?_
   obtain rfl:=h153.bool
   cases q148
   case false =>
    replace hf119:=iF hf119
    refine o_z ?_
    refine Aj rfl (Am ?_)
    obtain rfl:=sm hf119
    refine (?_:Exists _)
    replace hB:=((hB.st S144).st S147).st S152
    replace hx1:=hx1.st S152
    replace h102:=((h102.st S144).st S147).st S152
    replace h126:=((h126.st S144).st S147).st S152
    exact ⟨_,(),rfl,⟨rfl,rfl,rfl,rfl,rfl,trivial⟩,_,hB,hx1,h126,h102⟩
   replace hf119:=iT hf119
   refine o_z ?_
   refine Ar rfl (Ae (o_mv rfl rfl (o_fa rfl rfl ?_)))
   replace h145:=h145.st S152
   refine o_ld (hc:=Blk.cell (i:=1) (h145.1) rfl) rfl rfl ?_
   refine o_fa rfl rfl (o_ld (hc:=Blk.cell (i:=2) (h145.1) rfl) rfl rfl ?_)
   obtain ⟨a155,e156,hf119⟩:=bs hf119
   obtain ⟨p158,x157⟩:=AS e156
   replace h126:=((h126.st S144).st S147).st S152
   obtain ⟨b159,o160,ce161,hA162,hl163,hd164,rfl,r166⟩:=h126.elem x157
   refine o_iaE (hA:=hA162) (hj:=(Int.toNat_of_nonneg p158).symm) (hlt:=hl163) rfl rfl rfl ?_
   refine DI rfl h126 (a:=a114.val) (vInt r140) hA162 rfl rfl (AJ x157) fun w167 S168 h126=>?_
   refine o_z ?_
   obtain rfl:=sm hf119
   refine (?_:Exists _)
   replace hB:=(((hB.st S144).st S147).st S152).st S168
   replace hx1:=(hx1.st S152).st S168
   replace h102:=(((h102.st S144).st S147).st S152).st S168
   exact ⟨_,(),rfl,⟨rfl,rfl,rfl,rfl,rfl,trivial⟩,_,hB,hx1,h126,h102⟩
  replace hB:=((hB.st S45).st S73).st S80
  rintro l169 w170 ⟨s173,x174,rfl,hs172,O171,hB,h126⟩
  replace hm:=Bj hm
  refine AT _ hs172 ?_
  refine Ah (Ae (o_mv rfl rfl (o_as rfl rfl (o_as rfl rfl (o_z ?_)))))
  refine Au ?_
  obtain ⟨O175,S176,h126⟩:=h126.freeze
  obtain rfl:=sm hm
  replace hB:=hB.st S176
  exact ret2 rfl (AF rfl) (AF rfl) ⟨hB.ext,_,_,rfl,(Vb.mono (F:=Fr 0 w170 O175) h126 hB.out),(vErr (show inI64 0 from by decide))⟩
end
section
open Go Go.RowKit
attribute [local irreducible] ewp owp hwp hwq hws Ev Evg Fn retPost loud loudS Res1
def exts (n:Nat) (s:List Int):List (List Int):=(List.range n).map fun x:Nat=>s ++ [(x:Int)]
def grows (out:List (List Int)) (k:Int):List (List Int):=out.flatMap (exts k.toNat)
def statesL (vars:List Int):List (List Int):=vars.foldl grows [[]]
theorem LC (n:Nat) (s:List Int):(exts n s).length=n:=by simp [exts]
theorem IQ (n:Nat):∀ l:List (List Int),(l.flatMap (exts n)).length=l.length * n
  | []=>by simp
  | s :: l=>by rw [List.flatMap_cons,List.length_append,LC,IQ n l,List.length_cons,Nat.add_mul];omega
end
section
open Go Go.RowKit
def prodV:List Int→Nat→Nat
  | [],n=>n
  | k :: r,n=>prodV r (n * k.toNat)
theorem FO:∀ (vars:List Int) (out:List (List Int)),(vars.foldl grows out).length=prodV vars out.length
  | [],_=>rfl
  | k :: r,out=>by
    simp only [List.foldl_cons,prodV]
    rw [FO r,grows,IQ]
theorem JS (vars:List Int):(statesL vars).length=prodV vars 1:=FO vars [[]]
theorem IR {most:Nat}:∀ (vars:List Int) (n:Nat),(∀ x∈vars,1≤x)→1≤n→manyF most vars (n:Int)≤most→∀ k,prodV (vars.take k) n≤most
  | [],n,_,_,h,k=>by simp only [List.take_nil,prodV];simp only [manyF] at h;omega
  | x :: r,n,hx,hn,h,k=>by
    have h1:1≤x:=hx x List.mem_cons_self
    simp only [manyF] at h
    have hmax:max x 0=x:=by omega
    rw [hmax] at h
    obtain ⟨m,rfl⟩:∃ m:Nat,x=(m:Int):=⟨x.toNat,by omega⟩
    by_cases hm:(m:Int)≤most
    · rw [show min (m:Int) (most + 1)=(m:Int) from by omega,← Int.natCast_mul] at h
      have hnm:n≤n * m:=Nat.le_mul_of_pos_right n (by omega)
      by_cases hc:(most:Int) < ((n * m:Nat):Int)
      · rw [if_pos hc] at h;omega
      · rw [if_neg hc] at h
        cases k with
        | zero=>simp only [List.take_zero,prodV];omega
        | succ k =>
          simp only [List.take_succ_cons,prodV,Int.toNat_natCast]
          exact IR r (n * m) (fun y hy=>hx y (List.mem_cons_of_mem _ hy)) (by omega) h k
    · exfalso
      rw [show min (m:Int) (most + 1)=((most + 1:Nat):Int) from by omega,← Int.natCast_mul] at h
      have:most + 1≤n * (most + 1):=Nat.le_mul_of_pos_left _ hn
      rw [if_pos (by omega)] at h
      omega
theorem Hf {y x:Int} {vs s:List Int}:StateOk (y :: vs) (x :: s)↔(0≤x∧x < y)∧StateOk vs s:=by
  constructor
  · intro h
    exact ⟨h.2 0 x y rfl rfl,by have:=h.1;simpa using this,fun i a b ha hb=>h.2 (i + 1) a b (by simpa using ha) (by simpa using hb)⟩
  · rintro ⟨h1,h2,h3⟩
    refine ⟨by simpa using h2,fun i a b ha hb=>?_⟩
    cases i with
    | zero=>simp at ha hb;subst ha;subst hb;exact h1
    | succ i=>exact h3 i a b (by simpa using ha) (by simpa using hb)
theorem JT:StateOk [] []:=⟨rfl,fun i a b ha=>by simp at ha⟩
theorem Ju {n:Nat} {s t:List Int}:t∈exts n s↔∃ x:Nat,x < n∧t=s ++ [(x:Int)]:=by
  unfold exts
  rw [List.mem_map]
  constructor
  · rintro ⟨x,hx,rfl⟩;exact ⟨x,List.mem_range.1 hx,rfl⟩
  · rintro ⟨x,hx,rfl⟩;exact ⟨x,List.mem_range.2 hx,rfl⟩
theorem FP:∀ (vars:List Int) (out:List (List Int)) (s:List Int),s∈vars.foldl grows out↔∃ s0∈out,∃ r,s=s0 ++ r∧StateOk vars r
  | [],out,s=>by
    constructor
    · intro h;exact ⟨s,h,[],by simp,JT⟩
    · rintro ⟨s0,h,r,rfl,hr⟩
      have:r=[]:=List.eq_nil_of_length_eq_zero hr.1
      subst this;simpa using h
  | k :: vs,out,s=>by
    simp only [List.foldl_cons]
    rw [FP vs (grows out k) s]
    constructor
    · rintro ⟨s1,h1,r,rfl,hr⟩
      obtain ⟨s0,h0,h2⟩:=List.mem_flatMap.1 h1
      obtain ⟨x,hx,rfl⟩:=Ju.1 h2
      exact ⟨s0,h0,(x:Int) :: r,by simp,Hf.2 ⟨⟨by omega,by omega⟩,hr⟩⟩
    · rintro ⟨s0,h0,r,rfl,hr⟩
      cases r with
      | nil=>have:=hr.1;simp at this
      | cons x r =>
        obtain ⟨⟨h1,h2⟩,h3⟩:=Hf.1 hr
        exact ⟨s0 ++ [x],List.mem_flatMap.2 ⟨s0,h0,Ju.2 ⟨x.toNat,by omega,by rw [show ((x.toNat:Nat):Int)=x from by omega]⟩⟩,r,by simp,h3⟩
theorem EV {vars s:List Int}:s∈statesL vars↔StateOk vars s:=by
  unfold statesL
  rw [FP]
  constructor
  · rintro ⟨s0,h0,r,rfl,hr⟩
    have:s0=[]:=by simpa using h0
    subst this;exact hr
  · intro h;exact ⟨[],by simp,s,rfl,h⟩
theorem SmallOk.ok {t:Tsk} (h:SmallOk t):TaskOk t:=h.2.2.2.1
theorem SmallOk.states {t:Tsk} (h:SmallOk t):∀ k,(statesL (t.vars.take k)).length≤512:=fun k=>by
  rw [JS]
  refine IR (most:=512) t.vars 1 (fun x hx=>?_) (Nat.le_refl _) h.2.2.2.2 k
  obtain ⟨i,hi,rfl⟩:=List.getElem_of_mem hx
  exact (h.ok.vars i _ (List.getElem?_eq_getElem hi)).1
theorem SmallOk.many {t:Tsk} (h:SmallOk t):(statesL t.vars).length≤512:=by
  have:=h.states t.vars.length
  rwa [List.take_length] at this
end
section
open Go Go.RowKit
attribute [local irreducible] ewp owp hwp hwq hws Ev Evg Fn retPost loud loudS Res1
noncomputable def DU (x0:Tsk) (x1:List Int) (x2:Int):Option ((List Int)×Bool) :=
  bnd (if x2 < 0 then (some true) else (if (x0.ops.length:Int)≤x2 then (some true) else (bnd (atI x0.ops x2) fun a36=>bnd (Dq a36.pre x1) fun q57=>if q57=true then some false else some true)):Option Bool) fun y28=>if y28=true then (some (([]:List Int),false)) else (bnd (appI 8 ([]:List Int) x1) fun u75=>bnd (atI x0.ops x2) fun a86=>bnd (rng (ρ:=(List Int)×Bool) (fun (k113:Nat) (a114:Eff) (s111:(List Int))=>bnd (Dq a114.cond x1) fun q148=>if q148=true then bnd (atI s111 a114.var) fun a155=>some (.next (s111.set (a114.var:Int).toNat a114.val)) else some (.next s111)) a86.effs 0 u75) fun res109=>fin res109 fun (s173:(List Int))=>some (s173,true))
theorem Jv {w:World} {A:Nat→Prop} (hA:∀ k,A k→k < w.heap.size) {vx0:Value} {x0:Tsk} (hx0:Vb w A vx0 x0) {vx1:Value} {x1:List Int} (hx1:Vb w A vx1 x1) {x2:Int} (rx2:inI64 x2) {r:(List Int)×Bool} (hm:DU x0 x1 x2=some r) :
    Fn Try.prog 19 [vx0,vx1,(.int .i64 x2)] w fun v w'=>Ext w w'∧T2 w' (upA A w w') v r:=by
 obtain ⟨O,hB,hA0⟩:=enter hA
 replace hx0:=hx0.mono hA0
 obtain ⟨cs4,rfl,v5,v6,v7,v8,rfl,h9,h12,h15,h18⟩:=hx0
 obtain ⟨A10,c11,rfl⟩:=h9.form
 obtain ⟨A13,c14,rfl⟩:=h12.form
 obtain ⟨A16,c17,rfl⟩:=h15.form
 obtain ⟨A19,c20,rfl⟩:=h18.form
 replace hx1:=hx1.mono hA0
 obtain ⟨A21,c22,rfl⟩:=hx1.form
 refine AL Try.func19 rfl Try.ntmps19 rfl ?_
 unfold DU at hm
 refine Ah (Ae (l_box 2 O rfl rfl fun g23 w24 O25 S26 h27=>?_))
 replace h27:Lc 2 w24 O25 g23 26 [(.slice A10 x0.vars.length c11),(.slice A13 x0.init.length c14),(.slice A16 x0.goal.length c17),(.slice A19 x0.ops.length c20)]:=h27
 refine o_as rfl rfl (o_as rfl rfl (o_z ?_))
 refine Ah (Ah ?_)
 obtain ⟨y28,hy29,hm⟩:=bs hm
 refine AN (fun l' w'=>∃ (x31:Unit) (O':Lab),subs l' [(1,(.slice A21 x1.length c22)),(2,(.int .i64 x2)),(3,(.pointer (some ⟨g23,0,none⟩))),(30,(.bool y28))]∧Bs w A w' O'∧Vb w' (Fr 0 w' O') (.slice A21 x1.length c22) x1∧Lc 2 w' O' g23 26 [(.slice A10 x0.vars.length c11),(.slice A13 x0.init.length c14),(.slice A16 x0.goal.length c17),(.slice A19 x0.ops.length c20)]∧Vb w' (Fr 0 w' O') (.slice A10 x0.vars.length c11) x0.vars∧Vb w' (Fr 0 w' O') (.slice A13 x0.init.length c14) x0.init∧Vb w' (Fr 0 w' O') (.slice A16 x0.goal.length c17) x0.goal∧Vb w' (Fr 0 w' O') (.slice A19 x0.ops.length c20) x0.ops) ?_ ?_
 ·
  refine Ae (o_mv rfl rfl (o_ltS rfl rfl rfl (fun c32=>?_) fun c32=>?_))
  ·
   replace hy29:=ip hy29 c32
   refine o_mv rfl rfl (AB rfl rfl rfl rfl (AB rfl rfl rfl rfl (AB rfl rfl rfl rfl (AB rfl rfl rfl rfl (AB rfl rfl rfl rfl (o_pt rfl rfl rfl (o_mv rfl rfl (AB rfl rfl rfl rfl (AB rfl rfl rfl rfl (AB rfl rfl rfl rfl (AB rfl rfl rfl rfl (AB rfl rfl rfl rfl (AB rfl rfl rfl rfl (AB rfl rfl rfl rfl ?_))))))))))))))
   refine AB rfl rfl rfl rfl (AB rfl rfl rfl rfl (o_pt rfl rfl rfl (o_z ?_)))
   obtain rfl:=sm hy29
   replace hB:=hB.st S26
   replace hx1:=hx1.st S26
   replace h9:=h9.st S26
   replace h12:=h12.st S26
   replace h15:=h15.st S26
   replace h18:=h18.st S26
   exact ⟨(),_,⟨rfl,rfl,rfl,rfl,trivial⟩,hB,hx1,h27,h9,h12,h15,h18⟩
  ·
   replace hy29:=im hy29 c32
   refine o_mv rfl rfl (AD rfl rfl (o_mv rfl rfl (AD rfl rfl (o_fa rfl rfl (AD rfl rfl (o_ld (hc:=Blk.cell (i:=3) (h27.1) rfl) rfl rfl ?_))))))
   refine AD rfl rfl (o_ln rfl rfl ?_)
   replace h18:=h18.st S26
   have l34:x0.ops.length≤9223372036854775807:=Nat.le_trans h18.len.2.1 h18.len.2.2
   have r33:inI64 (x0.ops.length:Int):=rngNat l34
   refine AD rfl rfl (o_geS rfl rfl rfl (fun c35=>?_) fun c35=>?_)
   ·
    replace hy29:=ip hy29 c35
    refine o_pf rfl rfl rfl (o_mv rfl rfl (AB rfl rfl rfl rfl (AB rfl rfl rfl rfl (AB rfl rfl rfl rfl (AB rfl rfl rfl rfl (AB rfl rfl rfl rfl (AB rfl rfl rfl rfl (AB rfl rfl rfl rfl (AB rfl rfl rfl rfl (AB rfl rfl rfl rfl (o_pt rfl rfl rfl (o_z ?_))))))))))))
    obtain rfl:=sm hy29
    replace hB:=hB.st S26
    replace hx1:=hx1.st S26
    replace h9:=h9.st S26
    replace h12:=h12.st S26
    replace h15:=h15.st S26
    exact ⟨(),_,⟨rfl,rfl,rfl,rfl,trivial⟩,hB,hx1,h27,h9,h12,h15,h18⟩
   ·
    replace hy29:=im hy29 c35
    refine o_pf rfl rfl rfl (o_mv rfl rfl (AD rfl rfl (o_fa rfl rfl (AD rfl rfl (o_ld (hc:=Blk.cell (i:=3) (h27.1) rfl) rfl rfl ?_)))))
    refine AD rfl rfl (o_mv rfl rfl (AD rfl rfl ?_))
    obtain ⟨a36,e37,hy29⟩:=bs hy29
    obtain ⟨p39,x38⟩:=AS e37
    obtain ⟨b40,o41,ce42,hA43,hl44,hd45,v47,v48,rfl,h49,h52,r55,z56⟩:=h18.elem' x38
    obtain ⟨A50,c51,rfl⟩:=h49.form
    obtain ⟨A53,c54,rfl⟩:=h52.form
    refine o_iaE (hA:=hA43) (hj:=(Int.toNat_of_nonneg p39).symm) (hlt:=hl44) rfl rfl rfl ?_
    refine AD rfl rfl (o_fa rfl rfl (AD rfl rfl (o_ld (hc:=cat2 hd45) rfl rfl ?_)))
    refine AD rfl rfl (o_mv rfl rfl (AD rfl rfl ?_))
    obtain ⟨q57,e58,hy29⟩:=bs hy29
    replace hx1:=hx1.st S26
    refine BG (O:=O25) (A:=All w24) (R:=fun w' F v=>Vb w' F v q57) (FB (fun _ h=>h) (Vb.mono (F:=Fr 0 w24 O25) h49 Fr.lt) (Vb.mono (F:=Fr 0 w24 O25) hx1 Fr.lt) e58) rfl rfl fun v63 w59 O60 S61 h62=>?_
    obtain rfl:=h62.bool
    cases q57
    case false =>
     replace hy29:=iF hy29
     refine AD rfl rfl (o_nf rfl rfl (o_pf rfl rfl rfl (o_z ?_)))
     obtain rfl:=sm hy29
     replace hB:=(hB.st S26).st S61
     replace hx1:=hx1.st S61
     replace h9:=(h9.st S26).st S61
     replace h12:=(h12.st S26).st S61
     replace h15:=(h15.st S26).st S61
     replace h18:=h18.st S61
     replace h27:=h27.st S61
     exact ⟨(),_,⟨rfl,rfl,rfl,rfl,trivial⟩,hB,hx1,h27,h9,h12,h15,h18⟩
    replace hy29:=iT hy29
    refine AD rfl rfl (o_nt rfl rfl (o_pf rfl rfl rfl (o_z ?_)))
    obtain rfl:=sm hy29
    replace hB:=(hB.st S26).st S61
    replace hx1:=hx1.st S61
    replace h9:=(h9.st S26).st S61
    replace h12:=(h12.st S26).st S61
    replace h15:=(h15.st S26).st S61
    replace h18:=h18.st S61
    replace h27:=h27.st S61
    exact ⟨(),_,⟨rfl,rfl,rfl,rfl,trivial⟩,hB,hx1,h27,h9,h12,h15,h18⟩
 replace hB:=hB.st S26
 replace hx1:=hx1.st S26
 replace h9:=h9.st S26
 replace h12:=h12.st S26
 replace h15:=h15.st S26
 replace h18:=h18.st S26
 rintro l64 w65 ⟨x31,O66,hs67,hB,hx1,h27,h9,h12,h15,h18⟩
 refine AT _ hs67 ?_
 refine Cl rfl (fun c68=>?_) (fun c68=>?_)
 ·
  replace hm:=ip hm c68
  refine Ah (Ae (o_as rfl rfl (o_as rfl rfl (o_z ?_))))
  refine Au ?_
  obtain rfl:=sm hm
  exact ret2 rfl (AF rfl) (AF rfl) ⟨hB.ext,_,_,rfl,(Vb.mono (F:=Fr 0 w65 O66) (Vb.nil _ _) hB.out),vBool⟩
 ·
  replace hm:=im' hm c68
  refine Am (Ah (Ae (Ch 3 (by decide) O66 (xs:=(([]:List Int):List Int)) rfl rfl rfl rfl trivial (by decide) (by decide) rfl fun g69 w70 O71 S72 h73=>?_)))
  refine o_mv rfl rfl ?_
  obtain ⟨u75,e76,hm⟩:=bs hm
  obtain ⟨e76,e77,e78⟩:=Cx e76
  replace hx1:=hx1.st S72
  refine Es rfl h73 (hx1.rd) rfl rfl (by decide) e77 e78 rfl fun A79 c80 w81 O82 S83 h84=>?_
  rw [← e76] at h84 ⊢
  refine o_as rfl rfl (o_z ?_)
  refine Ah (Ah (Ae (o_fa rfl rfl ?_)))
  replace h27:=(h27.st S72).st S83
  refine o_ld (hc:=Blk.cell (i:=3) (h27.1) rfl) rfl rfl ?_
  refine o_mv rfl rfl ?_
  obtain ⟨a86,e87,hm⟩:=bs hm
  obtain ⟨p89,x88⟩:=AS e87
  replace h18:=(h18.st S72).st S83
  obtain ⟨b90,o91,ce92,hA93,hl94,hd95,v97,v98,rfl,h99,h102,r105,z106⟩:=h18.elem' x88
  obtain ⟨A100,c101,rfl⟩:=h99.form
  obtain ⟨A103,c104,rfl⟩:=h102.form
  refine o_iaE (hA:=hA93) (hj:=(Int.toNat_of_nonneg p89).symm) (hlt:=hl94) rfl rfl rfl ?_
  refine o_fa rfl rfl (o_ld (hc:=cat3 hd95) rfl rfl ?_)
  refine o_ln rfl rfl ?_
  have l108:a86.effs.length≤9223372036854775807:=Nat.le_trans h102.len.2.1 h102.len.2.2
  have r107:inI64 (a86.effs.length:Int):=rngNat l108
  refine o_mv rfl rfl (o_z ?_)
  obtain ⟨res109,hL110,hm⟩:=bs hm
  refine AN (aft res109 (fun (s111:(List Int)) (x112:Unit)=>[(8,(.slice A79 u75.length c80))]) (fun s111 x112 w'=>∃ O':Lab,Bs w A w' O'∧Rw 3 w' O' 3 (.slice A79 u75.length c80) s111)) ?_ ?_
  ·
   refine Al ?_
   replace hB:=(hB.st S72).st S83
   replace hx1:=hx1.st S83
   refine Ck (σ:=(List Int)) (X:=Unit) (a86.effs.length) hL110 rfl l108 (fun (s111:(List Int)) (x112:Unit)=>[(1,(.slice A21 x1.length c22)),(8,(.slice A79 u75.length c80)),(39,(.slice A103 a86.effs.length c104))]) _ (fun s111 x112 w'=>∃ O':Lab,Bs w A w' O'∧Vb w' (Fr 0 w' O') (.slice A21 x1.length c22) x1∧Rw 3 w' O' 3 (.slice A79 u75.length c80) s111∧Vb w' (Fr 0 w' O') (.slice A103 a86.effs.length c104) a86.effs) _ () ⟨O82,hB,hx1,h84,h102⟩ ⟨rfl,rfl,rfl,rfl,rfl,trivial⟩ (fun _ _=>⟨rfl,rfl⟩) (fun _ _=>⟨rfl,trivial⟩) (fun _ _ _ ⟨O',hB,hx1,h126,h102⟩=>⟨O',hB,h126⟩) ⟨rfl,rfl,rfl⟩ ⟨rfl,rfl⟩ ?_
   rintro k113 a114 s111 x112 w115 cc117 hx118 ⟨O116,hB,hx1,h126,h102⟩ hf119 hret120 hbrk121
   have rk113:inI64 (k113:Int):=rngK hx118 l108
   refine Ah (Ae ?_)
   obtain ⟨b128,o129,ce130,hA131,hl132,hd133,v135,rfl,h136,r139,r140⟩:=h102.elem' hx118
   obtain ⟨A137,c138,rfl⟩:=h136.form
   refine o_iaE (hA:=hA131) (hj:=rfl) (hlt:=hl132) rfl rfl rfl ?_
   refine o_la (hl:=rfl) (hc:=hd133) rfl rfl ?_
   refine Bz 4 O116 rfl fun g141 w142 O143 S144 h145=>?_
   refine AR h145 rfl rfl rfl (Nat.le_of_ble_eq_true rfl) (by first|exact allOne rfl|simp [Value.cells,Value.oneCell',AM]) fun w146 S147 h145=>?_
   replace h145:Lc 4 w146 O143 g141 59 [(.slice A137 a114.cond.length c138),(.int .i64 a114.var),(.int .i64 a114.val)]:=h145
   refine o_z ?_
   refine Ah (Ae (o_fa rfl rfl (o_ld (hc:=Blk.cell (i:=0) (h145.1) rfl) rfl rfl ?_)))
   refine o_mv rfl rfl ?_
   obtain ⟨q148,e149,hf119⟩:=bs hf119
   replace hx1:=(hx1.st S144).st S147
   replace h136:=(h136.st S144).st S147
   refine BG (O:=O143) (A:=All w146) (R:=fun w' F v=>Vb w' F v q148) (FB (fun _ h=>h) (Vb.mono (F:=Fr 0 w146 O143) h136 Fr.lt) (Vb.mono (F:=Fr 0 w146 O143) hx1 Fr.lt) e149) rfl rfl fun v154 w150 O151 S152 h153=>?_
   obtain rfl:=h153.bool
   cases q148
   case false =>
    replace hf119:=iF hf119
    refine o_z ?_
    refine Aj rfl (Am ?_)
    obtain rfl:=sm hf119
    refine (?_:Exists _)
    replace hB:=((hB.st S144).st S147).st S152
    replace hx1:=hx1.st S152
    replace h102:=((h102.st S144).st S147).st S152
    replace h126:=((h126.st S144).st S147).st S152
    exact ⟨_,(),rfl,⟨rfl,rfl,rfl,rfl,rfl,trivial⟩,_,hB,hx1,h126,h102⟩
   replace hf119:=iT hf119
   refine o_z ?_
   refine Ar rfl (Ae (o_mv rfl rfl (o_fa rfl rfl ?_)))
   replace h145:=h145.st S152
   refine o_ld (hc:=Blk.cell (i:=1) (h145.1) rfl) rfl rfl ?_
   refine o_fa rfl rfl (o_ld (hc:=Blk.cell (i:=2) (h145.1) rfl) rfl rfl ?_)
   obtain ⟨a155,e156,hf119⟩:=bs hf119
   obtain ⟨p158,x157⟩:=AS e156
   replace h126:=((h126.st S144).st S147).st S152
   obtain ⟨b159,o160,ce161,hA162,hl163,hd164,rfl,r166⟩:=h126.elem x157
   refine o_iaE (hA:=hA162) (hj:=(Int.toNat_of_nonneg p158).symm) (hlt:=hl163) rfl rfl rfl ?_
   refine DI rfl h126 (a:=a114.val) (vInt r140) hA162 rfl rfl (AJ x157) fun w167 S168 h126=>?_
   refine o_z ?_
   obtain rfl:=sm hf119
   refine (?_:Exists _)
   replace hB:=(((hB.st S144).st S147).st S152).st S168
   replace hx1:=(hx1.st S152).st S168
   replace h102:=(((h102.st S144).st S147).st S152).st S168
   exact ⟨_,(),rfl,⟨rfl,rfl,rfl,rfl,rfl,trivial⟩,_,hB,hx1,h126,h102⟩
  replace hB:=(hB.st S72).st S83
  rintro l169 w170 ⟨s173,x174,rfl,hs172,O171,hB,h126⟩
  replace hm:=Bj hm
  refine AT _ hs172 ?_
  refine Ah (Ae (o_mv rfl rfl (o_as rfl rfl (o_as rfl rfl (o_z ?_)))))
  refine Au ?_
  obtain ⟨O175,S176,h126⟩:=h126.freeze
  obtain rfl:=sm hm
  replace hB:=hB.st S176
  exact ret2 rfl (AF rfl) (AF rfl) ⟨hB.ext,_,_,rfl,(Vb.mono (F:=Fr 0 w170 O175) h126 hB.out),vBool⟩
noncomputable def Em (x0:Tsk) (x1:List Int) (x2:List Int):Option (Int×Bool) :=
  bnd (rng (ρ:=Int×Bool) (fun (k36:Nat) (a37:Int) (s34:(List Int)×Int)=>bnd (DU x0 s34.1 a37) fun q59=>if (!q59.2)=true then (some (.ret (0,false))) else (bnd (atI x0.ops a37) fun a73=>bnd (chkI (s34.2 + a73.cost)) fun n94=>some (.next (q59.1,n94)))) x2 0 (x1,0)) fun res32=>fin res32 fun (s101:(List Int)×Int)=>bnd (bnd (Dq x0.goal s101.1) fun q107=>if q107=true then some true else some false:Option Bool) fun y103=>some (s101.2,y103)
theorem JU {w:World} {A:Nat→Prop} (hA:∀ k,A k→k < w.heap.size) {vx0:Value} {x0:Tsk} (hx0:Vb w A vx0 x0) {vx1:Value} {x1:List Int} (hx1:Vb w A vx1 x1) {vx2:Value} {x2:List Int} (hx2:Vb w A vx2 x2) {r:Int×Bool} (hm:Em x0 x1 x2=some r) :
    Fn Try.prog 18 [vx0,vx1,vx2] w fun v w'=>Ext w w'∧T2 w' (upA A w w') v r:=by
 obtain ⟨O,hB,hA0⟩:=enter hA
 replace hx0:=hx0.mono hA0
 obtain ⟨cs4,rfl,v5,v6,v7,v8,rfl,h9,h12,h15,h18⟩:=hx0
 obtain ⟨A10,c11,rfl⟩:=h9.form
 obtain ⟨A13,c14,rfl⟩:=h12.form
 obtain ⟨A16,c17,rfl⟩:=h15.form
 obtain ⟨A19,c20,rfl⟩:=h18.form
 replace hx1:=hx1.mono hA0
 obtain ⟨A21,c22,rfl⟩:=hx1.form
 replace hx2:=hx2.mono hA0
 obtain ⟨A23,c24,rfl⟩:=hx2.form
 refine AL Try.func18 rfl Try.ntmps18 rfl ?_
 unfold Em at hm
 refine Ah (Ae (l_box 2 O rfl rfl fun g25 w26 O27 S28 h29=>?_))
 replace h29:Lc 2 w26 O27 g25 26 [(.slice A10 x0.vars.length c11),(.slice A13 x0.init.length c14),(.slice A16 x0.goal.length c17),(.slice A19 x0.ops.length c20)]:=h29
 refine o_as rfl rfl (o_as rfl rfl (o_z ?_))
 refine Ah (Ae (o_as rfl rfl (o_z ?_)))
 refine Ah (Ah (Ae (o_mv rfl rfl (o_ln rfl rfl ?_))))
 replace hx2:=hx2.st S28
 have l31:x2.length≤9223372036854775807:=Nat.le_trans hx2.len.2.1 hx2.len.2.2
 have r30:inI64 (x2.length:Int):=rngNat l31
 refine o_mv rfl rfl (o_z ?_)
 obtain ⟨res32,hL33,hm⟩:=bs hm
 refine AN (aft res32 (fun (s34:(List Int)×Int) (x35:(Option Addr×Nat))=>[(1,(.slice x35.1 s34.1.length x35.2)),(3,(.pointer (some ⟨g25,0,none⟩))),(8,(.int .i64 s34.2))]) (fun s34 x35 w'=>∃ O':Lab,Bs w A w' O'∧Vb w' (Fr 0 w' O') (.slice x35.1 s34.1.length x35.2) s34.1∧Lc 2 w' O' g25 26 [(.slice A10 x0.vars.length c11),(.slice A13 x0.init.length c14),(.slice A16 x0.goal.length c17),(.slice A19 x0.ops.length c20)]∧Vb w' (Fr 0 w' O') (.slice A10 x0.vars.length c11) x0.vars∧Vb w' (Fr 0 w' O') (.slice A13 x0.init.length c14) x0.init∧Vb w' (Fr 0 w' O') (.slice A16 x0.goal.length c17) x0.goal∧Vb w' (Fr 0 w' O') (.slice A19 x0.ops.length c20) x0.ops∧inI64 s34.2)) ?_ ?_
 ·
  refine Al ?_
  replace hB:=hB.st S28
  replace hx1:=hx1.st S28
  replace h9:=h9.st S28
  replace h12:=h12.st S28
  replace h15:=h15.st S28
  replace h18:=h18.st S28
  refine Ck (σ:=(List Int)×Int) (X:=(Option Addr×Nat)) (x2.length) hL33 rfl l31 (fun (s34:(List Int)×Int) (x35:(Option Addr×Nat))=>[(1,(.slice x35.1 s34.1.length x35.2)),(3,(.pointer (some ⟨g25,0,none⟩))),(8,(.int .i64 s34.2)),(13,(.slice A23 x2.length c24))]) _ (fun s34 x35 w'=>∃ O':Lab,Bs w A w' O'∧Vb w' (Fr 0 w' O') (.slice x35.1 s34.1.length x35.2) s34.1∧Lc 2 w' O' g25 26 [(.slice A10 x0.vars.length c11),(.slice A13 x0.init.length c14),(.slice A16 x0.goal.length c17),(.slice A19 x0.ops.length c20)]∧Vb w' (Fr 0 w' O') (.slice A10 x0.vars.length c11) x0.vars∧Vb w' (Fr 0 w' O') (.slice A13 x0.init.length c14) x0.init∧Vb w' (Fr 0 w' O') (.slice A16 x0.goal.length c17) x0.goal∧Vb w' (Fr 0 w' O') (.slice A19 x0.ops.length c20) x0.ops∧Vb w' (Fr 0 w' O') (.slice A23 x2.length c24) x2∧inI64 s34.2) _ (A21,c22) ⟨O27,hB,hx1,h29,h9,h12,h15,h18,hx2,(show inI64 (0) from by decide)⟩ ⟨rfl,rfl,rfl,rfl,rfl,rfl,trivial⟩ (fun _ _=>⟨rfl,rfl⟩) (fun _ _=>⟨rfl,rfl,rfl,trivial⟩) (fun _ _ _ ⟨O',hB,h49,h29,h9,h12,h15,h18,hx2,r50⟩=>⟨O',hB,h49,h29,h9,h12,h15,h18,r50⟩) ⟨rfl,rfl,rfl⟩ ⟨rfl,rfl⟩ ?_
  rintro k36 a37 s34 x35 w38 cc40 hx41 ⟨O39,hB,h49,h29,h9,h12,h15,h18,hx2,r50⟩ hf42 hret43 hbrk44
  have rk36:inI64 (k36:Int):=rngK hx41 l31
  refine Ah (Ae ?_)
  obtain ⟨b51,o52,ce53,hA54,hl55,hd56,rfl,r58⟩:=hx2.elem' hx41
  refine o_iaE (hA:=hA54) (hj:=rfl) (hlt:=hl55) rfl rfl rfl ?_
  refine o_ld (hc:=cat0 hd56) rfl rfl ?_
  refine o_as rfl rfl (o_z ?_)
  refine Ah (Ae (o_la (hl:=rfl) (hc:=(h29.1).cellsAt) rfl rfl ?_))
  refine o_mv rfl rfl (o_mv rfl rfl ?_)
  obtain ⟨q59,e60,hf42⟩:=bs hf42
  refine Cr (O:=O39) (R:=fun w' F v=>T2 w' F v q59) (Jv Fr.lt (Vb.ofAgg (cs:=[(.slice A10 x0.vars.length c11),(.slice A13 x0.init.length c14),(.slice A16 x0.goal.length c17),(.slice A19 x0.ops.length c20)]) (x:=x0) rfl ⟨_,_,_,_,rfl,h9,h12,h15,h18⟩) h49 r58 e60) rfl rfl fun v65 w61 O62 S63 h64=>?_
  obtain ⟨v66,v67,rfl,h68,h69⟩:=h64
  obtain ⟨A70,c71,rfl⟩:=h68.form
  obtain rfl:=h69.bool
  refine o_mv rfl rfl (o_ex rfl rfl rfl (o_ex rfl rfl rfl (o_as rfl rfl (o_as rfl rfl (o_z ?_)))))
  refine Ah (Ah (Ae (o_mv rfl rfl (o_nn rfl rfl (o_z ?_)))))
  refine Cl rfl (fun c72=>?_) (fun c72=>?_)
  ·
   replace hf42:=ip hf42 c72
   refine Ah (Ae (o_as rfl rfl (o_as rfl rfl (o_z ?_))))
   refine Au ?_
   obtain rfl:=sm hf42
   obtain rfl:=hret43 _ rfl
   obtain rfl:=sm (Bw hm)
   replace hB:=hB.st S63
   exact ret2 rfl (AF rfl) (AF rfl) ⟨hB.ext,_,_,rfl,(vInt (show inI64 (0) from by decide)),vBool⟩
  ·
   replace hf42:=im' hf42 c72
   refine Am (Ah (Ae (o_mv rfl rfl (o_as rfl rfl (o_z ?_)))))
   refine Ae (o_mv rfl rfl (o_fa rfl rfl ?_))
   replace h29:=h29.st S63
   refine o_ld (hc:=Blk.cell (i:=3) (h29.1) rfl) rfl rfl ?_
   refine o_mv rfl rfl ?_
   obtain ⟨a73,e74,hf42⟩:=bs hf42
   obtain ⟨p76,x75⟩:=AS e74
   replace h18:=h18.st S63
   obtain ⟨b77,o78,ce79,hA80,hl81,hd82,v84,v85,rfl,h86,h89,r92,z93⟩:=h18.elem' x75
   obtain ⟨A87,c88,rfl⟩:=h86.form
   obtain ⟨A90,c91,rfl⟩:=h89.form
   refine o_iaE (hA:=hA80) (hj:=(Int.toNat_of_nonneg p76).symm) (hlt:=hl81) rfl rfl rfl ?_
   refine o_fa rfl rfl (o_ld (hc:=cat1 hd82) rfl rfl ?_)
   obtain ⟨n94,e95,hf42⟩:=bs hf42
   have r96:=(Br e95)
   refine o_adE (he:=e95) rfl rfl rfl ?_
   refine o_as rfl rfl (o_z ?_)
   obtain rfl:=sm hf42
   refine (?_:Exists _)
   replace hB:=hB.st S63
   replace hx2:=hx2.st S63
   replace h9:=h9.st S63
   replace h12:=h12.st S63
   replace h15:=h15.st S63
   exact ⟨_,(A70,c71),rfl,⟨rfl,rfl,rfl,rfl,rfl,rfl,trivial⟩,_,hB,h68,h29,h9,h12,h15,h18,hx2,r96⟩
 replace hB:=hB.st S28
 replace h9:=h9.st S28
 replace h12:=h12.st S28
 replace h15:=h15.st S28
 replace h18:=h18.st S28
 rintro l97 w98 ⟨s101,x102,rfl,hs100,O99,hB,h49,h29,h9,h12,h15,h18,r50⟩
 replace hm:=Bj hm
 refine AT _ hs100 ?_
 refine Ah ?_
 obtain ⟨y103,hy104,hm⟩:=bs hm
 refine AN (fun l' w'=>∃ (x106:Unit) (O':Lab),subs l' [(6,(.int .i64 s101.2)),(7,(.bool y103))]∧Bs w A w' O') ?_ ?_
 ·
  refine Ae (o_mv rfl rfl (o_fa rfl rfl (o_ld (hc:=Blk.cell (i:=2) (h29.1) rfl) rfl rfl ?_)))
  refine o_mv rfl rfl ?_
  obtain ⟨q107,e108,hy104⟩:=bs hy104
  refine BG (O:=O99) (A:=All w98) (R:=fun w' F v=>Vb w' F v q107) (FB (fun _ h=>h) (Vb.mono (F:=Fr 0 w98 O99) h15 Fr.lt) (Vb.mono (F:=Fr 0 w98 O99) h49 Fr.lt) e108) rfl rfl fun v113 w109 O110 S111 h112=>?_
  obtain rfl:=h112.bool
  cases q107
  case false =>
   replace hy104:=iF hy104
   refine o_as rfl rfl (o_as rfl rfl (o_z ?_))
   obtain rfl:=sm hy104
   replace hB:=hB.st S111
   exact ⟨(),_,⟨rfl,rfl,trivial⟩,hB⟩
  replace hy104:=iT hy104
  refine o_as rfl rfl (o_as rfl rfl (o_z ?_))
  obtain rfl:=sm hy104
  replace hB:=hB.st S111
  exact ⟨(),_,⟨rfl,rfl,trivial⟩,hB⟩
 rintro l114 w115 ⟨x106,O116,hs117,hB⟩
 refine AT _ hs117 ?_
 refine Au ?_
 obtain rfl:=sm hm
 exact ret2 rfl (AF rfl) (AF rfl) ⟨hB.ext,_,_,rfl,(vInt r50),vBool⟩
end
section
section
variable {α σ ρ : Type}
theorem fin_d {s:σ} {f:σ→Option ρ}:fin (.done s) f=f s:=rfl
theorem if_t {x y:α}:(if true=true then x else y)=x:=rfl
theorem if_f {x y:α}:(if false=true then x else y)=y:=rfl
theorem Hg {f:Nat→α→σ→Option (Ctl σ ρ)} {I:Nat→σ→Prop} {R:ρ→Prop}:∀ (ys:List α) (j:Nat) (s:σ),I j s →
    (∀ k x s,ys[k]?=some x→I (j + k) s→(∃ s',f (j + k) x s=some (.next s')∧I (j + k + 1) s')∨(∃ r,f (j + k) x s=some (.ret r)∧R r)) →
    (∃ s',rng f ys j s=some (.done s')∧I (j + ys.length) s')∨∃ r,rng f ys j s=some (.ret r)∧R r
  | [],j,s,h0,_=>.inl ⟨s,rfl,h0⟩
  | y :: ys,j,s,h0,h=>by
    rcases h 0 y s rfl h0 with ⟨s',h1,h2⟩|⟨r,h1,h2⟩
    · have h1':f j y s=some (.next s'):=h1
      simp only [rng,h1']
      rcases Hg (I:=I) (R:=R) ys (j + 1) s' h2 (fun k x s hk hI=>by
        have:=h (k + 1) x s (by simpa using hk) (by rwa [show j + (k + 1)=j + 1 + k from by omega])
        rwa [show j + (k + 1)=j + 1 + k from by omega] at this) with ⟨s2,h3,h4⟩|h3
      · exact .inl ⟨s2,h3,by rw [List.length_cons,show j + (ys.length + 1)=j + 1 + ys.length from by omega];exact h4⟩
      · exact .inr h3
    · have h1':f j y s=some (.ret r):=h1
      simp only [rng,h1']
      exact .inr ⟨r,rfl,h2⟩
theorem Me {f:Nat→α→σ→Option (Ctl σ ρ)} {xs:List α} {s₀:σ} (I:Nat→σ→Prop) (R:ρ→Prop) (h0:I 0 s₀)
    (h:∀ k x s,xs[k]?=some x→I k s→(∃ s',f k x s=some (.next s')∧I (k + 1) s')∨(∃ r,f k x s=some (.ret r)∧R r)) :
    (∃ s',rng f xs 0 s₀=some (.done s')∧I xs.length s')∨∃ r,rng f xs 0 s₀=some (.ret r)∧R r:=by
  have:=Hg (f:=f) (I:=I) (R:=R) xs 0 s₀ h0 (fun k x s hk hI=>by rw [Nat.zero_add] at hI ⊢;exact h k x s hk hI)
  rwa [Nat.zero_add] at this
theorem Gf {f:Nat→α→σ→Option (Ctl σ ρ)} {xs:List α} {s₀:σ} (I:Nat→σ→Prop) (h0:I 0 s₀) (h:∀ k x s,xs[k]?=some x→I k s→∃ s',f k x s=some (.next s')∧I (k + 1) s') :
    ∃ s',rng f xs 0 s₀=some (.done s')∧I xs.length s':=by
  rcases Me I (fun _=>False) h0 (fun k x s hk hI=>.inl (h k x s hk hI)) with h|⟨_,_,h⟩
  · exact h
  · exact h.elim
theorem Mf {f:Nat→α→σ→Option (Ctl σ ρ)} {xs:List α} (g:Nat→σ) (h:∀ k x,xs[k]?=some x→f k x (g k)=some (.next (g (k + 1)))):rng f xs 0 (g 0)=some (.done (g xs.length)):=by
  obtain ⟨s',h1,h2⟩:=Gf (f:=f) (xs:=xs) (s₀:=g 0) (fun k s=>s=g k) rfl (fun k x s hk hI=>⟨_,by rw [hI];exact h k x hk,rfl⟩)
  rw [h1,h2]
theorem HS {f:Nat→α→σ→Option (Ctl σ ρ)} {xs:List α} {s₀:σ} (g:Nat→σ) (h0:s₀=g 0) (h:∀ k x,xs[k]?=some x→f k x (g k)=some (.next (g (k + 1)))):rng f xs 0 s₀=some (.done (g xs.length)):=by
  rw [h0];exact Mf g h
end
end
section
open Go Go.RowKit
def effsOn (s:List Int):List Eff→List Int→List Int
  | [],out=>out
  | e :: r,out=>effsOn s r (if holdsB e.cond s=true then out.set e.var.toNat e.val else out)
theorem GN (s:List Int):∀ (a b:List Eff) (out:List Int),effsOn s (a ++ b) out=effsOn s b (effsOn s a out)
  | [],_,_=>rfl
  | e :: a,b,out=>by simp [effsOn,GN s a b]
theorem GO (s:List Int):∀ (a:List Eff) (out:List Int),(effsOn s a out).length=out.length
  | [],_=>rfl
  | e :: a,out=>by
    rw [effsOn,GO s a]
    split<;>simp
theorem JV (s:List Int) {l:List Eff} {k:Nat} {e:Eff} (h:l[k]?=some e) (out:List Int):effsOn s (l.take (k + 1)) out=if holdsB e.cond s=true then (effsOn s (l.take k) out).set e.var.toNat e.val else effsOn s (l.take k) out:=by
  rw [List.take_add_one,h,GN];rfl
def EffsIn (s:List Int) (l:List Eff):Prop:=∀ (i:Nat) e,l[i]?=some e→0≤e.var∧e.var < s.length
def succ (o:Opr) (s:List Int):List Int:=effsOn s o.effs s
end
section
open Go Go.RowKit
theorem TaskOk.effs {t:Tsk} (h:TaskOk t) {s:List Int} (hs:StateOk t.vars s):∀ (i:Nat) o,t.ops[i]?=some o→EffsIn s o.effs:=fun i o ho j e he=>by
  obtain ⟨h1,_,y,hy,_⟩:=((h.2.2.2.2.2 i o ho).2.2.2.2.2 j e he).2
  refine ⟨h1,?_⟩
  have:=(List.getElem?_eq_some_iff.1 hy).1
  rw [hs.1]
  simp only at h1 this
  omega
end
section
open Go Go.RowKit
theorem Jw {ρ:Type} {s:List Int} {effs:List Eff} (he:EffsIn s effs) (m:List Fct→List Int→Option Bool) (hm:∀ f s,m f s=some (holdsB f s)) (u:List Int) (hu:u.length=s.length) :
    rng (ρ:=ρ) (fun (_:Nat) (e:Eff) (out:List Int)=>bnd (m e.cond s) fun q=>if q=true then bnd (atI out e.var) fun _=>some (.next (out.set (e.var).toNat e.val)) else some (.next out)) effs 0 u=some (.done (effsOn s effs u)):=by
  rw [HS (fun k=>effsOn s (effs.take k) u) ?_ ?_,List.take_length]
  · rfl
  intro k e hk
  rw [hm,AC,JV s hk]
  have hin:=he k e hk
  have hl:=GO s (effs.take k) u
  by_cases hb:holdsB e.cond s=true
  · rw [if_pos hb,if_pos hb]
    obtain ⟨j,hj⟩:=Int.eq_ofNat_of_zero_le hin.1
    rw [hj,BC,List.getElem?_eq_getElem (by omega),AC]
  · rw [if_neg hb,if_neg hb]
theorem IS {vars s:List Int}:∀ (l:List Eff),(∀ e∈l,EffOk vars e)→∀ (u:List Int),StateOk vars u→StateOk vars (effsOn s l u)
  | [],_,_,hu=>hu
  | e :: l,he,u,hu=>by
    refine IS l (fun e' h'=>he e' (List.mem_cons_of_mem _ h')) _ ?_
    split
    · obtain ⟨_,h1,h2,y,hy,h3⟩:=he e List.mem_cons_self
      refine ⟨by rw [List.length_set];exact hu.1,fun i x n hx hn=>?_⟩
      rw [List.getElem?_set] at hx
      by_cases hi:e.var.toNat=i
      · subst hi
        rw [if_pos rfl] at hx
        split at hx
        · obtain rfl:=Option.some.inj hx
          simp only at hy h2 h3
          rw [hy] at hn
          obtain rfl:=Option.some.inj hn
          exact ⟨h2,h3⟩
        · cases hx
      · rw [if_neg hi] at hx
        exact hu.2 i x n hx hn
    · exact hu
theorem HB {t:Tsk} (h:TaskOk t) {s:List Int} (hs:StateOk t.vars s) {k:Nat} {o:Opr} (ho:t.ops[k]?=some o):StateOk t.vars (succ o s) :=
  IS o.effs (fun e he=>by obtain ⟨j,hj⟩:=List.getElem?_of_mem he;exact (h.2.2.2.2.2 k o ho).2.2.2.2.2 j e hj) s hs
end
section
open Go Go.RowKit
inductive PlanR (t:Tsk):List Int→List Int→List Int→Int→Prop
  | nil {s:List Int}:PlanR t s [] s 0
  | cons {s rest s':List Int} {k:Nat} {o:Opr} {C:Int}:t.ops[k]?=some o→holdsB o.pre s=true→PlanR t (succ o s) rest s' C→PlanR t s ((k:Int) :: rest) s' (o.cost + C)
theorem DV (f:List Fct) (s:List Int):BK f s=some (holdsB f s):=rfl
end
section
section
variable {α σ ρ β : Type}
theorem Kh {f:σ→Option (Ctl σ ρ)} (I:σ→Prop) (B:σ→Prop) (R:ρ→Prop) (μ:σ→Nat) (h:∀ s,I s→(∃ s',f s=some (.next s')∧I s'∧μ s' < μ s)∨(∃ s',f s=some (.brk s')∧B s')∨∃ r,f s=some (.ret r)∧R r) :
    ∀ s,I s→(∃ s',lop f s=some (.done s')∧B s')∨∃ r,lop f s=some (.ret r)∧R r:=by
  have key:∀ (n:Nat) s,I s→μ s < n→(∃ s',lop f s=some (.done s')∧B s')∨∃ r,lop f s=some (.ret r)∧R r:=by
    intro n
    induction n with
    | zero=>intro s _ hn;omega
    | succ n ih =>
      intro s hI hn
      rw [CS]
      rcases h s hI with ⟨s',h1,h2,h3⟩|⟨s',h1,h2⟩|⟨r,h1,h2⟩
      · rw [h1];exact ih s' h2 (by omega)
      · rw [h1];exact .inl ⟨s',rfl,h2⟩
      · rw [h1];exact .inr ⟨r,rfl,h2⟩
  exact fun s hI=>key (μ s + 1) s hI (by omega)
theorem Jx {f:σ→Option (Ctl σ ρ)} {s₀:σ} {k:Fin σ ρ→Option β} {P:β→Prop} (I:σ→Prop) (B:σ→Prop) (R:ρ→Prop) (μ:σ→Nat) (h0:I s₀)
    (h:∀ s,I s→(∃ s',f s=some (.next s')∧I s'∧μ s' < μ s)∨(∃ s',f s=some (.brk s')∧B s')∨∃ r,f s=some (.ret r)∧R r)
    (hb:∀ s,B s→∃ r,k (.done s)=some r∧P r) (hr:∀ q,R q→∃ r,k (.ret q)=some r∧P r):∃ r,bnd (lop f s₀) k=some r∧P r:=by
  rcases Kh I B R μ h s₀ h0 with ⟨s,h1,h2⟩|⟨q,h1,h2⟩
  · rw [h1,AC];exact hb s h2
  · rw [h1,AC];exact hr q h2
theorem Mg {f:σ→Option (Ctl σ ρ)} {s₀:σ} {k:Fin σ ρ→Option β} {r:Option β} (I:σ→Prop) (B:σ→Prop) (μ:σ→Nat) (h0:I s₀)
    (h:∀ s,I s→(∃ s',f s=some (.next s')∧I s'∧μ s' < μ s)∨(∃ s',f s=some (.brk s')∧B s')) (hb:∀ s,B s→k (.done s)=r):bnd (lop f s₀) k=r:=by
  rcases Kh I B (fun _=>False) μ (fun s hI=>(h s hI).imp id .inl) s₀ h0 with ⟨s,h1,h2⟩|⟨q,_,h2⟩
  · rw [h1,AC];exact hb s h2
  · exact h2.elim
theorem Gg {f:Nat→α→σ→Option (Ctl σ ρ)} {xs:List α} {s₀:σ} {k:Fin σ ρ→Option β} {P:β→Prop} (I:Nat→σ→Prop) (R:ρ→Prop) (h0:I 0 s₀)
    (h:∀ i x s,xs[i]?=some x→I i s→(∃ s',f i x s=some (.next s')∧I (i + 1) s')∨∃ q,f i x s=some (.ret q)∧R q)
    (hb:∀ s,I xs.length s→∃ r,k (.done s)=some r∧P r) (hr:∀ q,R q→∃ r,k (.ret q)=some r∧P r):∃ r,bnd (rng f xs 0 s₀) k=some r∧P r:=by
  have key:∀ (ys:List α) (j:Nat) (s:σ),(∀ i,ys[i]?=xs[j + i]?)→j + ys.length=xs.length→I j s→∃ r,bnd (rng f ys j s) k=some r∧P r:=by
    intro ys
    induction ys with
    | nil=>intro j s _ hl hI;exact hb s (by simp at hl;rw [← hl];exact hI)
    | cons y ys ih =>
      intro j s hg hl hI
      have hy:xs[j]?=some y:=by have:=hg 0;simpa using this.symm
      simp only [rng]
      rcases h j y s hy hI with ⟨s',h1,h2⟩|⟨q,h1,h2⟩
      · rw [h1]
        exact ih (j + 1) s' (fun i=>by have:=hg (i + 1);rw [show j + 1 + i=j + (i + 1) from by omega,← this];simp) (by simp at hl;omega) h2
      · rw [h1,AC];exact hr q h2
  exact key xs 0 s₀ (fun i=>by rw [Nat.zero_add]) (by omega) h0
theorem Ki {f:Nat→α→σ→Option (Ctl σ ρ)} {xs:List α} {s₀:σ} {k:Fin σ ρ→Option β} {r:Option β} (I:Nat→σ→Prop) (h0:I 0 s₀)
    (h:∀ i x s,xs[i]?=some x→I i s→∃ s',f i x s=some (.next s')∧I (i + 1) s') (hb:∀ s,I xs.length s→k (.done s)=r):bnd (rng f xs 0 s₀) k=r:=by
  obtain ⟨s,h1,h2⟩:=Gf I h0 h
  rw [h1,AC]
  exact hb s h2
end
end
section
open Go Go.RowKit
inductive Walk (t:Tsk):List Int→Int→Prop
  | goal {s:List Int}:holdsB t.goal s=true→Walk t s 0
  | step {s:List Int} {k:Nat} {o:Opr} {c:Int}:t.ops[k]?=some o→holdsB o.pre s=true→Walk t (succ o s) c→Walk t s (c + o.cost)
theorem LD {α:Type} {l:List α} {k:Nat} {x y:α} (h:l[k]?=some x):y∈l.take (k + 1)↔y∈l.take k∨y=x:=by
  rw [List.take_add_one,h,List.mem_append];simp
end
section
open Go Go.RowKit
structure QEn where
  key:Int
  tie:Int
  item:Int
  number:Int
theorem IT {α:Type} {l:List α} {m i:Nat} {x:α} (h:(l.take m)[i]?=some x):l[i]?=some x:=by
  by_cases hi:i < m
  · rwa [List.getElem?_take_of_lt hi] at h
  · rw [List.getElem?_take_eq_none (by omega)] at h;cases h
def bfr (x y:QEn):Prop:=x.key < y.key∨(x.key=y.key∧(x.tie < y.tie∨(x.tie=y.tie∧x.number < y.number)))
instance (x y:QEn):Decidable (bfr x y):=by unfold bfr;infer_instance
def nb (x y:QEn):Prop:=¬ bfr x y
theorem Gx {x y z:QEn} (h1:nb x y) (h2:nb y z):nb x z:=by unfold nb bfr at *;omega
theorem nb_of {x y:QEn} (h:bfr x y):nb y x:=by unfold nb bfr at *;omega
theorem Ik (x:QEn):nb x x:=by unfold nb bfr;omega
theorem Jy {x y:QEn} (h:nb x y):y.key≤x.key:=by unfold nb bfr at h;omega
def HeapOk (l:List QEn):Prop:=∀ (j:Nat) x y,0 < j→l[j]?=some x→l[(j - 1) / 2]?=some y→nb x y
def Over (l:List QEn) (i:Nat):Prop:=∀ (j:Nat) x y,0 < i→0 < j→(j - 1) / 2=i→l[j]?=some x→l[(i - 1) / 2]?=some y→nb x y
def UpI (l:List QEn) (i:Nat):Prop:=(∀ (j:Nat) x y,0 < j→j≠i→l[j]?=some x→l[(j - 1) / 2]?=some y→nb x y)∧Over l i
def DownI (l:List QEn) (i:Nat):Prop:=(∀ (j:Nat) x y,0 < j→(j - 1) / 2≠i→l[j]?=some x→l[(j - 1) / 2]?=some y→nb x y)∧Over l i
theorem Gh {l:List QEn} {i j:Nat} {a b:QEn} (hi:l[i]?=some a) (hj:l[j]?=some b) (hne:i≠j) (k:Nat):((l.set i b).set j a)[k]?=if k=j then some a else if k=i then some b else l[k]?:=by
  by_cases h1:k=j
  · subst h1;rw [if_pos rfl,List.getElem?_set_self (by simpa using AJ hj)]
  · rw [if_neg h1,List.getElem?_set_ne (by omega)]
    by_cases h2:k=i
    · subst h2;rw [if_pos rfl,List.getElem?_set_self (AJ hi)]
    · rw [if_neg h2,List.getElem?_set_ne (by omega)]
theorem Jz {l:List QEn} {i j:Nat} {a b:QEn} (hi:l[i]?=some a) (hj:l[j]?=some b):((l.set i b).set j a).Perm l:=by
  have h1:=AJ hi
  have h2:=AJ hj
  have e1:l[i]=a:=by rw [List.getElem?_eq_getElem h1] at hi;exact Option.some.inj hi
  have e2:l[j]=b:=by rw [List.getElem?_eq_getElem h2] at hj;exact Option.some.inj hj
  rw [← e1,← e2]
  exact List.set_set_perm h1 h2
theorem UpI.step {l:List QEn} {i:Nat} {a b:QEn} (h:UpI l i) (h0:0 < i) (hi:l[i]?=some a) (hj:l[(i - 1) / 2]?=some b) (hb:bfr a b):UpI ((l.set i b).set ((i - 1) / 2) a) ((i - 1) / 2):=by
  have hne:i≠(i - 1) / 2:=by omega
  constructor
  · intro j x y hj0 hjp hx hy
    rw [Gh hi hj hne,if_neg hjp] at hx
    rw [Gh hi hj hne] at hy
    by_cases e1:j=i
    · subst e1
      rw [if_pos rfl] at hx hy
      obtain rfl:=Option.some.inj hx
      obtain rfl:=Option.some.inj hy
      exact nb_of hb
    · rw [if_neg e1] at hx
      by_cases e2:(j - 1) / 2=(i - 1) / 2
      · rw [if_pos e2] at hy
        obtain rfl:=Option.some.inj hy
        have:=h.1 j x b hj0 e1 hx (by rw [e2];exact hj)
        exact Gx this (nb_of hb)
      · rw [if_neg e2] at hy
        by_cases e3:(j - 1) / 2=i
        · rw [if_pos e3] at hy
          obtain rfl:=Option.some.inj hy
          exact h.2 j x b h0 hj0 e3 hx hj
        · rw [if_neg e3] at hy
          exact h.1 j x y hj0 e1 hx hy
  · intro j x y hp0 hj0 hjp hx hy
    rw [Gh hi hj hne] at hx hy
    have n1:((i - 1) / 2 - 1) / 2≠(i - 1) / 2:=by omega
    have n2:((i - 1) / 2 - 1) / 2≠i:=by omega
    rw [if_neg n1,if_neg n2] at hy
    have hpp:=h.1 ((i - 1) / 2) b y hp0 (by omega) hj hy
    rw [if_neg (by omega)] at hx
    by_cases e1:j=i
    · subst e1
      rw [if_pos rfl] at hx
      obtain rfl:=Option.some.inj hx
      exact hpp
    · rw [if_neg e1] at hx
      exact Gx (h.1 j x b hj0 e1 hx (by rw [hjp];exact hj)) hpp
theorem UpI.heap {l:List QEn} {i:Nat} (h:UpI l i) (hi:i=0∨∀ x y,l[i]?=some x→l[(i - 1) / 2]?=some y→nb x y):HeapOk l:=fun j x y hj hx hy=>by
  by_cases e:j=i
  · subst e
    rcases hi with h0|h1
    · omega
    · exact h1 x y hx hy
  · exact h.1 j x y hj e hx hy
theorem DownI.step {l:List QEn} {i c:Nat} {a b:QEn} (h:DownI l i) (hc:c=2 * i + 1∨c=2 * i + 2) (hi:l[i]?=some a) (hj:l[c]?=some b) (hb:bfr b a) (hs:∀ (j:Nat) x,0 < j→(j - 1) / 2=i→l[j]?=some x→nb x b):DownI ((l.set i b).set c a) c:=by
  have hne:i≠c:=by omega
  have hcp:(c - 1) / 2=i:=by omega
  constructor
  · intro j x y hj0 hjp hx hy
    rw [Gh hi hj hne] at hx hy
    rw [if_neg hjp] at hy
    by_cases e1:j=c
    · subst e1
      rw [if_pos rfl] at hx
      rw [if_pos hcp] at hy
      obtain rfl:=Option.some.inj hx
      obtain rfl:=Option.some.inj hy
      exact nb_of hb
    · rw [if_neg e1] at hx
      by_cases e2:j=i
      · subst e2
        rw [if_pos rfl] at hx
        rw [if_neg (by omega)] at hy
        obtain rfl:=Option.some.inj hx
        exact h.2 c _ y hj0 (by omega) hcp hj hy
      · rw [if_neg e2] at hx
        by_cases e3:(j - 1) / 2=i
        · rw [if_pos e3] at hy
          obtain rfl:=Option.some.inj hy
          exact hs j x hj0 e3 hx
        · rw [if_neg e3] at hy
          exact h.1 j x y hj0 e3 hx hy
  · intro j x y hc0 hj0 hjc hx hy
    rw [Gh hi hj hne] at hx hy
    rw [if_neg (by omega),if_neg (by omega)] at hx
    rw [if_neg (by omega),if_pos hcp] at hy
    obtain rfl:=Option.some.inj hy
    exact h.1 j x _ hj0 (by omega) hx (by rw [hjc];exact hj)
theorem DownI.heap {l:List QEn} {i:Nat} (h:DownI l i) (hi:∀ (j:Nat) x y,0 < j→(j - 1) / 2=i→l[j]?=some x→l[i]?=some y→nb x y):HeapOk l:=fun j x y hj hx hy=>by
  by_cases e:(j - 1) / 2=i
  · exact hi j x y hj e hx (by rw [← e];exact hy)
  · exact h.1 j x y hj e hx hy
theorem Lb {l:List QEn} (h:HeapOk l) {e:QEn} (he:l[0]?=some e):∀ x∈l,nb x e:=by
  have key:∀ (n j:Nat) x,j≤n→l[j]?=some x→nb x e:=by
    intro n
    induction n with
    | zero =>
      intro j x hj hx
      have hj0:j=0:=by omega
      rw [hj0,he] at hx
      rw [← Option.some.inj hx]
      exact Ik _
    | succ n ih =>
      intro j x hj hx
      by_cases h0:j=0
      · exact ih j x (by omega) hx
      · obtain ⟨y,hy⟩:=AH (l:=l) (k:=(j - 1) / 2) (by have:=AJ hx;omega)
        exact Gx (h j x y (by omega) hx hy) (ih ((j - 1) / 2) y (by omega) hy)
  intro x hx
  obtain ⟨j,hj⟩:=List.getElem?_of_mem hx
  exact key j j x (by omega) hj
end
section
open Go Go.RowKit
abbrev U64:=BitVec 64
instance:Rp U64 where
  isAgg:=false
  size:=1
  R _ _ cs x:=cs=[.int .u64 (x.toNat:Int)]
  len:=by rintro w F cs x rfl;rfl
  one:=by
    rintro w F cs x rfl u hu
    have:u=.int .u64 (x.toNat:Int):=by simpa using hu
    subst this;rfl
  agree:=fun h _=>h
  mono:=fun h _=>h
theorem Vb.u64 {w:World} {F:Nat→Prop} {v:Value} {x:U64} (h:Vb w F v x):v=.int .u64 (x.toNat:Int):=by
  have:[v]=[.int .u64 (x.toNat:Int)]:=h
  simpa using this
theorem vU64 {w:World} {F:Nat→Prop} {x:U64}:Vb w F (.int .u64 (x.toNat:Int)) x:=rfl
theorem wrapU (a:Int):IntKind.u64.wrap a=a % 18446744073709551616:=by simp [IntKind.wrap,IntKind.bits,IntKind.signed]
theorem wrapN (x:BitVec 64):IntKind.u64.wrap (x.toNat:Int)=(x.toNat:Int):=by
  rw [wrapU]
  have:=x.isLt
  omega
theorem ofIntU (x:U64):BitVec.ofInt 64 (x.toNat:Int)=x:=by simp
def shlU (a:U64) (q:Int):Option U64:=if 0≤q then some (a <<< q.toNat) else none
def shrU (a:U64) (q:Int):Option U64:=if 0≤q then some (a >>> q.toNat) else none
def shlI (a q:Int):Option Int:=if 0≤q then some (wr (a * 2 ^ (min q.toNat 64))) else none
theorem LE {a q c:Int} (h:shlI a q=some c):inI64 c:=by
  unfold shlI at h
  split at h
  · rw [← sm h];exact MF _
  · cases h
theorem toIntR (a:U64):inI64 a.toInt:=by
  have h1:=BitVec.toInt_lt (x:=a)
  have h2:=BitVec.le_toInt (x:=a)
  simp at h1 h2
  exact ⟨by omega,by omega⟩
section
variable {P : Program} {l : Env} {w : World} {dst : Option Tmp} {ty : TypeId} {pos : String} {aft : Array Edge}
theorem MM {t u:TypeId} {x y:Operand} {a b:U64} (hx:opv l x=some (.int .u64 (a.toNat:Int))) (hy:opv l y=some (.int .u64 (b.toNat:Int))):Ev P ⟨dst,.binOp .and t x y u,ty,pos,aft,none⟩ l w (.int .u64 ((a &&& b).toNat:Int)):=fun _ _ d ha=>by
  have h:=wrapN (a &&& b)
  have h1:(BitVec.ofInt IntKind.u64.bits (a.toNat:Int))=a:=ofIntU a
  have h2:(BitVec.ofInt IntKind.u64.bits (b.toNat:Int))=b:=ofIntU b
  simp only [execOp,ha.eval hx,ha.eval hy,eqGuard,binOp,Op.intBits,h1,h2]
  simp
  exact h.trans (by simp)
theorem MN {t u:TypeId} {x y:Operand} {a b:U64} (hx:opv l x=some (.int .u64 (a.toNat:Int))) (hy:opv l y=some (.int .u64 (b.toNat:Int))):Ev P ⟨dst,.binOp .or t x y u,ty,pos,aft,none⟩ l w (.int .u64 ((a ||| b).toNat:Int)):=fun _ _ d ha=>by
  have h:=wrapN (a ||| b)
  have h1:(BitVec.ofInt IntKind.u64.bits (a.toNat:Int))=a:=ofIntU a
  have h2:(BitVec.ofInt IntKind.u64.bits (b.toNat:Int))=b:=ofIntU b
  simp only [execOp,ha.eval hx,ha.eval hy,eqGuard,binOp,Op.intBits,h1,h2]
  simp
  exact h.trans (by simp)
theorem MO {t u:TypeId} {x y:Operand} {a b:U64} (hx:opv l x=some (.int .u64 (a.toNat:Int))) (hy:opv l y=some (.int .u64 (b.toNat:Int))):Ev P ⟨dst,.binOp .xor t x y u,ty,pos,aft,none⟩ l w (.int .u64 ((a ^^^ b).toNat:Int)):=fun _ _ d ha=>by
  have h:=wrapN (a ^^^ b)
  have h1:(BitVec.ofInt IntKind.u64.bits (a.toNat:Int))=a:=ofIntU a
  have h2:(BitVec.ofInt IntKind.u64.bits (b.toNat:Int))=b:=ofIntU b
  simp only [execOp,ha.eval hx,ha.eval hy,eqGuard,binOp,Op.intBits,h1,h2]
  simp
  exact h.trans (by simp)
theorem MP {t u:TypeId} {x y:Operand} {a b:U64} (hx:opv l x=some (.int .u64 (a.toNat:Int))) (hy:opv l y=some (.int .u64 (b.toNat:Int))):Ev P ⟨dst,.binOp .andNot t x y u,ty,pos,aft,none⟩ l w (.int .u64 ((a &&& ~~~b).toNat:Int)):=fun _ _ d ha=>by
  have h:=wrapN (a &&& ~~~b)
  have h1:(BitVec.ofInt IntKind.u64.bits (a.toNat:Int))=a:=ofIntU a
  have h2:(BitVec.ofInt IntKind.u64.bits (b.toNat:Int))=b:=ofIntU b
  simp only [execOp,ha.eval hx,ha.eval hy,eqGuard,binOp,Op.intBits,h1,h2]
  simp
  exact h.trans (by simp)
theorem MQ {t u:TypeId} {x y:Operand} {a b:U64} (hx:opv l x=some (.int .u64 (a.toNat:Int))) (hy:opv l y=some (.int .u64 (b.toNat:Int))):Ev P ⟨dst,.binOp .add t x y u,ty,pos,aft,none⟩ l w (.int .u64 ((a + b).toNat:Int)):=fun _ _ d ha=>by
  have h:IntKind.u64.wrap ((a.toNat:Int) + (b.toNat:Int))=((a + b).toNat:Int):=by
    rw [wrapU]
    have h1:=a.isLt
    have h2:=b.isLt
    rw [BitVec.toNat_add];omega
  simp [execOp,ha.eval hx,ha.eval hy,eqGuard,binOp,Op.intArith,h]
theorem MR {t u:TypeId} {x y:Operand} {a b:U64} (hx:opv l x=some (.int .u64 (a.toNat:Int))) (hy:opv l y=some (.int .u64 (b.toNat:Int))):Ev P ⟨dst,.binOp .sub t x y u,ty,pos,aft,none⟩ l w (.int .u64 ((a - b).toNat:Int)):=fun _ _ d ha=>by
  have h:IntKind.u64.wrap ((a.toNat:Int) - (b.toNat:Int))=((a - b).toNat:Int):=by
    rw [wrapU]
    have h1:=a.isLt
    have h2:=b.isLt
    rw [BitVec.toNat_sub];omega
  simp [execOp,ha.eval hx,ha.eval hy,eqGuard,binOp,Op.intArith,h]
theorem MS {t u:TypeId} {x y:Operand} {a b:U64} (hx:opv l x=some (.int .u64 (a.toNat:Int))) (hy:opv l y=some (.int .u64 (b.toNat:Int))):Ev P ⟨dst,.binOp .mul t x y u,ty,pos,aft,none⟩ l w (.int .u64 ((a * b).toNat:Int)):=fun _ _ d ha=>by
  have h:IntKind.u64.wrap ((a.toNat:Int) * (b.toNat:Int))=((a * b).toNat:Int):=by
    rw [wrapU]
    have h1:=a.isLt
    have h2:=b.isLt
    rw [BitVec.toNat_mul,Int.natCast_emod,Int.natCast_mul];rfl
  simp [execOp,ha.eval hx,ha.eval hy,eqGuard,binOp,Op.intArith,h]
theorem MT {t u:TypeId} {x y:Operand} {a c:U64} {q:Int} {k:IntKind} (hx:opv l x=some (.int .u64 (a.toNat:Int))) (hy:opv l y=some (.int k q)) (he:shlU a q=some c):Ev P ⟨dst,.binOp .shl t x y u,ty,pos,aft,none⟩ l w (.int .u64 (c.toNat:Int)):=fun _ _ d ha=>by
  unfold shlU at he
  split at he
  · rename_i hq
    have hc:=sm he
    subst hc
    have h:IntKind.u64.wrap ((a.toNat:Int) * 2 ^ (min q.toNat IntKind.u64.bits))=((a <<< q.toNat).toNat:Int):=by
      rw [wrapU,BitVec.toNat_shiftLeft,Nat.shiftLeft_eq]
      show (a.toNat:Int) * 2 ^ (min q.toNat 64) % 18446744073709551616=((a.toNat * 2 ^ q.toNat % 18446744073709551616:Nat):Int)
      by_cases hk:q.toNat≤64
      · rw [Nat.min_eq_left hk,Int.natCast_emod,Int.natCast_mul,Int.natCast_pow];rfl
      · have hb:q.toNat=64 + (q.toNat - 64):=by omega
        rw [Nat.min_eq_right (by omega),hb,Nat.pow_add]
        have e1:a.toNat * (2 ^ 64 * 2 ^ (q.toNat - 64)) % 18446744073709551616=0:=by
          rw [← Nat.mul_assoc,Nat.mul_right_comm]
          exact Nat.mul_mod_left _ _
        have e2:(a.toNat:Int) * 2 ^ 64 % 18446744073709551616=0:=Int.mul_emod_left _ _
        rw [e1,e2];rfl
    have hn:¬ q < 0:=by omega
    simp [execOp,ha.eval hx,ha.eval hy,eqGuard,binOp,Op.shift,hn,h]
  · cases he
theorem Ld {t u:TypeId} {x y:Operand} {a c:U64} {q:Int} {k:IntKind} (hx:opv l x=some (.int .u64 (a.toNat:Int))) (hy:opv l y=some (.int k q)) (he:shrU a q=some c):Ev P ⟨dst,.binOp .shr t x y u,ty,pos,aft,none⟩ l w (.int .u64 (c.toNat:Int)):=fun _ _ d ha=>by
  unfold shrU at he
  split at he
  · rename_i hq
    have hc:=sm he
    subst hc
    have h:(a.toNat:Int).fdiv (2 ^ (min q.toNat IntKind.u64.bits))=((a >>> q.toNat).toNat:Int):=by
      rw [BitVec.toNat_ushiftRight,Nat.shiftRight_eq_div_pow]
      show (a.toNat:Int).fdiv (2 ^ (min q.toNat 64))=_
      have hl:=a.isLt
      rw [Int.fdiv_eq_ediv_of_nonneg _ (by exact_mod_cast Nat.zero_le (2 ^ (min q.toNat 64)))]
      by_cases hk:q.toNat≤64
      · rw [Nat.min_eq_left hk,Int.natCast_ediv,Int.natCast_pow];rfl
      · rw [Nat.min_eq_right (by omega)]
        have e1:a.toNat / 2 ^ q.toNat=0:=Nat.div_eq_of_lt (Nat.lt_of_lt_of_le hl (Nat.pow_le_pow_right (by decide) (by omega)))
        rw [e1]
        omega
    have hn:¬ q < 0:=by omega
    simp [execOp,ha.eval hx,ha.eval hy,eqGuard,binOp,Op.shift,hn,h]
  · cases he
theorem MU {t u:TypeId} {x y:Operand} {a c q:Int} (hx:opv l x=some (.int .i64 a)) (hy:opv l y=some (.int .i64 q)) (he:shlI a q=some c):Ev P ⟨dst,.binOp .shl t x y u,ty,pos,aft,none⟩ l w (.int .i64 c):=fun _ _ d ha=>by
  unfold shlI at he
  split at he
  · rename_i hq
    have hc:=sm he
    subst hc
    have hn:¬ q < 0:=by omega
    simp [execOp,ha.eval hx,ha.eval hy,eqGuard,binOp,Op.shift,hn,wr,IntKind.bits]
  · cases he
theorem Lf {s t:TypeId} {k:IntKind} [hs:TInt P s k] [ht:TInt P t .u64] {x:Operand} {a:Int} (hx:opv l x=some (.int k a)):Ev P ⟨dst,.convert s t x,ty,pos,aft,none⟩ l w (.int .u64 ((BitVec.ofInt 64 a).toNat:Int)):=fun _ _ d ha=>by
  have h:IntKind.u64.wrap a=((BitVec.ofInt 64 a).toNat:Int):=by
    rw [wrapU,BitVec.toNat_ofInt]
    have:(0:Int)≤a % 18446744073709551616:=by omega
    simp
    omega
  simp [execOp,ha.eval hx,convert,run_underlying hs.eq,run_underlying ht.eq,Conv.intToInt,h]
theorem Lg {s t:TypeId} [hs:TInt P s .u64] [ht:TInt P t .i64] {x:Operand} {a:U64} (hx:opv l x=some (.int .u64 (a.toNat:Int))):Ev P ⟨dst,.convert s t x,ty,pos,aft,none⟩ l w (.int .i64 a.toInt):=fun _ _ d ha=>by
  have h:IntKind.i64.wrap (a.toNat:Int)=a.toInt:=by
    rw [IntKind.wrap_i64,BitVec.toInt_eq_toNat_cond]
    have:=a.isLt
    split<;>omega
  simp [execOp,ha.eval hx,convert,run_underlying hs.eq,run_underlying ht.eq,Conv.intToInt,h]
end
section
variable {P : Program} {n : Nat} {ops : Array Oper} {Q : Post} {rest : List Oper} {l : Env} {w : World} {d : Tmp} {ty : TypeId} {pos : String} {aft : Array Edge}
theorem o_uxo {t u:TypeId} {x y:Operand} {a b:U64} (hx:opv l x=some (.int .u64 (a.toNat:Int))) (hy:opv l y=some (.int .u64 (b.toNat:Int))) (hd:Nat.blt d n=true) (h:owp P n ops Q rest ((d,.int .u64 ((a ^^^ b).toNat:Int)) :: l) w)  : owp P n ops Q (⟨some d,.binOp .xor t x y u,ty,pos,aft,none⟩ :: rest) l w:=AV (MO hx hy) hd h
theorem o_uad {t u:TypeId} {x y:Operand} {a b:U64} (hx:opv l x=some (.int .u64 (a.toNat:Int))) (hy:opv l y=some (.int .u64 (b.toNat:Int))) (hd:Nat.blt d n=true) (h:owp P n ops Q rest ((d,.int .u64 ((a + b).toNat:Int)) :: l) w)  : owp P n ops Q (⟨some d,.binOp .add t x y u,ty,pos,aft,none⟩ :: rest) l w:=AV (MQ hx hy) hd h
theorem o_uml {t u:TypeId} {x y:Operand} {a b:U64} (hx:opv l x=some (.int .u64 (a.toNat:Int))) (hy:opv l y=some (.int .u64 (b.toNat:Int))) (hd:Nat.blt d n=true) (h:owp P n ops Q rest ((d,.int .u64 ((a * b).toNat:Int)) :: l) w)  : owp P n ops Q (⟨some d,.binOp .mul t x y u,ty,pos,aft,none⟩ :: rest) l w:=AV (MS hx hy) hd h
theorem o_usr {t u:TypeId} {x y:Operand} {a c:U64} {q:Int} {k:IntKind} (hx:opv l x=some (.int .u64 (a.toNat:Int))) (hy:opv l y=some (.int k q)) (hd:Nat.blt d n=true) (h:owp P n ops Q rest ((d,.int .u64 (c.toNat:Int)) :: l) w) (he:shrU a q=some c:=by assumption):owp P n ops Q (⟨some d,.binOp .shr t x y u,ty,pos,aft,none⟩ :: rest) l w:=AV (Ld hx hy he) hd h
theorem o_ish {t u:TypeId} {x y:Operand} {a c q:Int} (hx:opv l x=some (.int .i64 a)) (hy:opv l y=some (.int .i64 q)) (hd:Nat.blt d n=true) (h:owp P n ops Q rest ((d,.int .i64 c) :: l) w) (he:shlI a q=some c:=by assumption):owp P n ops Q (⟨some d,.binOp .shl t x y u,ty,pos,aft,none⟩ :: rest) l w:=AV (MU hx hy he) hd h
theorem o_cvU {s t:TypeId} {k:IntKind} [TInt P s k] [TInt P t .u64] {x:Operand} {a:Int} (hx:opv l x=some (.int k a)) (hd:Nat.blt d n=true) (h:owp P n ops Q rest ((d,.int .u64 ((BitVec.ofInt 64 a).toNat:Int)) :: l) w)  : owp P n ops Q (⟨some d,.convert s t x,ty,pos,aft,none⟩ :: rest) l w:=AV (Lf hx) hd h
theorem o_cvI {s t:TypeId} [TInt P s .u64] [TInt P t .i64] {x:Operand} {a:U64} (hx:opv l x=some (.int .u64 (a.toNat:Int))) (hd:Nat.blt d n=true) (h:owp P n ops Q rest ((d,.int .i64 a.toInt) :: l) w)  : owp P n ops Q (⟨some d,.convert s t x,ty,pos,aft,none⟩ :: rest) l w:=AV (Lg hx) hd h
variable {S : World → Prop} {r : List (Nat × Bool)} {i : Nat}
theorem h_uan {t u:TypeId} {x y:Operand} {a b:U64} (hi:ops[i]?=some ⟨some d,.binOp .and t x y u,ty,pos,aft,none⟩) (hx:opv l x=some (.int .u64 (a.toNat:Int))) (hy:opv l y=some (.int .u64 (b.toNat:Int))) (hd:Nat.blt d n=true) (h:hwp P n ops Q S r ((d,.int .u64 ((a &&& b).toNat:Int)) :: l) w)  : hwp P n ops Q S ((i,true) :: r) l w:=hwp_o hi (AY (fun _ _=>MM hx hy) hd h)
theorem h_uor {t u:TypeId} {x y:Operand} {a b:U64} (hi:ops[i]?=some ⟨some d,.binOp .or t x y u,ty,pos,aft,none⟩) (hx:opv l x=some (.int .u64 (a.toNat:Int))) (hy:opv l y=some (.int .u64 (b.toNat:Int))) (hd:Nat.blt d n=true) (h:hwp P n ops Q S r ((d,.int .u64 ((a ||| b).toNat:Int)) :: l) w)  : hwp P n ops Q S ((i,true) :: r) l w:=hwp_o hi (AY (fun _ _=>MN hx hy) hd h)
theorem h_uns {t u:TypeId} {x y:Operand} {a b:U64} (hi:ops[i]?=some ⟨some d,.binOp .andNot t x y u,ty,pos,aft,none⟩) (hx:opv l x=some (.int .u64 (a.toNat:Int))) (hy:opv l y=some (.int .u64 (b.toNat:Int))) (hd:Nat.blt d n=true) (h:hwp P n ops Q S r ((d,.int .u64 ((a &&& ~~~b).toNat:Int)) :: l) w)  : hwp P n ops Q S ((i,true) :: r) l w:=hwp_o hi (AY (fun _ _=>MP hx hy) hd h)
theorem h_usb {t u:TypeId} {x y:Operand} {a b:U64} (hi:ops[i]?=some ⟨some d,.binOp .sub t x y u,ty,pos,aft,none⟩) (hx:opv l x=some (.int .u64 (a.toNat:Int))) (hy:opv l y=some (.int .u64 (b.toNat:Int))) (hd:Nat.blt d n=true) (h:hwp P n ops Q S r ((d,.int .u64 ((a - b).toNat:Int)) :: l) w)  : hwp P n ops Q S ((i,true) :: r) l w:=hwp_o hi (AY (fun _ _=>MR hx hy) hd h)
theorem h_ush {t u:TypeId} {x y:Operand} {a c:U64} {q:Int} {k:IntKind} (hi:ops[i]?=some ⟨some d,.binOp .shl t x y u,ty,pos,aft,none⟩) (hx:opv l x=some (.int .u64 (a.toNat:Int))) (hy:opv l y=some (.int k q)) (hd:Nat.blt d n=true) (h:hwp P n ops Q S r ((d,.int .u64 (c.toNat:Int)) :: l) w) (he:shlU a q=some c:=by assumption):hwp P n ops Q S ((i,true) :: r) l w:=hwp_o hi (AY (fun _ _=>MT hx hy he) hd h)
theorem h_usr {t u:TypeId} {x y:Operand} {a c:U64} {q:Int} {k:IntKind} (hi:ops[i]?=some ⟨some d,.binOp .shr t x y u,ty,pos,aft,none⟩) (hx:opv l x=some (.int .u64 (a.toNat:Int))) (hy:opv l y=some (.int k q)) (hd:Nat.blt d n=true) (h:hwp P n ops Q S r ((d,.int .u64 (c.toNat:Int)) :: l) w) (he:shrU a q=some c:=by assumption):hwp P n ops Q S ((i,true) :: r) l w:=hwp_o hi (AY (fun _ _=>Ld hx hy he) hd h)
theorem h_cvU {s t:TypeId} {k:IntKind} [TInt P s k] [TInt P t .u64] {x:Operand} {a:Int} (hi:ops[i]?=some ⟨some d,.convert s t x,ty,pos,aft,none⟩) (hx:opv l x=some (.int k a)) (hd:Nat.blt d n=true) (h:hwp P n ops Q S r ((d,.int .u64 ((BitVec.ofInt 64 a).toNat:Int)) :: l) w)  : hwp P n ops Q S ((i,true) :: r) l w:=hwp_o hi (AY (fun _ _=>Lf hx) hd h)
theorem h_cvI {s t:TypeId} [TInt P s .u64] [TInt P t .i64] {x:Operand} {a:U64} (hi:ops[i]?=some ⟨some d,.convert s t x,ty,pos,aft,none⟩) (hx:opv l x=some (.int .u64 (a.toNat:Int))) (hd:Nat.blt d n=true) (h:hwp P n ops Q S r ((d,.int .i64 a.toInt) :: l) w)  : hwp P n ops Q S ((i,true) :: r) l w:=hwp_o hi (AY (fun _ _=>Lg hx) hd h)
end
end
end Go.Proofs.Ythomfnkaicjmbaa

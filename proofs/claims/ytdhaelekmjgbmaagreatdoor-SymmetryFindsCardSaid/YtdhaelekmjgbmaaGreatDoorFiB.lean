/- Own text: what the proof of symmetryFinds_holds uses, part 2: rules, models and their proofs, plain laws. -/
import Derived.Test.YtdhaelekmjgbmaaGreatDoorFiA
set_option linter.unusedVariables false
set_option linter.unusedSimpArgs false
namespace Go.Proofs.YtdhaelekmjgbmaaGreatDoor
open Go Go.RowKit
section
open Go Go.RowKit
attribute [local irreducible] ewp owp hwp hwq Ev Evg Fn retPost Res1
theorem AR {α:Type} {l:List α} {k:Nat} (h:k < l.length):∃ x,l[k]?=some x:=⟨l[k],List.getElem?_eq_getElem h⟩
theorem BN {α:Type} {l:List α} {k:Nat} {x:α} (h:l[k]?=some x):k < l.length:=(List.getElem?_eq_some_iff.1 h).1
theorem baseInts {w:World} {av bv:Value} {a b:List Int} (ha:V w av a) (hb:V w bv b) :
    Fn Tryz.prog 18 [av,bv] w fun v w'=>v=.bool (bof (a=b))∧Ext w w':=by
  obtain ⟨A,ca,rfl⟩:=ha.form
  obtain ⟨B,cb,rfl⟩:=hb.form
  have hal:=ha.len
  refine AP Tryz.func18 rfl Tryz.ntmps18 rfl ?_
  by_cases hl:a.length=b.length
  · ((repeat (first|refine At ?_|refine Ah rfl ?_|refine Ae rfl ?_))<;>(refine Am rfl rfl ?_<;>(refine o_z ?_))<;>(repeat (first|refine At ?_|refine Ah rfl ?_|refine Ae rfl ?_))<;>(refine Aj rfl rfl ?_<;>refine AX rfl rfl ?_<;>refine Aj rfl rfl ?_<;>refine AX rfl rfl ?_<;>(first|refine IB rfl rfl rfl ?_|refine IC rfl rfl rfl ?_)<;>(refine o_z ?_))<;>(repeat (first|refine At ?_|refine Ah rfl ?_|refine Ae rfl ?_))<;>(refine Aj rfl rfl ?_<;>refine AX rfl rfl ?_<;>refine Aj rfl rfl ?_<;>(refine o_z ?_))<;>(repeat (first|refine At ?_|refine Ah rfl ?_|refine Ae rfl ?_)))
    refine FD (fun k:Nat=>[(0,.slice A a.length ca),(1,.slice B b.length cb),(12,.int .i64 (a.length:Int)),(13,.int .i64 (k:Int))])
      (fun k w'=>w'=w∧k≤a.length∧a.take k=b.take k) (fun k=>a.length - k) 0 ⟨rfl,Nat.zero_le _,rfl⟩ ⟨rfl,rfl,rfl,rfl,trivial⟩ ?_
    rintro k _ ⟨rfl,hk,hh⟩
    by_cases hlt:k < a.length
    · obtain ⟨x,hx⟩:=AR hlt
      obtain ⟨y,hy⟩:=AR (l:=b) (k:=k) (by omega)
      obtain ⟨b1,o1,ce,rfl,_,_,hd1,rfl,_⟩:=ha.elem hx
      obtain ⟨b2,o2,ce,rfl,_,_,hd2,rfl,_⟩:=hb.elem hy
      ((repeat (first|refine At ?_|refine Ah rfl ?_|refine Ae rfl ?_))<;>((first|refine Ds rfl rfl rfl ?_|refine Dt rfl rfl rfl ?_)<;>(refine o_z ?_))<;>(repeat (first|refine At ?_|refine Ah rfl ?_|refine Ae rfl ?_))<;>(refine Aj rfl rfl ?_<;>refine Am rfl rfl ?_<;>(refine o_z ?_))<;>(repeat (first|refine At ?_|refine Ah rfl ?_|refine Ae rfl ?_)))
      refine Dx (·=_) [(0,true),(1,true),(2,true),(3,true),(4,true),(5,true),(6,true),(7,true),(8,true)] (by kernel_rfl) rfl (by kernel_rfl) rfl ?_
      (refine AH rfl rfl rfl ?_<;>refine AH rfl rfl rfl ?_<;>refine Pp rfl rfl rfl rfl ?_<;>refine CT rfl rfl rfl ?_<;>refine AH rfl rfl rfl ?_<;>refine AH rfl rfl rfl ?_<;>refine Pp rfl rfl rfl rfl ?_<;>refine CT rfl rfl rfl ?_<;>(first|refine RL rfl rfl rfl rfl ?_|refine RM rfl rfl rfl rfl ?_|refine Lw rfl rfl rfl rfl (fun _=>?_) fun _=>?_)<;>(refine h_z ?_))<;>(repeat (first|refine At ?_|refine Ah rfl ?_|refine Ae rfl ?_))
      · ((repeat (first|refine At ?_|refine Ah rfl ?_|refine Ae rfl ?_))<;>(refine Am rfl rfl ?_<;>(refine o_z ?_))<;>(repeat (first|refine At ?_|refine Ah rfl ?_|refine Ae rfl ?_)))
        refine ret1 rfl rfl ⟨?_,Below.refl _ _⟩
        rw [AQ]
        rintro rfl
        exact absurd (Option.some.inj (hx.symm.trans hy)) (by assumption)
      · ((first|refine Hv rfl rfl ?_|refine Hu rfl rfl rfl ?_)<;>refine Aj rfl rfl ?_<;>(refine o_z ?_))
        exact ⟨k + 1,⟨rfl,rfl,rfl,rfl,trivial⟩,⟨rfl,by omega,by rw [List.take_add_one,List.take_add_one,hx,hy,hh,show x=y from by omega]⟩,by omega⟩
    · ((repeat (first|refine At ?_|refine Ah rfl ?_|refine Ae rfl ?_))<;>((first|refine Ds rfl rfl rfl ?_|refine Dt rfl rfl rfl ?_)<;>(refine o_z ?_))<;>(repeat (first|refine At ?_|refine Ah rfl ?_|refine Ae rfl ?_))<;>(refine Am rfl rfl ?_<;>(refine o_z ?_))<;>(repeat (first|refine At ?_|refine Ah rfl ?_|refine Ae rfl ?_)))
      refine ret1 rfl rfl ⟨?_,Below.refl _ _⟩
      rw [List.take_of_length_le (by omega),List.take_of_length_le (by omega)] at hh
      rw [Be hh]
  · ((repeat (first|refine At ?_|refine Ah rfl ?_|refine Ae rfl ?_))<;>(refine Am rfl rfl ?_<;>(refine o_z ?_))<;>(repeat (first|refine At ?_|refine Ah rfl ?_|refine Ae rfl ?_))<;>(refine Aj rfl rfl ?_<;>refine AX rfl rfl ?_<;>refine Aj rfl rfl ?_<;>refine AX rfl rfl ?_<;>(first|refine IB rfl rfl rfl ?_|refine IC rfl rfl rfl ?_)<;>(refine o_z ?_))<;>(repeat (first|refine At ?_|refine Ah rfl ?_|refine Ae rfl ?_))<;>(refine Am rfl rfl ?_<;>(refine o_z ?_))<;>(repeat (first|refine At ?_|refine Ah rfl ?_|refine Ae rfl ?_)))
    refine ret1 rfl rfl ⟨?_,Below.refl _ _⟩
    rw [AQ (fun h=>hl (by rw [h]))]
def StateOk (vars s:List Int):Prop:=s.length=vars.length∧∀ (i:Nat) x y,s[i]?=some x→vars[i]?=some y→0≤x∧x < y
theorem baseState {w:World} {vv sv:Value} {vars s:List Int} (ha:V w vv vars) (hb:V w sv s) :
    Fn Tryz.prog 44 [vv,sv] w fun v w'=>v=.bool (bof (StateOk vars s))∧Ext w w':=by
  obtain ⟨A,ca,rfl⟩:=ha.form
  obtain ⟨B,cb,rfl⟩:=hb.form
  have hal:=hb.len
  refine AP Tryz.func44 rfl Tryz.ntmps44 rfl ?_
  by_cases hl:s.length=vars.length
  · ((repeat (first|refine At ?_|refine Ah rfl ?_|refine Ae rfl ?_))<;>(refine Am rfl rfl ?_<;>(refine o_z ?_))<;>(repeat (first|refine At ?_|refine Ah rfl ?_|refine Ae rfl ?_))<;>(refine Aj rfl rfl ?_<;>refine AX rfl rfl ?_<;>refine Aj rfl rfl ?_<;>refine AX rfl rfl ?_<;>(first|refine IB rfl rfl rfl ?_|refine IC rfl rfl rfl ?_)<;>(refine o_z ?_))<;>(repeat (first|refine At ?_|refine Ah rfl ?_|refine Ae rfl ?_))<;>(refine Aj rfl rfl ?_<;>refine AX rfl rfl ?_<;>refine Aj rfl rfl ?_<;>(refine o_z ?_))<;>(repeat (first|refine At ?_|refine Ah rfl ?_|refine Ae rfl ?_)))
    refine FD (fun k:Nat=>[(0,.slice A vars.length ca),(1,.slice B s.length cb),(12,.int .i64 (s.length:Int)),(13,.int .i64 (k:Int))])
      (fun k w'=>w'=w∧k≤s.length∧∀ (i:Nat) x y,i < k→s[i]?=some x→vars[i]?=some y→0≤x∧x < y) (fun k=>s.length - k) 0 ⟨rfl,Nat.zero_le _,fun i _ _ h=>by omega⟩ ⟨rfl,rfl,rfl,rfl,trivial⟩ ?_
    rintro k _ ⟨rfl,hk,hh⟩
    by_cases hlt:k < s.length
    · obtain ⟨x,hx⟩:=AR hlt
      obtain ⟨y,hy⟩:=AR (l:=vars) (k:=k) (by omega)
      obtain ⟨b1,o1,ce,rfl,_,_,hd1,rfl,_⟩:=ha.elem hy
      obtain ⟨b2,o2,ce,rfl,_,_,hd2,rfl,_⟩:=hb.elem hx
      ((repeat (first|refine At ?_|refine Ah rfl ?_|refine Ae rfl ?_))<;>((first|refine Ds rfl rfl rfl ?_|refine Dt rfl rfl rfl ?_)<;>(refine o_z ?_))<;>(repeat (first|refine At ?_|refine Ah rfl ?_|refine Ae rfl ?_))<;>(refine Aj rfl rfl ?_<;>refine Am rfl rfl ?_<;>(refine o_z ?_))<;>(repeat (first|refine At ?_|refine Ah rfl ?_|refine Ae rfl ?_)))
      refine Dx (·=_) [(0,true),(1,true),(2,true),(3,true),(4,true),(5,true),(6,true),(7,true),(8,true),(9,true),(10,true),(11,true),(12,true),(13,true),(14,true),(15,true)] (by kernel_rfl) rfl (by kernel_rfl) rfl ?_
      (refine AH rfl rfl rfl ?_<;>refine AH rfl rfl rfl ?_<;>refine Pp rfl rfl rfl rfl ?_<;>refine CT rfl rfl rfl ?_<;>(first|refine Lu rfl rfl rfl rfl ?_|refine Lv rfl rfl rfl rfl ?_|refine JN rfl rfl rfl rfl (fun _=>?_) fun _=>?_)<;>refine AH rfl rfl rfl ?_<;>(refine Al rfl ?_;(first|(refine Ak rfl rfl ?_;refine BS rfl rfl ?_)|refine AA rfl rfl rfl rfl ?_))<;>(refine Al rfl ?_;(first|(refine Ak rfl rfl ?_;refine BS rfl rfl ?_)|refine AA rfl rfl rfl rfl ?_))<;>(refine Al rfl ?_;(first|(refine Ak rfl rfl ?_;refine GX rfl rfl rfl ?_)|refine AA rfl rfl rfl rfl ?_))<;>(refine Al rfl ?_;(first|(refine Ak rfl rfl ?_;refine Bt rfl rfl ?_)|refine AA rfl rfl rfl rfl ?_))<;>(refine Al rfl ?_;(first|(refine Ak rfl rfl ?_;refine BS rfl rfl ?_)|refine AA rfl rfl rfl rfl ?_))<;>(refine Al rfl ?_;(first|(refine Ak rfl rfl ?_;refine BS rfl rfl ?_)|refine AA rfl rfl rfl rfl ?_))<;>(refine Al rfl ?_;(first|(refine Ak rfl rfl ?_;refine GX rfl rfl rfl ?_)|refine AA rfl rfl rfl rfl ?_))<;>(refine Al rfl ?_;(first|(refine Ak rfl rfl ?_;refine Bt rfl rfl ?_)|refine AA rfl rfl rfl rfl ?_))<;>(refine Al rfl ?_;(first|(refine Ak rfl rfl ?_;(first|refine Co (fun _ _=>Br rfl rfl) rfl (by omega) ?_|refine Cp (fun _ _=>Br rfl rfl) rfl (by omega) ?_|refine Bn (fun _ _=>Br rfl rfl) rfl (fun _=>?_) (fun _=>?_)))|refine AA rfl rfl rfl rfl ?_))<;>(first|refine Ce rfl rfl rfl rfl ?_|refine Cb rfl rfl rfl rfl ?_)<;>(refine h_z ?_))<;>(repeat (first|refine At ?_|refine Ah rfl ?_|refine Ae rfl ?_))
      case refine_2.refine_2 =>
        ((first|refine Hv rfl rfl ?_|refine Hu rfl rfl rfl ?_)<;>refine Aj rfl rfl ?_<;>(refine o_z ?_))
        refine ⟨k + 1,⟨rfl,rfl,rfl,rfl,trivial⟩,⟨rfl,by omega,fun i x' y' hi h1 h2=>?_⟩,by omega⟩
        by_cases he:i=k
        · subst he
          rw [hx] at h1;rw [hy] at h2
          injection h1 with h1;injection h2 with h2
          omega
        · exact hh i x' y' (by omega) h1 h2
      all_goals
        ((repeat (first|refine At ?_|refine Ah rfl ?_|refine Ae rfl ?_))<;>(refine Am rfl rfl ?_<;>(refine o_z ?_))<;>(repeat (first|refine At ?_|refine Ah rfl ?_|refine Ae rfl ?_)))
        refine ret1 rfl rfl ⟨?_,Below.refl _ _⟩
        rw [AQ (fun h=>by have:=h.2 k x y hx hy;omega)]
    · ((repeat (first|refine At ?_|refine Ah rfl ?_|refine Ae rfl ?_))<;>((first|refine Ds rfl rfl rfl ?_|refine Dt rfl rfl rfl ?_)<;>(refine o_z ?_))<;>(repeat (first|refine At ?_|refine Ah rfl ?_|refine Ae rfl ?_))<;>(refine Am rfl rfl ?_<;>(refine o_z ?_))<;>(repeat (first|refine At ?_|refine Ah rfl ?_|refine Ae rfl ?_)))
      refine ret1 rfl rfl ⟨?_,Below.refl _ _⟩
      rw [Be ⟨hl,fun i x y h1 h2=>hh i x y (by have:=BN h1;omega) h1 h2⟩]
  · ((repeat (first|refine At ?_|refine Ah rfl ?_|refine Ae rfl ?_))<;>(refine Am rfl rfl ?_<;>(refine o_z ?_))<;>(repeat (first|refine At ?_|refine Ah rfl ?_|refine Ae rfl ?_))<;>(refine Aj rfl rfl ?_<;>refine AX rfl rfl ?_<;>refine Aj rfl rfl ?_<;>refine AX rfl rfl ?_<;>(first|refine IB rfl rfl rfl ?_|refine IC rfl rfl rfl ?_)<;>(refine o_z ?_))<;>(repeat (first|refine At ?_|refine Ah rfl ?_|refine Ae rfl ?_))<;>(refine Am rfl rfl ?_<;>(refine o_z ?_))<;>(repeat (first|refine At ?_|refine Ah rfl ?_|refine Ae rfl ?_)))
    refine ret1 rfl rfl ⟨?_,Below.refl _ _⟩
    rw [AQ (fun h=>hl h.1)]
end
section
open Go Go.RowKit
attribute [local irreducible] ewp owp hwp hwq Ev Evg Fn retPost Res1
theorem taskProper {w:World} {vv sv:Value} {vars s:List Int} (ha:V w vv vars) (hb:V w sv s) :
    Fn Tryz.prog 34 [vv,sv] w fun v w'=>v=.bool (bof (StateOk vars s))∧Ext w w':=by
  obtain ⟨A,ca,rfl⟩:=ha.form
  obtain ⟨B,cb,rfl⟩:=hb.form
  have hal:=hb.len
  refine AP Tryz.func34 rfl Tryz.ntmps34 rfl ?_
  by_cases hl:s.length=vars.length
  · ((repeat (first|refine At ?_|refine Ah rfl ?_|refine Ae rfl ?_))<;>(refine Am rfl rfl ?_<;>(refine o_z ?_))<;>(repeat (first|refine At ?_|refine Ah rfl ?_|refine Ae rfl ?_))<;>(refine Aj rfl rfl ?_<;>refine AX rfl rfl ?_<;>refine Aj rfl rfl ?_<;>refine AX rfl rfl ?_<;>(first|refine IB rfl rfl rfl ?_|refine IC rfl rfl rfl ?_)<;>(refine o_z ?_))<;>(repeat (first|refine At ?_|refine Ah rfl ?_|refine Ae rfl ?_))<;>(refine Aj rfl rfl ?_<;>refine AX rfl rfl ?_<;>refine Aj rfl rfl ?_<;>(refine o_z ?_))<;>(repeat (first|refine At ?_|refine Ah rfl ?_|refine Ae rfl ?_)))
    refine FD (fun k:Nat=>[(0,.slice A vars.length ca),(12,.slice B s.length cb),(13,.int .i64 (s.length:Int)),(14,.int .i64 (k:Int))])
      (fun k w'=>w'=w∧k≤s.length∧∀ (i:Nat) x y,i < k→s[i]?=some x→vars[i]?=some y→0≤x∧x < y) (fun k=>s.length - k) 0 ⟨rfl,Nat.zero_le _,fun i _ _ h=>by omega⟩ ⟨rfl,rfl,rfl,rfl,trivial⟩ ?_
    rintro k _ ⟨rfl,hk,hh⟩
    by_cases hlt:k < s.length
    · obtain ⟨x,hx⟩:=AR hlt
      obtain ⟨y,hy⟩:=AR (l:=vars) (k:=k) (by omega)
      obtain ⟨b1,o1,ce,rfl,_,_,hd1,rfl,_⟩:=ha.elem hy
      obtain ⟨b2,o2,ce,rfl,_,_,hd2,rfl,_⟩:=hb.elem hx
      ((repeat (first|refine At ?_|refine Ah rfl ?_|refine Ae rfl ?_))<;>((first|refine Ds rfl rfl rfl ?_|refine Dt rfl rfl rfl ?_)<;>(refine o_z ?_))<;>(repeat (first|refine At ?_|refine Ah rfl ?_|refine Ae rfl ?_))<;>(refine Aj rfl rfl ?_<;>refine Ey rfl rfl rfl ?_<;>refine AJ rfl rfl ?_<;>refine Am rfl rfl ?_<;>refine Am rfl rfl ?_<;>(refine o_z ?_))<;>(repeat (first|refine At ?_|refine Ah rfl ?_|refine Ae rfl ?_))<;>(refine Aj rfl rfl ?_<;>(first|refine Ds rfl rfl rfl ?_|refine Dt rfl rfl rfl ?_|refine Dj rfl rfl rfl (fun _=>?_) fun _=>?_)<;>refine Aj rfl rfl ?_<;>(first|(refine Ar rfl rfl ?_;refine Aj rfl rfl ?_)|refine An rfl rfl rfl rfl ?_)<;>(first|(refine Ar rfl rfl ?_;refine Aj rfl rfl ?_)|refine An rfl rfl rfl rfl ?_)<;>(first|(refine Ar rfl rfl ?_;refine Aj rfl rfl ?_)|refine An rfl rfl rfl rfl ?_)<;>(first|(refine Ar rfl rfl ?_;refine Ey rfl rfl rfl ?_)|refine An rfl rfl rfl rfl ?_)<;>(first|(refine Ar rfl rfl ?_;refine AJ rfl rfl ?_)|refine An rfl rfl rfl rfl ?_)<;>(first|(refine Ar rfl rfl ?_;(first|refine Nz rfl rfl rfl ?_|refine NA rfl rfl rfl ?_|refine IA rfl rfl rfl (fun _=>?_) fun _=>?_))|refine An rfl rfl rfl rfl ?_)<;>(first|refine By rfl rfl rfl ?_|refine Bz rfl rfl rfl ?_)<;>(refine o_z ?_))<;>(repeat (first|refine At ?_|refine Ah rfl ?_|refine Ae rfl ?_)))
      case refine_2.refine_2 =>
        ((first|refine Hv rfl rfl ?_|refine Hu rfl rfl rfl ?_)<;>refine Aj rfl rfl ?_<;>(refine o_z ?_))
        refine ⟨k + 1,⟨rfl,rfl,rfl,rfl,trivial⟩,⟨rfl,by omega,fun i x' y' hi h1 h2=>?_⟩,by omega⟩
        by_cases he:i=k
        · subst he
          rw [hx] at h1;rw [hy] at h2
          injection h1 with h1;injection h2 with h2
          omega
        · exact hh i x' y' (by omega) h1 h2
      all_goals
        ((repeat (first|refine At ?_|refine Ah rfl ?_|refine Ae rfl ?_))<;>(refine Am rfl rfl ?_<;>(refine o_z ?_))<;>(repeat (first|refine At ?_|refine Ah rfl ?_|refine Ae rfl ?_)))
        refine ret1 rfl rfl ⟨?_,Below.refl _ _⟩
        rw [AQ (fun h=>by have:=h.2 k x y hx hy;omega)]
    · ((repeat (first|refine At ?_|refine Ah rfl ?_|refine Ae rfl ?_))<;>((first|refine Ds rfl rfl rfl ?_|refine Dt rfl rfl rfl ?_)<;>(refine o_z ?_))<;>(repeat (first|refine At ?_|refine Ah rfl ?_|refine Ae rfl ?_))<;>(refine Am rfl rfl ?_<;>(refine o_z ?_))<;>(repeat (first|refine At ?_|refine Ah rfl ?_|refine Ae rfl ?_)))
      refine ret1 rfl rfl ⟨?_,Below.refl _ _⟩
      rw [Be ⟨hl,fun i x y h1 h2=>hh i x y (by have:=BN h1;omega) h1 h2⟩]
  · ((repeat (first|refine At ?_|refine Ah rfl ?_|refine Ae rfl ?_))<;>(refine Am rfl rfl ?_<;>(refine o_z ?_))<;>(repeat (first|refine At ?_|refine Ah rfl ?_|refine Ae rfl ?_))<;>(refine Aj rfl rfl ?_<;>refine AX rfl rfl ?_<;>refine Aj rfl rfl ?_<;>refine AX rfl rfl ?_<;>(first|refine IB rfl rfl rfl ?_|refine IC rfl rfl rfl ?_)<;>(refine o_z ?_))<;>(repeat (first|refine At ?_|refine Ah rfl ?_|refine Ae rfl ?_))<;>(refine Am rfl rfl ?_<;>(refine o_z ?_))<;>(repeat (first|refine At ?_|refine Ah rfl ?_|refine Ae rfl ?_)))
    refine ret1 rfl rfl ⟨?_,Below.refl _ _⟩
    rw [AQ (fun h=>hl h.1)]
def FactOk (vars:List Int) (x:Fct):Prop:=0≤x.var∧0≤x.val∧∃ y,vars[x.var.toNat]?=some y∧x.val < y
def FactsOk (vars:List Int) (f:List Fct):Prop:=(∀ (i:Nat) x,f[i]?=some x→FactOk vars x)∧∀ (i:Nat) x y,f[i]?=some x→f[i + 1]?=some y→x.var < y.var
def FactsTo (vars:List Int) (f:List Fct) (k:Nat):Prop:=(∀ (i:Nat) x,i < k→f[i]?=some x→FactOk vars x)∧∀ (i:Nat) x y,i + 1 < k→f[i]?=some x→f[i + 1]?=some y→x.var < y.var
theorem FactsTo.step {vars:List Int} {f:List Fct} {k:Nat} {x:Fct} (h:FactsTo vars f k) (hx:f[k]?=some x) (ho:FactOk vars x) (hp:∀ y,0 < k→f[k - 1]?=some y→y.var < x.var):FactsTo vars f (k + 1):=by
  refine ⟨fun i y hi hy=>?_,fun i y z hi hy hz=>?_⟩
  · by_cases he:i=k
    · subst he;rw [hx] at hy;injection hy with hy;exact hy ▸ ho
    · exact h.1 i y (by omega) hy
  · by_cases he:i + 1=k
    · rw [he,hx] at hz;injection hz with hz;subst hz
      exact hp y (by omega) (by rw [show k - 1=i from by omega];exact hy)
    · exact h.2 i y z (by omega) hy hz
theorem FactsTo.done {vars:List Int} {f:List Fct} {k:Nat} (h:FactsTo vars f k) (hk:f.length≤k):FactsOk vars f :=
  ⟨fun i x hx=>h.1 i x (by have:=BN hx;omega) hx,fun i x y hx hy=>h.2 i x y (by have:=BN hy;omega) hx hy⟩
theorem baseProper {w:World} {vv fv:Value} {vars:List Int} {f:List Fct} (hv:V w vv vars) (hf:V w fv f) :
    Fn Tryz.prog 45 [vv,fv] w fun v w'=>v=.bool (bof (FactsOk vars f))∧Ext w w':=by
  obtain ⟨A,ca,rfl⟩:=hv.form
  obtain ⟨B,cb,rfl⟩:=hf.form
  have hfl:=hf.len
  refine AP Tryz.func45 rfl Tryz.ntmps45 rfl ?_
  ((repeat (first|refine At ?_|refine Ah rfl ?_|refine Ae rfl ?_))<;>(refine Am rfl rfl ?_<;>(refine o_z ?_))<;>(repeat (first|refine At ?_|refine Ah rfl ?_|refine Ae rfl ?_))<;>(refine Aj rfl rfl ?_<;>refine AX rfl rfl ?_<;>refine Aj rfl rfl ?_<;>(refine o_z ?_))<;>(repeat (first|refine At ?_|refine Ah rfl ?_|refine Ae rfl ?_)))
  refine FD (fun k:Nat=>[(0,.slice A vars.length ca),(1,.slice B f.length cb),(7,.slice B f.length cb),(8,.int .i64 (f.length:Int)),(9,.int .i64 (k:Int))])
    (fun k w'=>Ext w w'∧k≤f.length∧FactsTo vars f k) (fun k=>f.length - k) 0 ⟨Below.refl _ _,Nat.zero_le _,⟨fun i _ h=>by omega,fun i _ _ h=>by omega⟩⟩ ⟨rfl,rfl,rfl,rfl,rfl,trivial⟩ ?_
  rintro k w1 ⟨hE,hk,hh⟩
  by_cases hlt:k < f.length
  · obtain ⟨x,hx⟩:=AR hlt
    obtain ⟨b,o,ce,rfl,hb,_,hd1,rfl,hr1,hr2⟩:=(hf.ext hE).elem hx
    ((repeat (first|refine At ?_|refine Ah rfl ?_|refine Ae rfl ?_))<;>((first|refine Ds rfl rfl rfl ?_|refine Dt rfl rfl rfl ?_)<;>(refine o_z ?_))<;>(repeat (first|refine At ?_|refine Ah rfl ?_|refine Ae rfl ?_))<;>(refine Aj rfl rfl ?_<;>refine Ey rfl rfl rfl ?_<;>refine Ba rfl rfl ?_)<;>(repeat (first|refine At ?_|refine Ah rfl ?_|refine Ae rfl ?_)))
    refine Ia rfl fun w2 hN=>?_
    (refine Am rfl rfl ?_)
    refine FQ rfl rfl hN.blk rfl (Nat.le_refl _) (by simp [Value.cells,Value.oneCell']) fun w3 hU=>?_
    replace hN:=hN.upd hU
    have hb1:=hN.blk
    have hE3:Ext w w3:=hE.trans' hN.ext
    ((refine o_z ?_))
    repeat (first|refine At ?_|refine Ah rfl ?_|refine Ae rfl ?_)
    refine Dx (·=w3) [(0,true),(1,true),(2,true),(3,true),(4,true),(5,true),(6,true),(7,true),(8,true),(9,true),(10,true),(11,true),(12,true),(13,true),(14,true),(15,true),(16,true),(17,true),(18,true),(19,true),(20,true),(21,true),(22,true),(23,true),(24,true),(25,true),(26,true),(27,true),(28,true),(29,true),(30,true),(31,true),(32,true),(33,true),(34,true),(35,true),(36,true),(37,true),(38,true),(39,true)] (by kernel_rfl) rfl (by kernel_rfl) rfl ?_
    by_cases hvr:0≤x.var∧x.var < vars.length
    · obtain ⟨j,hj1⟩:=Int.eq_ofNat_of_zero_le hvr.1
      obtain ⟨y,hy⟩:=AR (l:=vars) (k:=j) (by omega)
      obtain ⟨b2,o2,ce2,rfl,_,_,hd2,rfl,_⟩:=(hv.ext hE3).elem hy
      have hjy:vars[x.var.toNat]?=some y:=by rw [hj1];simpa using hy
      have hok:0≤x.val→x.val < y→FactOk vars x:=fun h1 h2=>⟨hvr.1,h1,y,hjy,h2⟩
      have hno:¬ (0≤x.val∧x.val < y)→¬ FactsOk vars f:=fun h1 h2=>h1 (by
        obtain ⟨_,h3,y',h4,h5⟩:=h2.1 k x hx
        rw [hjy] at h4;injection h4 with h4;subst h4;exact ⟨h3,h5⟩)
      by_cases h0:0 < k
      · obtain ⟨z,hz⟩:=AR (l:=f) (k:=k - 1) (by omega)
        obtain ⟨b3,o3,ce3,he3,_,_,hd3,rfl,_⟩:=(hf.ext hE3).elem hz
        injection he3 with he3
        injection he3 with he3 he4
        subst he3;subst he4
        have hj2:(k:Int) - 1=((k - 1:Nat):Int):=by omega
        have hno2:¬ z.var < x.var→¬ FactsOk vars f:=fun h1 h2=>h1 (h2.2 (k - 1) z x hz (by rw [show k - 1 + 1=k from by omega];exact hx))
        (refine AM rfl rfl rfl ?_<;>refine CT rfl rfl rfl ?_<;>(first|refine Lu rfl rfl rfl rfl ?_|refine Lv rfl rfl rfl rfl ?_|refine JN rfl rfl rfl rfl (fun _=>?_) fun _=>?_)<;>refine AH rfl rfl rfl ?_<;>(refine Al rfl ?_;(first|(refine Ak rfl rfl ?_;refine BD rfl rfl ?_)|refine AA rfl rfl rfl rfl ?_))<;>(refine Al rfl ?_;(first|(refine Ak rfl rfl ?_;refine Bt rfl rfl ?_)|refine AA rfl rfl rfl rfl ?_))<;>(refine Al rfl ?_;(first|(refine Ak rfl rfl ?_;refine BS rfl rfl ?_)|refine AA rfl rfl rfl rfl ?_))<;>(refine Al rfl ?_;(first|(refine Ak rfl rfl ?_;refine Ie rfl rfl ?_)|refine AA rfl rfl rfl rfl ?_))<;>(refine Al rfl ?_;(first|(refine Ak rfl rfl ?_;(first|refine Co (fun _ _=>Br rfl rfl) rfl (by omega) ?_|refine Cp (fun _ _=>Br rfl rfl) rfl (by omega) ?_|refine Bn (fun _ _=>Br rfl rfl) rfl (fun _=>?_) (fun _=>?_)))|refine AA rfl rfl rfl rfl ?_))<;>(first|refine Ce rfl rfl rfl rfl ?_|refine Cb rfl rfl rfl rfl ?_)<;>refine AH rfl rfl rfl ?_<;>(refine Al rfl ?_;(first|(refine Ak rfl rfl ?_;refine BD rfl rfl ?_)|refine AA rfl rfl rfl rfl ?_))<;>(refine Al rfl ?_;(first|(refine Ak rfl rfl ?_;refine Bt rfl rfl ?_)|refine AA rfl rfl rfl rfl ?_))<;>(refine Al rfl ?_;(first|(refine Ak rfl rfl ?_;(first|refine Co (fun _ _=>Cv rfl rfl) rfl (by omega) ?_|refine Cp (fun _ _=>Cv rfl rfl) rfl (by omega) ?_|refine Bn (fun _ _=>Cv rfl rfl) rfl (fun _=>?_) (fun _=>?_)))|refine AA rfl rfl rfl rfl ?_))<;>(first|refine Ce rfl rfl rfl rfl ?_|refine Cb rfl rfl rfl rfl ?_)<;>refine AH rfl rfl rfl ?_<;>(refine Al rfl ?_;(first|(refine Ak rfl rfl ?_;refine BD rfl rfl ?_)|refine AA rfl rfl rfl rfl ?_))<;>(refine Al rfl ?_;(first|(refine Ak rfl rfl ?_;refine Bt rfl rfl ?_)|refine AA rfl rfl rfl rfl ?_))<;>(refine Al rfl ?_;(first|(refine Ak rfl rfl ?_;refine BS rfl rfl ?_)|refine AA rfl rfl rfl rfl ?_))<;>(refine Al rfl ?_;(first|(refine Ak rfl rfl ?_;refine BD rfl rfl ?_)|refine AA rfl rfl rfl rfl ?_))<;>(refine Al rfl ?_;(first|(refine Ak rfl rfl ?_;refine Bt rfl rfl ?_)|refine AA rfl rfl rfl rfl ?_))<;>(refine Al rfl ?_;(first|(refine Ak rfl rfl ?_;refine GX rfl rfl rfl ?_)|refine AA rfl rfl rfl rfl ?_))<;>(refine Al rfl ?_;(first|(refine Ak rfl rfl ?_;refine Bt rfl rfl ?_)|refine AA rfl rfl rfl rfl ?_))<;>(refine Al rfl ?_;(first|(refine Ak rfl rfl ?_;(first|refine Co (fun _ _=>Br rfl rfl) rfl (by omega) ?_|refine Cp (fun _ _=>Br rfl rfl) rfl (by omega) ?_|refine Bn (fun _ _=>Br rfl rfl) rfl (fun _=>?_) (fun _=>?_)))|refine AA rfl rfl rfl rfl ?_))<;>(first|refine Ce rfl rfl rfl rfl ?_|refine Cb rfl rfl rfl rfl ?_)<;>refine AH rfl rfl rfl ?_<;>(refine Al rfl ?_;(first|(refine Ak rfl rfl ?_;refine BS rfl rfl ?_)|refine AA rfl rfl rfl rfl ?_))<;>(refine Al rfl ?_;(first|(refine Ak rfl rfl ?_;(first|refine Co (fun _ _=>Ed rfl rfl) rfl (by omega) ?_|refine Cp (fun _ _=>Ed rfl rfl) rfl (by omega) ?_|refine Bn (fun _ _=>Ed rfl rfl) rfl (fun _=>?_) (fun _=>?_)))|refine AA rfl rfl rfl rfl ?_))<;>(refine Al rfl ?_;(first|(refine Ak rfl rfl ?_;refine BS rfl rfl ?_)|refine AA rfl rfl rfl rfl ?_))<;>(refine Al rfl ?_;(first|(refine Ak rfl rfl ?_;refine BS rfl rfl ?_)|refine AA rfl rfl rfl rfl ?_))<;>(refine Al rfl ?_;(first|(refine Ak rfl rfl ?_;refine BS rfl rfl ?_)|refine AA rfl rfl rfl rfl ?_))<;>(refine Al rfl ?_;(first|(refine Ak rfl rfl ?_;refine Ps rfl rfl rfl ?_)|refine AA rfl rfl rfl rfl ?_))<;>(refine Al rfl ?_;(first|(refine Ak rfl rfl ?_;refine GX rfl rfl rfl ?_)|refine AA rfl rfl rfl rfl ?_))<;>(refine Al rfl ?_;(first|(refine Ak rfl rfl ?_;refine BD rfl rfl ?_)|refine AA rfl rfl rfl rfl ?_))<;>(refine Al rfl ?_;(first|(refine Ak rfl rfl ?_;refine Bt rfl rfl ?_)|refine AA rfl rfl rfl rfl ?_))<;>(refine Al rfl ?_;(first|(refine Ak rfl rfl ?_;refine BD rfl rfl ?_)|refine AA rfl rfl rfl rfl ?_))<;>(refine Al rfl ?_;(first|(refine Ak rfl rfl ?_;refine Bt rfl rfl ?_)|refine AA rfl rfl rfl rfl ?_))<;>(refine Al rfl ?_;(first|(refine Ak rfl rfl ?_;(first|refine Co (fun _ _=>Br rfl rfl) rfl (by omega) ?_|refine Cp (fun _ _=>Br rfl rfl) rfl (by omega) ?_|refine Bn (fun _ _=>Br rfl rfl) rfl (fun _=>?_) (fun _=>?_)))|refine AA rfl rfl rfl rfl ?_))<;>(refine Al rfl ?_;(first|(refine Ak rfl rfl ?_;(first|refine Pq rfl rfl rfl ?_|refine Pr rfl rfl rfl ?_))|refine AA rfl rfl rfl rfl ?_))<;>(first|refine Ce rfl rfl rfl rfl ?_|refine Cb rfl rfl rfl rfl ?_)<;>(refine h_z ?_))<;>(repeat (first|refine At ?_|refine Ah rfl ?_|refine Ae rfl ?_))
        all_goals first
          | (((first|refine Hv rfl rfl ?_|refine Hu rfl rfl rfl ?_)<;>refine Aj rfl rfl ?_<;>(refine o_z ?_))
             exact ⟨k + 1,⟨rfl,rfl,rfl,rfl,rfl,trivial⟩,⟨hE3,by omega,hh.step hx (hok (by omega) (by omega)) (fun y' _ hy'=>by rw [hz] at hy';injection hy' with hy';subst hy';omega)⟩,by omega⟩)
          | (((repeat (first|refine At ?_|refine Ah rfl ?_|refine Ae rfl ?_))<;>(refine Am rfl rfl ?_<;>(refine o_z ?_))<;>(repeat (first|refine At ?_|refine Ah rfl ?_|refine Ae rfl ?_)))
             refine ret1 rfl rfl ⟨?_,hE3⟩
             first|rw [AQ (hno (by omega))]|rw [AQ (hno2 (by omega))])
      · (refine AM rfl rfl rfl ?_<;>refine CT rfl rfl rfl ?_<;>(first|refine Lu rfl rfl rfl rfl ?_|refine Lv rfl rfl rfl rfl ?_|refine JN rfl rfl rfl rfl (fun _=>?_) fun _=>?_)<;>refine AH rfl rfl rfl ?_<;>(refine Al rfl ?_;(first|(refine Ak rfl rfl ?_;refine BD rfl rfl ?_)|refine AA rfl rfl rfl rfl ?_))<;>(refine Al rfl ?_;(first|(refine Ak rfl rfl ?_;refine Bt rfl rfl ?_)|refine AA rfl rfl rfl rfl ?_))<;>(refine Al rfl ?_;(first|(refine Ak rfl rfl ?_;refine BS rfl rfl ?_)|refine AA rfl rfl rfl rfl ?_))<;>(refine Al rfl ?_;(first|(refine Ak rfl rfl ?_;refine Ie rfl rfl ?_)|refine AA rfl rfl rfl rfl ?_))<;>(refine Al rfl ?_;(first|(refine Ak rfl rfl ?_;(first|refine Co (fun _ _=>Br rfl rfl) rfl (by omega) ?_|refine Cp (fun _ _=>Br rfl rfl) rfl (by omega) ?_|refine Bn (fun _ _=>Br rfl rfl) rfl (fun _=>?_) (fun _=>?_)))|refine AA rfl rfl rfl rfl ?_))<;>(first|refine Ce rfl rfl rfl rfl ?_|refine Cb rfl rfl rfl rfl ?_)<;>refine AH rfl rfl rfl ?_<;>(refine Al rfl ?_;(first|(refine Ak rfl rfl ?_;refine BD rfl rfl ?_)|refine AA rfl rfl rfl rfl ?_))<;>(refine Al rfl ?_;(first|(refine Ak rfl rfl ?_;refine Bt rfl rfl ?_)|refine AA rfl rfl rfl rfl ?_))<;>(refine Al rfl ?_;(first|(refine Ak rfl rfl ?_;(first|refine Co (fun _ _=>Cv rfl rfl) rfl (by omega) ?_|refine Cp (fun _ _=>Cv rfl rfl) rfl (by omega) ?_|refine Bn (fun _ _=>Cv rfl rfl) rfl (fun _=>?_) (fun _=>?_)))|refine AA rfl rfl rfl rfl ?_))<;>(first|refine Ce rfl rfl rfl rfl ?_|refine Cb rfl rfl rfl rfl ?_)<;>refine AH rfl rfl rfl ?_<;>(refine Al rfl ?_;(first|(refine Ak rfl rfl ?_;refine BD rfl rfl ?_)|refine AA rfl rfl rfl rfl ?_))<;>(refine Al rfl ?_;(first|(refine Ak rfl rfl ?_;refine Bt rfl rfl ?_)|refine AA rfl rfl rfl rfl ?_))<;>(refine Al rfl ?_;(first|(refine Ak rfl rfl ?_;refine BS rfl rfl ?_)|refine AA rfl rfl rfl rfl ?_))<;>(refine Al rfl ?_;(first|(refine Ak rfl rfl ?_;refine BD rfl rfl ?_)|refine AA rfl rfl rfl rfl ?_))<;>(refine Al rfl ?_;(first|(refine Ak rfl rfl ?_;refine Bt rfl rfl ?_)|refine AA rfl rfl rfl rfl ?_))<;>(refine Al rfl ?_;(first|(refine Ak rfl rfl ?_;refine GX rfl rfl rfl ?_)|refine AA rfl rfl rfl rfl ?_))<;>(refine Al rfl ?_;(first|(refine Ak rfl rfl ?_;refine Bt rfl rfl ?_)|refine AA rfl rfl rfl rfl ?_))<;>(refine Al rfl ?_;(first|(refine Ak rfl rfl ?_;(first|refine Co (fun _ _=>Br rfl rfl) rfl (by omega) ?_|refine Cp (fun _ _=>Br rfl rfl) rfl (by omega) ?_|refine Bn (fun _ _=>Br rfl rfl) rfl (fun _=>?_) (fun _=>?_)))|refine AA rfl rfl rfl rfl ?_))<;>(first|refine Ce rfl rfl rfl rfl ?_|refine Cb rfl rfl rfl rfl ?_)<;>refine AH rfl rfl rfl ?_<;>(refine Al rfl ?_;(first|(refine Ak rfl rfl ?_;refine BS rfl rfl ?_)|refine AA rfl rfl rfl rfl ?_))<;>(refine Al rfl ?_;(first|(refine Ak rfl rfl ?_;(first|refine Co (fun _ _=>Ed rfl rfl) rfl (by omega) ?_|refine Cp (fun _ _=>Ed rfl rfl) rfl (by omega) ?_|refine Bn (fun _ _=>Ed rfl rfl) rfl (fun _=>?_) (fun _=>?_)))|refine AA rfl rfl rfl rfl ?_))<;>(refine Al rfl ?_;(first|(refine Ak rfl rfl ?_;refine BS rfl rfl ?_)|refine AA rfl rfl rfl rfl ?_))<;>(refine Al rfl ?_;(first|(refine Ak rfl rfl ?_;refine BS rfl rfl ?_)|refine AA rfl rfl rfl rfl ?_))<;>(refine Al rfl ?_;(first|(refine Ak rfl rfl ?_;refine BS rfl rfl ?_)|refine AA rfl rfl rfl rfl ?_))<;>(refine Al rfl ?_;(first|(refine Ak rfl rfl ?_;refine Ps rfl rfl rfl ?_)|refine AA rfl rfl rfl rfl ?_))<;>(refine Al rfl ?_;(first|(refine Ak rfl rfl ?_;refine GX rfl rfl rfl ?_)|refine AA rfl rfl rfl rfl ?_))<;>(refine Al rfl ?_;(first|(refine Ak rfl rfl ?_;refine BD rfl rfl ?_)|refine AA rfl rfl rfl rfl ?_))<;>(refine Al rfl ?_;(first|(refine Ak rfl rfl ?_;refine Bt rfl rfl ?_)|refine AA rfl rfl rfl rfl ?_))<;>(refine Al rfl ?_;(first|(refine Ak rfl rfl ?_;refine BD rfl rfl ?_)|refine AA rfl rfl rfl rfl ?_))<;>(refine Al rfl ?_;(first|(refine Ak rfl rfl ?_;refine Bt rfl rfl ?_)|refine AA rfl rfl rfl rfl ?_))<;>(refine Al rfl ?_;(first|(refine Ak rfl rfl ?_;(first|refine Co (fun _ _=>Br rfl rfl) rfl (by omega) ?_|refine Cp (fun _ _=>Br rfl rfl) rfl (by omega) ?_|refine Bn (fun _ _=>Br rfl rfl) rfl (fun _=>?_) (fun _=>?_)))|refine AA rfl rfl rfl rfl ?_))<;>(refine Al rfl ?_;(first|(refine Ak rfl rfl ?_;(first|refine Pq rfl rfl rfl ?_|refine Pr rfl rfl rfl ?_))|refine AA rfl rfl rfl rfl ?_))<;>(first|refine Ce rfl rfl rfl rfl ?_|refine Cb rfl rfl rfl rfl ?_)<;>(refine h_z ?_))<;>(repeat (first|refine At ?_|refine Ah rfl ?_|refine Ae rfl ?_))
        all_goals first
          | (((first|refine Hv rfl rfl ?_|refine Hu rfl rfl rfl ?_)<;>refine Aj rfl rfl ?_<;>(refine o_z ?_))
             exact ⟨k + 1,⟨rfl,rfl,rfl,rfl,rfl,trivial⟩,⟨hE3,by omega,hh.step hx (hok (by omega) (by omega)) (fun y' _ hy'=>by omega)⟩,by omega⟩)
          | (((repeat (first|refine At ?_|refine Ah rfl ?_|refine Ae rfl ?_))<;>(refine Am rfl rfl ?_<;>(refine o_z ?_))<;>(repeat (first|refine At ?_|refine Ah rfl ?_|refine Ae rfl ?_)))
             refine ret1 rfl rfl ⟨?_,hE3⟩
             rw [AQ (hno (by omega))])
    · have hno:¬ FactsOk vars f:=fun h=>by
        obtain ⟨h1,h2,y,h3,_⟩:=h.1 k x hx
        have:=BN h3
        omega
      (refine AM rfl rfl rfl ?_<;>refine CT rfl rfl rfl ?_<;>(first|refine Lu rfl rfl rfl rfl ?_|refine Lv rfl rfl rfl rfl ?_|refine JN rfl rfl rfl rfl (fun _=>?_) fun _=>?_)<;>refine AH rfl rfl rfl ?_<;>(refine Al rfl ?_;(first|(refine Ak rfl rfl ?_;refine BD rfl rfl ?_)|refine AA rfl rfl rfl rfl ?_))<;>(refine Al rfl ?_;(first|(refine Ak rfl rfl ?_;refine Bt rfl rfl ?_)|refine AA rfl rfl rfl rfl ?_))<;>(refine Al rfl ?_;(first|(refine Ak rfl rfl ?_;refine BS rfl rfl ?_)|refine AA rfl rfl rfl rfl ?_))<;>(refine Al rfl ?_;(first|(refine Ak rfl rfl ?_;refine Ie rfl rfl ?_)|refine AA rfl rfl rfl rfl ?_))<;>(refine Al rfl ?_;(first|(refine Ak rfl rfl ?_;(first|refine Co (fun _ _=>Br rfl rfl) rfl (by omega) ?_|refine Cp (fun _ _=>Br rfl rfl) rfl (by omega) ?_|refine Bn (fun _ _=>Br rfl rfl) rfl (fun _=>?_) (fun _=>?_)))|refine AA rfl rfl rfl rfl ?_))<;>(first|refine Ce rfl rfl rfl rfl ?_|refine Cb rfl rfl rfl rfl ?_)<;>refine AH rfl rfl rfl ?_<;>(refine Al rfl ?_;(first|(refine Ak rfl rfl ?_;refine BD rfl rfl ?_)|refine AA rfl rfl rfl rfl ?_))<;>(refine Al rfl ?_;(first|(refine Ak rfl rfl ?_;refine Bt rfl rfl ?_)|refine AA rfl rfl rfl rfl ?_))<;>(refine Al rfl ?_;(first|(refine Ak rfl rfl ?_;(first|refine Co (fun _ _=>Cv rfl rfl) rfl (by omega) ?_|refine Cp (fun _ _=>Cv rfl rfl) rfl (by omega) ?_|refine Bn (fun _ _=>Cv rfl rfl) rfl (fun _=>?_) (fun _=>?_)))|refine AA rfl rfl rfl rfl ?_))<;>(first|refine Ce rfl rfl rfl rfl ?_|refine Cb rfl rfl rfl rfl ?_)<;>refine AH rfl rfl rfl ?_<;>(refine Al rfl ?_;(first|(refine Ak rfl rfl ?_;refine BD rfl rfl ?_)|refine AA rfl rfl rfl rfl ?_))<;>(refine Al rfl ?_;(first|(refine Ak rfl rfl ?_;refine Bt rfl rfl ?_)|refine AA rfl rfl rfl rfl ?_))<;>(refine Al rfl ?_;(first|(refine Ak rfl rfl ?_;refine BS rfl rfl ?_)|refine AA rfl rfl rfl rfl ?_))<;>(refine Al rfl ?_;(first|(refine Ak rfl rfl ?_;refine BD rfl rfl ?_)|refine AA rfl rfl rfl rfl ?_))<;>(refine Al rfl ?_;(first|(refine Ak rfl rfl ?_;refine Bt rfl rfl ?_)|refine AA rfl rfl rfl rfl ?_))<;>(refine Al rfl ?_;(first|(refine Ak rfl rfl ?_;refine GX rfl rfl rfl ?_)|refine AA rfl rfl rfl rfl ?_))<;>(refine Al rfl ?_;(first|(refine Ak rfl rfl ?_;refine Bt rfl rfl ?_)|refine AA rfl rfl rfl rfl ?_))<;>(refine Al rfl ?_;(first|(refine Ak rfl rfl ?_;(first|refine Co (fun _ _=>Br rfl rfl) rfl (by omega) ?_|refine Cp (fun _ _=>Br rfl rfl) rfl (by omega) ?_|refine Bn (fun _ _=>Br rfl rfl) rfl (fun _=>?_) (fun _=>?_)))|refine AA rfl rfl rfl rfl ?_))<;>(first|refine Ce rfl rfl rfl rfl ?_|refine Cb rfl rfl rfl rfl ?_)<;>refine AH rfl rfl rfl ?_<;>(refine Al rfl ?_;(first|(refine Ak rfl rfl ?_;refine BS rfl rfl ?_)|refine AA rfl rfl rfl rfl ?_))<;>(refine Al rfl ?_;(first|(refine Ak rfl rfl ?_;(first|refine Co (fun _ _=>Ed rfl rfl) rfl (by omega) ?_|refine Cp (fun _ _=>Ed rfl rfl) rfl (by omega) ?_|refine Bn (fun _ _=>Ed rfl rfl) rfl (fun _=>?_) (fun _=>?_)))|refine AA rfl rfl rfl rfl ?_))<;>(refine Al rfl ?_;(first|(refine Ak rfl rfl ?_;refine BS rfl rfl ?_)|refine AA rfl rfl rfl rfl ?_))<;>(refine Al rfl ?_;(first|(refine Ak rfl rfl ?_;refine BS rfl rfl ?_)|refine AA rfl rfl rfl rfl ?_))<;>(refine Al rfl ?_;(first|(refine Ak rfl rfl ?_;refine BS rfl rfl ?_)|refine AA rfl rfl rfl rfl ?_))<;>(refine Al rfl ?_;(first|(refine Ak rfl rfl ?_;refine Ps rfl rfl rfl ?_)|refine AA rfl rfl rfl rfl ?_))<;>(refine Al rfl ?_;(first|(refine Ak rfl rfl ?_;refine GX rfl rfl rfl ?_)|refine AA rfl rfl rfl rfl ?_))<;>(refine Al rfl ?_;(first|(refine Ak rfl rfl ?_;refine BD rfl rfl ?_)|refine AA rfl rfl rfl rfl ?_))<;>(refine Al rfl ?_;(first|(refine Ak rfl rfl ?_;refine Bt rfl rfl ?_)|refine AA rfl rfl rfl rfl ?_))<;>(refine Al rfl ?_;(first|(refine Ak rfl rfl ?_;refine BD rfl rfl ?_)|refine AA rfl rfl rfl rfl ?_))<;>(refine Al rfl ?_;(first|(refine Ak rfl rfl ?_;refine Bt rfl rfl ?_)|refine AA rfl rfl rfl rfl ?_))<;>(refine Al rfl ?_;(first|(refine Ak rfl rfl ?_;(first|refine Co (fun _ _=>Br rfl rfl) rfl (by omega) ?_|refine Cp (fun _ _=>Br rfl rfl) rfl (by omega) ?_|refine Bn (fun _ _=>Br rfl rfl) rfl (fun _=>?_) (fun _=>?_)))|refine AA rfl rfl rfl rfl ?_))<;>(refine Al rfl ?_;(first|(refine Ak rfl rfl ?_;(first|refine Pq rfl rfl rfl ?_|refine Pr rfl rfl rfl ?_))|refine AA rfl rfl rfl rfl ?_))<;>(first|refine Ce rfl rfl rfl rfl ?_|refine Cb rfl rfl rfl rfl ?_)<;>(refine h_z ?_))<;>(repeat (first|refine At ?_|refine Ah rfl ?_|refine Ae rfl ?_))
      all_goals
        ((repeat (first|refine At ?_|refine Ah rfl ?_|refine Ae rfl ?_))<;>(refine Am rfl rfl ?_<;>(refine o_z ?_))<;>(repeat (first|refine At ?_|refine Ah rfl ?_|refine Ae rfl ?_)))
        refine ret1 rfl rfl ⟨?_,hE3⟩
        rw [AQ hno]
  · ((repeat (first|refine At ?_|refine Ah rfl ?_|refine Ae rfl ?_))<;>((first|refine Ds rfl rfl rfl ?_|refine Dt rfl rfl rfl ?_)<;>(refine o_z ?_))<;>(repeat (first|refine At ?_|refine Ah rfl ?_|refine Ae rfl ?_))<;>(refine Am rfl rfl ?_<;>(refine o_z ?_))<;>(repeat (first|refine At ?_|refine Ah rfl ?_|refine Ae rfl ?_)))
    refine ret1 rfl rfl ⟨?_,hE⟩
    rw [Be (hh.done (by omega))]
theorem taskFacts {w:World} {vv fv:Value} {vars:List Int} {f:List Fct} (hv:V w vv vars) (hf:V w fv f) :
    Fn Tryz.prog 49 [vv,fv] w fun v w'=>v=.bool (bof (FactsOk vars f))∧Ext w w':=by
  obtain ⟨A,ca,rfl⟩:=hv.form
  obtain ⟨B,cb,rfl⟩:=hf.form
  have hfl:=hf.len
  refine AP Tryz.func49 rfl Tryz.ntmps49 rfl ?_
  ((repeat (first|refine At ?_|refine Ah rfl ?_|refine Ae rfl ?_))<;>(refine Am rfl rfl ?_<;>(refine o_z ?_))<;>(repeat (first|refine At ?_|refine Ah rfl ?_|refine Ae rfl ?_))<;>(refine Am rfl rfl ?_<;>(refine o_z ?_))<;>(repeat (first|refine At ?_|refine Ah rfl ?_|refine Ae rfl ?_))<;>(refine Aj rfl rfl ?_<;>refine AX rfl rfl ?_<;>refine Aj rfl rfl ?_<;>(refine o_z ?_))<;>(repeat (first|refine At ?_|refine Ah rfl ?_|refine Ae rfl ?_)))
  refine FD (X:=Nat×Int) (fun k=>[(0,.slice A vars.length ca),(5,.int .i64 k.2),(8,.slice B f.length cb),(9,.int .i64 (f.length:Int)),(10,.int .i64 (k.1:Int))])
    (fun k w'=>Ext w w'∧k.1≤f.length∧FactsTo vars f k.1∧(k.1=0→k.2=-1)∧∀ y,0 < k.1→f[k.1 - 1]?=some y→y.var=k.2) (fun k=>f.length - k.1) (0,-1) ⟨Below.refl _ _,Nat.zero_le _,⟨fun i _ h=>by simp at h,fun i _ _ h=>by simp at h⟩,fun _=>rfl,fun y h=>by simp at h⟩ ⟨rfl,rfl,rfl,rfl,rfl,trivial⟩ ?_
  rintro ⟨k,m⟩ w1 ⟨hE,hk,hh,hm0,hm⟩
  dsimp only at hk hh hm0 hm ⊢
  by_cases hlt:k < f.length
  · obtain ⟨x,hx⟩:=AR hlt
    obtain ⟨b,o,ce,rfl,hb,_,hd1,rfl,hr1,hr2⟩:=(hf.ext hE).elem hx
    ((repeat (first|refine At ?_|refine Ah rfl ?_|refine Ae rfl ?_))<;>((first|refine Ds rfl rfl rfl ?_|refine Dt rfl rfl rfl ?_)<;>(refine o_z ?_))<;>(repeat (first|refine At ?_|refine Ah rfl ?_|refine Ae rfl ?_))<;>(refine Ey rfl rfl rfl ?_<;>refine Ba rfl rfl ?_)<;>(repeat (first|refine At ?_|refine Ah rfl ?_|refine Ae rfl ?_)))
    refine Dn rfl rfl rfl (by simp [Value.cells,Value.oneCell']) fun w3 hN=>?_
    have hb1:=hN.blk
    have hE3:Ext w w3:=hE.trans' hN.ext
    ((refine o_z ?_))
    repeat (first|refine At ?_|refine Ah rfl ?_|refine Ae rfl ?_)
    refine Dx (·=w3) [(0,true),(1,true),(2,true),(3,true),(4,true),(5,true),(6,true),(7,true),(8,true),(9,true),(10,true),(11,true),(12,true),(13,true),(14,true),(15,true),(16,true),(17,true),(18,true),(19,true),(20,true),(21,true),(22,true),(23,true),(24,true),(25,true)] (by kernel_rfl) rfl (by kernel_rfl) rfl ?_
    have hm1:0 < k→∃ z,f[k - 1]?=some z∧z.var=m:=fun h0=>by
      obtain ⟨z,hz⟩:=AR (l:=f) (k:=k - 1) (by omega)
      exact ⟨z,hz,hm z h0 hz⟩
    have hge:0 < k→0≤m:=fun h0=>by
      obtain ⟨z,hz,he⟩:=hm1 h0
      have:=(hh.1 (k - 1) z (by omega) hz).1
      omega
    have hge':-1≤m:=by
      by_cases h0:0 < k
      · have:=hge h0;omega
      · have:=hm0 (by omega);omega
    have hno0:¬ m < x.var→¬ FactsOk vars f:=fun h1 h2=>by
      by_cases h0:0 < k
      · obtain ⟨z,hz,he⟩:=hm1 h0
        have:=h2.2 (k - 1) z x hz (by rw [show k - 1 + 1=k from by omega];exact hx)
        omega
      · have:=hm0 (by omega)
        have:=(h2.1 k x hx).1
        omega
    by_cases hvr:0≤x.var∧x.var < vars.length
    · obtain ⟨j,hj1⟩:=Int.eq_ofNat_of_zero_le hvr.1
      obtain ⟨y,hy⟩:=AR (l:=vars) (k:=j) (by omega)
      obtain ⟨b2,o2,ce2,rfl,_,_,hd2,rfl,_⟩:=(hv.ext hE3).elem hy
      have hjy:vars[x.var.toNat]?=some y:=by rw [hj1];simpa using hy
      have hok:0≤x.val→x.val < y→FactOk vars x:=fun h1 h2=>⟨hvr.1,h1,y,hjy,h2⟩
      have hno:¬ (0≤x.val∧x.val < y)→¬ FactsOk vars f:=fun h1 h2=>h1 (by
        obtain ⟨_,h3,y',h4,h5⟩:=h2.1 k x hx
        rw [hjy] at h4;injection h4 with h4;subst h4;exact ⟨h3,h5⟩)
      (refine AM rfl rfl rfl ?_<;>refine CT rfl rfl rfl ?_<;>refine AH rfl rfl rfl ?_<;>(first|refine Qg rfl rfl rfl rfl ?_|refine Qh rfl rfl rfl rfl ?_|refine Qi rfl rfl rfl rfl (fun _=>?_) fun _=>?_)<;>refine AH rfl rfl rfl ?_<;>(refine Al rfl ?_;(first|(refine Ak rfl rfl ?_;refine BD rfl rfl ?_)|refine AA rfl rfl rfl rfl ?_))<;>(refine Al rfl ?_;(first|(refine Ak rfl rfl ?_;refine Bt rfl rfl ?_)|refine AA rfl rfl rfl rfl ?_))<;>(refine Al rfl ?_;(first|(refine Ak rfl rfl ?_;refine BS rfl rfl ?_)|refine AA rfl rfl rfl rfl ?_))<;>(refine Al rfl ?_;(first|(refine Ak rfl rfl ?_;refine Ie rfl rfl ?_)|refine AA rfl rfl rfl rfl ?_))<;>(refine Al rfl ?_;(first|(refine Ak rfl rfl ?_;(first|refine Co (fun _ _=>Br rfl rfl) rfl (by omega) ?_|refine Cp (fun _ _=>Br rfl rfl) rfl (by omega) ?_|refine Bn (fun _ _=>Br rfl rfl) rfl (fun _=>?_) (fun _=>?_)))|refine AA rfl rfl rfl rfl ?_))<;>(first|refine Ce rfl rfl rfl rfl ?_|refine Cb rfl rfl rfl rfl ?_)<;>refine AH rfl rfl rfl ?_<;>(refine Al rfl ?_;(first|(refine Ak rfl rfl ?_;refine BD rfl rfl ?_)|refine AA rfl rfl rfl rfl ?_))<;>(refine Al rfl ?_;(first|(refine Ak rfl rfl ?_;refine Bt rfl rfl ?_)|refine AA rfl rfl rfl rfl ?_))<;>(refine Al rfl ?_;(first|(refine Ak rfl rfl ?_;(first|refine Co (fun _ _=>Cv rfl rfl) rfl (by omega) ?_|refine Cp (fun _ _=>Cv rfl rfl) rfl (by omega) ?_|refine Bn (fun _ _=>Cv rfl rfl) rfl (fun _=>?_) (fun _=>?_)))|refine AA rfl rfl rfl rfl ?_))<;>(first|refine Ce rfl rfl rfl rfl ?_|refine Cb rfl rfl rfl rfl ?_)<;>refine AH rfl rfl rfl ?_<;>(refine Al rfl ?_;(first|(refine Ak rfl rfl ?_;refine BD rfl rfl ?_)|refine AA rfl rfl rfl rfl ?_))<;>(refine Al rfl ?_;(first|(refine Ak rfl rfl ?_;refine Bt rfl rfl ?_)|refine AA rfl rfl rfl rfl ?_))<;>(refine Al rfl ?_;(first|(refine Ak rfl rfl ?_;refine BS rfl rfl ?_)|refine AA rfl rfl rfl rfl ?_))<;>(refine Al rfl ?_;(first|(refine Ak rfl rfl ?_;refine BD rfl rfl ?_)|refine AA rfl rfl rfl rfl ?_))<;>(refine Al rfl ?_;(first|(refine Ak rfl rfl ?_;refine Bt rfl rfl ?_)|refine AA rfl rfl rfl rfl ?_))<;>(refine Al rfl ?_;(first|(refine Ak rfl rfl ?_;refine GX rfl rfl rfl ?_)|refine AA rfl rfl rfl rfl ?_))<;>(refine Al rfl ?_;(first|(refine Ak rfl rfl ?_;refine Bt rfl rfl ?_)|refine AA rfl rfl rfl rfl ?_))<;>(refine Al rfl ?_;(first|(refine Ak rfl rfl ?_;(first|refine Co (fun _ _=>Br rfl rfl) rfl (by omega) ?_|refine Cp (fun _ _=>Br rfl rfl) rfl (by omega) ?_|refine Bn (fun _ _=>Br rfl rfl) rfl (fun _=>?_) (fun _=>?_)))|refine AA rfl rfl rfl rfl ?_))<;>(first|refine Ce rfl rfl rfl rfl ?_|refine Cb rfl rfl rfl rfl ?_)<;>(refine h_z ?_))<;>(repeat (first|refine At ?_|refine Ah rfl ?_|refine Ae rfl ?_))
      all_goals try (
        ((repeat (first|refine At ?_|refine Ah rfl ?_|refine Ae rfl ?_))<;>(refine Am rfl rfl ?_<;>(refine o_z ?_))<;>(repeat (first|refine At ?_|refine Ah rfl ?_|refine Ae rfl ?_)))
        refine ret1 rfl rfl ⟨?_,hE3⟩
        first|rw [AQ (hno (by omega))]|rw [AQ (hno0 (by omega))])
      ((repeat (first|refine At ?_|refine Ah rfl ?_|refine Ae rfl ?_))<;>(refine AS rfl rfl ?_<;>refine AJ rfl rfl ?_<;>refine Am rfl rfl ?_<;>(refine o_z ?_))<;>(repeat (first|refine At ?_|refine Ah rfl ?_|refine Ae rfl ?_)))
      ((first|refine Hv rfl rfl ?_|refine Hu rfl rfl rfl ?_)<;>refine Aj rfl rfl ?_<;>(refine o_z ?_))
      refine ⟨(k + 1,x.var),⟨rfl,rfl,rfl,rfl,rfl,trivial⟩,⟨hE3,hlt,hh.step hx (hok (by omega) (by omega)) (fun y' h0 hy'=>by have:=hm y' h0 hy';omega),fun h=>absurd h (Nat.succ_ne_zero k),fun y' _ hy'=>?_⟩,Nat.sub_lt_sub_left hlt (Nat.lt_succ_self k)⟩
      rw [show k + 1 - 1=k from rfl,hx] at hy'
      exact congrArg Fct.var (Option.some.inj hy').symm
    · have hno:¬ FactsOk vars f:=fun h=>by
        obtain ⟨h1,h2,y,h3,_⟩:=h.1 k x hx
        have:=BN h3
        omega
      (refine AM rfl rfl rfl ?_<;>refine CT rfl rfl rfl ?_<;>refine AH rfl rfl rfl ?_<;>(first|refine Qg rfl rfl rfl rfl ?_|refine Qh rfl rfl rfl rfl ?_|refine Qi rfl rfl rfl rfl (fun _=>?_) fun _=>?_)<;>refine AH rfl rfl rfl ?_<;>(refine Al rfl ?_;(first|(refine Ak rfl rfl ?_;refine BD rfl rfl ?_)|refine AA rfl rfl rfl rfl ?_))<;>(refine Al rfl ?_;(first|(refine Ak rfl rfl ?_;refine Bt rfl rfl ?_)|refine AA rfl rfl rfl rfl ?_))<;>(refine Al rfl ?_;(first|(refine Ak rfl rfl ?_;refine BS rfl rfl ?_)|refine AA rfl rfl rfl rfl ?_))<;>(refine Al rfl ?_;(first|(refine Ak rfl rfl ?_;refine Ie rfl rfl ?_)|refine AA rfl rfl rfl rfl ?_))<;>(refine Al rfl ?_;(first|(refine Ak rfl rfl ?_;(first|refine Co (fun _ _=>Br rfl rfl) rfl (by omega) ?_|refine Cp (fun _ _=>Br rfl rfl) rfl (by omega) ?_|refine Bn (fun _ _=>Br rfl rfl) rfl (fun _=>?_) (fun _=>?_)))|refine AA rfl rfl rfl rfl ?_))<;>(first|refine Ce rfl rfl rfl rfl ?_|refine Cb rfl rfl rfl rfl ?_)<;>refine AH rfl rfl rfl ?_<;>(refine Al rfl ?_;(first|(refine Ak rfl rfl ?_;refine BD rfl rfl ?_)|refine AA rfl rfl rfl rfl ?_))<;>(refine Al rfl ?_;(first|(refine Ak rfl rfl ?_;refine Bt rfl rfl ?_)|refine AA rfl rfl rfl rfl ?_))<;>(refine Al rfl ?_;(first|(refine Ak rfl rfl ?_;(first|refine Co (fun _ _=>Cv rfl rfl) rfl (by omega) ?_|refine Cp (fun _ _=>Cv rfl rfl) rfl (by omega) ?_|refine Bn (fun _ _=>Cv rfl rfl) rfl (fun _=>?_) (fun _=>?_)))|refine AA rfl rfl rfl rfl ?_))<;>(first|refine Ce rfl rfl rfl rfl ?_|refine Cb rfl rfl rfl rfl ?_)<;>refine AH rfl rfl rfl ?_<;>(refine Al rfl ?_;(first|(refine Ak rfl rfl ?_;refine BD rfl rfl ?_)|refine AA rfl rfl rfl rfl ?_))<;>(refine Al rfl ?_;(first|(refine Ak rfl rfl ?_;refine Bt rfl rfl ?_)|refine AA rfl rfl rfl rfl ?_))<;>(refine Al rfl ?_;(first|(refine Ak rfl rfl ?_;refine BS rfl rfl ?_)|refine AA rfl rfl rfl rfl ?_))<;>(refine Al rfl ?_;(first|(refine Ak rfl rfl ?_;refine BD rfl rfl ?_)|refine AA rfl rfl rfl rfl ?_))<;>(refine Al rfl ?_;(first|(refine Ak rfl rfl ?_;refine Bt rfl rfl ?_)|refine AA rfl rfl rfl rfl ?_))<;>(refine Al rfl ?_;(first|(refine Ak rfl rfl ?_;refine GX rfl rfl rfl ?_)|refine AA rfl rfl rfl rfl ?_))<;>(refine Al rfl ?_;(first|(refine Ak rfl rfl ?_;refine Bt rfl rfl ?_)|refine AA rfl rfl rfl rfl ?_))<;>(refine Al rfl ?_;(first|(refine Ak rfl rfl ?_;(first|refine Co (fun _ _=>Br rfl rfl) rfl (by omega) ?_|refine Cp (fun _ _=>Br rfl rfl) rfl (by omega) ?_|refine Bn (fun _ _=>Br rfl rfl) rfl (fun _=>?_) (fun _=>?_)))|refine AA rfl rfl rfl rfl ?_))<;>(first|refine Ce rfl rfl rfl rfl ?_|refine Cb rfl rfl rfl rfl ?_)<;>(refine h_z ?_))<;>(repeat (first|refine At ?_|refine Ah rfl ?_|refine Ae rfl ?_))
      all_goals
        ((repeat (first|refine At ?_|refine Ah rfl ?_|refine Ae rfl ?_))<;>(refine Am rfl rfl ?_<;>(refine o_z ?_))<;>(repeat (first|refine At ?_|refine Ah rfl ?_|refine Ae rfl ?_)))
        refine ret1 rfl rfl ⟨?_,hE3⟩
        rw [AQ hno]
  · ((repeat (first|refine At ?_|refine Ah rfl ?_|refine Ae rfl ?_))<;>((first|refine Ds rfl rfl rfl ?_|refine Dt rfl rfl rfl ?_)<;>(refine o_z ?_))<;>(repeat (first|refine At ?_|refine Ah rfl ?_|refine Ae rfl ?_))<;>(refine Am rfl rfl ?_<;>(refine o_z ?_))<;>(repeat (first|refine At ?_|refine Ah rfl ?_|refine Ae rfl ?_)))
    refine ret1 rfl rfl ⟨?_,hE⟩
    rw [Be (hh.done (by omega))]
def NameOk (s:ByteArray):Prop:=s.size≤256∧∀ (i:Nat) (h:i < s.size),32≤(s[i]'h).toNat∧(s[i]'h).toNat≤126
theorem taskNamed {w:World} {s:ByteArray} (hs:s.size≤9223372036854775807) :
    Fn Tryz.prog 50 [.string s] w fun v w'=>v=.bool (bof (NameOk s))∧Ext w w':=by
  refine AP Tryz.func50 rfl Tryz.ntmps50 rfl ?_
  ((repeat (first|refine At ?_|refine Ah rfl ?_|refine Ae rfl ?_))<;>(refine Am rfl rfl ?_<;>(refine o_z ?_))<;>(repeat (first|refine At ?_|refine Ah rfl ?_|refine Ae rfl ?_))<;>(refine Aj rfl rfl ?_<;>refine LI rfl rfl ?_<;>refine Aj rfl rfl ?_<;>(refine o_z ?_))<;>(repeat (first|refine At ?_|refine Ah rfl ?_|refine Ae rfl ?_)))
  refine FD (fun k:Nat=>[(0,.string s),(5,.int .i64 (s.size:Int)),(6,.int .i64 (k:Int))])
    (fun k w'=>w'=w∧k≤s.size∧∀ (i:Nat) (h:i < s.size),i < k→32≤(s[i]'h).toNat∧(s[i]'h).toNat≤126) (fun k=>s.size - k) 0 ⟨rfl,Nat.zero_le _,fun i _ h=>by omega⟩ ⟨rfl,rfl,rfl,trivial⟩ ?_
  rintro k _ ⟨rfl,hk,hh⟩
  by_cases hlt:k < s.size
  · ((repeat (first|refine At ?_|refine Ah rfl ?_|refine Ae rfl ?_))<;>((first|refine Ds rfl rfl rfl ?_|refine Dt rfl rfl rfl ?_)<;>(refine o_z ?_))<;>(repeat (first|refine At ?_|refine Ah rfl ?_|refine Ae rfl ?_))<;>(refine Aj rfl rfl ?_<;>refine Am rfl rfl ?_<;>(refine o_z ?_))<;>(repeat (first|refine At ?_|refine Ah rfl ?_|refine Ae rfl ?_))<;>(refine Aj rfl rfl ?_<;>refine Aj rfl rfl ?_<;>refine Ny rfl rfl rfl (by omega) ?_<;>(first|refine Ds rfl rfl rfl ?_|refine Dt rfl rfl rfl ?_|refine Dj rfl rfl rfl (fun _=>?_) fun _=>?_)<;>refine Aj rfl rfl ?_<;>(first|(refine Ar rfl rfl ?_;refine Aj rfl rfl ?_)|refine An rfl rfl rfl rfl ?_)<;>(first|(refine Ar rfl rfl ?_;refine Aj rfl rfl ?_)|refine An rfl rfl rfl rfl ?_)<;>(first|(refine Ar rfl rfl ?_;refine Ny rfl rfl rfl (by omega) ?_)|refine An rfl rfl rfl rfl ?_)<;>(first|(refine Ar rfl rfl ?_;(first|refine DC rfl rfl rfl ?_|refine DD rfl rfl rfl ?_|refine CS rfl rfl rfl (fun _=>?_) fun _=>?_))|refine An rfl rfl rfl rfl ?_)<;>(first|refine By rfl rfl rfl ?_|refine Bz rfl rfl rfl ?_)<;>(refine o_z ?_))<;>(repeat (first|refine At ?_|refine Ah rfl ?_|refine Ae rfl ?_)))
    all_goals first
      | (((first|refine Hv rfl rfl ?_|refine Hu rfl rfl rfl ?_)<;>refine Aj rfl rfl ?_<;>(refine o_z ?_))
         refine ⟨k + 1,⟨rfl,rfl,rfl,trivial⟩,⟨rfl,by omega,fun i h hi=>?_⟩,by omega⟩
         by_cases he:i=k
         · subst he;omega
         · exact hh i h (by omega))
      | (((repeat (first|refine At ?_|refine Ah rfl ?_|refine Ae rfl ?_))<;>(refine Am rfl rfl ?_<;>(refine o_z ?_))<;>(repeat (first|refine At ?_|refine Ah rfl ?_|refine Ae rfl ?_)))
         refine ret1 rfl rfl ⟨?_,Below.refl _ _⟩
         rw [AQ (fun h=>by have:=h.2 k hlt;omega)])
  · by_cases h256:s.size≤256
    · ((repeat (first|refine At ?_|refine Ah rfl ?_|refine Ae rfl ?_))<;>((first|refine Ds rfl rfl rfl ?_|refine Dt rfl rfl rfl ?_)<;>(refine o_z ?_))<;>(repeat (first|refine At ?_|refine Ah rfl ?_|refine Ae rfl ?_))<;>(refine Aj rfl rfl ?_<;>refine LI rfl rfl ?_<;>(first|refine Lr rfl rfl rfl ?_|refine Ls rfl rfl rfl ?_)<;>refine Am rfl rfl ?_<;>(refine o_z ?_))<;>(repeat (first|refine At ?_|refine Ah rfl ?_|refine Ae rfl ?_)))
      refine ret1 rfl rfl ⟨?_,Below.refl _ _⟩
      rw [Be ⟨h256,fun i h=>hh i h (by omega)⟩]
    · ((repeat (first|refine At ?_|refine Ah rfl ?_|refine Ae rfl ?_))<;>((first|refine Ds rfl rfl rfl ?_|refine Dt rfl rfl rfl ?_)<;>(refine o_z ?_))<;>(repeat (first|refine At ?_|refine Ah rfl ?_|refine Ae rfl ?_))<;>(refine Aj rfl rfl ?_<;>refine LI rfl rfl ?_<;>(first|refine Lr rfl rfl rfl ?_|refine Ls rfl rfl rfl ?_)<;>refine Am rfl rfl ?_<;>(refine o_z ?_))<;>(repeat (first|refine At ?_|refine Ah rfl ?_|refine Ae rfl ?_)))
      refine ret1 rfl rfl ⟨?_,Below.refl _ _⟩
      rw [AQ (fun h=>h256 h.1)]
end
section
open Go Go.RowKit
attribute [local irreducible] ewp owp hwp hwq Ev Evg Fn retPost Res1
theorem FM {vars:List Int} {x:Fct}:FactsOk vars [x]↔FactOk vars x:=by
  constructor
  · intro h;exact h.1 0 x rfl
  · intro h
    refine ⟨fun i y hy=>?_,fun i y z _ hz=>by simp at hz⟩
    cases i with
    | zero=>simp at hy;exact hy ▸ h
    | succ i=>simp at hy
def EffOk (vars:List Int) (e:Eff):Prop:=FactsOk vars e.cond∧FactOk vars ⟨e.var,e.val⟩
def OpOk (vars:List Int) (o:Opr):Prop:=0≤o.cost∧o.cost≤1048576∧o.effs.length≤64∧NameOk o.name∧FactsOk vars o.pre∧∀ (i:Nat) e,o.effs[i]?=some e→EffOk vars e
def TaskOk (t:Tsk):Prop:=t.vars.length≤64∧t.ops.length≤4096∧(∀ (i:Nat) n,t.vars[i]?=some n→1≤n∧n≤64)∧StateOk t.vars t.init∧FactsOk t.vars t.goal∧∀ (i:Nat) o,t.ops[i]?=some o→OpOk t.vars o
theorem CG {p:Nat→Prop} {k:Nat} (h:∀ i,i < k→p i) (hk:p k):∀ i,i < k + 1→p i:=fun i hi=>by
  by_cases he:i=k
  · subst he;exact hk
  · exact h i (by omega)
theorem baseOperator {w:World} {vv ov:Value} {vars:List Int} {o:Opr} (hv:V w vv vars) (ho:V w ov o) :
    Fn Tryz.prog 46 [vv,ov] w fun v w'=>v=.bool (bof (OpOk vars o))∧Ext w w':=by
  obtain ⟨Av,cv,rfl⟩:=hv.form
  obtain ⟨cs,rfl,p,q,rfl,hp,hq,hc,hn⟩:=ho
  obtain ⟨Ap,cp,rfl⟩:=hp.form
  obtain ⟨Aq,cq,rfl⟩:=hq.form
  have hql:=hq.len
  refine AP Tryz.func46 rfl Tryz.ntmps46 rfl ?_
  repeat (first|refine At ?_|refine Ah rfl ?_|refine Ae rfl ?_)
  refine FC rfl rfl fun w1 hN=>?_
  have hb1:=hN.blk
  have hE1:Ext w w1:=hN.ext
  (refine Am rfl rfl ?_<;>(refine o_z ?_))
  repeat (first|refine At ?_|refine Ah rfl ?_|refine Ae rfl ?_)
  (refine AS rfl rfl ?_<;>refine AJ rfl rfl ?_<;>(first|refine Ds rfl rfl rfl ?_|refine Dt rfl rfl rfl ?_|refine Dj rfl rfl rfl (fun _=>?_) fun _=>?_)<;>refine Aj rfl rfl ?_<;>(first|(refine Ar rfl rfl ?_;refine AS rfl rfl ?_)|refine An rfl rfl rfl rfl ?_)<;>(first|(refine Ar rfl rfl ?_;refine AJ rfl rfl ?_)|refine An rfl rfl rfl rfl ?_)<;>(first|(refine Ar rfl rfl ?_;(first|refine DC rfl rfl rfl ?_|refine DD rfl rfl rfl ?_|refine CS rfl rfl rfl (fun _=>?_) fun _=>?_))|refine An rfl rfl rfl rfl ?_)<;>(first|refine By rfl rfl rfl ?_|refine Bz rfl rfl rfl ?_)<;>refine Aj rfl rfl ?_<;>(first|(refine Ar rfl rfl ?_;refine AS rfl rfl ?_)|refine An rfl rfl rfl rfl ?_)<;>(first|(refine Ar rfl rfl ?_;refine AJ rfl rfl ?_)|refine An rfl rfl rfl rfl ?_)<;>(first|(refine Ar rfl rfl ?_;refine AX rfl rfl ?_)|refine An rfl rfl rfl rfl ?_)<;>(first|(refine Ar rfl rfl ?_;(first|refine DC rfl rfl rfl ?_|refine DD rfl rfl rfl ?_|refine CS rfl rfl rfl (fun _=>?_) fun _=>?_))|refine An rfl rfl rfl rfl ?_)<;>(first|refine By rfl rfl rfl ?_|refine Bz rfl rfl rfl ?_)<;>refine Aj rfl rfl ?_<;>(first|(refine Ar rfl rfl ?_;refine AS rfl rfl ?_)|refine An rfl rfl rfl rfl ?_)<;>(first|(refine Ar rfl rfl ?_;refine AJ rfl rfl ?_)|refine An rfl rfl rfl rfl ?_)<;>(first|(refine Ar rfl rfl ?_;refine LI rfl rfl ?_)|refine An rfl rfl rfl rfl ?_)<;>(first|(refine Ar rfl rfl ?_;(first|refine DC rfl rfl rfl ?_|refine DD rfl rfl rfl ?_|refine CS rfl rfl rfl (fun _=>?_) fun _=>?_))|refine An rfl rfl rfl rfl ?_)<;>(first|refine By rfl rfl rfl ?_|refine Bz rfl rfl rfl ?_)<;>refine Aj rfl rfl ?_<;>(first|(refine Ar rfl rfl ?_;refine Aj rfl rfl ?_)|refine An rfl rfl rfl rfl ?_)<;>(first|(refine Ar rfl rfl ?_;refine AS rfl rfl ?_)|refine An rfl rfl rfl rfl ?_)<;>(first|(refine Ar rfl rfl ?_;refine AJ rfl rfl ?_)|refine An rfl rfl rfl rfl ?_))
  all_goals try (
    refine An rfl rfl rfl rfl ?_
    ((first|(refine Ar rfl rfl ?_;(first|refine CC rfl rfl ?_|refine CD rfl rfl ?_|refine CU rfl rfl ?_))|refine An rfl rfl rfl rfl ?_)<;>(first|refine By rfl rfl rfl ?_|refine Bz rfl rfl rfl ?_)<;>(refine o_z ?_))
    repeat (first|refine At ?_|refine Ah rfl ?_|refine Ae rfl ?_)
    ((repeat (first|refine At ?_|refine Ah rfl ?_|refine Ae rfl ?_))<;>(refine Am rfl rfl ?_<;>(refine o_z ?_))<;>(repeat (first|refine At ?_|refine Ah rfl ?_|refine Ae rfl ?_)))
    refine ret1 rfl rfl ⟨?_,hE1⟩
    rw [AQ (fun h=>by obtain ⟨h1,h2,h3,⟨h4,_⟩,_⟩:=h;omega)])
  refine Ar rfl rfl ?_
  refine CY rfl rfl (baseProper (hv.ext hE1) (hp.ext hE1)) ?_ ?_
  case refine_2 =>
    intro w2 hP hE2
    ((first|(refine Ar rfl rfl ?_;(first|refine CC rfl rfl ?_|refine CD rfl rfl ?_|refine CU rfl rfl ?_))|refine An rfl rfl rfl rfl ?_)<;>(first|refine By rfl rfl rfl ?_|refine Bz rfl rfl rfl ?_)<;>(refine o_z ?_))
    repeat (first|refine At ?_|refine Ah rfl ?_|refine Ae rfl ?_)
    ((repeat (first|refine At ?_|refine Ah rfl ?_|refine Ae rfl ?_))<;>(refine Am rfl rfl ?_<;>(refine o_z ?_))<;>(repeat (first|refine At ?_|refine Ah rfl ?_|refine Ae rfl ?_)))
    refine ret1 rfl rfl ⟨?_,hE1.trans' hE2⟩
    rw [AQ (fun h=>hP h.2.2.2.2.1)]
  intro w2 hpre hE2
  replace hb1:=hb1.ext hE2
  have hE2:Ext w w2:=hE1.trans' hE2
  ((first|(refine Ar rfl rfl ?_;(first|refine CC rfl rfl ?_|refine CD rfl rfl ?_|refine CU rfl rfl ?_))|refine An rfl rfl rfl rfl ?_)<;>(first|refine By rfl rfl rfl ?_|refine Bz rfl rfl rfl ?_)<;>(refine o_z ?_))
  repeat (first|refine At ?_|refine Ah rfl ?_|refine Ae rfl ?_)
  (refine AS rfl rfl ?_<;>refine AJ rfl rfl ?_<;>refine LI rfl rfl ?_<;>refine Aj rfl rfl ?_<;>(refine o_z ?_))
  repeat (first|refine At ?_|refine Ah rfl ?_|refine Ae rfl ?_)
  refine Ch o.name.size hn (fun _:Unit=>[(0,.slice Av vars.length cv),(3,.pointer (some ⟨w.heap.size,0,none⟩))]) (fun k _ w'=>w'=w2∧∀ i,i < k→∀ h:i < o.name.size,32≤(o.name[i]'h).toNat∧(o.name[i]'h).toNat≤126) ()
    ⟨rfl,fun i hi=>by omega⟩ ⟨rfl,rfl,rfl,rfl,trivial⟩ (fun _=>⟨rfl,rfl⟩) ⟨rfl,rfl,rfl⟩ ⟨rfl,rfl⟩ ?_ ?_
  · rintro k _ _ hk ⟨rfl,hh⟩
    ((repeat (first|refine At ?_|refine Ah rfl ?_|refine Ae rfl ?_))<;>(refine Aj rfl rfl ?_<;>refine Am rfl rfl ?_<;>(refine o_z ?_))<;>(repeat (first|refine At ?_|refine Ah rfl ?_|refine Ae rfl ?_))<;>(refine AS rfl rfl ?_<;>refine AJ rfl rfl ?_<;>refine Aj rfl rfl ?_<;>refine Ny rfl rfl rfl (by omega) ?_<;>(first|refine Ds rfl rfl rfl ?_|refine Dt rfl rfl rfl ?_|refine Dj rfl rfl rfl (fun _=>?_) fun _=>?_)<;>refine Aj rfl rfl ?_<;>(first|(refine Ar rfl rfl ?_;refine AS rfl rfl ?_)|refine An rfl rfl rfl rfl ?_)<;>(first|(refine Ar rfl rfl ?_;refine AJ rfl rfl ?_)|refine An rfl rfl rfl rfl ?_)<;>(first|(refine Ar rfl rfl ?_;refine Aj rfl rfl ?_)|refine An rfl rfl rfl rfl ?_)<;>(first|(refine Ar rfl rfl ?_;refine Ny rfl rfl rfl (by omega) ?_)|refine An rfl rfl rfl rfl ?_)<;>(first|(refine Ar rfl rfl ?_;(first|refine DC rfl rfl rfl ?_|refine DD rfl rfl rfl ?_|refine CS rfl rfl rfl (fun _=>?_) fun _=>?_))|refine An rfl rfl rfl rfl ?_)<;>(first|refine By rfl rfl rfl ?_|refine Bz rfl rfl rfl ?_)<;>(refine o_z ?_))<;>(repeat (first|refine At ?_|refine Ah rfl ?_|refine Ae rfl ?_)))
    all_goals try (
      ((repeat (first|refine At ?_|refine Ah rfl ?_|refine Ae rfl ?_))<;>(refine Am rfl rfl ?_<;>(refine o_z ?_))<;>(repeat (first|refine At ?_|refine Ah rfl ?_|refine Ae rfl ?_)))
      refine ret1 rfl rfl ⟨?_,hE2⟩
      rw [AQ (fun h=>by have:=h.2.2.2.1.2 k hk;omega)])
    exact ⟨(),⟨rfl,rfl,rfl,rfl,trivial⟩,rfl,CG hh fun _=>by omega⟩
  rintro _ _ ⟨rfl,hname⟩
  have hnok:NameOk o.name:=⟨by omega,fun i h=>hname i h h⟩
  repeat (first|refine At ?_|refine Ah rfl ?_|refine Ae rfl ?_)
  ((repeat (first|refine At ?_|refine Ah rfl ?_|refine Ae rfl ?_))<;>(refine AS rfl rfl ?_<;>refine AJ rfl rfl ?_<;>refine AX rfl rfl ?_<;>refine Aj rfl rfl ?_<;>(refine o_z ?_))<;>(repeat (first|refine At ?_|refine Ah rfl ?_|refine Ae rfl ?_)))
  refine Ch o.effs.length (by omega) (fun _:Unit=>[(0,.slice Av vars.length cv),(3,.pointer (some ⟨w.heap.size,0,none⟩)),(55,.slice Aq o.effs.length cq)]) (fun k _ w'=>Ext w w'∧∀ i,i < k→∀ e,o.effs[i]?=some e→EffOk vars e) ()
    ⟨hE2,fun i hi=>by omega⟩ ⟨rfl,rfl,rfl,rfl,rfl,trivial⟩ (fun _=>⟨rfl,rfl⟩) ⟨rfl,rfl,rfl⟩ ⟨rfl,rfl⟩ ?_ ?_
  · rintro k _ w3 hk ⟨hE3,hh⟩
    obtain ⟨e,he⟩:=AR hk
    obtain ⟨b2,o2,ce,rfl,_,_,hd1,cv',rfl,hcond,hr1,hr2⟩:=(hq.ext hE3).elem he
    obtain ⟨Ac,cc,rfl⟩:=hcond.form
    ((repeat (first|refine At ?_|refine Ah rfl ?_|refine Ae rfl ?_))<;>(refine Ey rfl rfl rfl ?_<;>refine Ba rfl rfl ?_)<;>(repeat (first|refine At ?_|refine Ah rfl ?_|refine Ae rfl ?_)))
    refine Dn rfl rfl rfl (by simp [Value.cells,Value.oneCell']) fun w4 hN4=>?_
    have hb2:=hN4.blk
    have hE4:Ext w w4:=hE3.trans' hN4.ext
    ((refine o_z ?_))
    repeat (first|refine At ?_|refine Ah rfl ?_|refine Ae rfl ?_)
    (refine Aj rfl rfl ?_<;>refine AS rfl rfl ?_<;>refine AJ rfl rfl ?_)
    refine CY rfl rfl (baseProper (hv.ext hE4) (hcond.ext hN4.ext)) ?_ ?_
    case refine_2 =>
      intro w5 hP hE5
      ((first|refine CC rfl rfl ?_|refine CD rfl rfl ?_|refine CU rfl rfl ?_)<;>refine Aj rfl rfl ?_<;>(first|(refine Ar rfl rfl ?_;refine Aj rfl rfl ?_)|refine An rfl rfl rfl rfl ?_)<;>(first|(refine Ar rfl rfl ?_;refine AS rfl rfl ?_)|refine An rfl rfl rfl rfl ?_)<;>(first|(refine Ar rfl rfl ?_;refine AJ rfl rfl ?_)|refine An rfl rfl rfl rfl ?_)<;>(first|(refine Ar rfl rfl ?_;refine AS rfl rfl ?_)|refine An rfl rfl rfl rfl ?_)<;>(first|(refine Ar rfl rfl ?_;refine AJ rfl rfl ?_)|refine An rfl rfl rfl rfl ?_)<;>(first|(refine Ar rfl rfl ?_;refine EH rfl rfl rfl ?_)|refine An rfl rfl rfl rfl ?_))
      refine An rfl rfl rfl rfl ?_
      refine An rfl rfl rfl rfl ?_
      ((first|(refine Ar rfl rfl ?_;(first|refine CC rfl rfl ?_|refine CD rfl rfl ?_|refine CU rfl rfl ?_))|refine An rfl rfl rfl rfl ?_)<;>(first|refine By rfl rfl rfl ?_|refine Bz rfl rfl rfl ?_)<;>(refine o_z ?_))
      repeat (first|refine At ?_|refine Ah rfl ?_|refine Ae rfl ?_)
      ((repeat (first|refine At ?_|refine Ah rfl ?_|refine Ae rfl ?_))<;>(refine Am rfl rfl ?_<;>(refine o_z ?_))<;>(repeat (first|refine At ?_|refine Ah rfl ?_|refine Ae rfl ?_)))
      refine ret1 rfl rfl ⟨?_,hE4.trans' hE5⟩
      rw [AQ (fun h=>hP (h.2.2.2.2.2 k e he).1)]
    intro w5 hcok hE5
    replace hb2:=hb2.ext hE5
    ((first|refine CC rfl rfl ?_|refine CD rfl rfl ?_|refine CU rfl rfl ?_)<;>refine Aj rfl rfl ?_<;>(first|(refine Ar rfl rfl ?_;refine Aj rfl rfl ?_)|refine An rfl rfl rfl rfl ?_)<;>(first|(refine Ar rfl rfl ?_;refine AS rfl rfl ?_)|refine An rfl rfl rfl rfl ?_)<;>(first|(refine Ar rfl rfl ?_;refine AJ rfl rfl ?_)|refine An rfl rfl rfl rfl ?_)<;>(first|(refine Ar rfl rfl ?_;refine AS rfl rfl ?_)|refine An rfl rfl rfl rfl ?_)<;>(first|(refine Ar rfl rfl ?_;refine AJ rfl rfl ?_)|refine An rfl rfl rfl rfl ?_)<;>(first|(refine Ar rfl rfl ?_;refine EH rfl rfl rfl ?_)|refine An rfl rfl rfl rfl ?_))
    refine Ar rfl rfl ?_
    refine FR rfl rfl rfl (by simp [Value.cells];rfl) (by decide) rfl fun w6 hN6=>?_
    have hE6:Ext w w6:=hE4.trans' (hE5.trans' hN6.ext)
    refine Ar rfl rfl ?_
    have hone:V w6 (.slice (some ⟨w5.heap.size,0,none⟩) 1 1) [(⟨e.var,e.val⟩:Fct)] :=
      .of_slice ⟨_,1,[.int .i64 e.var,.int .i64 e.val],rfl,Nat.le_refl _,by omega,.single ⟨rfl,hr1,hr2⟩,fun _=>⟨_,_,rfl,hN6.blk.lt,hN6.blk.cellsAt⟩⟩
    refine CY rfl rfl (baseProper (hv.ext hE6) hone) ?_ ?_
    case refine_2 =>
      intro w7 hP hE7
      ((first|(refine Ar rfl rfl ?_;(first|refine CC rfl rfl ?_|refine CD rfl rfl ?_|refine CU rfl rfl ?_))|refine An rfl rfl rfl rfl ?_)<;>(first|refine By rfl rfl rfl ?_|refine Bz rfl rfl rfl ?_)<;>(refine o_z ?_))
      repeat (first|refine At ?_|refine Ah rfl ?_|refine Ae rfl ?_)
      ((repeat (first|refine At ?_|refine Ah rfl ?_|refine Ae rfl ?_))<;>(refine Am rfl rfl ?_<;>(refine o_z ?_))<;>(repeat (first|refine At ?_|refine Ah rfl ?_|refine Ae rfl ?_)))
      refine ret1 rfl rfl ⟨?_,hE6.trans' hE7⟩
      rw [AQ (fun h=>hP (FM.2 (h.2.2.2.2.2 k e he).2))]
    intro w7 hfok hE7
    ((first|(refine Ar rfl rfl ?_;(first|refine CC rfl rfl ?_|refine CD rfl rfl ?_|refine CU rfl rfl ?_))|refine An rfl rfl rfl rfl ?_)<;>(first|refine By rfl rfl rfl ?_|refine Bz rfl rfl rfl ?_)<;>(refine o_z ?_))
    repeat (first|refine At ?_|refine Ah rfl ?_|refine Ae rfl ?_)
    exact ⟨(),⟨rfl,rfl,rfl,rfl,rfl,trivial⟩,hE6.trans' hE7,CG hh fun e' he'=>by
      rw [he] at he';injection he' with he';subst he';exact ⟨hcok,FM.1 hfok⟩⟩
  rintro _ w3 ⟨hE3,hh⟩
  repeat (first|refine At ?_|refine Ah rfl ?_|refine Ae rfl ?_)
  ((repeat (first|refine At ?_|refine Ah rfl ?_|refine Ae rfl ?_))<;>(refine Am rfl rfl ?_<;>(refine o_z ?_))<;>(repeat (first|refine At ?_|refine Ah rfl ?_|refine Ae rfl ?_)))
  refine ret1 rfl rfl ⟨?_,hE3⟩
  rw [Be ⟨by omega,by omega,by omega,hnok,hpre,fun i e he=>hh i (BN he) e he⟩]
theorem baseGood {w:World} {tv:Value} {t:Tsk} (ht:V w tv t) :
    Fn Tryz.prog 23 [tv] w fun v w'=>v=.bool (bof (TaskOk t))∧Ext w w':=by
  obtain ⟨cs,rfl,a,b,c,d,rfl,hvars,hinit,hgoal,hops⟩:=ht
  obtain ⟨Av,cv,rfl⟩:=hvars.form
  obtain ⟨Ai,ci,rfl⟩:=hinit.form
  obtain ⟨Ag,cg,rfl⟩:=hgoal.form
  obtain ⟨Ao,co,rfl⟩:=hops.form
  have hvl:=hvars.len
  have hol:=hops.len
  refine AP Tryz.func23 rfl Tryz.ntmps23 rfl ?_
  repeat (first|refine At ?_|refine Ah rfl ?_|refine Ae rfl ?_)
  refine FC rfl rfl fun w1 hN=>?_
  have hb1:=hN.blk
  have hE1:Ext w w1:=hN.ext
  (refine Am rfl rfl ?_<;>(refine o_z ?_))
  repeat (first|refine At ?_|refine Ah rfl ?_|refine Ae rfl ?_)
  ((repeat (first|refine At ?_|refine Ah rfl ?_|refine Ae rfl ?_))<;>(refine AS rfl rfl ?_<;>refine AJ rfl rfl ?_<;>refine AX rfl rfl ?_<;>(first|refine DC rfl rfl rfl ?_|refine DD rfl rfl rfl ?_|refine CS rfl rfl rfl (fun _=>?_) fun _=>?_)<;>refine Aj rfl rfl ?_<;>(first|(refine Ar rfl rfl ?_;refine AS rfl rfl ?_)|refine An rfl rfl rfl rfl ?_)<;>(first|(refine Ar rfl rfl ?_;refine AJ rfl rfl ?_)|refine An rfl rfl rfl rfl ?_)<;>(first|(refine Ar rfl rfl ?_;refine AX rfl rfl ?_)|refine An rfl rfl rfl rfl ?_)<;>(first|(refine Ar rfl rfl ?_;(first|refine DC rfl rfl rfl ?_|refine DD rfl rfl rfl ?_|refine CS rfl rfl rfl (fun _=>?_) fun _=>?_))|refine An rfl rfl rfl rfl ?_)<;>(first|refine By rfl rfl rfl ?_|refine Bz rfl rfl rfl ?_)<;>(refine o_z ?_))<;>(repeat (first|refine At ?_|refine Ah rfl ?_|refine Ae rfl ?_)))
  all_goals try (
    ((repeat (first|refine At ?_|refine Ah rfl ?_|refine Ae rfl ?_))<;>(refine Am rfl rfl ?_<;>(refine o_z ?_))<;>(repeat (first|refine At ?_|refine Ah rfl ?_|refine Ae rfl ?_)))
    refine ret1 rfl rfl ⟨?_,hE1⟩
    rw [AQ (fun h=>by obtain ⟨h1,h2,_⟩:=h;omega)])
  (refine AS rfl rfl ?_<;>refine AJ rfl rfl ?_<;>refine AX rfl rfl ?_<;>refine Aj rfl rfl ?_<;>(refine o_z ?_))
  repeat (first|refine At ?_|refine Ah rfl ?_|refine Ae rfl ?_)
  refine Ch t.vars.length (by omega) (fun _:Unit=>[(1,.pointer (some ⟨w.heap.size,0,none⟩)),(18,.slice Av t.vars.length cv)]) (fun k _ w'=>w'=w1∧∀ i,i < k→∀ n,t.vars[i]?=some n→1≤n∧n≤64) ()
    ⟨rfl,fun i hi=>by omega⟩ ⟨rfl,rfl,rfl,rfl,trivial⟩ (fun _=>⟨rfl,rfl⟩) ⟨rfl,rfl,rfl⟩ ⟨rfl,rfl⟩ ?_ ?_
  · rintro k _ _ hk ⟨rfl,hh⟩
    obtain ⟨n,hn⟩:=AR hk
    obtain ⟨b2,o2,ce,rfl,_,_,hd1,rfl,_⟩:=(hvars.ext hE1).elem hn
    ((repeat (first|refine At ?_|refine Ah rfl ?_|refine Ae rfl ?_))<;>(refine Ey rfl rfl rfl ?_<;>refine AJ rfl rfl ?_<;>refine Am rfl rfl ?_<;>(refine o_z ?_))<;>(repeat (first|refine At ?_|refine Ah rfl ?_|refine Ae rfl ?_))<;>(refine Aj rfl rfl ?_<;>(first|refine Ds rfl rfl rfl ?_|refine Dt rfl rfl rfl ?_|refine Dj rfl rfl rfl (fun _=>?_) fun _=>?_)<;>refine Aj rfl rfl ?_<;>(first|(refine Ar rfl rfl ?_;refine Aj rfl rfl ?_)|refine An rfl rfl rfl rfl ?_)<;>(first|(refine Ar rfl rfl ?_;(first|refine DC rfl rfl rfl ?_|refine DD rfl rfl rfl ?_|refine CS rfl rfl rfl (fun _=>?_) fun _=>?_))|refine An rfl rfl rfl rfl ?_)<;>(first|refine By rfl rfl rfl ?_|refine Bz rfl rfl rfl ?_)<;>(refine o_z ?_))<;>(repeat (first|refine At ?_|refine Ah rfl ?_|refine Ae rfl ?_)))
    all_goals try (
      ((repeat (first|refine At ?_|refine Ah rfl ?_|refine Ae rfl ?_))<;>(refine Am rfl rfl ?_<;>(refine o_z ?_))<;>(repeat (first|refine At ?_|refine Ah rfl ?_|refine Ae rfl ?_)))
      refine ret1 rfl rfl ⟨?_,hE1⟩
      rw [AQ (fun h=>by have:=h.2.2.1 k n hn;omega)])
    exact ⟨(),⟨rfl,rfl,rfl,rfl,trivial⟩,rfl,CG hh fun n' hn'=>by rw [hn] at hn';injection hn' with hn';omega⟩
  rintro _ _ ⟨rfl,hdom⟩
  repeat (first|refine At ?_|refine Ah rfl ?_|refine Ae rfl ?_)
  (refine AS rfl rfl ?_<;>refine AJ rfl rfl ?_<;>refine AS rfl rfl ?_<;>refine AJ rfl rfl ?_)
  refine CY rfl rfl (baseState (hvars.ext hE1) (hinit.ext hE1)) ?_ ?_
  case refine_2 =>
    intro w2 hP hE2
    ((first|refine CC rfl rfl ?_|refine CD rfl rfl ?_|refine CU rfl rfl ?_)<;>refine Aj rfl rfl ?_<;>(first|(refine Ar rfl rfl ?_;refine AS rfl rfl ?_)|refine An rfl rfl rfl rfl ?_)<;>(first|(refine Ar rfl rfl ?_;refine AJ rfl rfl ?_)|refine An rfl rfl rfl rfl ?_)<;>(first|(refine Ar rfl rfl ?_;refine AS rfl rfl ?_)|refine An rfl rfl rfl rfl ?_)<;>(first|(refine Ar rfl rfl ?_;refine AJ rfl rfl ?_)|refine An rfl rfl rfl rfl ?_))
    refine An rfl rfl rfl rfl ?_
    ((first|(refine Ar rfl rfl ?_;(first|refine CC rfl rfl ?_|refine CD rfl rfl ?_|refine CU rfl rfl ?_))|refine An rfl rfl rfl rfl ?_)<;>(first|refine By rfl rfl rfl ?_|refine Bz rfl rfl rfl ?_)<;>(refine o_z ?_))
    repeat (first|refine At ?_|refine Ah rfl ?_|refine Ae rfl ?_)
    ((repeat (first|refine At ?_|refine Ah rfl ?_|refine Ae rfl ?_))<;>(refine Am rfl rfl ?_<;>(refine o_z ?_))<;>(repeat (first|refine At ?_|refine Ah rfl ?_|refine Ae rfl ?_)))
    refine ret1 rfl rfl ⟨?_,hE1.trans' hE2⟩
    rw [AQ (fun h=>hP h.2.2.2.1)]
  intro w2 hst hE2
  replace hb1:=hb1.ext hE2
  replace hE2:Ext w w2:=hE1.trans' hE2
  ((first|refine CC rfl rfl ?_|refine CD rfl rfl ?_|refine CU rfl rfl ?_)<;>refine Aj rfl rfl ?_<;>(first|(refine Ar rfl rfl ?_;refine AS rfl rfl ?_)|refine An rfl rfl rfl rfl ?_)<;>(first|(refine Ar rfl rfl ?_;refine AJ rfl rfl ?_)|refine An rfl rfl rfl rfl ?_)<;>(first|(refine Ar rfl rfl ?_;refine AS rfl rfl ?_)|refine An rfl rfl rfl rfl ?_)<;>(first|(refine Ar rfl rfl ?_;refine AJ rfl rfl ?_)|refine An rfl rfl rfl rfl ?_))
  refine Ar rfl rfl ?_
  refine CY rfl rfl (baseProper (hvars.ext hE2) (hgoal.ext hE2)) ?_ ?_
  case refine_2 =>
    intro w3 hP hE3
    ((first|(refine Ar rfl rfl ?_;(first|refine CC rfl rfl ?_|refine CD rfl rfl ?_|refine CU rfl rfl ?_))|refine An rfl rfl rfl rfl ?_)<;>(first|refine By rfl rfl rfl ?_|refine Bz rfl rfl rfl ?_)<;>(refine o_z ?_))
    repeat (first|refine At ?_|refine Ah rfl ?_|refine Ae rfl ?_)
    ((repeat (first|refine At ?_|refine Ah rfl ?_|refine Ae rfl ?_))<;>(refine Am rfl rfl ?_<;>(refine o_z ?_))<;>(repeat (first|refine At ?_|refine Ah rfl ?_|refine Ae rfl ?_)))
    refine ret1 rfl rfl ⟨?_,hE2.trans' hE3⟩
    rw [AQ (fun h=>hP h.2.2.2.2.1)]
  intro w3 hgo hE3
  replace hb1:=hb1.ext hE3
  replace hE3:Ext w w3:=hE2.trans' hE3
  ((first|(refine Ar rfl rfl ?_;(first|refine CC rfl rfl ?_|refine CD rfl rfl ?_|refine CU rfl rfl ?_))|refine An rfl rfl rfl rfl ?_)<;>(first|refine By rfl rfl rfl ?_|refine Bz rfl rfl rfl ?_)<;>(refine o_z ?_))
  repeat (first|refine At ?_|refine Ah rfl ?_|refine Ae rfl ?_)
  ((repeat (first|refine At ?_|refine Ah rfl ?_|refine Ae rfl ?_))<;>(refine AS rfl rfl ?_<;>refine AJ rfl rfl ?_<;>refine AX rfl rfl ?_<;>refine Aj rfl rfl ?_<;>(refine o_z ?_))<;>(repeat (first|refine At ?_|refine Ah rfl ?_|refine Ae rfl ?_)))
  refine Ch t.ops.length (by omega) (fun _:Unit=>[(1,.pointer (some ⟨w.heap.size,0,none⟩)),(46,.slice Ao t.ops.length co)]) (fun k _ w'=>Ext w3 w'∧∀ i,i < k→∀ o,t.ops[i]?=some o→OpOk t.vars o) ()
    ⟨Below.refl _ _,fun i hi=>by omega⟩ ⟨rfl,rfl,rfl,rfl,trivial⟩ (fun _=>⟨rfl,rfl⟩) ⟨rfl,rfl,rfl⟩ ⟨rfl,rfl⟩ ?_ ?_
  · rintro k _ w4 hk ⟨hE4,hh⟩
    obtain ⟨o,ho⟩:=AR hk
    replace hb1:=hb1.ext hE4
    have hE34:=hE4
    replace hE4:Ext w w4:=hE3.trans' hE4
    obtain ⟨b2,o2,ce,rfl,_,_,hd1,hRo⟩:=(hops.ext hE4).elem ho
    obtain ⟨p,q,rfl,hp,hq,hc,hn⟩:=id hRo
    obtain ⟨Ap,cp,rfl⟩:=hp.form
    obtain ⟨Aq,cq,rfl⟩:=hq.form
    ((repeat (first|refine At ?_|refine Ah rfl ?_|refine Ae rfl ?_))<;>(refine Ey rfl rfl rfl ?_<;>refine Ba rfl rfl ?_)<;>(repeat (first|refine At ?_|refine Ah rfl ?_|refine Ae rfl ?_)))
    refine Dn rfl rfl rfl (by simp [Value.cells,Value.oneCell']) fun w5 hN5=>?_
    have hb2:=hN5.blk
    replace hb1:=hb1.ext hN5.ext
    have hE5:Ext w w5:=hE4.trans' hN5.ext
    ((refine o_z ?_))
    repeat (first|refine At ?_|refine Ah rfl ?_|refine Ae rfl ?_)
    (refine AS rfl rfl ?_<;>refine AJ rfl rfl ?_<;>refine Ba rfl rfl ?_)
    have hVo:V w4 (.agg #[.string o.name,.int .i64 o.cost,.slice Ap o.pre.length cp,.slice Aq o.effs.length cq]) o:=⟨_,rfl,hRo⟩
    refine CY rfl rfl (baseOperator (hvars.ext hE5) (hVo.ext hN5.ext)) ?_ ?_
    · intro w6 hP hE6
      ((first|refine CC rfl rfl ?_|refine CD rfl rfl ?_|refine CU rfl rfl ?_)<;>(refine o_z ?_))
      repeat (first|refine At ?_|refine Ah rfl ?_|refine Ae rfl ?_)
      refine ⟨(),⟨rfl,rfl,rfl,rfl,trivial⟩,?_,CG hh fun o' ho'=>by rw [ho] at ho';injection ho' with ho';exact ho' ▸ hP⟩
      exact hE34.trans' (hN5.ext.trans' hE6)
    · intro w6 hP hE6
      ((first|refine CC rfl rfl ?_|refine CD rfl rfl ?_|refine CU rfl rfl ?_)<;>(refine o_z ?_))
      repeat (first|refine At ?_|refine Ah rfl ?_|refine Ae rfl ?_)
      ((repeat (first|refine At ?_|refine Ah rfl ?_|refine Ae rfl ?_))<;>(refine Am rfl rfl ?_<;>(refine o_z ?_))<;>(repeat (first|refine At ?_|refine Ah rfl ?_|refine Ae rfl ?_)))
      refine ret1 rfl rfl ⟨?_,hE5.trans' hE6⟩
      rw [AQ (fun h=>hP (h.2.2.2.2.2 k o ho))]
  rintro _ w4 ⟨hE4,hh⟩
  repeat (first|refine At ?_|refine Ah rfl ?_|refine Ae rfl ?_)
  ((repeat (first|refine At ?_|refine Ah rfl ?_|refine Ae rfl ?_))<;>(refine Am rfl rfl ?_<;>(refine o_z ?_))<;>(repeat (first|refine At ?_|refine Ah rfl ?_|refine Ae rfl ?_)))
  refine ret1 rfl rfl ⟨?_,hE3.trans' hE4⟩
  rw [Be ⟨by omega,by omega,fun i n hn=>hdom i (BN hn) n hn,hst,hgo,fun i o ho=>hh i (BN ho) o ho⟩]
def manyF (most:Int):List Int→Int→Int
  | [],n=>n
  | k :: r,n=>if most < n * min (max k 0) (most + 1) then most + 1 else manyF most r (n * min (max k 0) (most + 1))
theorem baseMany {w:World} {vv:Value} {vars:List Int} {most:Int} (hv:V w vv vars) (h1:1≤most) (h2:most≤1048576) :
    Fn Tryz.prog 24 [vv,.int .i64 most] w fun v w'=>v=.int .i64 (manyF most vars 1)∧Ext w w':=by
  obtain ⟨A,ca,rfl⟩:=hv.form
  have hvl:=hv.len
  refine AP Tryz.func24 rfl Tryz.ntmps24 rfl ?_
  ((repeat (first|refine At ?_|refine Ah rfl ?_|refine Ae rfl ?_))<;>(refine Am rfl rfl ?_<;>(refine o_z ?_))<;>(repeat (first|refine At ?_|refine Ah rfl ?_|refine Ae rfl ?_))<;>(refine Am rfl rfl ?_<;>(refine o_z ?_))<;>(repeat (first|refine At ?_|refine Ah rfl ?_|refine Ae rfl ?_))<;>(refine Aj rfl rfl ?_<;>refine AX rfl rfl ?_<;>refine Aj rfl rfl ?_<;>(refine o_z ?_))<;>(repeat (first|refine At ?_|refine Ah rfl ?_|refine Ae rfl ?_)))
  refine Ch vars.length (by omega) (fun n:Int=>[(1,.int .i64 most),(5,.int .i64 n),(8,.slice A vars.length ca)]) (fun k n w'=>w'=w∧0≤n∧n≤most∧manyF most (vars.drop k) n=manyF most vars 1) 1
    ⟨rfl,by omega,h1,rfl⟩ ⟨rfl,rfl,rfl,rfl,rfl,trivial⟩ (fun _=>⟨rfl,rfl⟩) ⟨rfl,rfl,rfl⟩ ⟨rfl,rfl⟩ ?_ ?_
  · rintro k n _ hk ⟨rfl,hn0,hn1,hh⟩
    obtain ⟨x,hx⟩:=AR hk
    obtain ⟨b2,o2,ce,rfl,_,_,hd1,rfl,_⟩:=hv.elem hx
    have hd:vars.drop k=x :: vars.drop (k + 1):=by
      rw [List.drop_eq_getElem_cons hk];congr 1
      rw [List.getElem?_eq_getElem hk] at hx;exact Option.some.inj hx
    rw [hd] at hh
    simp only [manyF] at hh
    have hm0:0≤min (max x 0) (most + 1):=by omega
    have hm1:min (max x 0) (most + 1)≤most + 1:=by omega
    have hp0:0≤n * min (max x 0) (most + 1):=Int.mul_nonneg hn0 hm0
    have hp1:n * min (max x 0) (most + 1)≤1048576 * 1048577:=Int.le_trans (Int.mul_le_mul_of_nonneg_right (Int.le_trans hn1 h2) hm0) (Int.mul_le_mul_of_nonneg_left (by omega) (by omega))
    ((repeat (first|refine At ?_|refine Ah rfl ?_|refine Ae rfl ?_))<;>(refine Ey rfl rfl rfl ?_<;>refine AJ rfl rfl ?_<;>refine Am rfl rfl ?_<;>(refine o_z ?_))<;>(repeat (first|refine At ?_|refine Ah rfl ?_|refine Ae rfl ?_))<;>(refine Aj rfl rfl ?_<;>refine Aj rfl rfl ?_<;>refine Qf rfl rfl rfl ?_<;>refine Aj rfl rfl ?_<;>(first|refine Hv rfl rfl ?_|refine Hu rfl rfl rfl ?_)<;>refine Nv rfl rfl rfl ?_<;>refine Sb rfl rfl rfl ?_<;>refine Am rfl rfl ?_<;>(refine o_z ?_))<;>(repeat (first|refine At ?_|refine Ah rfl ?_|refine Ae rfl ?_))<;>(refine Aj rfl rfl ?_<;>refine Aj rfl rfl ?_<;>(first|refine DC rfl rfl rfl ?_|refine DD rfl rfl rfl ?_|refine CS rfl rfl rfl (fun _=>?_) fun _=>?_)<;>(refine o_z ?_))<;>(repeat (first|refine At ?_|refine Ah rfl ?_|refine Ae rfl ?_)))
    · ((repeat (first|refine At ?_|refine Ah rfl ?_|refine Ae rfl ?_))<;>(refine Aj rfl rfl ?_<;>(first|refine Hv rfl rfl ?_|refine Hu rfl rfl rfl ?_)<;>refine Am rfl rfl ?_<;>(refine o_z ?_))<;>(repeat (first|refine At ?_|refine Ah rfl ?_|refine Ae rfl ?_)))
      refine ret1 rfl rfl ⟨?_,Below.refl _ _⟩
      rw [if_pos (by assumption)] at hh
      rw [← hh]
    · rw [if_neg (by assumption)] at hh
      exact ⟨n * min (max x 0) (most + 1),⟨rfl,rfl,rfl,rfl,rfl,trivial⟩,rfl,hp0,by omega,hh⟩
  rintro n _ ⟨rfl,_,_,hh⟩
  repeat (first|refine At ?_|refine Ah rfl ?_|refine Ae rfl ?_)
  ((repeat (first|refine At ?_|refine Ah rfl ?_|refine Ae rfl ?_))<;>(refine Aj rfl rfl ?_<;>refine Am rfl rfl ?_<;>(refine o_z ?_))<;>(repeat (first|refine At ?_|refine Ah rfl ?_|refine Ae rfl ?_)))
  refine ret1 rfl rfl ⟨?_,Below.refl _ _⟩
  rw [← hh,List.drop_length];rfl
def SmallOk (t:Tsk):Prop:=t.vars.length≤12∧t.ops.length≤20∧(∀ (i:Nat) o,t.ops[i]?=some o→o.effs.length≤8)∧TaskOk t∧manyF 512 t.vars 1≤512
theorem baseSmall {w:World} {tv:Value} {t:Tsk} (ht:V w tv t) :
    Fn Tryz.prog 9 [tv] w fun v w'=>v=.bool (bof (SmallOk t))∧Ext w w':=by
  have ht0:=ht
  obtain ⟨cs,rfl,a,b,c,d,rfl,hvars,hinit,hgoal,hops⟩:=ht
  obtain ⟨Av,cv,rfl⟩:=hvars.form
  obtain ⟨Ai,ci,rfl⟩:=hinit.form
  obtain ⟨Ag,cg,rfl⟩:=hgoal.form
  obtain ⟨Ao,co,rfl⟩:=hops.form
  have hvl:=hvars.len
  have hol:=hops.len
  refine AP Tryz.func9 rfl Tryz.ntmps9 rfl ?_
  repeat (first|refine At ?_|refine Ah rfl ?_|refine Ae rfl ?_)
  refine FC rfl rfl fun w1 hN=>?_
  have hb1:=hN.blk
  have hE1:Ext w w1:=hN.ext
  (refine Am rfl rfl ?_<;>(refine o_z ?_))
  repeat (first|refine At ?_|refine Ah rfl ?_|refine Ae rfl ?_)
  ((repeat (first|refine At ?_|refine Ah rfl ?_|refine Ae rfl ?_))<;>(refine AS rfl rfl ?_<;>refine AJ rfl rfl ?_<;>refine AX rfl rfl ?_<;>(first|refine DC rfl rfl rfl ?_|refine DD rfl rfl rfl ?_|refine CS rfl rfl rfl (fun _=>?_) fun _=>?_)<;>refine Aj rfl rfl ?_<;>(first|(refine Ar rfl rfl ?_;refine AS rfl rfl ?_)|refine An rfl rfl rfl rfl ?_)<;>(first|(refine Ar rfl rfl ?_;refine AJ rfl rfl ?_)|refine An rfl rfl rfl rfl ?_)<;>(first|(refine Ar rfl rfl ?_;refine AX rfl rfl ?_)|refine An rfl rfl rfl rfl ?_)<;>(first|(refine Ar rfl rfl ?_;(first|refine DC rfl rfl rfl ?_|refine DD rfl rfl rfl ?_|refine CS rfl rfl rfl (fun _=>?_) fun _=>?_))|refine An rfl rfl rfl rfl ?_)<;>(first|refine By rfl rfl rfl ?_|refine Bz rfl rfl rfl ?_)<;>(refine o_z ?_))<;>(repeat (first|refine At ?_|refine Ah rfl ?_|refine Ae rfl ?_)))
  all_goals try (
    ((repeat (first|refine At ?_|refine Ah rfl ?_|refine Ae rfl ?_))<;>(refine Am rfl rfl ?_<;>(refine o_z ?_))<;>(repeat (first|refine At ?_|refine Ah rfl ?_|refine Ae rfl ?_)))
    refine ret1 rfl rfl ⟨?_,hE1⟩
    rw [AQ (fun h=>by obtain ⟨h1,h2,_⟩:=h;omega)])
  ((repeat (first|refine At ?_|refine Ah rfl ?_|refine Ae rfl ?_))<;>(refine AS rfl rfl ?_<;>refine AJ rfl rfl ?_<;>refine AX rfl rfl ?_<;>refine Aj rfl rfl ?_<;>(refine o_z ?_))<;>(repeat (first|refine At ?_|refine Ah rfl ?_|refine Ae rfl ?_)))
  refine Ch t.ops.length (by omega) (fun _:Unit=>[(1,.pointer (some ⟨w.heap.size,0,none⟩)),(16,.slice Ao t.ops.length co)]) (fun k _ w'=>Ext w1 w'∧∀ i,i < k→∀ o,t.ops[i]?=some o→o.effs.length≤8) ()
    ⟨Below.refl _ _,fun i hi=>by omega⟩ ⟨rfl,rfl,rfl,rfl,trivial⟩ (fun _=>⟨rfl,rfl⟩) ⟨rfl,rfl,rfl⟩ ⟨rfl,rfl⟩ ?_ ?_
  · rintro k _ w4 hk ⟨hE4,hh⟩
    obtain ⟨o,ho⟩:=AR hk
    obtain ⟨b2,o2,ce,rfl,_,_,hd1,p,q,rfl,hp,hq,hc,hn⟩:=(hops.ext (hE1.trans' hE4)).elem ho
    obtain ⟨Ap,cp,rfl⟩:=hp.form
    obtain ⟨Aq,cq,rfl⟩:=hq.form
    ((repeat (first|refine At ?_|refine Ah rfl ?_|refine Ae rfl ?_))<;>(refine Ey rfl rfl rfl ?_<;>refine Ba rfl rfl ?_)<;>(repeat (first|refine At ?_|refine Ah rfl ?_|refine Ae rfl ?_)))
    refine Dn rfl rfl rfl (by simp [Value.cells,Value.oneCell']) fun w5 hN5=>?_
    have hb2:=hN5.blk
    have hE5:Ext w1 w5:=hE4.trans' hN5.ext
    ((refine o_z ?_))
    repeat (first|refine At ?_|refine Ah rfl ?_|refine Ae rfl ?_)
    ((repeat (first|refine At ?_|refine Ah rfl ?_|refine Ae rfl ?_))<;>(refine AS rfl rfl ?_<;>refine AJ rfl rfl ?_<;>refine AX rfl rfl ?_<;>(first|refine DC rfl rfl rfl ?_|refine DD rfl rfl rfl ?_|refine CS rfl rfl rfl (fun _=>?_) fun _=>?_)<;>(refine o_z ?_))<;>(repeat (first|refine At ?_|refine Ah rfl ?_|refine Ae rfl ?_)))
    · ((repeat (first|refine At ?_|refine Ah rfl ?_|refine Ae rfl ?_))<;>(refine Am rfl rfl ?_<;>(refine o_z ?_))<;>(repeat (first|refine At ?_|refine Ah rfl ?_|refine Ae rfl ?_)))
      refine ret1 rfl rfl ⟨?_,hE1.trans' hE5⟩
      rw [AQ (fun h=>by have:=h.2.2.1 k o ho;omega)]
    · exact ⟨(),⟨rfl,rfl,rfl,rfl,trivial⟩,hE5,CG hh fun o' ho'=>by rw [ho] at ho';injection ho' with ho';subst ho';omega⟩
  rintro _ w4 ⟨hE4,hh⟩
  replace hb1:=hb1.ext hE4
  replace hE4:Ext w w4:=hE1.trans' hE4
  repeat (first|refine At ?_|refine Ah rfl ?_|refine Ae rfl ?_)
  (refine Ba rfl rfl ?_)
  refine CY rfl rfl (baseGood (ht0.ext hE4)) ?_ ?_
  · intro w5 hgood hE5
    replace hb1:=hb1.ext hE5
    replace hE5:Ext w w5:=hE4.trans' hE5
    (refine Aj rfl rfl ?_<;>(first|(refine Ar rfl rfl ?_;refine AS rfl rfl ?_)|refine An rfl rfl rfl rfl ?_)<;>(first|(refine Ar rfl rfl ?_;refine AJ rfl rfl ?_)|refine An rfl rfl rfl rfl ?_))
    refine Ar rfl rfl ?_
    refine Dd rfl rfl (baseMany (hvars.ext hE5) (by decide) (by decide)) ?_
    rintro _ w6 ⟨rfl,hE6⟩
    ((first|(refine Ar rfl rfl ?_;(first|refine Lr rfl rfl rfl ?_|refine Ls rfl rfl rfl ?_|refine Hw rfl rfl rfl (fun _=>?_) fun _=>?_))|refine An rfl rfl rfl rfl ?_)<;>(first|refine By rfl rfl rfl ?_|refine Bz rfl rfl rfl ?_)<;>refine Am rfl rfl ?_<;>(refine o_z ?_))
    all_goals
      repeat (first|refine At ?_|refine Ah rfl ?_|refine Ae rfl ?_)
      refine ret1 rfl rfl ⟨?_,hE5.trans' hE6⟩
    · rw [Be ⟨by omega,by omega,fun i o ho=>hh i (BN ho) o ho,hgood,by assumption⟩]
    · rw [AQ (fun h=>absurd h.2.2.2.2 (by assumption))]
  · intro w5 hgood hE5
    (refine Aj rfl rfl ?_<;>(first|(refine Ar rfl rfl ?_;refine AS rfl rfl ?_)|refine An rfl rfl rfl rfl ?_)<;>(first|(refine Ar rfl rfl ?_;refine AJ rfl rfl ?_)|refine An rfl rfl rfl rfl ?_))
    refine An rfl rfl rfl rfl ?_
    ((first|(refine Ar rfl rfl ?_;(first|refine Lr rfl rfl rfl ?_|refine Ls rfl rfl rfl ?_|refine Hw rfl rfl rfl (fun _=>?_) fun _=>?_))|refine An rfl rfl rfl rfl ?_)<;>(first|refine By rfl rfl rfl ?_|refine Bz rfl rfl rfl ?_)<;>refine Am rfl rfl ?_<;>(refine o_z ?_))
    repeat (first|refine At ?_|refine Ah rfl ?_|refine Ae rfl ?_)
    refine ret1 rfl rfl ⟨?_,hE4.trans' hE5⟩
    rw [AQ (fun h=>hgood h.2.2.2.1)]
end
section
open Go Go.RowKit
attribute [local irreducible] ewp owp hwp hwq Ev Evg Fn retPost Res1
def opConds (o:Opr):List (List Fct):=o.pre :: o.effs.map (·.cond)
def conds (t:Tsk):List (List Fct):=t.goal :: t.ops.flatMap opConds
theorem KM {α β:Type} (f:α→List β) {l:List α} {k:Nat} {x:α} (h:l[k]?=some x):(l.take (k + 1)).flatMap f=(l.take k).flatMap f ++ f x:=by
  rw [List.take_add_one,h];simp
theorem Pu {α β:Type} (f:α→β) {l:List α} {k:Nat} {x:α} (h:l[k]?=some x):(l.take (k + 1)).map f=(l.take k).map f ++ [f x]:=by
  rw [List.take_add_one,h];simp
theorem QD {t:Tsk} (h:∀ (i:Nat) o,t.ops[i]?=some o→o.effs.length≤64) (k:Nat):((t.ops.take k).flatMap opConds).length≤k * 65:=by
  induction k with
  | zero=>simp
  | succ k ih =>
    cases hx:t.ops[k]? with
    | none =>
      have hl:=List.getElem?_eq_none_iff.1 hx
      rw [List.take_of_length_le hl] at ih
      rw [List.take_of_length_le (by omega)]
      omega
    | some o =>
      rw [KM opConds hx,List.length_append]
      have:=h k o hx
      simp only [opConds,List.length_cons,List.length_map] at *
      omega
theorem taskConditions {w:World} {tv:Value} {t:Tsk} (ht:V w tv t) (hn:t.ops.length≤4096) (hm:∀ (i:Nat) o,t.ops[i]?=some o→o.effs.length≤64) :
    Fn Tryz.prog 48 [tv] w fun v w'=>V w' v (conds t)∧Ext w w':=by
  obtain ⟨cs,rfl,a,b,c,d,rfl,hvars,hinit,hgoal,hops⟩:=ht
  obtain ⟨Av,cv,rfl⟩:=hvars.form
  obtain ⟨Ai,ci,rfl⟩:=hinit.form
  obtain ⟨Ag,cg,rfl⟩:=hgoal.form
  obtain ⟨Ao,co,rfl⟩:=hops.form
  have hF:∀ {w'},Ext w w'→∀ k,All w k→k < w'.heap.size:=fun hE k hk=>Nat.lt_of_lt_of_le hk hE.size
  refine AP Tryz.func48 rfl Tryz.ntmps48 rfl ?_
  repeat (first|refine At ?_|refine Ah rfl ?_|refine Ae rfl ?_)
  refine FC rfl rfl fun w1 hN=>?_
  have hb1:=hN.blk
  have hE1:Ext w w1:=hN.ext
  (refine Am rfl rfl ?_<;>(refine o_z ?_))
  repeat (first|refine At ?_|refine Ah rfl ?_|refine Ae rfl ?_)
  (refine AS rfl rfl ?_<;>refine AJ rfl rfl ?_)
  refine FR rfl rfl rfl (by simp [Value.cells]) (by decide) rfl fun w2 hN2=>?_
  replace hb1:=hb1.ext hN2.ext
  have hE2:Ext w w2:=hE1.trans' hN2.ext
  have hown:Own w2 w.heap.size (All w) 27 (.slice (some ⟨w1.heap.size,0,none⟩) 1 1) [t.goal] :=
    (Own.made hN2 (xs:=[t.goal]) (.single (Vb.agree hgoal (hE2.agree fun _ h=>h))) rfl (fun h=>by have:w1.heap.size < w.heap.size:=h;have:=hE1.size;omega) (by simp)).lower hE1.size
  (refine Am rfl rfl ?_<;>(refine o_z ?_))
  repeat (first|refine At ?_|refine Ah rfl ?_|refine Ae rfl ?_)
  ((repeat (first|refine At ?_|refine Ah rfl ?_|refine Ae rfl ?_))<;>(refine AS rfl rfl ?_<;>refine AJ rfl rfl ?_<;>refine AX rfl rfl ?_<;>refine Aj rfl rfl ?_<;>(refine o_z ?_))<;>(repeat (first|refine At ?_|refine Ah rfl ?_|refine Ae rfl ?_)))
  refine Ch t.ops.length (by omega) (fun v:Value=>[(1,.pointer (some ⟨w.heap.size,0,none⟩)),(3,v),(12,.slice Ao t.ops.length co)]) (fun k v w'=>Ext w w'∧Blk w' w.heap.size 30 [.slice Av t.vars.length cv,.slice Ai t.init.length ci,.slice Ag t.goal.length cg,.slice Ao t.ops.length co]∧Own w' w.heap.size (All w) 27 v (t.goal :: (t.ops.take k).flatMap opConds)) _
    ⟨hE2,hb1,hown⟩ ⟨rfl,rfl,rfl,rfl,rfl,trivial⟩ (fun _=>⟨rfl,rfl⟩) ⟨rfl,rfl,rfl⟩ ⟨rfl,rfl⟩ ?_ ?_
  · rintro k v w3 hk ⟨hE3,hb1,hown⟩
    have hlk:=QD hm k
    obtain ⟨o,ho⟩:=AR hk
    obtain ⟨b2,o2,ce,rfl,_,_,hd1,p,q,rfl,hp,hq,hc,hnm⟩:=Vb.elem (Vb.agree hops (hE3.agree fun _ h=>h)) ho
    obtain ⟨Ap,cp,rfl⟩:=hp.form
    obtain ⟨Aq,cq,rfl⟩:=hq.form
    have hql:=hm k o ho
    ((repeat (first|refine At ?_|refine Ah rfl ?_|refine Ae rfl ?_))<;>(refine Ey rfl rfl rfl ?_<;>refine Ba rfl rfl ?_)<;>(repeat (first|refine At ?_|refine Ah rfl ?_|refine Ae rfl ?_)))
    refine Dn rfl rfl rfl (by simp [Value.cells,Value.oneCell']) fun w4 hN4=>?_
    have hb2:=hN4.blk
    replace hb1:=hb1.ext hN4.ext
    have hE4:Ext w w4:=hE3.trans' hN4.ext
    replace hown:=hown.ext hN4.ext (hF hE3)
    replace hp:=hp.agree (hN4.ext.agree (hF hE3))
    replace hq:=hq.agree (hN4.ext.agree (hF hE3))
    ((refine o_z ?_))
    repeat (first|refine At ?_|refine Ah rfl ?_|refine Ae rfl ?_)
    (refine Aj rfl rfl ?_<;>refine AS rfl rfl ?_<;>refine AJ rfl rfl ?_)
    refine IR rfl rfl rfl hown (hF hE4) hE4.size hp (by decide) (by decide) (by simp only [List.length_cons,List.length_append,List.length_map,List.length_take];omega) (by simp only [List.length_cons,List.length_append,List.length_map,List.length_take];omega) ⟨rfl,rfl⟩ fun v' w5 hown5 hK=>?_
    replace hb1:=hK.blk hb1 (hown.blk_ne hb1 (by decide))
    replace hb2:=hK.blk hb2 (hown.blk_ne hb2 (by decide))
    have hB5:Below w.heap.size w4 w5:=hown.fits (Nat.le_refl _) hE4.size hK
    have hE5:Ext w w5:=hE4.trans hB5
    replace hq:=hq.below hB5
    (refine Am rfl rfl ?_<;>(refine o_z ?_))
    repeat (first|refine At ?_|refine Ah rfl ?_|refine Ae rfl ?_)
    ((repeat (first|refine At ?_|refine Ah rfl ?_|refine Ae rfl ?_))<;>(refine AS rfl rfl ?_<;>refine AJ rfl rfl ?_<;>refine AX rfl rfl ?_<;>refine Aj rfl rfl ?_<;>(refine o_z ?_))<;>(repeat (first|refine At ?_|refine Ah rfl ?_|refine Ae rfl ?_)))
    refine Ch o.effs.length (by omega) (fun v:Value=>[(1,.pointer (some ⟨w.heap.size,0,none⟩)),(3,v),(12,.slice (some ⟨b2,o2,none⟩) t.ops.length co),(13,.int .i64 (t.ops.length:Int)),(14,.int .i64 (k:Int)),(24,.slice Aq o.effs.length cq)]) (fun j v w'=>Ext w w'∧Blk w' w.heap.size 30 [.slice Av t.vars.length cv,.slice Ai t.init.length ci,.slice Ag t.goal.length cg,.slice (some ⟨b2,o2,none⟩) t.ops.length co]∧Vb w' (All w) (.slice Aq o.effs.length cq) o.effs∧Own w' w.heap.size (All w) 27 v ((t.goal :: (t.ops.take k).flatMap opConds) ++ o.pre :: (o.effs.take j).map (·.cond))) _
      ⟨hE5,hb1,hq,by simpa using hown5⟩ ⟨rfl,rfl,rfl,rfl,rfl,rfl,rfl,rfl,trivial⟩ (fun _=>⟨rfl,rfl⟩) ⟨rfl,rfl,rfl⟩ ⟨rfl,rfl⟩ ?_ ?_
    · rintro j v6 w6 hj ⟨hE6,hb1,hq,hown⟩
      obtain ⟨e,he⟩:=AR hj
      obtain ⟨b3,o3,ce,rfl,_,_,hd1,cv',rfl,hcond,hr1,hr2⟩:=hq.elem he
      obtain ⟨Ac,cc,rfl⟩:=hcond.form
      ((repeat (first|refine At ?_|refine Ah rfl ?_|refine Ae rfl ?_))<;>(refine Ey rfl rfl rfl ?_<;>refine Ba rfl rfl ?_)<;>(repeat (first|refine At ?_|refine Ah rfl ?_|refine Ae rfl ?_)))
      refine Dn rfl rfl rfl (by simp [Value.cells,Value.oneCell']) fun w7 hN7=>?_
      have hb2:=hN7.blk
      replace hb1:=hb1.ext hN7.ext
      have hE7:Ext w w7:=hE6.trans' hN7.ext
      replace hown:=hown.ext hN7.ext (hF hE6)
      replace hcond:=hcond.agree (hN7.ext.agree (hF hE6))
      replace hq:=hq.agree (hN7.ext.agree (hF hE6))
      ((refine o_z ?_))
      repeat (first|refine At ?_|refine Ah rfl ?_|refine Ae rfl ?_)
      (refine Aj rfl rfl ?_<;>refine AS rfl rfl ?_<;>refine AJ rfl rfl ?_)
      refine IR rfl rfl rfl hown (hF hE7) hE7.size hcond (by decide) (by decide) (by simp only [List.length_cons,List.length_append,List.length_map,List.length_take];omega) (by simp only [List.length_cons,List.length_append,List.length_map,List.length_take];omega) ⟨rfl,rfl⟩ fun v' w8 hown8 hK=>?_
      have hB8:Below w.heap.size w7 w8:=hown.fits (Nat.le_refl _) hE7.size hK
      (refine Am rfl rfl ?_<;>(refine o_z ?_))
      exact ⟨v',⟨rfl,rfl,rfl,rfl,rfl,rfl,rfl,rfl,trivial⟩,hE7.trans hB8,hK.blk hb1 (hown.blk_ne hb1 (by decide)),hq.below hB8,by rw [Pu _ he];simpa using hown8⟩
    rintro v6 w6 ⟨hE6,hb1,hq,hown⟩
    repeat (first|refine At ?_|refine Ah rfl ?_|refine Ae rfl ?_)
    exact ⟨v6,⟨rfl,rfl,rfl,rfl,rfl,trivial⟩,hE6,hb1,by rw [KM opConds ho];simpa [opConds] using hown⟩
  rintro v w3 ⟨hE3,hb1,hown⟩
  repeat (first|refine At ?_|refine Ah rfl ?_|refine Ae rfl ?_)
  ((repeat (first|refine At ?_|refine Ah rfl ?_|refine Ae rfl ?_))<;>(refine Aj rfl rfl ?_<;>refine Am rfl rfl ?_<;>(refine o_z ?_))<;>(repeat (first|refine At ?_|refine Ah rfl ?_|refine Ae rfl ?_)))
  refine ret1 rfl rfl ⟨?_,hE3⟩
  rw [List.take_length] at hown
  exact hown.vb.mono fun k hk=>by
    rcases hk with hk|hk
    · exact hF hE3 k hk
    · exact (hown.lt k hk).2
theorem indexFuncFacts {w:World} {sv:Value} {xs:List (List Fct)} {g:FuncId} [Callable Tryz.prog g] {caps:List Value} {p:List Fct→Prop} (hs:V w sv xs)
    (hg:∀ v x w',x∈xs→Ext w w'→V w' v x→Fn Tryz.prog g ([v] ++ caps) w' fun r w''=>r=.bool (bof (p x))∧Ext w' w'') :
    Fn Tryz.prog 86 [sv,.func (.func g) #[] caps.toArray] w fun v w'=>((∃ k:Nat,v=.int .i64 (k:Int)∧∃ x∈xs,p x)∨(v=.int .i64 (-1)∧∀ x∈xs,¬ p x))∧Ext w w':=by
  obtain ⟨A,c,rfl⟩:=hs.form
  have hl:=hs.len
  refine AP Tryz.func86 rfl Tryz.ntmps86 rfl ?_
  ((repeat (first|refine At ?_|refine Ah rfl ?_|refine Ae rfl ?_))<;>(refine Am rfl rfl ?_<;>(refine o_z ?_))<;>(repeat (first|refine At ?_|refine Ah rfl ?_|refine Ae rfl ?_))<;>(refine Aj rfl rfl ?_<;>refine AX rfl rfl ?_<;>refine Aj rfl rfl ?_<;>(refine o_z ?_))<;>(repeat (first|refine At ?_|refine Ah rfl ?_|refine Ae rfl ?_)))
  refine Ch xs.length (by omega) (fun _:Unit=>[(0,.slice A xs.length c),(1,.func (.func g) #[] caps.toArray)]) (fun k _ w'=>Ext w w'∧∀ i,i < k→∀ x,xs[i]?=some x→¬ p x) ()
    ⟨Below.refl _ _,fun i hi=>by omega⟩ ⟨rfl,rfl,rfl,rfl,trivial⟩ (fun _=>⟨rfl,rfl⟩) ⟨rfl,rfl,rfl⟩ ⟨rfl,rfl⟩ ?_ ?_
  · rintro k _ w1 hk ⟨hE,hh⟩
    obtain ⟨x,hx⟩:=AR hk
    obtain ⟨b,o,ce,rfl,_,_,hd1,hR⟩:=(hs.ext hE).elem hx
    obtain ⟨v,rfl⟩:=List.length_eq_one_iff.1 (Rp.len hR)
    ((repeat (first|refine At ?_|refine Ah rfl ?_|refine Ae rfl ?_))<;>(refine Aj rfl rfl ?_<;>refine Am rfl rfl ?_<;>(refine o_z ?_))<;>(repeat (first|refine At ?_|refine Ah rfl ?_|refine Ae rfl ?_))<;>(refine Aj rfl rfl ?_<;>refine Aj rfl rfl ?_<;>refine Aj rfl rfl ?_<;>refine Ey rfl rfl rfl ?_<;>refine AJ rfl rfl ?_)<;>(repeat (first|refine At ?_|refine Ah rfl ?_|refine Ae rfl ?_)))
    refine Ib rfl rfl rfl (hg v x w1 (List.mem_of_getElem? hx) hE hR) ?_
    rintro _ w2 ⟨rfl,hE2⟩
    by_cases hp:p x
    · rw [Be hp]
      ((refine o_z ?_))
      repeat (first|refine At ?_|refine Ah rfl ?_|refine Ae rfl ?_)
      ((repeat (first|refine At ?_|refine Ah rfl ?_|refine Ae rfl ?_))<;>(refine Aj rfl rfl ?_<;>refine Am rfl rfl ?_<;>(refine o_z ?_))<;>(repeat (first|refine At ?_|refine Ah rfl ?_|refine Ae rfl ?_)))
      exact ret1 rfl rfl ⟨.inl ⟨k,rfl,x,List.mem_of_getElem? hx,hp⟩,hE.trans' hE2⟩
    · rw [AQ hp]
      ((refine o_z ?_))
      repeat (first|refine At ?_|refine Ah rfl ?_|refine Ae rfl ?_)
      exact ⟨(),⟨rfl,rfl,rfl,rfl,trivial⟩,hE.trans' hE2,CG hh fun x' hx'=>by rw [hx] at hx';injection hx' with hx';exact hx' ▸ hp⟩
  rintro _ w1 ⟨hE,hh⟩
  repeat (first|refine At ?_|refine Ah rfl ?_|refine Ae rfl ?_)
  ((repeat (first|refine At ?_|refine Ah rfl ?_|refine Ae rfl ?_))<;>(refine Am rfl rfl ?_<;>(refine o_z ?_))<;>(repeat (first|refine At ?_|refine Ah rfl ?_|refine Ae rfl ?_)))
  refine ret1 rfl rfl ⟨.inr ⟨rfl,fun x hx=>?_⟩,hE⟩
  obtain ⟨i,hi⟩:=List.getElem?_of_mem hx
  exact hh i (BN hi) x hi
theorem containsFuncFacts {w:World} {sv:Value} {xs:List (List Fct)} {g:FuncId} [Callable Tryz.prog g] {caps:List Value} {p:List Fct→Prop} (hs:V w sv xs)
    (hg:∀ v x w',x∈xs→Ext w w'→V w' v x→Fn Tryz.prog g ([v] ++ caps) w' fun r w''=>r=.bool (bof (p x))∧Ext w' w'') :
    Fn Tryz.prog 69 [sv,.func (.func g) #[] caps.toArray] w fun v w'=>v=.bool (bof (∃ x∈xs,p x))∧Ext w w':=by
  refine AP Tryz.func69 rfl Tryz.ntmps69 rfl ?_
  ((repeat (first|refine At ?_|refine Ah rfl ?_|refine Ae rfl ?_))<;>(refine Am rfl rfl ?_<;>(refine o_z ?_))<;>(repeat (first|refine At ?_|refine Ah rfl ?_|refine Ae rfl ?_))<;>(refine Aj rfl rfl ?_<;>refine Aj rfl rfl ?_)<;>(repeat (first|refine At ?_|refine Ah rfl ?_|refine Ae rfl ?_)))
  refine Dd rfl rfl (indexFuncFacts hs hg) ?_
  rintro v w1 ⟨h,hE⟩
  rcases h with ⟨k,rfl,h⟩|⟨rfl,h⟩
  · ((first|refine Nz rfl rfl rfl ?_|refine NA rfl rfl rfl ?_)<;>refine Am rfl rfl ?_<;>(refine o_z ?_))
    repeat (first|refine At ?_|refine Ah rfl ?_|refine Ae rfl ?_)
    exact ret1 rfl rfl ⟨by rw [Be h],hE⟩
  · ((first|refine Nz rfl rfl rfl ?_|refine NA rfl rfl rfl ?_)<;>refine Am rfl rfl ?_<;>(refine o_z ?_))
    repeat (first|refine At ?_|refine Ah rfl ?_|refine Ae rfl ?_)
    exact ret1 rfl rfl ⟨by rw [AQ (fun ⟨x,hx,hp⟩=>h x hx hp)],hE⟩
theorem taskLarge1 {w:World} {v:Value} {f:List Fct} (hf:V w v f):Fn Tryz.prog 70 ([v] ++ []) w fun r w'=>r=.bool (bof (64 < f.length))∧Ext w w':=by
  obtain ⟨A,c,rfl⟩:=hf.form
  refine AP Tryz.func70 rfl Tryz.ntmps70 rfl ?_
  by_cases h:64 < f.length
  · ((repeat (first|refine At ?_|refine Ah rfl ?_|refine Ae rfl ?_))<;>(refine Am rfl rfl ?_<;>(refine o_z ?_))<;>(repeat (first|refine At ?_|refine Ah rfl ?_|refine Ae rfl ?_))<;>(refine Aj rfl rfl ?_<;>refine AX rfl rfl ?_<;>(first|refine DC rfl rfl rfl ?_|refine DD rfl rfl rfl ?_)<;>refine Am rfl rfl ?_<;>(refine o_z ?_))<;>(repeat (first|refine At ?_|refine Ah rfl ?_|refine Ae rfl ?_)))
    exact ret1 rfl rfl ⟨by rw [Be h],Below.refl _ _⟩
  · ((repeat (first|refine At ?_|refine Ah rfl ?_|refine Ae rfl ?_))<;>(refine Am rfl rfl ?_<;>(refine o_z ?_))<;>(repeat (first|refine At ?_|refine Ah rfl ?_|refine Ae rfl ?_))<;>(refine Aj rfl rfl ?_<;>refine AX rfl rfl ?_<;>(first|refine DC rfl rfl rfl ?_|refine DD rfl rfl rfl ?_)<;>refine Am rfl rfl ?_<;>(refine o_z ?_))<;>(repeat (first|refine At ?_|refine Ah rfl ?_|refine Ae rfl ?_)))
    exact ret1 rfl rfl ⟨by rw [AQ h],Below.refl _ _⟩
def Large (t:Tsk):Prop:=64 < t.vars.length∨4096 < t.ops.length∨(∃ (i:Nat) (o:Opr),t.ops[i]?=some o∧64 < o.effs.length)∨∃ f∈conds t,64 < f.length
theorem taskLarge {w:World} {tv:Value} {t:Tsk} (ht:V w tv t):Fn Tryz.prog 47 [tv] w fun v w'=>v=.bool (bof (Large t))∧Ext w w':=by
  have ht0:=ht
  obtain ⟨cs,rfl,a,b,c,d,rfl,hvars,hinit,hgoal,hops⟩:=ht
  obtain ⟨Av,cv,rfl⟩:=hvars.form
  obtain ⟨Ai,ci,rfl⟩:=hinit.form
  obtain ⟨Ag,cg,rfl⟩:=hgoal.form
  obtain ⟨Ao,co,rfl⟩:=hops.form
  have hol:=hops.len
  refine AP Tryz.func47 rfl Tryz.ntmps47 rfl ?_
  repeat (first|refine At ?_|refine Ah rfl ?_|refine Ae rfl ?_)
  refine FC rfl rfl fun w1 hN=>?_
  have hb1:=hN.blk
  have hE1:Ext w w1:=hN.ext
  (refine Am rfl rfl ?_<;>(refine o_z ?_))
  repeat (first|refine At ?_|refine Ah rfl ?_|refine Ae rfl ?_)
  ((repeat (first|refine At ?_|refine Ah rfl ?_|refine Ae rfl ?_))<;>(refine AS rfl rfl ?_<;>refine AJ rfl rfl ?_<;>refine AX rfl rfl ?_<;>(first|refine DC rfl rfl rfl ?_|refine DD rfl rfl rfl ?_|refine CS rfl rfl rfl (fun _=>?_) fun _=>?_)<;>refine Aj rfl rfl ?_<;>(first|(refine Ar rfl rfl ?_;refine AS rfl rfl ?_)|refine An rfl rfl rfl rfl ?_)<;>(first|(refine Ar rfl rfl ?_;refine AJ rfl rfl ?_)|refine An rfl rfl rfl rfl ?_)<;>(first|(refine Ar rfl rfl ?_;refine AX rfl rfl ?_)|refine An rfl rfl rfl rfl ?_)<;>(first|(refine Ar rfl rfl ?_;(first|refine DC rfl rfl rfl ?_|refine DD rfl rfl rfl ?_|refine CS rfl rfl rfl (fun _=>?_) fun _=>?_))|refine An rfl rfl rfl rfl ?_)<;>(first|refine By rfl rfl rfl ?_|refine Bz rfl rfl rfl ?_)<;>(refine o_z ?_))<;>(repeat (first|refine At ?_|refine Ah rfl ?_|refine Ae rfl ?_)))
  all_goals try (
    ((repeat (first|refine At ?_|refine Ah rfl ?_|refine Ae rfl ?_))<;>(refine Am rfl rfl ?_<;>(refine o_z ?_))<;>(repeat (first|refine At ?_|refine Ah rfl ?_|refine Ae rfl ?_)))
    refine ret1 rfl rfl ⟨?_,hE1⟩
    rw [Be (by first|exact .inl (by omega)|exact .inr (.inl (by omega)))])
  ((repeat (first|refine At ?_|refine Ah rfl ?_|refine Ae rfl ?_))<;>(refine AS rfl rfl ?_<;>refine AJ rfl rfl ?_<;>refine AX rfl rfl ?_<;>refine Aj rfl rfl ?_<;>(refine o_z ?_))<;>(repeat (first|refine At ?_|refine Ah rfl ?_|refine Ae rfl ?_)))
  refine Ch t.ops.length (by omega) (fun _:Unit=>[(1,.pointer (some ⟨w.heap.size,0,none⟩)),(16,.slice Ao t.ops.length co)]) (fun k _ w'=>Ext w1 w'∧∀ i,i < k→∀ o,t.ops[i]?=some o→o.effs.length≤64) ()
    ⟨Below.refl _ _,fun i hi=>by omega⟩ ⟨rfl,rfl,rfl,rfl,trivial⟩ (fun _=>⟨rfl,rfl⟩) ⟨rfl,rfl,rfl⟩ ⟨rfl,rfl⟩ ?_ ?_
  · rintro k _ w4 hk ⟨hE4,hh⟩
    obtain ⟨o,ho⟩:=AR hk
    obtain ⟨b2,o2,ce,rfl,_,_,hd1,p,q,rfl,hp,hq,hc,hn⟩:=(hops.ext (hE1.trans' hE4)).elem ho
    obtain ⟨Ap,cp,rfl⟩:=hp.form
    obtain ⟨Aq,cq,rfl⟩:=hq.form
    ((repeat (first|refine At ?_|refine Ah rfl ?_|refine Ae rfl ?_))<;>(refine Ey rfl rfl rfl ?_<;>refine Ba rfl rfl ?_)<;>(repeat (first|refine At ?_|refine Ah rfl ?_|refine Ae rfl ?_)))
    refine Dn rfl rfl rfl (by simp [Value.cells,Value.oneCell']) fun w5 hN5=>?_
    have hb2:=hN5.blk
    have hE5:Ext w1 w5:=hE4.trans' hN5.ext
    ((refine o_z ?_))
    repeat (first|refine At ?_|refine Ah rfl ?_|refine Ae rfl ?_)
    ((repeat (first|refine At ?_|refine Ah rfl ?_|refine Ae rfl ?_))<;>(refine AS rfl rfl ?_<;>refine AJ rfl rfl ?_<;>refine AX rfl rfl ?_<;>(first|refine DC rfl rfl rfl ?_|refine DD rfl rfl rfl ?_|refine CS rfl rfl rfl (fun _=>?_) fun _=>?_)<;>(refine o_z ?_))<;>(repeat (first|refine At ?_|refine Ah rfl ?_|refine Ae rfl ?_)))
    · ((repeat (first|refine At ?_|refine Ah rfl ?_|refine Ae rfl ?_))<;>(refine Am rfl rfl ?_<;>(refine o_z ?_))<;>(repeat (first|refine At ?_|refine Ah rfl ?_|refine Ae rfl ?_)))
      refine ret1 rfl rfl ⟨?_,hE1.trans' hE5⟩
      rw [Be (.inr (.inr (.inl ⟨k,o,ho,by omega⟩)))]
    · exact ⟨(),⟨rfl,rfl,rfl,rfl,trivial⟩,hE5,CG hh fun o' ho'=>by rw [ho] at ho';injection ho' with ho';subst ho';omega⟩
  rintro _ w4 ⟨hE4,hh⟩
  replace hb1:=hb1.ext hE4
  replace hE4:Ext w w4:=hE1.trans' hE4
  have hm:∀ (i:Nat) o,t.ops[i]?=some o→o.effs.length≤64:=fun i o ho=>hh i (BN ho) o ho
  repeat (first|refine At ?_|refine Ah rfl ?_|refine Ae rfl ?_)
  (refine Ba rfl rfl ?_)
  refine Dd rfl rfl (taskConditions (ht0.ext hE4) (by omega) hm) ?_
  rintro v5 w5 ⟨hv5,hE5⟩
  refine Dd rfl rfl (containsFuncFacts (p:=fun f=>64 < f.length) (caps:=[]) hv5 (fun v x w' _ _ hx=>taskLarge1 hx)) ?_
  rintro v6 w6 ⟨rfl,hE6⟩
  (refine Am rfl rfl ?_<;>(refine o_z ?_))
  repeat (first|refine At ?_|refine Ah rfl ?_|refine Ae rfl ?_)
  refine ret1 rfl rfl ⟨?_,hE4.trans' (hE5.trans' hE6)⟩
  congr 1
  refine FS ⟨fun h=>.inr (.inr (.inr h)),fun h=>?_⟩
  rcases h with h|h|⟨i,o,ho,h⟩|h
  · omega
  · omega
  · have:=hm i o ho;omega
  · exact h
end
section
open Go Go.RowKit
def errV (n:Int):Value:=if n=0 then .nilIface else .iface 45 (.int .i64 n)
theorem KN:errV 0=.nilIface:=by unfold errV;rfl
theorem Jl {n:Int} (h:n≠0):errV n=.iface 45 (.int .i64 n):=by unfold errV;rw [if_neg h]
theorem Pv (n:Int):(errV n).oneCell'=true:=by unfold errV;split<;>rfl
structure Err where
  n:Int
instance:Rp Err where
  isAgg:=false
  size:=1
  R _ _ cs x:=cs=[errV x.n]∧inI64 x.n
  len:=by rintro w F cs x ⟨rfl,_⟩;rfl
  one:=by
    rintro w F cs x ⟨rfl,_⟩ u hu
    have:u=errV x.n:=by simpa using hu
    subst this;exact Pv _
  agree:=fun h _=>h
  mono:=fun h _=>h
theorem Vb.err {w:World} {F:Nat→Prop} {v:Value} {x:Err} (h:Vb w F v x):v=errV x.n∧inI64 x.n:=by
  obtain ⟨h1,h2⟩:=h
  exact ⟨by simpa using h1,h2⟩
theorem vErr {w:World} {F:Nat→Prop} {n:Int} (h:inI64 n):Vb w F (errV n) (⟨n⟩:Err):=⟨rfl,h⟩
end
section
open Go Go.RowKit
attribute [local irreducible] ewp owp hwp hwq Ev Evg Fn retPost Res1
def VarsOk (t:Tsk):Prop:=∀ (i:Nat) n,t.vars[i]?=some n→1≤n∧n≤64
def CostsOk (t:Tsk):Prop:=∀ (i:Nat) o,t.ops[i]?=some o→0≤o.cost∧o.cost≤1048576
def CondsOk (t:Tsk):Prop:=∀ (i:Nat) f,(conds t)[i]?=some f→FactsOk t.vars f
def EffsOk (t:Tsk):Prop:=∀ (i:Nat) o,t.ops[i]?=some o→∀ (j:Nat) e,o.effs[j]?=some e→FactOk t.vars ⟨e.var,e.val⟩
def NamesOk (t:Tsk):Prop:=∀ (i:Nat) o,t.ops[i]?=some o→NameOk o.name
noncomputable def checkN (t:Tsk):Int :=
  if bof (Large t)=true then 5 else if bof (VarsOk t∧CostsOk t)=false then 1 else if bof (StateOk t.vars t.init∧CondsOk t∧EffsOk t)=false then 2 else if bof (NamesOk t)=false then 8 else 0
theorem taskCheck {w:World} {tv:Value} {t:Tsk} (ht:V w tv t):Fn Tryz.prog 26 [tv] w fun v w'=>v=errV (checkN t)∧Ext w w':=by
  have ht0:=ht
  obtain ⟨cs,rfl,a,b,c,d,rfl,hvars,hinit,hgoal,hops⟩:=ht
  obtain ⟨Av,cv,rfl⟩:=hvars.form
  obtain ⟨Ai,ci,rfl⟩:=hinit.form
  obtain ⟨Ag,cg,rfl⟩:=hgoal.form
  obtain ⟨Ao,co,rfl⟩:=hops.form
  have hvl:=hvars.len
  have hol:=hops.len
  refine AP Tryz.func26 rfl Tryz.ntmps26 rfl ?_
  repeat (first|refine At ?_|refine Ah rfl ?_|refine Ae rfl ?_)
  refine FC rfl rfl fun w1 hN=>?_
  have hb1:=hN.blk
  have hE1:Ext w w1:=hN.ext
  (refine Am rfl rfl ?_<;>(refine o_z ?_))
  repeat (first|refine At ?_|refine Ah rfl ?_|refine Ae rfl ?_)
  (refine Ba rfl rfl ?_)
  refine CY rfl rfl (taskLarge (ht0.ext hE1)) ?_ ?_
  case refine_1 =>
    intro w2 hP hE2
    ((refine o_z ?_))
    repeat (first|refine At ?_|refine Ah rfl ?_|refine Ae rfl ?_)
    ((repeat (first|refine At ?_|refine Ah rfl ?_|refine Ae rfl ?_))<;>(refine Jd rfl rfl ?_<;>refine Am rfl rfl ?_<;>(refine o_z ?_))<;>(repeat (first|refine At ?_|refine Ah rfl ?_|refine Ae rfl ?_)))
    refine ret1 rfl rfl ⟨?_,hE1.trans' hE2⟩
    rw [checkN,Be hP];rfl
  intro w2 hlarge hE2
  replace hb1:=hb1.ext hE2
  replace hE2:Ext w w2:=hE1.trans' hE2
  have hm:∀ (i:Nat) o,t.ops[i]?=some o→o.effs.length≤64:=fun i o ho=>Nat.le_of_not_lt fun h=>hlarge (.inr (.inr (.inl ⟨i,o,ho,h⟩)))
  have hn4:t.ops.length≤4096:=Nat.le_of_not_lt fun h=>hlarge (.inr (.inl h))
  have c1:checkN t=if bof (VarsOk t∧CostsOk t)=false then 1 else if bof (StateOk t.vars t.init∧CondsOk t∧EffsOk t)=false then 2 else if bof (NamesOk t)=false then 8 else 0:=by rw [checkN,AQ hlarge];rfl
  ((refine o_z ?_))
  repeat (first|refine At ?_|refine Ah rfl ?_|refine Ae rfl ?_)
  ((repeat (first|refine At ?_|refine Ah rfl ?_|refine Ae rfl ?_))<;>(refine AS rfl rfl ?_<;>refine AJ rfl rfl ?_<;>refine AX rfl rfl ?_<;>refine Aj rfl rfl ?_<;>(refine o_z ?_))<;>(repeat (first|refine At ?_|refine Ah rfl ?_|refine Ae rfl ?_)))
  refine Ch t.vars.length (by omega) (fun _:Unit=>[(1,.pointer (some ⟨w.heap.size,0,none⟩)),(19,.slice Av t.vars.length cv)]) (fun k _ w'=>w'=w2∧∀ i,i < k→∀ n,t.vars[i]?=some n→1≤n∧n≤64) ()
    ⟨rfl,fun i hi=>by omega⟩ ⟨rfl,rfl,rfl,rfl,trivial⟩ (fun _=>⟨rfl,rfl⟩) ⟨rfl,rfl,rfl⟩ ⟨rfl,rfl⟩ ?_ ?_
  · rintro k _ _ hk ⟨rfl,hh⟩
    obtain ⟨n,hn⟩:=AR hk
    obtain ⟨b2,o2,ce,rfl,_,_,hd1,rfl,_⟩:=(hvars.ext hE2).elem hn
    ((repeat (first|refine At ?_|refine Ah rfl ?_|refine Ae rfl ?_))<;>(refine Ey rfl rfl rfl ?_<;>refine AJ rfl rfl ?_<;>refine Am rfl rfl ?_<;>(refine o_z ?_))<;>(repeat (first|refine At ?_|refine Ah rfl ?_|refine Ae rfl ?_))<;>(refine Aj rfl rfl ?_<;>(first|refine Ds rfl rfl rfl ?_|refine Dt rfl rfl rfl ?_|refine Dj rfl rfl rfl (fun _=>?_) fun _=>?_)<;>refine Aj rfl rfl ?_<;>(first|(refine Ar rfl rfl ?_;refine Aj rfl rfl ?_)|refine An rfl rfl rfl rfl ?_)<;>(first|(refine Ar rfl rfl ?_;(first|refine DC rfl rfl rfl ?_|refine DD rfl rfl rfl ?_|refine CS rfl rfl rfl (fun _=>?_) fun _=>?_))|refine An rfl rfl rfl rfl ?_)<;>(first|refine By rfl rfl rfl ?_|refine Bz rfl rfl rfl ?_)<;>(refine o_z ?_))<;>(repeat (first|refine At ?_|refine Ah rfl ?_|refine Ae rfl ?_)))
    all_goals try (
      ((repeat (first|refine At ?_|refine Ah rfl ?_|refine Ae rfl ?_))<;>(refine Jd rfl rfl ?_<;>refine Am rfl rfl ?_<;>(refine o_z ?_))<;>(repeat (first|refine At ?_|refine Ah rfl ?_|refine Ae rfl ?_)))
      refine ret1 rfl rfl ⟨?_,hE2⟩
      rw [c1,AQ (fun h=>by have:=h.1 k n hn;omega)];rfl)
    exact ⟨(),⟨rfl,rfl,rfl,rfl,trivial⟩,rfl,CG hh fun n' hn'=>by rw [hn] at hn';injection hn' with hn';omega⟩
  rintro _ _ ⟨rfl,hdom⟩
  replace hdom:VarsOk t:=fun i n hn=>hdom i (BN hn) n hn
  repeat (first|refine At ?_|refine Ah rfl ?_|refine Ae rfl ?_)
  ((repeat (first|refine At ?_|refine Ah rfl ?_|refine Ae rfl ?_))<;>(refine AS rfl rfl ?_<;>refine AJ rfl rfl ?_<;>refine AX rfl rfl ?_<;>refine Aj rfl rfl ?_<;>(refine o_z ?_))<;>(repeat (first|refine At ?_|refine Ah rfl ?_|refine Ae rfl ?_)))
  refine Ch t.ops.length (by omega) (fun _:Unit=>[(1,.pointer (some ⟨w.heap.size,0,none⟩)),(34,.slice Ao t.ops.length co)]) (fun k _ w'=>Ext w w'∧Blk w' w.heap.size 30 [.slice Av t.vars.length cv,.slice Ai t.init.length ci,.slice Ag t.goal.length cg,.slice Ao t.ops.length co]∧∀ i,i < k→∀ o,t.ops[i]?=some o→0≤o.cost∧o.cost≤1048576) ()
    ⟨hE2,hb1,fun i hi=>by omega⟩ ⟨rfl,rfl,rfl,rfl,trivial⟩ (fun _=>⟨rfl,rfl⟩) ⟨rfl,rfl,rfl⟩ ⟨rfl,rfl⟩ ?_ ?_
  · rintro k _ w4 hk ⟨hE4,hb1,hh⟩
    obtain ⟨o,ho⟩:=AR hk
    obtain ⟨b2,o2,ce,rfl,_,_,hd1,p,q,rfl,hp,hq,hc,hn⟩:=(hops.ext hE4).elem ho
    obtain ⟨Ap,cp,rfl⟩:=hp.form
    obtain ⟨Aq,cq,rfl⟩:=hq.form
    ((repeat (first|refine At ?_|refine Ah rfl ?_|refine Ae rfl ?_))<;>(refine Ey rfl rfl rfl ?_<;>refine Ba rfl rfl ?_)<;>(repeat (first|refine At ?_|refine Ah rfl ?_|refine Ae rfl ?_)))
    refine Dn rfl rfl rfl (by simp [Value.cells,Value.oneCell']) fun w5 hN5=>?_
    replace hb1:=hb1.ext hN5.ext
    have hb2:=hN5.blk
    have hE5:Ext w w5:=hE4.trans' hN5.ext
    ((refine o_z ?_))
    repeat (first|refine At ?_|refine Ah rfl ?_|refine Ae rfl ?_)
    ((repeat (first|refine At ?_|refine Ah rfl ?_|refine Ae rfl ?_))<;>(refine AS rfl rfl ?_<;>refine AJ rfl rfl ?_<;>(first|refine Ds rfl rfl rfl ?_|refine Dt rfl rfl rfl ?_|refine Dj rfl rfl rfl (fun _=>?_) fun _=>?_)<;>refine Aj rfl rfl ?_<;>(first|(refine Ar rfl rfl ?_;refine AS rfl rfl ?_)|refine An rfl rfl rfl rfl ?_)<;>(first|(refine Ar rfl rfl ?_;refine AJ rfl rfl ?_)|refine An rfl rfl rfl rfl ?_)<;>(first|(refine Ar rfl rfl ?_;(first|refine DC rfl rfl rfl ?_|refine DD rfl rfl rfl ?_|refine CS rfl rfl rfl (fun _=>?_) fun _=>?_))|refine An rfl rfl rfl rfl ?_)<;>(first|refine By rfl rfl rfl ?_|refine Bz rfl rfl rfl ?_)<;>(refine o_z ?_))<;>(repeat (first|refine At ?_|refine Ah rfl ?_|refine Ae rfl ?_)))
    all_goals try (
      ((repeat (first|refine At ?_|refine Ah rfl ?_|refine Ae rfl ?_))<;>(refine Jd rfl rfl ?_<;>refine Am rfl rfl ?_<;>(refine o_z ?_))<;>(repeat (first|refine At ?_|refine Ah rfl ?_|refine Ae rfl ?_)))
      refine ret1 rfl rfl ⟨?_,hE5⟩
      rw [c1,AQ (fun h=>by have:=h.2 k o ho;omega)];rfl)
    exact ⟨(),⟨rfl,rfl,rfl,rfl,trivial⟩,hE5,hb1,CG hh fun o' ho'=>by rw [ho] at ho';injection ho' with ho';subst ho';omega⟩
  rintro _ w3 ⟨hE3,hb1,hcost⟩
  replace hcost:CostsOk t:=fun i o ho=>hcost i (BN ho) o ho
  have c2:checkN t=if bof (StateOk t.vars t.init∧CondsOk t∧EffsOk t)=false then 2 else if bof (NamesOk t)=false then 8 else 0:=by rw [c1,Be ⟨hdom,hcost⟩];rfl
  repeat (first|refine At ?_|refine Ah rfl ?_|refine Ae rfl ?_)
  (refine AS rfl rfl ?_<;>refine AJ rfl rfl ?_<;>refine AS rfl rfl ?_<;>refine AJ rfl rfl ?_)
  refine CY rfl rfl (taskProper (hvars.ext hE3) (hinit.ext hE3)) ?_ ?_
  case refine_2 =>
    intro w4 hP hE4
    ((first|refine CC rfl rfl ?_|refine CD rfl rfl ?_|refine CU rfl rfl ?_)<;>(refine o_z ?_))
    repeat (first|refine At ?_|refine Ah rfl ?_|refine Ae rfl ?_)
    ((repeat (first|refine At ?_|refine Ah rfl ?_|refine Ae rfl ?_))<;>(refine Jd rfl rfl ?_<;>refine Am rfl rfl ?_<;>(refine o_z ?_))<;>(repeat (first|refine At ?_|refine Ah rfl ?_|refine Ae rfl ?_)))
    refine ret1 rfl rfl ⟨?_,hE3.trans' hE4⟩
    rw [c2,AQ (fun h=>hP h.1)];rfl
  intro w4 hst hE4
  replace hb1:=hb1.ext hE4
  replace hE4:Ext w w4:=hE3.trans' hE4
  ((first|refine CC rfl rfl ?_|refine CD rfl rfl ?_|refine CU rfl rfl ?_)<;>(refine o_z ?_))
  repeat (first|refine At ?_|refine Ah rfl ?_|refine Ae rfl ?_)
  (refine Ba rfl rfl ?_)
  refine Dd rfl rfl (taskConditions (ht0.ext hE4) hn4 hm) ?_
  rintro v5 w5 ⟨hv5,hE5⟩
  obtain ⟨Ac,cc,rfl⟩:=hv5.form
  have hcl:=hv5.len
  replace hb1:=hb1.ext hE5
  replace hE5:Ext w w5:=hE4.trans' hE5
  (refine AX rfl rfl ?_<;>refine Aj rfl rfl ?_<;>(refine o_z ?_))
  repeat (first|refine At ?_|refine Ah rfl ?_|refine Ae rfl ?_)
  refine Ch (conds t).length (by omega) (fun _:Unit=>[(1,.pointer (some ⟨w.heap.size,0,none⟩)),(58,.slice Ac (conds t).length cc)]) (fun k _ w'=>Ext w5 w'∧∀ i,i < k→∀ f,(conds t)[i]?=some f→FactsOk t.vars f) ()
    ⟨Below.refl _ _,fun i hi=>by omega⟩ ⟨rfl,rfl,rfl,rfl,trivial⟩ (fun _=>⟨rfl,rfl⟩) ⟨rfl,rfl,rfl⟩ ⟨rfl,rfl⟩ ?_ ?_
  · rintro k _ w6 hk ⟨hE6,hh⟩
    obtain ⟨f,hf⟩:=AR hk
    have hb1:=hb1.ext hE6
    obtain ⟨b2,o2,ce,rfl,_,_,hd1,v,rfl,hR⟩:=(hv5.ext hE6).elem hf
    ((repeat (first|refine At ?_|refine Ah rfl ?_|refine Ae rfl ?_))<;>(refine Ey rfl rfl rfl ?_<;>refine AJ rfl rfl ?_<;>refine Am rfl rfl ?_<;>(refine o_z ?_))<;>(repeat (first|refine At ?_|refine Ah rfl ?_|refine Ae rfl ?_))<;>(refine AS rfl rfl ?_<;>refine AJ rfl rfl ?_<;>refine Aj rfl rfl ?_)<;>(repeat (first|refine At ?_|refine Ah rfl ?_|refine Ae rfl ?_)))
    refine CY rfl rfl (taskFacts (hvars.ext (hE5.trans' hE6)) (Vb.of_slice hR)) ?_ ?_
    · intro w7 hP hE7
      ((first|refine CC rfl rfl ?_|refine CD rfl rfl ?_|refine CU rfl rfl ?_)<;>(refine o_z ?_))
      repeat (first|refine At ?_|refine Ah rfl ?_|refine Ae rfl ?_)
      exact ⟨(),⟨rfl,rfl,rfl,rfl,trivial⟩,hE6.trans' hE7,CG hh fun f' hf'=>by rw [hf] at hf';injection hf' with hf';exact hf' ▸ hP⟩
    · intro w7 hP hE7
      ((first|refine CC rfl rfl ?_|refine CD rfl rfl ?_|refine CU rfl rfl ?_)<;>(refine o_z ?_))
      repeat (first|refine At ?_|refine Ah rfl ?_|refine Ae rfl ?_)
      ((repeat (first|refine At ?_|refine Ah rfl ?_|refine Ae rfl ?_))<;>(refine Jd rfl rfl ?_<;>refine Am rfl rfl ?_<;>(refine o_z ?_))<;>(repeat (first|refine At ?_|refine Ah rfl ?_|refine Ae rfl ?_)))
      refine ret1 rfl rfl ⟨?_,hE5.trans' (hE6.trans' hE7)⟩
      rw [c2,AQ (fun h=>hP (h.2.1 k f hf))];rfl
  rintro _ w6 ⟨hE6,hcond⟩
  replace hcond:CondsOk t:=fun i f hf=>hcond i (BN hf) f hf
  replace hb1:=hb1.ext hE6
  replace hE6:Ext w w6:=hE5.trans' hE6
  repeat (first|refine At ?_|refine Ah rfl ?_|refine Ae rfl ?_)
  ((repeat (first|refine At ?_|refine Ah rfl ?_|refine Ae rfl ?_))<;>(refine AS rfl rfl ?_<;>refine AJ rfl rfl ?_<;>refine AX rfl rfl ?_<;>refine Aj rfl rfl ?_<;>(refine o_z ?_))<;>(repeat (first|refine At ?_|refine Ah rfl ?_|refine Ae rfl ?_)))
  refine Ch t.ops.length (by omega) (fun _:Unit=>[(1,.pointer (some ⟨w.heap.size,0,none⟩)),(72,.slice Ao t.ops.length co)]) (fun k _ w'=>Ext w6 w'∧∀ i,i < k→∀ o,t.ops[i]?=some o→∀ (j:Nat) e,o.effs[j]?=some e→FactOk t.vars ⟨e.var,e.val⟩) ()
    ⟨Below.refl _ _,fun i hi=>by omega⟩ ⟨rfl,rfl,rfl,rfl,trivial⟩ (fun _=>⟨rfl,rfl⟩) ⟨rfl,rfl,rfl⟩ ⟨rfl,rfl⟩ ?_ ?_
  · rintro k _ w7 hk ⟨hE7,hh⟩
    obtain ⟨o,ho⟩:=AR hk
    have hb1:=hb1.ext hE7
    obtain ⟨b2,o2,ce,rfl,_,_,hd1,p,q,rfl,hp,hq,hc,hn⟩:=(hops.ext (hE6.trans' hE7)).elem ho
    obtain ⟨Ap,cp,rfl⟩:=hp.form
    obtain ⟨Aq,cq,rfl⟩:=hq.form
    have hql:=hq.len
    ((repeat (first|refine At ?_|refine Ah rfl ?_|refine Ae rfl ?_))<;>(refine Ey rfl rfl rfl ?_<;>refine Ba rfl rfl ?_)<;>(repeat (first|refine At ?_|refine Ah rfl ?_|refine Ae rfl ?_)))
    refine Dn rfl rfl rfl (by simp [Value.cells,Value.oneCell']) fun w8 hN8=>?_
    replace hb1:=hb1.ext hN8.ext
    have hb2:=hN8.blk
    have hE8:Ext w6 w8:=hE7.trans' hN8.ext
    replace hq:=hq.ext hN8.ext
    ((refine o_z ?_))
    repeat (first|refine At ?_|refine Ah rfl ?_|refine Ae rfl ?_)
    ((repeat (first|refine At ?_|refine Ah rfl ?_|refine Ae rfl ?_))<;>(refine AS rfl rfl ?_<;>refine AJ rfl rfl ?_<;>refine AX rfl rfl ?_<;>refine Aj rfl rfl ?_<;>(refine o_z ?_))<;>(repeat (first|refine At ?_|refine Ah rfl ?_|refine Ae rfl ?_)))
    refine Ch o.effs.length (by omega) (fun _:Unit=>[(1,.pointer (some ⟨w.heap.size,0,none⟩)),(72,.slice (some ⟨b2,o2,none⟩) t.ops.length co),(73,.int .i64 (t.ops.length:Int)),(74,.int .i64 (k:Int)),(79,.slice Aq o.effs.length cq)]) (fun j _ w'=>Ext w8 w'∧∀ i,i < j→∀ e,o.effs[i]?=some e→FactOk t.vars ⟨e.var,e.val⟩) ()
      ⟨Below.refl _ _,fun i hi=>by omega⟩ ⟨rfl,rfl,rfl,rfl,rfl,rfl,rfl,trivial⟩ (fun _=>⟨rfl,rfl⟩) ⟨rfl,rfl,rfl⟩ ⟨rfl,rfl⟩ ?_ ?_
    · rintro j _ w9 hj ⟨hE9,hh9⟩
      obtain ⟨e,he⟩:=AR hj
      have hb1:=hb1.ext hE9
      obtain ⟨b3,o3,ce,rfl,_,_,hd1,cv',rfl,hcn,hr1,hr2⟩:=(hq.ext hE9).elem he
      obtain ⟨Acn,ccn,rfl⟩:=hcn.form
      ((repeat (first|refine At ?_|refine Ah rfl ?_|refine Ae rfl ?_))<;>(refine Ey rfl rfl rfl ?_<;>refine Ba rfl rfl ?_)<;>(repeat (first|refine At ?_|refine Ah rfl ?_|refine Ae rfl ?_)))
      refine Dn rfl rfl rfl (by simp [Value.cells,Value.oneCell']) fun w10 hN10=>?_
      have hb3:=hN10.blk
      replace hb1:=hb1.ext hN10.ext
      have hE10:Ext w w10:=hE6.trans' (hE8.trans' (hE9.trans' hN10.ext))
      ((refine o_z ?_))
      repeat (first|refine At ?_|refine Ah rfl ?_|refine Ae rfl ?_)
      (refine AS rfl rfl ?_<;>refine AJ rfl rfl ?_<;>refine AS rfl rfl ?_<;>refine AJ rfl rfl ?_<;>refine AS rfl rfl ?_<;>refine AJ rfl rfl ?_<;>refine EH rfl rfl rfl ?_)
      refine FR rfl rfl rfl (by simp [Value.cells];rfl) (by decide) rfl fun w11 hN11=>?_
      have hE11:Ext w w11:=hE10.trans' hN11.ext
      have hone:V w11 (.slice (some ⟨w10.heap.size,0,none⟩) 1 1) [(⟨e.var,e.val⟩:Fct)]:=Vb.made hN11 (.single ⟨rfl,hr1,hr2⟩) rfl hN11.blk.lt (by decide)
      refine CY rfl rfl (taskFacts (hvars.ext hE11) hone) ?_ ?_
      · intro w12 hP hE12
        ((first|refine CC rfl rfl ?_|refine CD rfl rfl ?_|refine CU rfl rfl ?_)<;>(refine o_z ?_))
        repeat (first|refine At ?_|refine Ah rfl ?_|refine Ae rfl ?_)
        exact ⟨(),⟨rfl,rfl,rfl,rfl,rfl,rfl,rfl,trivial⟩,hE9.trans' (hN10.ext.trans' (hN11.ext.trans' hE12)),CG hh9 fun e' he'=>by rw [he] at he';injection he' with he';subst he';exact FM.1 hP⟩
      · intro w12 hP hE12
        ((first|refine CC rfl rfl ?_|refine CD rfl rfl ?_|refine CU rfl rfl ?_)<;>(refine o_z ?_))
        repeat (first|refine At ?_|refine Ah rfl ?_|refine Ae rfl ?_)
        ((repeat (first|refine At ?_|refine Ah rfl ?_|refine Ae rfl ?_))<;>(refine Jd rfl rfl ?_<;>refine Am rfl rfl ?_<;>(refine o_z ?_))<;>(repeat (first|refine At ?_|refine Ah rfl ?_|refine Ae rfl ?_)))
        refine ret1 rfl rfl ⟨?_,hE11.trans' hE12⟩
        rw [c2,AQ (fun h=>hP (FM.2 (h.2.2 k o ho j e he)))];rfl
    rintro _ w9 ⟨hE9,hh9⟩
    repeat (first|refine At ?_|refine Ah rfl ?_|refine Ae rfl ?_)
    exact ⟨(),⟨rfl,rfl,rfl,rfl,trivial⟩,hE8.trans' hE9,CG hh fun o' ho' j e he=>by rw [ho] at ho';injection ho' with ho';subst ho';exact hh9 j (BN he) e he⟩
  rintro _ w7 ⟨hE7,heff⟩
  replace heff:EffsOk t:=fun i o ho=>heff i (BN ho) o ho
  have c3:checkN t=if bof (NamesOk t)=false then 8 else 0:=by rw [c2,Be ⟨hst,hcond,heff⟩];rfl
  replace hb1:=hb1.ext hE7
  replace hE7:Ext w w7:=hE6.trans' hE7
  repeat (first|refine At ?_|refine Ah rfl ?_|refine Ae rfl ?_)
  ((repeat (first|refine At ?_|refine Ah rfl ?_|refine Ae rfl ?_))<;>(refine AS rfl rfl ?_<;>refine AJ rfl rfl ?_<;>refine AX rfl rfl ?_<;>refine Aj rfl rfl ?_<;>(refine o_z ?_))<;>(repeat (first|refine At ?_|refine Ah rfl ?_|refine Ae rfl ?_)))
  refine Ch t.ops.length (by omega) (fun _:Unit=>[(1,.pointer (some ⟨w.heap.size,0,none⟩)),(99,.slice Ao t.ops.length co)]) (fun k _ w'=>Ext w w'∧∀ i,i < k→∀ o,t.ops[i]?=some o→NameOk o.name) ()
    ⟨hE7,fun i hi=>by omega⟩ ⟨rfl,rfl,rfl,rfl,trivial⟩ (fun _=>⟨rfl,rfl⟩) ⟨rfl,rfl,rfl⟩ ⟨rfl,rfl⟩ ?_ ?_
  · rintro k _ w8 hk ⟨hE8,hh⟩
    obtain ⟨o,ho⟩:=AR hk
    obtain ⟨b2,o2,ce,rfl,_,_,hd1,p,q,rfl,hp,hq,hc,hn⟩:=(hops.ext hE8).elem ho
    obtain ⟨Ap,cp,rfl⟩:=hp.form
    obtain ⟨Aq,cq,rfl⟩:=hq.form
    ((repeat (first|refine At ?_|refine Ah rfl ?_|refine Ae rfl ?_))<;>(refine Ey rfl rfl rfl ?_<;>refine Ba rfl rfl ?_)<;>(repeat (first|refine At ?_|refine Ah rfl ?_|refine Ae rfl ?_)))
    refine Dn rfl rfl rfl (by simp [Value.cells,Value.oneCell']) fun w9 hN9=>?_
    have hb2:=hN9.blk
    have hE9:Ext w w9:=hE8.trans' hN9.ext
    ((refine o_z ?_))
    repeat (first|refine At ?_|refine Ah rfl ?_|refine Ae rfl ?_)
    (refine AS rfl rfl ?_<;>refine AJ rfl rfl ?_)
    refine CY rfl rfl (taskNamed hn) ?_ ?_
    · intro w10 hP hE10
      ((first|refine CC rfl rfl ?_|refine CD rfl rfl ?_|refine CU rfl rfl ?_)<;>(refine o_z ?_))
      repeat (first|refine At ?_|refine Ah rfl ?_|refine Ae rfl ?_)
      exact ⟨(),⟨rfl,rfl,rfl,rfl,trivial⟩,hE9.trans' hE10,CG hh fun o' ho'=>by rw [ho] at ho';injection ho' with ho';exact ho' ▸ hP⟩
    · intro w10 hP hE10
      ((first|refine CC rfl rfl ?_|refine CD rfl rfl ?_|refine CU rfl rfl ?_)<;>(refine o_z ?_))
      repeat (first|refine At ?_|refine Ah rfl ?_|refine Ae rfl ?_)
      ((repeat (first|refine At ?_|refine Ah rfl ?_|refine Ae rfl ?_))<;>(refine Jd rfl rfl ?_<;>refine Am rfl rfl ?_<;>(refine o_z ?_))<;>(repeat (first|refine At ?_|refine Ah rfl ?_|refine Ae rfl ?_)))
      refine ret1 rfl rfl ⟨?_,hE9.trans' hE10⟩
      rw [c3,AQ (fun h=>hP (h k o ho))];rfl
  rintro _ w8 ⟨hE8,hnames⟩
  repeat (first|refine At ?_|refine Ah rfl ?_|refine Ae rfl ?_)
  ((repeat (first|refine At ?_|refine Ah rfl ?_|refine Ae rfl ?_))<;>(refine Am rfl rfl ?_<;>(refine o_z ?_))<;>(repeat (first|refine At ?_|refine Ah rfl ?_|refine Ae rfl ?_)))
  refine ret1 rfl rfl ⟨?_,hE8⟩
  rw [c3,Be (show NamesOk t from fun i o ho=>hnames i (BN ho) o ho)];rfl
end
section
theorem IG {p:Prop}:bof p=true↔p:=⟨fun h=>Classical.byContradiction fun hn=>(by rw [AQ hn] at h;exact Bool.noConfusion h),Be⟩
theorem Es {p:Prop}:bof p=false↔¬ p:=by
  rw [← Bool.not_eq_true,IG]
theorem JQ {vars:List Int} {f:List Fct} (h:FactsOk vars f):∀ (j i:Nat) (x y:Fct),i < j→f[i]?=some x→f[j]?=some y→x.var < y.var
  | 0,i,_,_,hij,_,_=>by omega
  | j + 1,i,x,y,hij,hx,hy=>by
    by_cases he:i=j
    · subst he;exact h.2 i x y hx hy
    · obtain ⟨z,hz⟩:=AR (l:=f) (k:=j) (by have:=BN hy;omega)
      have h1:=JQ h j i x z (by omega) hx hz
      have h2:=h.2 j z y hz hy
      omega
theorem JR {vars:List Int} {f:List Fct} (h:FactsOk vars f):∀ (i:Nat) (x:Fct),f[i]?=some x→(i:Int)≤x.var
  | 0,x,hx=>(h.1 0 x hx).1
  | i + 1,x,hx=>by
    obtain ⟨z,hz⟩:=AR (l:=f) (k:=i) (by have:=BN hx;omega)
    have h1:=JR h i z hz
    have h2:=h.2 i z x hz hx
    omega
theorem IU {vars:List Int} {f:List Fct} (h:FactsOk vars f):f.length≤vars.length:=by
  rcases Nat.eq_zero_or_pos f.length with h0|h0
  · omega
  · obtain ⟨x,hx⟩:=AR (l:=f) (k:=f.length - 1) (by omega)
    have h1:=JR h _ x hx
    obtain ⟨h2,h3,y,hy,_⟩:=h.1 _ x hx
    have:=BN hy
    omega
theorem GR {t:Tsk} {f:List Fct}:f∈conds t↔f=t.goal∨∃ (i:Nat) (o:Opr),t.ops[i]?=some o∧(f=o.pre∨∃ (j:Nat) (e:Eff),o.effs[j]?=some e∧f=e.cond):=by
  unfold conds opConds
  rw [List.mem_cons,List.mem_flatMap]
  constructor
  · rintro (h|⟨o,ho,hf⟩)
    · exact .inl h
    · obtain ⟨i,hi⟩:=List.getElem?_of_mem ho
      refine .inr ⟨i,o,hi,?_⟩
      rcases List.mem_cons.1 hf with h|h
      · exact .inl h
      · obtain ⟨e,he,rfl⟩:=List.mem_map.1 h
        obtain ⟨j,hj⟩:=List.getElem?_of_mem he
        exact .inr ⟨j,e,hj,rfl⟩
  · rintro (h|⟨i,o,ho,h⟩)
    · exact .inl h
    · refine .inr ⟨o,List.mem_of_getElem? ho,?_⟩
      rcases h with rfl|⟨j,e,he,rfl⟩
      · exact List.mem_cons_self
      · exact List.mem_cons_of_mem _ (List.mem_map.2 ⟨e,List.mem_of_getElem? he,rfl⟩)
theorem FE {t:Tsk}:checkN t=0↔TaskOk t:=by
  unfold checkN
  constructor
  · intro h
    by_cases h1:Large t
    · rw [if_pos (IG.2 h1)] at h;cases h
    rw [if_neg (fun hh=>h1 (IG.1 hh))] at h
    by_cases h2:VarsOk t∧CostsOk t
    case neg=>rw [if_pos (Es.2 h2)] at h;cases h
    rw [if_neg (fun hh=>Es.1 hh h2)] at h
    by_cases h3:StateOk t.vars t.init∧CondsOk t∧EffsOk t
    case neg=>rw [if_pos (Es.2 h3)] at h;cases h
    rw [if_neg (fun hh=>Es.1 hh h3)] at h
    by_cases h4:NamesOk t
    case neg=>rw [if_pos (Es.2 h4)] at h;cases h
    have hc:∀ f∈conds t,FactsOk t.vars f:=fun f hf=>by
      obtain ⟨i,hi⟩:=List.getElem?_of_mem hf
      exact h3.2.1 i f hi
    have hl:t.vars.length≤64∧t.ops.length≤4096∧(∀ (i:Nat) (o:Opr),t.ops[i]?=some o→o.effs.length≤64):=by
      unfold Large at h1
      refine ⟨Nat.le_of_not_lt fun h=>h1 (.inl h),Nat.le_of_not_lt fun h=>h1 (.inr (.inl h)),fun i o ho=>Nat.le_of_not_lt fun h=>h1 (.inr (.inr (.inl ⟨i,o,ho,h⟩)))⟩
    exact ⟨hl.1,hl.2.1,h2.1,h3.1,hc _ (GR.2 (.inl rfl)),fun i o ho=>⟨(h2.2 i o ho).1,(h2.2 i o ho).2,hl.2.2 i o ho,h4 i o ho,hc _ (GR.2 (.inr ⟨i,o,ho,.inl rfl⟩)),fun j e he=>⟨hc _ (GR.2 (.inr ⟨i,o,ho,.inr ⟨j,e,he,rfl⟩⟩)),h3.2.2 i o ho j e he⟩⟩⟩
  · rintro ⟨h1,h2,h3,h4,h5,h6⟩
    have hc:∀ f∈conds t,FactsOk t.vars f:=fun f hf=>by
      rcases GR.1 hf with rfl|⟨i,o,ho,rfl|⟨j,e,he,rfl⟩⟩
      · exact h5
      · exact (h6 i o ho).2.2.2.2.1
      · exact ((h6 i o ho).2.2.2.2.2 j e he).1
    have hL:¬ Large t:=by
      rintro (h|h|⟨i,o,ho,h⟩|⟨f,hf,h⟩)
      · omega
      · omega
      · have:=(h6 i o ho).2.2.1;omega
      · have:=IU (hc f hf);omega
    have hV:VarsOk t∧CostsOk t:=⟨h3,fun i o ho=>⟨(h6 i o ho).1,(h6 i o ho).2.1⟩⟩
    have hS:StateOk t.vars t.init∧CondsOk t∧EffsOk t:=⟨h4,fun i f hf=>hc f (List.mem_of_getElem? hf),fun i o ho j e he=>((h6 i o ho).2.2.2.2.2 j e he).2⟩
    have hN:NamesOk t:=fun i o ho=>(h6 i o ho).2.2.2.1
    rw [if_neg (fun hh=>hL (IG.1 hh)),if_neg (fun hh=>Es.1 hh hV),if_neg (fun hh=>Es.1 hh hS),if_neg (fun hh=>Es.1 hh hN)]
end
section
open Go Go.RowKit
section
variable {P : Program} {l : Env} {w : World} {dst : Option Tmp} {ty : TypeId} {pos : String} {aft : Array Edge}
theorem JS {t u:TypeId} {x y:Operand} {a b c:Int} (hx:opv l x=some (.int .i64 a)) (hy:opv l y=some (.int .i64 b)) (he:chkI (a + b)=some c):Ev P ⟨dst,.binOp .add t x y u,ty,pos,aft,none⟩ l w (.int .i64 c):=by
  obtain ⟨rfl,h⟩:=GQ he
  exact Oc hx hy h
theorem Hy {t u:TypeId} {x y:Operand} {a b c:Int} (hx:opv l x=some (.int .i64 a)) (hy:opv l y=some (.int .i64 b)) (he:chkI (a - b)=some c):Ev P ⟨dst,.binOp .sub t x y u,ty,pos,aft,none⟩ l w (.int .i64 c):=by
  obtain ⟨rfl,h⟩:=GQ he
  exact Od hx hy h
theorem NC {t u:TypeId} {x y:Operand} {a b c:Int} (hx:opv l x=some (.int .i64 a)) (hy:opv l y=some (.int .i64 b)) (he:chkI (a * b)=some c):Ev P ⟨dst,.binOp .mul t x y u,ty,pos,aft,none⟩ l w (.int .i64 c):=by
  obtain ⟨rfl,h⟩:=GQ he
  exact Oe hx hy h
theorem LP {t e:TypeId} [TSlice P t e] {z:Value} {size bytes:Nat} [TInfo P e z size bytes] {x i:Operand} {k:IntKind} {A:Option Addr} {b o m c j:Nat} {q:Int} (hx:opv l x=some (.slice A m c)) (hq:opv l i=some (.int k q)) (hA:A=some ⟨b,o,none⟩) (hj:q=(j:Int)) (hlt:j < m) :
    Ev P ⟨dst,.indexAddr t x i,ty,pos,aft,none⟩ l w (.pointer (some ⟨b,o + j * size,none⟩)):=by
  subst hA
  exact Fs hx hq hj hlt
theorem Rv {x:Operand} {n:Int} [TInt P 45 .i64] (hx:opv l x=some (.int .i64 n)) (hn:n≠0):Ev P ⟨dst,.makeInterface 45 x,ty,pos,aft,none⟩ l w (errV n):=by
  rw [Jl hn]
  exact JI hx
theorem Kq (a b c d:Int) (w:World):(Op.equal 26 (.agg #[.int .i64 a,.int .i64 b]) (.agg #[.int .i64 c,.int .i64 d])).run Tryz.prog w=.ok (decide (a=c∧b=d)) w:=by
  have h1:∀ (n:Nat) (x y:Int) (w:World),(Op.equalIn (n + 1) 3 (.int .i64 x) (.int .i64 y)).run Tryz.prog w=.ok (x == y) w:=fun n x y w=>by simp [Op.equalIn,run_underlying Tryz.underlying3]
  have hs:Tryz.prog.stoodInHeld 26=false:=by kernel_rfl
  have hd:∀ n:Nat,(Op.equalIn (n + 2) 26 (.agg #[.int .i64 a,.int .i64 b]) (.agg #[.int .i64 c,.int .i64 d])).run Tryz.prog w=.ok (decide (a=c∧b=d)) w:=fun n=>by
    rw [Op.equalIn]
    simp [run_underlying Tryz.underlying26,hs,Go.part,Fq (P:=Tryz.prog) (t:=3),h1]
    by_cases hx:a=c<;>by_cases hy:b=d<;>simp [hx,hy]
  exact hd 9998
theorem RR {u:TypeId} {x y:Operand} {a b c d:Int} (hx:opv l x=some (.agg #[.int .i64 a,.int .i64 b])) (hy:opv l y=some (.agg #[.int .i64 c,.int .i64 d])):Ev Tryz.prog ⟨dst,.binOp .neq 26 x y u,ty,pos,aft,none⟩ l w (.bool (decide (¬ (a=c∧b=d)))):=fun _ _ e ha=>by
  simp [execOp,ha.eval hx,ha.eval hy,eqGuard,binOp,Kq]
theorem QE {t u:TypeId} [TIface P t] {x:Operand} {n:Int} (hx:opv l x=some (errV n)):Ev P ⟨dst,.binOp .eql t x (.const .nilIface) u,ty,pos,aft,none⟩ l w (.bool (decide (n=0))):=by
  by_cases h:n=0
  · subst h
    rw [KN] at hx
    exact Oh hx
  · rw [Jl h] at hx
    simpa [h] using Np (P:=P) (w:=w) (dst:=dst) (ty:=ty) (pos:=pos) (aft:=aft) (t:=t) (u:=u) hx
theorem QF {t u:TypeId} [TIface P t] {x:Operand} {n:Int} (hx:opv l x=some (errV n)):Ev P ⟨dst,.binOp .neq t x (.const .nilIface) u,ty,pos,aft,none⟩ l w (.bool (decide (n≠0))):=by
  by_cases h:n=0
  · subst h
    rw [KN] at hx
    exact Nq hx
  · rw [Jl h] at hx
    simpa [h] using MJ (P:=P) (w:=w) (dst:=dst) (ty:=ty) (pos:=pos) (aft:=aft) (t:=t) (u:=u) hx
end
section
variable {P : Program} {n : Nat} {ops : Array Oper} {Q : Post} {rest : List Oper} {l : Env} {w : World} {d : Tmp} {ty : TypeId} {pos : String} {aft : Array Edge}
theorem EQ {t u:TypeId} {x y:Operand} {a b c:Int} (hx:opv l x=some (.int .i64 a)) (hy:opv l y=some (.int .i64 b)) (hd:Nat.blt d n=true) (h:owp P n ops Q rest ((d,.int .i64 c) :: l) w) (he:chkI (a + b)=some c:=by assumption):owp P n ops Q (⟨some d,.binOp .add t x y u,ty,pos,aft,none⟩ :: rest) l w:=Bw (JS hx hy he) hd h
theorem IH {t u:TypeId} {x y:Operand} {a b c:Int} (hx:opv l x=some (.int .i64 a)) (hy:opv l y=some (.int .i64 b)) (hd:Nat.blt d n=true) (h:owp P n ops Q rest ((d,.int .i64 c) :: l) w) (he:chkI (a - b)=some c:=by assumption):owp P n ops Q (⟨some d,.binOp .sub t x y u,ty,pos,aft,none⟩ :: rest) l w:=Bw (Hy hx hy he) hd h
theorem Lx {t u:TypeId} {x y:Operand} {a b c:Int} (hx:opv l x=some (.int .i64 a)) (hy:opv l y=some (.int .i64 b)) (hd:Nat.blt d n=true) (h:owp P n ops Q rest ((d,.int .i64 c) :: l) w) (he:chkI (a * b)=some c:=by assumption):owp P n ops Q (⟨some d,.binOp .mul t x y u,ty,pos,aft,none⟩ :: rest) l w:=Bw (NC hx hy he) hd h
theorem Bv {t e:TypeId} [TSlice P t e] {z:Value} {size bytes:Nat} [TInfo P e z size bytes] {x i:Operand} {k:IntKind} {A:Option Addr} {b o m c j:Nat} {q:Int} (hx:opv l x=some (.slice A m c)) (hq:opv l i=some (.int k q)) (hd:Nat.blt d n=true) (h:owp P n ops Q rest ((d,.pointer (some ⟨b,o + j * size,none⟩)) :: l) w) (hA:A=some ⟨b,o,none⟩:=by assumption) (hj:q=(j:Int):=by rfl) (hlt:j < m:=by assumption):owp P n ops Q (⟨some d,.indexAddr t x i,ty,pos,aft,none⟩ :: rest) l w:=Bw (LP hx hq hA hj hlt) hd h
theorem Rx {t e:TypeId} [TSlice P t e] {z:Value} {size bytes:Nat} [TInfo P e z size bytes] {A A':Option Addr} {m c m' c':Nat} {q:Int} {k:IntKind} {x y:Operand} (hx:opv l x=some (.slice A m c)) (hy:opv l y=some (.int k q)) (hd:Nat.blt d n=true) (h:owp P n ops Q rest ((d,.slice A' m' c') :: l) w) (hc:CutB size A m c q (m:Int) A' m' c':=by assumption):owp P n ops Q (⟨some d,.slice t x (some y) none none,ty,pos,aft,none⟩ :: rest) l w:=Bw (MU hx hy hc) hd h
theorem ND [TInt P 45 .i64] {x:Operand} {q:Int} (hx:opv l x=some (.int .i64 q)) (hd:Nat.blt d n=true) (h:owp P n ops Q rest ((d,errV q) :: l) w) (hn:q≠0:=by decide):owp P n ops Q (⟨some d,.makeInterface 45 x,ty,pos,aft,none⟩ :: rest) l w:=Bw (Rv hx hn) hd h
theorem Ql {t u:TypeId} [TIface P t] {x:Operand} {k:Int} (hx:opv l x=some (errV k)) (hd:Nat.blt d n=true) (ht:k=0→owp P n ops Q rest ((d,.bool true) :: l) w) (hf:¬ (k=0)→owp P n ops Q rest ((d,.bool false) :: l) w):owp P n ops Q (⟨some d,.binOp .eql t x (.const .nilIface) u,ty,pos,aft,none⟩ :: rest) l w:=Er (QE hx) hd ht hf
theorem GS {t u:TypeId} [TIface P t] {x:Operand} {k:Int} (hx:opv l x=some (errV k)) (hd:Nat.blt d n=true) (ht:k≠0→owp P n ops Q rest ((d,.bool true) :: l) w) (hf:¬ (k≠0)→owp P n ops Q rest ((d,.bool false) :: l) w):owp P n ops Q (⟨some d,.binOp .neq t x (.const .nilIface) u,ty,pos,aft,none⟩ :: rest) l w:=Er (QF hx) hd ht hf
variable {S : World → Prop} {r : List (Nat × Bool)} {i : Nat}
theorem Qm {u:TypeId} {x y:Operand} {a b c e:Int} (hi:ops[i]?=some ⟨some d,.binOp .neq 26 x y u,ty,pos,aft,none⟩) (hx:opv l x=some (.agg #[.int .i64 a,.int .i64 b])) (hy:opv l y=some (.agg #[.int .i64 c,.int .i64 e])) (hd:Nat.blt d n=true) (ht:¬ (a=c∧b=e)→hwp Tryz.prog n ops Q S r ((d,.bool true) :: l) w) (hf:¬ (¬ (a=c∧b=e))→hwp Tryz.prog n ops Q S r ((d,.bool false) :: l) w):hwp Tryz.prog n ops Q S ((i,true) :: r) l w:=Al hi (Bn (fun _ _=>RR hx hy) hd ht hf)
theorem NE {t u:TypeId} {x y:Operand} {a b c:Int} (hi:ops[i]?=some ⟨some d,.binOp .add t x y u,ty,pos,aft,none⟩) (hx:opv l x=some (.int .i64 a)) (hy:opv l y=some (.int .i64 b)) (hd:Nat.blt d n=true) (h:hwp P n ops Q S r ((d,.int .i64 c) :: l) w) (he:chkI (a + b)=some c:=by assumption):hwp P n ops Q S ((i,true) :: r) l w:=Al hi (Bx (fun _ _=>JS hx hy he) hd h)
theorem NF {t u:TypeId} {x y:Operand} {a b c:Int} (hi:ops[i]?=some ⟨some d,.binOp .sub t x y u,ty,pos,aft,none⟩) (hx:opv l x=some (.int .i64 a)) (hy:opv l y=some (.int .i64 b)) (hd:Nat.blt d n=true) (h:hwp P n ops Q S r ((d,.int .i64 c) :: l) w) (he:chkI (a - b)=some c:=by assumption):hwp P n ops Q S ((i,true) :: r) l w:=Al hi (Bx (fun _ _=>Hy hx hy he) hd h)
theorem RS {t u:TypeId} {x y:Operand} {a b c:Int} (hx:opv l x=some (.int .i64 a)) (hy:opv l y=some (.int .i64 b)) (hd:Nat.blt d n=true) (h:hwp P n ops Q S r ((d,.int .i64 c) :: l) w) (he:chkI (a - b)=some c:=by assumption):hwq P n ops Q S ⟨some d,.binOp .sub t x y u,ty,pos,aft,none⟩ r l w:=Bx (fun _ _=>Hy hx hy he) hd h
theorem Bl {t e:TypeId} [TSlice P t e] {z:Value} {size bytes:Nat} [TInfo P e z size bytes] {x i':Operand} {k:IntKind} {A:Option Addr} {b o m c j:Nat} {q:Int} (hi:ops[i]?=some ⟨some d,.indexAddr t x i',ty,pos,aft,none⟩) (hx:opv l x=some (.slice A m c)) (hq:opv l i'=some (.int k q)) (hd:Nat.blt d n=true) (h:hwp P n ops Q S r ((d,.pointer (some ⟨b,o + j * size,none⟩)) :: l) w) (hA:A=some ⟨b,o,none⟩:=by assumption) (hj:q=(j:Int):=by rfl) (hlt:j < m:=by assumption):hwp P n ops Q S ((i,true) :: r) l w:=Al hi (Bx (fun _ _=>LP hx hq hA hj hlt) hd h)
theorem DM {t e:TypeId} [TSlice P t e] {z:Value} {size bytes:Nat} [TInfo P e z size bytes] {x i':Operand} {k:IntKind} {A:Option Addr} {b o m c j:Nat} {q:Int} (hx:opv l x=some (.slice A m c)) (hq:opv l i'=some (.int k q)) (hd:Nat.blt d n=true) (h:hwp P n ops Q S r ((d,.pointer (some ⟨b,o + j * size,none⟩)) :: l) w) (hA:A=some ⟨b,o,none⟩:=by assumption) (hj:q=(j:Int):=by rfl) (hlt:j < m:=by assumption):hwq P n ops Q S ⟨some d,.indexAddr t x i',ty,pos,aft,none⟩ r l w:=Bx (fun _ _=>LP hx hq hA hj hlt) hd h
theorem Ot {t e:TypeId} [TSlice P t e] {z:Value} {size bytes:Nat} [TInfo P e z size bytes] {A A':Option Addr} {m c m' c':Nat} {q:Int} {k:IntKind} {x y:Operand} (hi:ops[i]?=some ⟨some d,.slice t x (some y) none none,ty,pos,aft,none⟩) (hx:opv l x=some (.slice A m c)) (hy:opv l y=some (.int k q)) (hd:Nat.blt d n=true) (h:hwp P n ops Q S r ((d,.slice A' m' c') :: l) w) (hc:CutB size A m c q (m:Int) A' m' c':=by assumption):hwp P n ops Q S ((i,true) :: r) l w:=Al hi (Bx (fun _ _=>MU hx hy hc) hd h)
theorem Ou {t e:TypeId} [TSlice P t e] {z:Value} {size bytes:Nat} [TInfo P e z size bytes] {A A':Option Addr} {m c m' c':Nat} {q:Int} {k:IntKind} {x y:Operand} (hi:ops[i]?=some ⟨some d,.slice t x none (some y) none,ty,pos,aft,none⟩) (hx:opv l x=some (.slice A m c)) (hy:opv l y=some (.int k q)) (hd:Nat.blt d n=true) (h:hwp P n ops Q S r ((d,.slice A' m' c') :: l) w) (hc:CutB size A m c 0 q A' m' c':=by assumption):hwp P n ops Q S ((i,true) :: r) l w:=Al hi (Bx (fun _ _=>QA hx hy hc) hd h)
end
end
section
open Go Go.RowKit
attribute [local irreducible] ewp owp hwp hwq Ev Evg Fn retPost Res1
section
variable {w : World} {A : Nat → Prop} (hA : ∀ k, A k → k < w.heap.size) {v0 v1 : Value}
include hA
omit hA in
noncomputable def DE (x:List Int) (y:List Int):Option Bool:=some (bof (x=y))
theorem FN {x0:List Int} (h0:Vb w A v0 x0) {x1:List Int} (h1:Vb w A v1 x1) {r:Bool} (hm:DE x0 x1=some r):Fn Tryz.prog 18 [v0,v1] w fun v w'=>Ext w w'∧Vb w' (upA A w w') v r:=by
  obtain rfl:=sm hm
  refine (baseInts (h0.mono hA) (h1.mono hA)).mono fun v w' h=>⟨h.2,?_⟩
  rw [h.1];exact vBool
omit hA in
noncomputable def Gb (x:List Int) (y:List Int):Option Bool:=some (bof (StateOk x y))
theorem Lo {x0:List Int} (h0:Vb w A v0 x0) {x1:List Int} (h1:Vb w A v1 x1) {r:Bool} (hm:Gb x0 x1=some r):Fn Tryz.prog 34 [v0,v1] w fun v w'=>Ext w w'∧Vb w' (upA A w w') v r:=by
  obtain rfl:=sm hm
  refine (taskProper (h0.mono hA) (h1.mono hA)).mono fun v w' h=>⟨h.2,?_⟩
  rw [h.1];exact vBool
omit hA in
noncomputable def Gy (t:Tsk):Option Bool:=some (bof (SmallOk t))
theorem LQ {x0:Tsk} (h0:Vb w A v0 x0) {r:Bool} (hm:Gy x0=some r):Fn Tryz.prog 9 [v0] w fun v w'=>Ext w w'∧Vb w' (upA A w w') v r:=by
  obtain rfl:=sm hm
  refine (baseSmall (h0.mono hA)).mono fun v w' h=>⟨h.2,?_⟩
  rw [h.1];exact vBool
end
noncomputable def Do (t:Tsk):Option Err:=some ⟨checkN t⟩
theorem NG (t:Tsk):inI64 (checkN t):=by unfold checkN;(repeat' split)<;>decide
theorem Ih {w:World} {A:Nat→Prop} (hA:∀ k,A k→k < w.heap.size) {v0:Value} {x0:Tsk} (h0:Vb w A v0 x0) {r:Err} (hm:Do x0=some r):Fn Tryz.prog 26 [v0] w fun v w'=>Ext w w'∧Vb w' (upA A w w') v r:=by
  obtain rfl:=sm hm
  refine (taskCheck (h0.mono hA)).mono fun v w' h=>⟨h.2,?_⟩
  rw [h.1]
  exact vErr (NG _)
def CB (xs:List Int):Option (List Int):=if xs.length * 8≤140737488355328∧xs.length≤9223372036854775807 then some xs else none
theorem EX {w:World} {A:Nat→Prop} (hA:∀ k,A k→k < w.heap.size) {v0:Value} {x0:List Int} (h0:Vb w A v0 x0) {r:List Int} (hm:CB x0=some r) :
    Fn Tryz.prog 102 [v0] w fun v w'=>Ext w w'∧RowR w w' (upA A w w') 3 v r:=by
  obtain ⟨⟨hl,a0⟩,rfl⟩:=DH hm
  obtain ⟨O,hB,b0⟩:=enter hA
  replace h0:=h0.mono b0
  obtain ⟨Ad,c,rfl⟩:=h0.form
  refine AP Tryz.func102 rfl Tryz.ntmps102 rfl ?_
  cases Ad with
  | none =>
    have hx:x0=[]:=by
      cases x0 with
      | nil=>rfl
      | cons x xs=>obtain ⟨_,_,_,h,_⟩:=h0.elem (k:=0) (x:=x) rfl;cases h
    subst hx
    ((repeat (first|refine At ?_|refine Ah rfl ?_|refine Ae rfl ?_))<;>(refine Am rfl rfl ?_<;>(refine o_z ?_))<;>(repeat (first|refine At ?_|refine Ah rfl ?_|refine Ae rfl ?_))<;>(refine Aj rfl rfl ?_<;>refine Nx rfl rfl ?_<;>(refine o_z ?_))<;>(repeat (first|refine At ?_|refine Ah rfl ?_|refine Ae rfl ?_))<;>(refine Am rfl rfl ?_<;>(refine o_z ?_))<;>(repeat (first|refine At ?_|refine Ah rfl ?_|refine Ae rfl ?_)))
    exact ret1 rfl rfl ⟨Below.refl _ _,RowR.nil⟩
  | some ad =>
    ((repeat (first|refine At ?_|refine Ah rfl ?_|refine Ae rfl ?_))<;>(refine Am rfl rfl ?_<;>(refine o_z ?_))<;>(repeat (first|refine At ?_|refine Ah rfl ?_|refine Ae rfl ?_))<;>(refine Aj rfl rfl ?_<;>refine Nx rfl rfl ?_<;>(refine o_z ?_))<;>(repeat (first|refine At ?_|refine Ah rfl ?_|refine Ae rfl ?_)))
    refine Bi 2 (by decide) O (xs:=([]:List Int)) rfl rfl rfl rfl trivial (by decide) (by decide) rfl fun g w1 O1 S1 h1=>?_
    replace hB:=hB.st S1 (fun h=>h) (fun h=>h)
    replace h0:=h0.st S1 (fun h=>h)
    (refine Aj rfl rfl ?_)
    refine BP rfl h1 h0.rd rfl rfl (by decide) (by simpa using hl) (by simpa using a0) rfl fun A2 c2 w2 O2 S2 h2=>?_
    replace hB:=hB.st S2 (by decide) (by decide)
    rw [List.nil_append] at h2 ⊢
    (refine Am rfl rfl ?_<;>(refine o_z ?_))
    repeat (first|refine At ?_|refine Ah rfl ?_|refine Ae rfl ?_)
    exact ret1 rfl rfl ⟨hB.ext,h2.out hB (by decide)⟩
end
section
open Go Go.RowKit
attribute [local irreducible] ewp owp hwp hwq Ev Evg Fn retPost Res1
structure Swp where
  vars:List Int
  vals:List (List Int)
  ops:List Int
instance:Rp Swp where
  isAgg:=true
  size:=3
  R w F cs x:=∃ v0 v1 v2,cs=[v0,v1,v2]∧Vb w F v0 x.vars∧Vb w F v1 x.vals∧Vb w F v2 x.ops
  len:=by rintro w F cs x ⟨v0,v1,v2,rfl,h0,h1,h2⟩;rfl
  one:=by rintro w F cs x ⟨v0,v1,v2,rfl,h0,h1,h2⟩ u hu;simp at hu;rcases hu with rfl|rfl|rfl<;>first|rfl|exact Vb.one rfl (by assumption)
  agree:=by rintro w w' F cs x ⟨v0,v1,v2,rfl,h0,h1,h2⟩ ha;exact ⟨v0,v1,v2,rfl,h0.agree ha,h1.agree ha,h2.agree ha⟩
  mono:=by rintro w F G cs x ⟨v0,v1,v2,rfl,h0,h1,h2⟩ ha;exact ⟨v0,v1,v2,rfl,h0.mono ha,h1.mono ha,h2.mono ha⟩
noncomputable def Bo (x0:List Fct) (x1:List Fct):Option Bool :=
  if (x0.length:Int)≠(x1.length:Int) then (some false) else (bnd (rng (ρ:=Bool) (fun (k18:Nat) (a19:Fct) (s16:Unit)=>bnd (x1[k18]?) fun a38=>if ¬ (a19.var=a38.var∧a19.val=a38.val) then (some (.ret false)) else (some (.next ()))) x0 0 ()) fun res14=>fin res14 fun (s54:Unit)=>some true)
theorem Cg {w:World} {A:Nat→Prop} (hA:∀ k,A k→k < w.heap.size) {vx0:Value} {x0:List Fct} (b0:Vb w A vx0 x0) {vx1:Value} {x1:List Fct} (c0:Vb w A vx1 x1) {r:Bool} (hm:Bo x0 x1=some r) :
    Fn Tryz.prog 53 [vx0,vx1] w fun v w'=>Ext w w'∧Vb w' (upA A w w') v r:=by
 obtain ⟨O,hB,u0⟩:=enter hA
 replace b0:=b0.mono u0
 obtain ⟨A3,c4,rfl⟩:=b0.form
 replace c0:=c0.mono u0
 obtain ⟨A5,c6,rfl⟩:=c0.form
 refine AP Tryz.func53 rfl Tryz.ntmps53 rfl ?_
 unfold Bo at hm
 refine Ab (Aa (Am rfl rfl (o_z ?_)))
 refine Ab (Ab (Aa (Aj rfl rfl (AX rfl rfl ?_))))
 have l8:x0.length≤9223372036854775807:=Nat.le_trans b0.len.2.1 b0.len.2.2
 have r7:inI64 (x0.length:Int):=rngNat l8
 refine Aj rfl rfl (AX rfl rfl ?_)
 have v0:x1.length≤9223372036854775807:=Nat.le_trans c0.len.2.1 c0.len.2.2
 have r9:inI64 (x1.length:Int):=rngNat v0
 refine Gh rfl rfl rfl (fun i0=>?_) fun i0=>?_
 ·
  replace hm:=ip hm i0
  refine o_z ?_
  refine Ah rfl (Ab (Aa (Am rfl rfl (o_z ?_))))
  refine AF ?_
  obtain rfl:=sm hm
  exact ret1v rfl (AC rfl) ⟨hB.ext,vBool⟩
 replace hm:=im hm i0
 refine o_z ?_
 refine Ae rfl (AI (Ab (Ab (Aa (Aj rfl rfl (AX rfl rfl ?_))))))
 have j0:x0.length≤9223372036854775807:=Nat.le_trans b0.len.2.1 b0.len.2.2
 have d1:inI64 (x0.length:Int):=rngNat j0
 refine Aj rfl rfl (o_z ?_)
 obtain ⟨e0,k0,hm⟩:=bs hm
 refine Ax (aft e0 (fun (g0:Unit) (h0:Unit)=>[]) (fun g0 h0 w'=>∃ O':Lab,Bs w A w' O')) ?_ ?_
 ·
  refine AG (Bk (σ:=Unit) (X:=Unit) (x0.length) k0 rfl j0 (fun (g0:Unit) (h0:Unit)=>[(0,(.slice A3 x0.length c4)),(1,(.slice A5 x1.length c6))]) _ (fun g0 h0 w'=>∃ O':Lab,Bs w A w' O'∧Vb w' (Fr 0 w' O') (.slice A3 x0.length c4) x0∧Vb w' (Fr 0 w' O') (.slice A5 x1.length c6) x1) _ () ⟨O,hB,b0,c0⟩ ⟨rfl,rfl,rfl,rfl,trivial⟩ (fun _ _=>⟨rfl,rfl⟩) (fun _ _=>trivial) (fun _ _ _ ⟨O',hB,b0,c0⟩=>⟨O',hB⟩) ⟨rfl,rfl,rfl⟩ ⟨rfl,rfl⟩ ?_)
  rintro w0 e1 g0 h0 y0 z0 f0 ⟨f1,hB,b0,c0⟩ a0 d0 l0
  have rk18:inI64 (w0:Int):=rngK f0 j0
  refine Ab (Aa (Aj rfl rfl (Am rfl rfl (o_z ?_))))
  refine Ab (Dx (·=y0) [(0,true),(1,true),(2,true),(3,true),(4,true),(5,true),(6,true),(7,true),(8,true)] (by kernel_rfl) rfl (by kernel_rfl) rfl ?_)
  refine AH rfl rfl rfl (AH rfl rfl rfl ?_)
  obtain ⟨g1,h1,a1,m0,n0,o0,rfl,i1,j1⟩:=b0.elem' f0
  refine Bl (hA:=m0) (hj:=rfl) (hlt:=n0) rfl rfl rfl rfl ?_
  refine Lt (hl:=rfl) (hc:=o0) rfl rfl rfl ?_
  refine AH rfl rfl rfl (AH rfl rfl rfl ?_)
  obtain ⟨k1,b1,a0⟩:=bs a0
  obtain ⟨l1,m1,c1,p0,q0,r0,rfl,n1,o1⟩:=c0.elem' b1
  refine Bl (hA:=p0) (hj:=rfl) (hlt:=q0) rfl rfl rfl rfl ?_
  refine Lt (hl:=rfl) (hc:=r0) rfl rfl rfl ?_
  refine Qm rfl rfl rfl rfl (fun s0=>?_) fun s0=>?_
  ·
   replace a0:=ip a0 s0
   refine h_z ?_
   refine Ah rfl (Ab (Aa (Am rfl rfl (o_z ?_))))
   refine AF ?_
   obtain rfl:=sm a0
   obtain rfl:=d0 _ rfl
   obtain rfl:=sm (Cq hm)
   exact ret1v rfl (AC rfl) ⟨hB.ext,vBool⟩
  replace a0:=im a0 s0
  refine h_z ?_
  refine Ae rfl (AI ?_)
  obtain rfl:=sm a0
  exact show Exists _ from ⟨_,(),rfl,⟨rfl,rfl,rfl,rfl,trivial⟩,_,hB,b0,c0⟩
 rintro p1 q1 ⟨r1,s1,rfl,t0,t1,hB⟩
 replace hm:=AV hm
 refine AE _ t0 ?_
 refine Ab (Aa (Am rfl rfl (o_z ?_)))
 refine AF ?_
 obtain rfl:=sm hm
 exact ret1v rfl (AC rfl) ⟨hB.ext,vBool⟩
noncomputable def BU (x0:List Int) (x1:Int):Option Bool :=
  if (x0.length:Int)≠x1 then (some false) else (bnd (mkI 1 (false:Bool) x1) fun u8=>bnd (rng (ρ:=Bool) (fun (k27:Nat) (a28:Int) (s25:(List Bool))=>bnd (if a28 < 0 then (some true) else (if x1≤a28 then (some true) else (bnd (atI s25 a28) fun a56=>some a56)):Option Bool) fun y50=>if y50=true then (some (.ret false)) else (bnd (atI s25 a28) fun a72=>some (.next (s25.set (a28:Int).toNat true)))) x0 0 u8) fun res23=>fin res23 fun (s89:(List Bool))=>some true)
theorem Ea {w:World} {A:Nat→Prop} (hA:∀ k,A k→k < w.heap.size) {vx0:Value} {x0:List Int} (c0:Vb w A vx0 x0) {x1:Int} (rx1:inI64 x1) {r:Bool} (hm:BU x0 x1=some r) :
    Fn Tryz.prog 52 [vx0,(.int .i64 x1)] w fun v w'=>Ext w w'∧Vb w' (upA A w w') v r:=by
 obtain ⟨O,hB,i1⟩:=enter hA
 replace c0:=c0.mono i1
 obtain ⟨A3,c4,rfl⟩:=c0.form
 refine AP Tryz.func52 rfl Tryz.ntmps52 rfl ?_
 unfold BU at hm
 refine Ab (Aa (Am rfl rfl (o_z ?_)))
 refine Ab (Ab (Aa (Aj rfl rfl (AX rfl rfl ?_))))
 have l6:x0.length≤9223372036854775807:=Nat.le_trans c0.len.2.1 c0.len.2.2
 have r5:inI64 (x0.length:Int):=rngNat l6
 refine Aj rfl rfl (Gh rfl rfl rfl (fun c7=>?_) fun c7=>?_)
 ·
  replace hm:=ip hm c7
  refine o_z ?_
  refine Ah rfl (Ab (Aa (Am rfl rfl (o_z ?_))))
  refine AF ?_
  obtain rfl:=sm hm
  exact ret1v rfl (AC rfl) ⟨hB.ext,vBool⟩
 replace hm:=im hm c7
 refine o_z ?_
 refine Ae rfl (AI (Ab (Aa (Aj rfl rfl ?_))))
 obtain ⟨u8,e9,hm⟩:=bs hm
 obtain ⟨j0,j1,k1,l1,m1⟩:=CL e9
 refine DG 2 (by decide) O (z0:=(false:Bool)) rfl rfl rfl rfl rfl j1 vBool k1 l1 rfl fun k0 c2 n1 m0 e1=>?_
 rw [← m1] at e1 ⊢
 refine Am rfl rfl (o_z ?_)
 refine Ab (Ab (Aa (Aj rfl rfl (AX rfl rfl ?_))))
 replace c0:=c0.st m0
 have n0:x0.length≤9223372036854775807:=Nat.le_trans c0.len.2.1 c0.len.2.2
 have d2:inI64 (x0.length:Int):=rngNat n0
 refine Aj rfl rfl (o_z ?_)
 obtain ⟨g0,o0,hm⟩:=bs hm
 refine Ax (aft g0 (fun (f0:(List Bool)) (l0:Unit)=>[]) (fun f0 l0 w'=>∃ O':Lab,Bs w A w' O')) ?_ ?_
 ·
  refine AG ?_
  replace hB:=hB.st m0
  refine Bk (σ:=(List Bool)) (X:=Unit) (x0.length) o0 rfl n0 (fun (f0:(List Bool)) (l0:Unit)=>[(1,(.int .i64 x1)),(5,(.slice (some ⟨k0,0,none⟩) u8.length j0)),(14,(.slice A3 x0.length c4))]) _ (fun f0 l0 w'=>∃ O':Lab,Bs w A w' O'∧Rw 2 w' O' 4 (.slice (some ⟨k0,0,none⟩) u8.length j0) f0∧Vb w' (Fr 0 w' O') (.slice A3 x0.length c4) x0) _ () ⟨n1,hB,e1,c0⟩ ⟨rfl,rfl,rfl,rfl,rfl,trivial⟩ (fun _ _=>⟨rfl,rfl⟩) (fun _ _=>trivial) (fun _ _ _ ⟨O',hB,d0,c0⟩=>⟨O',hB⟩) ⟨rfl,rfl,rfl⟩ ⟨rfl,rfl⟩ ?_
  rintro f1 o1 f0 l0 e2 p1 h0 ⟨f2,hB,d0,c0⟩ b0 e0 p0
  have rk27:inI64 (f1:Int):=rngK h0 n0
  refine Ab (Aa ?_)
  obtain ⟨g2,h2,q1,q0,r0,s0,rfl,i2⟩:=c0.elem' h0
  refine Bv (hA:=q0) (hj:=rfl) (hlt:=r0) rfl rfl rfl ?_
  refine AJ (hc:=cat0 s0) rfl rfl ?_
  refine Am rfl rfl (o_z ?_)
  refine Ab (Ab ?_)
  obtain ⟨r1,a0,b0⟩:=bs b0
  refine Ax (fun l' w'=>∃ (s1:Unit) (O':Lab),subs l' [(1,(.int .i64 x1)),(5,(.slice (some ⟨k0,0,none⟩) u8.length j0)),(7,(.int .i64 o1)),(14,(.slice A3 x0.length c4)),(15,(.int .i64 (x0.length:Int))),(16,(.int .i64 (f1:Int))),(32,(.bool r1))]∧Bs w A w' O'∧Rw 2 w' O' 4 (.slice (some ⟨k0,0,none⟩) u8.length j0) f0∧Vb w' (Fr 0 w' O') (.slice A3 x0.length c4) x0) ?_ ?_
  ·
   refine Aa (Aj rfl rfl (Dj rfl rfl rfl (fun t0=>?_) fun t0=>?_))
   ·
    replace a0:=ip a0 t0
    refine Aj rfl rfl (An rfl rfl rfl rfl (An rfl rfl rfl rfl (An rfl rfl rfl rfl (By rfl rfl rfl (Aj rfl rfl (An rfl rfl rfl rfl (An rfl rfl rfl rfl (An rfl rfl rfl rfl (An rfl rfl rfl rfl (By rfl rfl rfl (o_z ?_)))))))))))
    obtain rfl:=sm a0
    exact ⟨(),_,⟨rfl,rfl,rfl,rfl,rfl,rfl,rfl,trivial⟩,hB,d0,c0⟩
   replace a0:=im a0 t0
   refine Aj rfl rfl (Ar rfl rfl (Aj rfl rfl (Ar rfl rfl (Aj rfl rfl (Ar rfl rfl (IA rfl rfl rfl (fun u0=>?_) fun u0=>?_))))))
   ·
    replace a0:=ip a0 u0
    refine Bz rfl rfl rfl (Aj rfl rfl (An rfl rfl rfl rfl (An rfl rfl rfl rfl (An rfl rfl rfl rfl (An rfl rfl rfl rfl (By rfl rfl rfl (o_z ?_)))))))
    obtain rfl:=sm a0
    exact ⟨(),_,⟨rfl,rfl,rfl,rfl,rfl,rfl,rfl,trivial⟩,hB,d0,c0⟩
   replace a0:=im a0 u0
   refine Bz rfl rfl rfl (Aj rfl rfl (Ar rfl rfl (Aj rfl rfl (Ar rfl rfl (Aj rfl rfl (Ar rfl rfl ?_))))))
   obtain ⟨j2,t1,a0⟩:=bs a0
   obtain ⟨u1,v1⟩:=AO t1
   obtain ⟨k2,l2,w1,v0,w0,y0,rfl⟩:=d0.elem v1
   refine Bv (hA:=v0) (hj:=(Int.toNat_of_nonneg u1).symm) (hlt:=w0) rfl rfl rfl ?_
   refine Ar rfl rfl (AJ (hc:=cat0 y0) rfl rfl ?_)
   refine Bz rfl rfl rfl (o_z ?_)
   obtain rfl:=sm a0
   exact ⟨(),_,⟨rfl,rfl,rfl,rfl,rfl,rfl,rfl,trivial⟩,hB,d0,c0⟩
  rintro m2 n2 ⟨s1,o2,a1,hB,d0,c0⟩
  refine AE _ a1 ?_
  refine Bp rfl (fun b1=>?_) (fun b1=>?_)
  ·
   replace b0:=ip b0 b1
   refine Ab (Aa (Am rfl rfl (o_z ?_)))
   refine AF ?_
   obtain rfl:=sm b0
   obtain rfl:=e0 _ rfl
   obtain rfl:=sm (Cq hm)
   exact ret1v rfl (AC rfl) ⟨hB.ext,vBool⟩
  replace b0:=im' b0 b1
  refine AI (Aa (Aj rfl rfl (Aj rfl rfl ?_)))
  obtain ⟨p2,y1,b0⟩:=bs b0
  obtain ⟨z1,g1⟩:=AO y1
  obtain ⟨q2,r2,a2,i0,c1,b2,rfl⟩:=d0.elem g1
  refine Bv (hA:=i0) (hj:=(Int.toNat_of_nonneg z1).symm) (hlt:=c1) rfl rfl rfl ?_
  refine EB rfl d0 (a:=true) vBool i0 rfl rfl (Aw g1) fun s2 h1 d0=>?_
  refine o_z ?_
  obtain rfl:=sm b0
  exact show Exists _ from ⟨_,(),rfl,⟨rfl,rfl,rfl,rfl,rfl,trivial⟩,_,hB.st h1,d0,c0.st h1⟩
 replace hB:=hB.st m0
 rintro t2 u2 ⟨v2,w2,rfl,d1,x2,hB⟩
 replace hm:=AV hm
 refine AE _ d1 ?_
 refine Ab (Aa (Am rfl rfl (o_z ?_)))
 refine AF ?_
 obtain rfl:=sm hm
 exact ret1v rfl (AC rfl) ⟨hB.ext,vBool⟩
noncomputable def DI (x0:Tsk) (x1:Swp):Option Bool :=
  bnd (bnd (BU x1.vars (x0.vars.length:Int)) fun q49=>if q49=true then if (x1.vals.length:Int)≠(x0.vars.length:Int) then (some true) else (some false) else some true:Option Bool) fun y43=>if y43=true then (some false) else (bnd (rng (ρ:=Bool) (fun (k72:Nat) (a73:Int) (s70:Unit)=>bnd (bnd (x1.vars[k72]?) fun a95=>bnd (atI x0.vars a95) fun a105=>if a105≠a73 then (some true) else (bnd (x1.vals[k72]?) fun a118=>bnd (BU a118 a73) fun q131=>if q131=true then some false else some true):Option Bool) fun y91=>if y91=true then (some (.ret false)) else (some (.next ()))) x0.vars 0 ()) fun res68=>fin res68 fun (s147:Unit)=>some true)
theorem Jm {w:World} {A:Nat→Prop} (hA:∀ k,A k→k < w.heap.size) {vx0:Value} {x0:Tsk} (d2:Vb w A vx0 x0) {vx1:Value} {x1:Swp} (e2:Vb w A vx1 x1) {r:Bool} (hm:DI x0 x1=some r) :
    Fn Tryz.prog 51 [vx0,vx1] w fun v w'=>Ext w w'∧Vb w' (upA A w w') v r:=by
 obtain ⟨O,hB,x2⟩:=enter hA
 replace d2:=d2.mono x2
 obtain ⟨s4,rfl,v4,v5,v6,v7,rfl,h8,l0,m0,n0⟩:=d2
 obtain ⟨A9,p0,rfl⟩:=h8.form
 obtain ⟨r0,s0,rfl⟩:=l0.form
 obtain ⟨t0,u0,rfl⟩:=m0.form
 obtain ⟨v0,w0,rfl⟩:=n0.form
 replace e2:=e2.mono x2
 obtain ⟨e3,rfl,t4,u4,w4,rfl,j0,h0,o0⟩:=e2
 obtain ⟨y0,z0,rfl⟩:=j0.form
 obtain ⟨a1,b1,rfl⟩:=h0.form
 obtain ⟨c1,d1,rfl⟩:=o0.form
 refine AP Tryz.func51 rfl Tryz.ntmps51 rfl ?_
 unfold DI at hm
 refine Ab (Aa (BC 2 O rfl rfl fun e1 f3 y2 d0 g0=>?_))
 replace g0:Lc 2 f3 y2 e1 30 [(.slice A9 x0.vars.length p0),(.slice r0 x0.init.length s0),(.slice t0 x0.goal.length u0),(.slice v0 x0.ops.length w0)]:=g0
 refine BC 3 y2 rfl rfl fun f1 f2 g2 c0 i0=>?_
 replace i0:Lc 3 f2 g2 f1 43 [(.slice y0 x1.vars.length z0),(.slice a1 x1.vals.length b1),(.slice c1 x1.ops.length d1)]:=i0
 refine Am rfl rfl (o_z ?_)
 refine Ab (Ab ?_)
 obtain ⟨g3,e0,hm⟩:=bs hm
 refine Ax (fun l' w'=>∃ (h3:Unit) (O':Lab),subs l' [(2,(.pointer (some ⟨e1,0,none⟩))),(3,(.pointer (some ⟨f1,0,none⟩))),(22,(.bool g3))]∧Bs w A w' O'∧Lc 2 w' O' e1 30 [(.slice A9 x0.vars.length p0),(.slice r0 x0.init.length s0),(.slice t0 x0.goal.length u0),(.slice v0 x0.ops.length w0)]∧Vb w' (Fr 0 w' O') (.slice A9 x0.vars.length p0) x0.vars∧Vb w' (Fr 0 w' O') (.slice r0 x0.init.length s0) x0.init∧Vb w' (Fr 0 w' O') (.slice t0 x0.goal.length u0) x0.goal∧Vb w' (Fr 0 w' O') (.slice v0 x0.ops.length w0) x0.ops∧Lc 3 w' O' f1 43 [(.slice y0 x1.vars.length z0),(.slice a1 x1.vals.length b1),(.slice c1 x1.ops.length d1)]∧Vb w' (Fr 0 w' O') (.slice y0 x1.vars.length z0) x1.vars∧Vb w' (Fr 0 w' O') (.slice a1 x1.vals.length b1) x1.vals∧Vb w' (Fr 0 w' O') (.slice c1 x1.ops.length d1) x1.ops) ?_ ?_
 ·
  refine Aa (AS rfl rfl (AJ (hc:=Blk.cell (i:=0) (i0.1) rfl) rfl rfl ?_))
  refine AS rfl rfl ?_
  replace g0:=g0.st c0
  refine AJ (hc:=Blk.cell (i:=0) (g0.1) rfl) rfl rfl ?_
  refine AX rfl rfl ?_
  replace h8:=(h8.st d0).st c0
  have i3:x0.vars.length≤9223372036854775807:=Nat.le_trans h8.len.2.1 h8.len.2.2
  have j3:inI64 (x0.vars.length:Int):=rngNat i3
  obtain ⟨z2,k3,e0⟩:=bs e0
  replace j0:=(j0.st d0).st c0
  refine Bf (O:=g2) (A:=All f2) (R:=fun w' F v=>Vb w' F v z2) (Ea (fun _ h=>h) (Vb.mono (F:=Fr 0 f2 g2) j0 Fr.lt) j3 k3) rfl rfl fun x4 y4 z4 f0 l3=>?_
  obtain rfl:=l3.bool
  cases z2
  case false =>
   replace e0:=iF e0
   refine CD rfl rfl (Aj rfl rfl (An rfl rfl rfl rfl (An rfl rfl rfl rfl (An rfl rfl rfl rfl (An rfl rfl rfl rfl (An rfl rfl rfl rfl (An rfl rfl rfl rfl (An rfl rfl rfl rfl (By rfl rfl rfl (o_z ?_))))))))))
   obtain rfl:=sm e0
   exact ⟨(),_,⟨rfl,rfl,rfl,trivial⟩,((hB.st d0).st c0).st f0,g0.st f0,h8.st f0,((l0.st d0).st c0).st f0,((m0.st d0).st c0).st f0,((n0.st d0).st c0).st f0,i0.st f0,j0.st f0,((h0.st d0).st c0).st f0,((o0.st d0).st c0).st f0⟩
  replace e0:=iT e0
  refine CC rfl rfl (Aj rfl rfl (Ar rfl rfl (AS rfl rfl (Ar rfl rfl ?_))))
  replace i0:=i0.st f0
  refine AJ (hc:=Blk.cell (i:=1) (i0.1) rfl) rfl rfl ?_
  refine Ar rfl rfl (AX rfl rfl ?_)
  replace h0:=((h0.st d0).st c0).st f0
  have m3:x1.vals.length≤9223372036854775807:=Nat.le_trans h0.len.2.1 h0.len.2.2
  have a5:inI64 (x1.vals.length:Int):=rngNat m3
  refine Ar rfl rfl (AS rfl rfl (Ar rfl rfl ?_))
  replace g0:=g0.st f0
  refine AJ (hc:=Blk.cell (i:=0) (g0.1) rfl) rfl rfl ?_
  refine Ar rfl rfl (AX rfl rfl ?_)
  replace h8:=h8.st f0
  have n3:x0.vars.length≤9223372036854775807:=Nat.le_trans h8.len.2.1 h8.len.2.2
  have b5:inI64 (x0.vars.length:Int):=rngNat n3
  refine Ar rfl rfl (Gh rfl rfl rfl (fun h2=>?_) fun h2=>?_)
  ·
   replace e0:=ip e0 h2
   refine Bz rfl rfl rfl (o_z ?_)
   obtain rfl:=sm e0
   exact ⟨(),_,⟨rfl,rfl,rfl,trivial⟩,((hB.st d0).st c0).st f0,g0,h8,((l0.st d0).st c0).st f0,((m0.st d0).st c0).st f0,((n0.st d0).st c0).st f0,i0,j0.st f0,h0,((o0.st d0).st c0).st f0⟩
  replace e0:=im e0 h2
  refine Bz rfl rfl rfl (o_z ?_)
  obtain rfl:=sm e0
  exact ⟨(),_,⟨rfl,rfl,rfl,trivial⟩,((hB.st d0).st c0).st f0,g0,h8,((l0.st d0).st c0).st f0,((m0.st d0).st c0).st f0,((n0.st d0).st c0).st f0,i0,j0.st f0,h0,((o0.st d0).st c0).st f0⟩
 replace hB:=(hB.st d0).st c0
 replace h8:=(h8.st d0).st c0
 replace l0:=(l0.st d0).st c0
 replace m0:=(m0.st d0).st c0
 replace n0:=(n0.st d0).st c0
 replace j0:=(j0.st d0).st c0
 replace h0:=(h0.st d0).st c0
 replace o0:=(o0.st d0).st c0
 replace g0:=g0.st c0
 rintro c5 d5 ⟨h3,o3,i2,hB,g0,h8,l0,m0,n0,i0,j0,h0,o0⟩
 refine AE _ i2 ?_
 refine Bp rfl (fun j2=>?_) (fun j2=>?_)
 ·
  replace hm:=ip hm j2
  refine Ab (Aa (Am rfl rfl (o_z ?_)))
  refine AF ?_
  obtain rfl:=sm hm
  exact ret1v rfl (AC rfl) ⟨hB.ext,vBool⟩
 replace hm:=im' hm j2
 refine AI (Ab (Ab (Aa (AS rfl rfl (AJ (hc:=Blk.cell (i:=0) (g0.1) rfl) rfl rfl ?_)))))
 refine AX rfl rfl ?_
 have k2:x0.vars.length≤9223372036854775807:=Nat.le_trans h8.len.2.1 h8.len.2.2
 have e5:inI64 (x0.vars.length:Int):=rngNat k2
 refine Aj rfl rfl (o_z ?_)
 obtain ⟨j1,l2,hm⟩:=bs hm
 refine Ax (aft j1 (fun (b2:Unit) (c2:Unit)=>[]) (fun b2 c2 w'=>∃ O':Lab,Bs w A w' O')) ?_ ?_
 ·
  refine AG (Bk (σ:=Unit) (X:=Unit) (x0.vars.length) l2 rfl k2 (fun (b2:Unit) (c2:Unit)=>[(2,(.pointer (some ⟨e1,0,none⟩))),(3,(.pointer (some ⟨f1,0,none⟩))),(24,(.slice A9 x0.vars.length p0))]) _ (fun b2 c2 w'=>∃ O':Lab,Bs w A w' O'∧Lc 2 w' O' e1 30 [(.slice A9 x0.vars.length p0),(.slice r0 x0.init.length s0),(.slice t0 x0.goal.length u0),(.slice v0 x0.ops.length w0)]∧Vb w' (Fr 0 w' O') (.slice A9 x0.vars.length p0) x0.vars∧Vb w' (Fr 0 w' O') (.slice r0 x0.init.length s0) x0.init∧Vb w' (Fr 0 w' O') (.slice t0 x0.goal.length u0) x0.goal∧Vb w' (Fr 0 w' O') (.slice v0 x0.ops.length w0) x0.ops∧Lc 3 w' O' f1 43 [(.slice y0 x1.vars.length z0),(.slice a1 x1.vals.length b1),(.slice c1 x1.ops.length d1)]∧Vb w' (Fr 0 w' O') (.slice y0 x1.vars.length z0) x1.vars∧Vb w' (Fr 0 w' O') (.slice a1 x1.vals.length b1) x1.vals∧Vb w' (Fr 0 w' O') (.slice c1 x1.ops.length d1) x1.ops) _ () ⟨o3,hB,g0,h8,l0,m0,n0,i0,j0,h0,o0⟩ ⟨rfl,rfl,rfl,rfl,rfl,trivial⟩ (fun _ _=>⟨rfl,rfl⟩) (fun _ _=>trivial) (fun _ _ _ ⟨O',hB,g0,h8,l0,m0,n0,i0,j0,h0,o0⟩=>⟨O',hB⟩) ⟨rfl,rfl,rfl⟩ ⟨rfl,rfl⟩ ?_)
  rintro a3 f5 b2 c2 b3 p3 k1 ⟨m2,hB,g0,h8,l0,m0,n0,i0,j0,h0,o0⟩ k0 g1 n2
  have rk72:inI64 (a3:Int):=rngK k1 k2
  refine Ab (Aa (Aj rfl rfl ?_))
  obtain ⟨g5,h5,q3,o2,p2,q2,rfl,r3⟩:=h8.elem' k1
  refine Bv (hA:=o2) (hj:=rfl) (hlt:=p2) rfl rfl rfl ?_
  refine AJ (hc:=cat0 q2) rfl rfl ?_
  refine Am rfl rfl (Am rfl rfl (o_z ?_))
  refine Ab ?_
  obtain ⟨s3,b0,k0⟩:=bs k0
  refine Ax (fun l' w'=>∃ (t3:Unit) (O':Lab),subs l' [(2,(.pointer (some ⟨e1,0,none⟩))),(3,(.pointer (some ⟨f1,0,none⟩))),(24,(.slice A9 x0.vars.length p0)),(25,(.int .i64 (x0.vars.length:Int))),(26,(.int .i64 (a3:Int))),(51,(.bool s3))]∧Bs w A w' O'∧Lc 2 w' O' e1 30 [(.slice A9 x0.vars.length p0),(.slice r0 x0.init.length s0),(.slice t0 x0.goal.length u0),(.slice v0 x0.ops.length w0)]∧Vb w' (Fr 0 w' O') (.slice A9 x0.vars.length p0) x0.vars∧Vb w' (Fr 0 w' O') (.slice r0 x0.init.length s0) x0.init∧Vb w' (Fr 0 w' O') (.slice t0 x0.goal.length u0) x0.goal∧Vb w' (Fr 0 w' O') (.slice v0 x0.ops.length w0) x0.ops∧Lc 3 w' O' f1 43 [(.slice y0 x1.vars.length z0),(.slice a1 x1.vals.length b1),(.slice c1 x1.ops.length d1)]∧Vb w' (Fr 0 w' O') (.slice y0 x1.vars.length z0) x1.vars∧Vb w' (Fr 0 w' O') (.slice a1 x1.vals.length b1) x1.vals∧Vb w' (Fr 0 w' O') (.slice c1 x1.ops.length d1) x1.ops) ?_ ?_
  ·
   refine Bc [] m2 ?_
   refine Az (fuel:=3) [] [(0,true),(1,true),(2,true),(3,true),(4,true),(5,true),(6,true),(7,true),(8,true),(9,true),(10,true),(11,true),(12,true),(13,true),(14,true),(15,true),(16,true),(17,true)] (by kernel_rfl) rfl ?_
   refine AM rfl rfl rfl (AK (hc:=fun w' ⟨O',hq⟩=>Blk.cell (i:=0) ((g0.st hq (by decide)).1) rfl) rfl rfl rfl ?_)
   refine AM rfl rfl rfl (AK (hc:=fun w' ⟨O',hq⟩=>Blk.cell (i:=0) ((i0.st hq (by decide)).1) rfl) rfl rfl rfl ?_)
   refine AH rfl rfl rfl ?_
   obtain ⟨i5,u3,b0⟩:=bs b0
   obtain ⟨j5,k5,v3,l1,m1,n1,o1,rfl,w3⟩:=j0.elem u3
   refine Bl (hA:=l1) (hj:=rfl) (hlt:=n1) rfl rfl rfl rfl ?_
   refine AK (hc:=fun w' ⟨O',hq⟩=>cat0 (AL (hq.agree (i:=0) (by decide)) m1 o1)) rfl rfl rfl ?_
   obtain ⟨x3,r2,b0⟩:=bs b0
   obtain ⟨s2,t2⟩:=AO r2
   obtain ⟨y3,z3,c3,p1,q1,r1,s1,rfl,a4⟩:=h8.elem t2
   refine Bl (hA:=p1) (hj:=(Int.toNat_of_nonneg s2).symm) (hlt:=r1) rfl rfl rfl rfl ?_
   refine AK (hc:=fun w' ⟨O',hq⟩=>cat0 (AL (hq.agree (i:=0) (by decide)) q1 s1)) rfl rfl rfl ?_
   refine AH rfl rfl rfl (Lw rfl rfl rfl rfl (fun h1=>?_) fun h1=>?_)
   ·
    replace b0:=ip b0 h1
    refine AH rfl rfl rfl (AB rfl rfl rfl rfl rfl (AB rfl rfl rfl rfl rfl (AB rfl rfl rfl rfl rfl (AB rfl rfl rfl rfl rfl (AB rfl rfl rfl rfl rfl (AB rfl rfl rfl rfl rfl (As ?_)))))))
    refine Au (i:=18) (by kernel_rfl) rfl ?_
    refine An rfl rfl rfl rfl (Ay [] ((St.refl nT _ _).lst [] (fun _ h=>h.elim)) (by kernel_rfl) ?_)
    refine Az (fuel:=0) [] [(19,true),(20,true)] (by kernel_rfl) rfl ?_
    refine AB rfl rfl rfl rfl rfl (Ce rfl rfl rfl rfl (As ?_))
    refine AZ (by kernel_rfl) ?_
    obtain rfl:=sm b0
    exact ⟨(),_,⟨rfl,rfl,rfl,rfl,rfl,rfl,trivial⟩,hB,g0,h8,l0,m0,n0,i0,j0,h0,o0⟩
   replace b0:=im b0 h1
   refine AH rfl rfl rfl (Al rfl (Ak rfl rfl (BD rfl rfl (Al rfl (Ak rfl rfl (Da (hc:=fun w' ⟨O',hq⟩=>Blk.cell (i:=1) ((i0.st hq (by decide)).1) rfl) rfl rfl ?_))))))
   refine Al rfl (Ak rfl rfl (BS rfl rfl (Al rfl (Ak rfl rfl ?_))))
   obtain ⟨b4,u2,b0⟩:=bs b0
   obtain ⟨c4,d4,d3,t1,u1,v1,w1,e4,rfl,q0⟩:=h0.elem u2
   replace q0:=Vb.of_slice q0
   obtain ⟨f4,g4,rfl⟩:=q0.form
   refine DM (hA:=t1) (hj:=rfl) (hlt:=v1) rfl rfl rfl ?_
   refine Al rfl (Ak rfl rfl (Da (hc:=fun w' ⟨O',hq⟩=>cat0 (AL (hq.agree (i:=0) (by decide)) u1 w1)) rfl rfl ?_))
   refine Al rfl (Ak rfl rfl (BS rfl rfl (As ?_)))
   refine Au (i:=18) (by kernel_rfl) rfl ?_
   refine Ar rfl rfl ?_
   obtain ⟨y1,v2,b0⟩:=bs b0
   refine Bf (O:=m2) (A:=All b3) (R:=fun w' F v=>Vb w' F v y1) (Ea (fun _ h=>h) (Vb.mono (F:=Fr 0 b3 m2) q0 Fr.lt) r3 v2) rfl rfl fun h4 i4 j4 a0 w2=>?_
   obtain rfl:=w2.bool
   have hZ:=a0.lst [] (fun _ h=>h.elim)
   cases y1
   case false =>
    replace b0:=iF b0
    refine Ay [] hZ (by kernel_rfl) ?_
    refine Az (fuel:=0) [] [(19,true),(20,true)] (by kernel_rfl) rfl ?_
    refine Al rfl (Ak rfl rfl (Kn rfl rfl (Cb rfl rfl rfl rfl (As ?_))))
    refine AZ (by kernel_rfl) ?_
    obtain rfl:=sm b0
    exact ⟨(),_,⟨rfl,rfl,rfl,rfl,rfl,rfl,trivial⟩,hB.st a0,g0.st a0,h8.st a0,l0.st a0,m0.st a0,n0.st a0,i0.st a0,j0.st a0,h0.st a0,o0.st a0⟩
   replace b0:=iT b0
   refine Ay [] hZ (by kernel_rfl) ?_
   refine Az (fuel:=0) [] [(19,true),(20,true)] (by kernel_rfl) rfl ?_
   refine Al rfl (Ak rfl rfl (Km rfl rfl (Cb rfl rfl rfl rfl (As ?_))))
   refine AZ (by kernel_rfl) ?_
   obtain rfl:=sm b0
   exact ⟨(),_,⟨rfl,rfl,rfl,rfl,rfl,rfl,trivial⟩,hB.st a0,g0.st a0,h8.st a0,l0.st a0,m0.st a0,n0.st a0,i0.st a0,j0.st a0,h0.st a0,o0.st a0⟩
  rintro k4 l4 ⟨t3,m4,z1,hB,g0,h8,l0,m0,n0,i0,j0,h0,o0⟩
  refine AE _ z1 ?_
  refine Bp rfl (fun i1=>?_) (fun i1=>?_)
  ·
   replace k0:=ip k0 i1
   refine Ab (Aa (Am rfl rfl (o_z ?_)))
   refine AF ?_
   obtain rfl:=sm k0
   obtain rfl:=g1 _ rfl
   obtain rfl:=sm (Cq hm)
   exact ret1v rfl (AC rfl) ⟨hB.ext,vBool⟩
  replace k0:=im' k0 i1
  refine AI ?_
  obtain rfl:=sm k0
  exact show Exists _ from ⟨_,(),rfl,⟨rfl,rfl,rfl,rfl,rfl,trivial⟩,_,hB,g0,h8,l0,m0,n0,i0,j0,h0,o0⟩
 rintro n4 o4 ⟨p4,q4,rfl,a2,r4,hB⟩
 replace hm:=AV hm
 refine AE _ a2 ?_
 refine Ab (Aa (Am rfl rfl (o_z ?_)))
 refine AF ?_
 obtain rfl:=sm hm
 exact ret1v rfl (AC rfl) ⟨hB.ext,vBool⟩
noncomputable def Ez (x0:Swp) (x1:List Int):Option (List Int) :=
  bnd (mkI 8 (0:Int) (x1.length:Int)) fun u25=>bnd (rng (ρ:=(List Int)) (fun (k44:Nat) (a45:Int) (s42:(List Int))=>bnd (x0.vars[k44]?) fun a67=>bnd (x0.vals[k44]?) fun a77=>bnd (atI a77 a45) fun a90=>bnd (atI s42 a67) fun a102=>some (.next (s42.set (a67:Int).toNat a90))) x1 0 u25) fun res40=>fin res40 fun (s120:(List Int))=>some s120
theorem Jn {w:World} {A:Nat→Prop} (hA:∀ k,A k→k < w.heap.size) {vx0:Value} {x0:Swp} (w0:Vb w A vx0 x0) {vx1:Value} {x1:List Int} (b0:Vb w A vx1 x1) {r:(List Int)} (hm:Ez x0 x1=some r) :
    Fn Tryz.prog 35 [vx0,vx1] w fun v w'=>Ext w w'∧Vb w' (upA A w w') v r:=by
 obtain ⟨O,hB,d2⟩:=enter hA
 replace w0:=w0.mono d2
 obtain ⟨p3,rfl,v4,v5,v6,rfl,h7,f0,h0⟩:=w0
 obtain ⟨A8,c9,rfl⟩:=h7.form
 obtain ⟨y0,a1,rfl⟩:=f0.form
 obtain ⟨b1,c1,rfl⟩:=h0.form
 replace b0:=b0.mono d2
 obtain ⟨e2,f2,rfl⟩:=b0.form
 refine AP Tryz.func35 rfl Tryz.ntmps35 rfl ?_
 unfold Ez at hm
 refine Ab (Aa (BC 2 O rfl rfl fun d1 l2 g2 j0 d0=>?_))
 replace d0:Lc 2 l2 g2 d1 43 [(.slice A8 x0.vars.length c9),(.slice y0 x0.vals.length a1),(.slice b1 x0.ops.length c1)]:=d0
 refine Am rfl rfl (o_z ?_)
 refine Ab (Aa (Aj rfl rfl (AX rfl rfl ?_)))
 replace b0:=b0.st j0
 have m2:x1.length≤9223372036854775807:=Nat.le_trans b0.len.2.1 b0.len.2.2
 have q3:inI64 (x1.length:Int):=rngNat m2
 obtain ⟨r0,n2,hm⟩:=bs hm
 obtain ⟨s0,o2,p2,q2,r2⟩:=CL n2
 refine DG 3 (by decide) g2 (z0:=(0:Int)) rfl rfl rfl rfl rfl o2 (vInt (show inI64 0 from by decide)) p2 q2 rfl fun t0 r3 s2 i0 h2=>?_
 rw [← r2] at h2 ⊢
 refine Am rfl rfl (o_z ?_)
 refine Ab (Ab (Aa (Aj rfl rfl (AX rfl rfl ?_))))
 replace b0:=b0.st i0
 have e1:x1.length≤9223372036854775807:=Nat.le_trans b0.len.2.1 b0.len.2.2
 have s3:inI64 (x1.length:Int):=rngNat e1
 refine Aj rfl rfl (o_z ?_)
 obtain ⟨l0,f1,hm⟩:=bs hm
 refine Ax (aft l0 (fun (k0:(List Int)) (u0:Unit)=>[(5,(.slice (some ⟨t0,0,none⟩) r0.length s0))]) (fun k0 u0 w'=>∃ O':Lab,Bs w A w' O'∧Rw 3 w' O' 3 (.slice (some ⟨t0,0,none⟩) r0.length s0) k0)) ?_ ?_
 ·
  refine AG ?_
  replace hB:=(hB.st j0).st i0
  replace h7:=(h7.st j0).st i0
  replace f0:=(f0.st j0).st i0
  replace h0:=(h0.st j0).st i0
  replace d0:=d0.st i0
  refine Bk (σ:=(List Int)) (X:=Unit) (x1.length) f1 rfl e1 (fun (k0:(List Int)) (u0:Unit)=>[(2,(.pointer (some ⟨d1,0,none⟩))),(5,(.slice (some ⟨t0,0,none⟩) r0.length s0)),(11,(.slice e2 x1.length f2))]) _ (fun k0 u0 w'=>∃ O':Lab,Bs w A w' O'∧Lc 2 w' O' d1 43 [(.slice A8 x0.vars.length c9),(.slice y0 x0.vals.length a1),(.slice b1 x0.ops.length c1)]∧Vb w' (Fr 0 w' O') (.slice A8 x0.vars.length c9) x0.vars∧Vb w' (Fr 0 w' O') (.slice y0 x0.vals.length a1) x0.vals∧Vb w' (Fr 0 w' O') (.slice b1 x0.ops.length c1) x0.ops∧Rw 3 w' O' 3 (.slice (some ⟨t0,0,none⟩) r0.length s0) k0∧Vb w' (Fr 0 w' O') (.slice e2 x1.length f2) x1) _ () ⟨s2,hB,d0,h7,f0,h0,h2,b0⟩ ⟨rfl,rfl,rfl,rfl,rfl,trivial⟩ (fun _ _=>⟨rfl,rfl⟩) (fun _ _=>⟨rfl,trivial⟩) (fun _ _ _ ⟨O',hB,d0,h7,f0,h0,e0,b0⟩=>⟨O',hB,e0⟩) ⟨rfl,rfl,rfl⟩ ⟨rfl,rfl⟩ ?_
  rintro t2 t3 k0 u0 u3 u2 m0 ⟨v2,hB,d0,h7,f0,h0,e0,b0⟩ a0 g1 h1
  have rk44:inI64 (t2:Int):=rngK m0 e1
  refine Ab (Aa (Aj rfl rfl ?_))
  obtain ⟨v3,w3,w2,i1,j1,k1,rfl,x3⟩:=b0.elem' m0
  refine Bv (hA:=i1) (hj:=rfl) (hlt:=j1) rfl rfl rfl ?_
  refine AJ (hc:=cat0 k1) rfl rfl ?_
  refine Am rfl rfl (Am rfl rfl (o_z ?_))
  refine Bc [] v2 ?_
  refine Az (fuel:=1) [] [(0,true),(1,true),(2,true),(3,true),(4,true),(5,true),(6,true),(7,true),(8,true),(9,true),(10,true),(11,true),(12,true),(13,true),(14,true)] (by kernel_rfl) rfl ?_
  refine AH rfl rfl rfl (AM rfl rfl rfl (AK (hc:=fun w' ⟨O',hq⟩=>Blk.cell (i:=0) ((d0.st hq (by decide)).1) rfl) rfl rfl rfl ?_))
  refine AH rfl rfl rfl ?_
  obtain ⟨y3,x2,a0⟩:=bs a0
  obtain ⟨z3,a4,y2,l1,m1,n1,o1,rfl,b4⟩:=h7.elem x2
  refine Bl (hA:=l1) (hj:=rfl) (hlt:=n1) rfl rfl rfl rfl ?_
  refine AK (hc:=fun w' ⟨O',hq⟩=>cat0 (AL (hq.agree (i:=0) (by decide)) m1 o1)) rfl rfl rfl ?_
  refine AM rfl rfl rfl (AK (hc:=fun w' ⟨O',hq⟩=>Blk.cell (i:=1) ((d0.st hq (by decide)).1) rfl) rfl rfl rfl ?_)
  refine AH rfl rfl rfl ?_
  obtain ⟨c4,z2,a0⟩:=bs a0
  obtain ⟨d4,e4,a3,p1,q1,r1,s1,f4,rfl,v0⟩:=f0.elem z2
  replace v0:=Vb.of_slice v0
  obtain ⟨g4,h4,rfl⟩:=v0.form
  refine Bl (hA:=p1) (hj:=rfl) (hlt:=r1) rfl rfl rfl rfl ?_
  refine AK (hc:=fun w' ⟨O',hq⟩=>cat0 (AL (hq.agree (i:=0) (by decide)) q1 s1)) rfl rfl rfl ?_
  refine AH rfl rfl rfl ?_
  obtain ⟨b3,c3,a0⟩:=bs a0
  obtain ⟨d3,e3⟩:=AO c3
  obtain ⟨i4,j4,f3,t1,n0,u1,v1,rfl,w1⟩:=v0.elem e3
  refine Bl (hA:=t1) (hj:=(Int.toNat_of_nonneg d3).symm) (hlt:=u1) rfl rfl rfl rfl ?_
  refine AK (hc:=fun w' ⟨O',hq⟩=>cat0 (AL (hq.agree (i:=0) (by decide)) n0 v1)) rfl rfl rfl ?_
  obtain ⟨g3,y1,a0⟩:=bs a0
  obtain ⟨z1,o0⟩:=AO y1
  obtain ⟨h3,i3,i2,g0,j2,p0,k2,rfl,j3⟩:=e0.elemF o0
  refine Bl (hA:=g0) (hj:=(Int.toNat_of_nonneg z1).symm) (hlt:=p0) rfl rfl rfl rfl ?_
  refine As ?_
  refine Au (i:=15) (by kernel_rfl) rfl ?_
  refine EB rfl e0 (a:=b3) (vInt w1) g0 rfl rfl (Aw o0) fun k3 c0 e0=>?_
  refine BK (by kernel_rfl) ?_
  refine AZ (by kernel_rfl) ?_
  obtain rfl:=sm a0
  exact show Exists _ from ⟨_,(),rfl,⟨rfl,rfl,rfl,rfl,rfl,trivial⟩,_,hB.st c0,d0.st c0,h7.st c0,f0.st c0,h0.st c0,e0,b0.st c0⟩
 replace hB:=(hB.st j0).st i0
 rintro l3 a2 ⟨m3,n3,rfl,q0,o3,hB,e0⟩
 replace hm:=AV hm
 refine AE _ q0 ?_
 refine Ab (Aa (Aj rfl rfl (Am rfl rfl (o_z ?_))))
 refine AF ?_
 obtain ⟨b2,c2,e0⟩:=e0.freeze
 obtain rfl:=sm hm
 replace hB:=hB.st c2
 exact ret1v rfl (AC rfl) ⟨hB.ext,(Vb.mono (F:=Fr 0 a2 b2) e0 hB.out)⟩
noncomputable def Db (x0:Eff) (x1:Eff):Option Bool :=
  bnd (if x0.var=x1.var then (if x0.val=x1.val then (bnd (Bo x0.cond x1.cond) fun q33=>if q33=true then some true else some false) else (some false)) else (some false):Option Bool) fun y27=>some y27
theorem HX {w:World} {A:Nat→Prop} (hA:∀ k,A k→k < w.heap.size) {vx0:Value} {x0:Eff} (i0:Vb w A vx0 x0) {vx1:Value} {x1:Eff} (j0:Vb w A vx1 x1) {r:Bool} (hm:Db x0 x1=some r) :
    Fn Tryz.prog 74 [vx0,vx1] w fun v w'=>Ext w w'∧Vb w' (upA A w w') v r:=by
 obtain ⟨O,hB,n0⟩:=enter hA
 replace i0:=i0.mono n0
 obtain ⟨c1,rfl,v4,rfl,h5,r8,r9⟩:=i0
 obtain ⟨A6,c7,rfl⟩:=h5.form
 replace j0:=j0.mono n0
 obtain ⟨r0,rfl,d1,rfl,f0,e1,f1⟩:=j0
 obtain ⟨s0,t0,rfl⟩:=f0.form
 refine AP Tryz.func74 rfl Tryz.ntmps74 rfl ?_
 unfold Db at hm
 refine Ab (Aa (BC 2 O rfl rfl fun u0 v0 o0 c0 d0=>?_))
 replace d0:Lc 2 v0 o0 u0 32 [(.slice A6 x0.cond.length c7),(.int .i64 x0.var),(.int .i64 x0.val)]:=d0
 refine BC 3 o0 rfl rfl fun w0 g0 h0 b0 e0=>?_
 replace e0:Lc 3 g0 h0 w0 32 [(.slice s0 x1.cond.length t0),(.int .i64 x1.var),(.int .i64 x1.val)]:=e0
 refine Am rfl rfl (o_z ?_)
 refine Ab ?_
 obtain ⟨y0,a0,hm⟩:=bs hm
 refine Ax (fun l' w'=>∃ (z0:Unit) (O':Lab),subs l' [(4,(.bool y0))]∧Bs w A w' O') ?_ ?_
 ·
  refine Aa (AS rfl rfl ?_)
  replace d0:=d0.st b0
  refine AJ (hc:=Blk.cell (i:=1) (d0.1) rfl) rfl rfl ?_
  refine AS rfl rfl (AJ (hc:=Blk.cell (i:=1) (e0.1) rfl) rfl rfl ?_)
  refine FK rfl rfl rfl (fun k0=>?_) fun k0=>?_
  ·
   replace a0:=ip a0 k0
   refine Aj rfl rfl (Ar rfl rfl (AS rfl rfl (Ar rfl rfl (AJ (hc:=Blk.cell (i:=2) (d0.1) rfl) rfl rfl ?_))))
   refine Ar rfl rfl (AS rfl rfl (Ar rfl rfl (AJ (hc:=Blk.cell (i:=2) (e0.1) rfl) rfl rfl ?_)))
   refine Ar rfl rfl (FK rfl rfl rfl (fun l0=>?_) fun l0=>?_)
   ·
    replace a0:=ip a0 l0
    refine By rfl rfl rfl (Aj rfl rfl (Ar rfl rfl (AS rfl rfl (Ar rfl rfl (AJ (hc:=Blk.cell (i:=0) (d0.1) rfl) rfl rfl ?_)))))
    refine Ar rfl rfl (AS rfl rfl (Ar rfl rfl (AJ (hc:=Blk.cell (i:=0) (e0.1) rfl) rfl rfl ?_)))
    refine Ar rfl rfl ?_
    obtain ⟨p0,a1,a0⟩:=bs a0
    replace h5:=(h5.st c0).st b0
    replace f0:=(f0.st c0).st b0
    refine Bf (O:=h0) (A:=All g0) (R:=fun w' F v=>Vb w' F v p0) (Cg (fun _ h=>h) (Vb.mono (F:=Fr 0 g0 h0) h5 Fr.lt) (Vb.mono (F:=Fr 0 g0 h0) f0 Fr.lt) a1) rfl rfl fun g1 h1 i1 q0 b1=>?_
    obtain rfl:=b1.bool
    cases p0
    case false =>
     replace a0:=iF a0
     refine By rfl rfl rfl (Am rfl rfl (o_z ?_))
     obtain rfl:=sm a0
     exact ⟨(),_,⟨rfl,trivial⟩,((hB.st c0).st b0).st q0⟩
    replace a0:=iT a0
    refine By rfl rfl rfl (Am rfl rfl (o_z ?_))
    obtain rfl:=sm a0
    exact ⟨(),_,⟨rfl,trivial⟩,((hB.st c0).st b0).st q0⟩
   replace a0:=im a0 l0
   refine By rfl rfl rfl (Aj rfl rfl (An rfl rfl rfl rfl (An rfl rfl rfl rfl (An rfl rfl rfl rfl (An rfl rfl rfl rfl (An rfl rfl rfl rfl (Bz rfl rfl rfl (Am rfl rfl (o_z ?_)))))))))
   obtain rfl:=sm a0
   exact ⟨(),_,⟨rfl,trivial⟩,(hB.st c0).st b0⟩
  replace a0:=im a0 k0
  refine Aj rfl rfl (An rfl rfl rfl rfl (An rfl rfl rfl rfl (An rfl rfl rfl rfl (An rfl rfl rfl rfl (An rfl rfl rfl rfl (Bz rfl rfl rfl (Aj rfl rfl (An rfl rfl rfl rfl (An rfl rfl rfl rfl (An rfl rfl rfl rfl (An rfl rfl rfl rfl (An rfl rfl rfl rfl (Bz rfl rfl rfl (Am rfl rfl ?_))))))))))))))
  refine o_z ?_
  obtain rfl:=sm a0
  exact ⟨(),_,⟨rfl,trivial⟩,(hB.st c0).st b0⟩
 replace hB:=(hB.st c0).st b0
 rintro j1 k1 ⟨z0,l1,m0,hB⟩
 refine AE _ m0 ?_
 refine AF ?_
 obtain rfl:=sm hm
 exact ret1v rfl (AC rfl) ⟨hB.ext,vBool⟩
noncomputable def AW (x0:List Eff) (x1:List Eff):Option Bool :=
  if (x0.length:Int)≠(x1.length:Int) then (some false) else (bnd (rng (ρ:=Bool) (fun (k19:Nat) (a20:Eff) (s17:Unit)=>bnd (x1[k19]?) fun a50=>bnd (Db a20 a50) fun q72=>if q72=true then some (.next ()) else some (.ret false)) x0 0 ()) fun res15=>fin res15 fun (s83:Unit)=>some true)
theorem Cf {w:World} {A:Nat→Prop} (hA:∀ k,A k→k < w.heap.size) {vx0:Value} {x0:List Eff} (b0:Vb w A vx0 x0) {vx1:Value} {x1:List Eff} (c0:Vb w A vx1 x1) {r:Bool} (hm:AW x0 x1=some r) :
    Fn Tryz.prog 73 [vx0,vx1,(.func (.func 74) #[] #[])] w fun v w'=>Ext w w'∧Vb w' (upA A w w') v r:=by
 obtain ⟨O,hB,h1⟩:=enter hA
 replace b0:=b0.mono h1
 obtain ⟨A4,c5,rfl⟩:=b0.form
 replace c0:=c0.mono h1
 obtain ⟨A6,c7,rfl⟩:=c0.form
 refine AP Tryz.func73 rfl Tryz.ntmps73 rfl ?_
 unfold AW at hm
 refine Ab (Aa (Am rfl rfl (o_z ?_)))
 refine Ab (Ab (Aa (Aj rfl rfl (AX rfl rfl ?_))))
 have l9:x0.length≤9223372036854775807:=Nat.le_trans b0.len.2.1 b0.len.2.2
 have r8:inI64 (x0.length:Int):=rngNat l9
 refine Aj rfl rfl (AX rfl rfl ?_)
 have o1:x1.length≤9223372036854775807:=Nat.le_trans c0.len.2.1 c0.len.2.2
 have f2:inI64 (x1.length:Int):=rngNat o1
 refine Gh rfl rfl rfl (fun v0=>?_) fun v0=>?_
 ·
  replace hm:=ip hm v0
  refine o_z ?_
  refine Ah rfl (Ab (Aa (Am rfl rfl (o_z ?_))))
  refine AF ?_
  obtain rfl:=sm hm
  exact ret1v rfl (AC rfl) ⟨hB.ext,vBool⟩
 replace hm:=im hm v0
 refine o_z ?_
 refine Ae rfl (AI (Ab (Ab (Aa (Aj rfl rfl (AX rfl rfl ?_))))))
 have w0:x0.length≤9223372036854775807:=Nat.le_trans b0.len.2.1 b0.len.2.2
 have g2:inI64 (x0.length:Int):=rngNat w0
 refine Aj rfl rfl (o_z ?_)
 obtain ⟨j0,y0,hm⟩:=bs hm
 refine Ax (aft j0 (fun (o0:Unit) (p0:Unit)=>[]) (fun o0 p0 w'=>∃ O':Lab,Bs w A w' O')) ?_ ?_
 ·
  refine AG (Bk (σ:=Unit) (X:=Unit) (x0.length) y0 rfl w0 (fun (o0:Unit) (p0:Unit)=>[(1,(.slice A6 x1.length c7)),(2,(.func (.func 74) #[] #[])),(15,(.slice A4 x0.length c5))]) _ (fun o0 p0 w'=>∃ O':Lab,Bs w A w' O'∧Vb w' (Fr 0 w' O') (.slice A6 x1.length c7) x1∧Vb w' (Fr 0 w' O') (.slice A4 x0.length c5) x0) _ () ⟨O,hB,c0,b0⟩ ⟨rfl,rfl,rfl,rfl,rfl,trivial⟩ (fun _ _=>⟨rfl,rfl⟩) (fun _ _=>trivial) (fun _ _ _ ⟨O',hB,c0,b0⟩=>⟨O',hB⟩) ⟨rfl,rfl,rfl⟩ ⟨rfl,rfl⟩ ?_)
  rintro p1 d0 o0 p0 h2 q1 k0 ⟨r1,hB,c0,b0⟩ a0 e0 z0
  have rk19:inI64 (p1:Int):=rngK k0 w0
  refine Ab (Aa (Aj rfl rfl ?_))
  obtain ⟨i2,j2,s1,a1,b1,c1,k2,rfl,q0,t1,u1⟩:=b0.elem' k0
  obtain ⟨i1,j1,rfl⟩:=q0.form
  refine Bv (hA:=a1) (hj:=rfl) (hlt:=b1) rfl rfl rfl ?_
  refine Ba (hl:=rfl) (hc:=c1) rfl rfl ?_
  refine Bd 2 r1 rfl fun v1 l2 k1 l0 f0=>?_
  refine Am rfl rfl (AD f0 rfl rfl rfl (AU rfl) (allOne rfl) fun w1 m0 f0=>?_)
  replace f0:Lc 2 w1 k1 v1 32 [(.slice i1 d0.cond.length j1),(.int .i64 d0.var),(.int .i64 d0.val)]:=f0
  refine o_z ?_
  refine Ab (Aa (Aj rfl rfl (Aj rfl rfl ?_)))
  obtain ⟨g0,y1,a0⟩:=bs a0
  replace c0:=(c0.st l0).st m0
  obtain ⟨m2,n2,z1,d1,e1,f1,o2,rfl,r0,a2,b2⟩:=c0.elem' y1
  obtain ⟨l1,m1,rfl⟩:=r0.form
  refine Bv (hA:=d1) (hj:=rfl) (hlt:=e1) rfl rfl rfl ?_
  refine Ba (hl:=rfl) (hc:=f1) rfl rfl ?_
  refine Bd 3 k1 rfl fun c2 p2 s0 h0 n0=>?_
  refine AD n0 rfl rfl rfl (AU rfl) (allOne rfl) fun t0 i0 n0=>?_
  replace n0:Lc 3 t0 s0 c2 32 [(.slice l1 g0.cond.length m1),(.int .i64 g0.var),(.int .i64 g0.val)]:=n0
  refine o_z ?_
  refine Ab (Aa (Aj rfl rfl ?_))
  replace f0:=(f0.st h0).st i0
  refine Ba (hl:=rfl) (hc:=(f0.1).cellsAt) rfl rfl ?_
  refine Ba (hl:=rfl) (hc:=(n0.1).cellsAt) rfl rfl ?_
  obtain ⟨n1,d2,a0⟩:=bs a0
  replace q0:=(((q0.st l0).st m0).st h0).st i0
  replace r0:=(r0.st h0).st i0
  refine LL (O:=s0) (A:=All t0) (R:=fun w' F v=>Vb w' F v n1) (HX (fun _ h=>h) (Vb.mono (F:=Fr 0 t0 s0) (Vb.ofAgg (cs:=[(.slice i1 d0.cond.length j1),(.int .i64 d0.var),(.int .i64 d0.val)]) (x:=d0) rfl ⟨_,rfl,q0,t1,u1⟩) Fr.lt) (Vb.mono (F:=Fr 0 t0 s0) (Vb.ofAgg (cs:=[(.slice l1 g0.cond.length m1),(.int .i64 g0.var),(.int .i64 g0.val)]) (x:=g0) rfl ⟨_,rfl,r0,a2,b2⟩) Fr.lt) d2) rfl rfl rfl fun q2 r2 s2 u0 e2=>?_
  obtain rfl:=e2.bool
  cases n1
  case false =>
   replace a0:=iF a0
   refine CD rfl rfl (o_z ?_)
   refine Ah rfl (Ab (Aa (Am rfl rfl (o_z ?_))))
   refine AF ?_
   obtain rfl:=sm a0
   obtain rfl:=e0 _ rfl
   obtain rfl:=sm (Cq hm)
   replace hB:=((((hB.st l0).st m0).st h0).st i0).st u0
   exact ret1v rfl (AC rfl) ⟨hB.ext,vBool⟩
  replace a0:=iT a0
  refine CC rfl rfl (o_z ?_)
  refine Ae rfl (AI ?_)
  obtain rfl:=sm a0
  exact show Exists _ from ⟨_,(),rfl,⟨rfl,rfl,rfl,rfl,rfl,trivial⟩,_,((((hB.st l0).st m0).st h0).st i0).st u0,((c0.st h0).st i0).st u0,((((b0.st l0).st m0).st h0).st i0).st u0⟩
 rintro t2 u2 ⟨v2,w2,rfl,g1,x2,hB⟩
 replace hm:=AV hm
 refine AE _ g1 ?_
 refine Ab (Aa (Am rfl rfl (o_z ?_)))
 refine AF ?_
 obtain rfl:=sm hm
 exact ret1v rfl (AC rfl) ⟨hB.ext,vBool⟩
noncomputable def Cm (x0:Opr) (x1:Opr):Option Bool :=
  bnd (if x0.cost=x1.cost then (bnd (Bo x0.pre x1.pre) fun q40=>if q40=true then bnd (AW x0.effs x1.effs) fun q47=>if q47=true then some true else some false else some false) else (some false):Option Bool) fun y35=>some y35
theorem GA {w:World} {A:Nat→Prop} (hA:∀ k,A k→k < w.heap.size) {vx0:Value} {x0:Opr} (k0:Vb w A vx0 x0) {vx1:Value} {x1:Opr} (l0:Vb w A vx1 x1) {r:Bool} (hm:Cm x0 x1=some r) :
    Fn Tryz.prog 55 [vx0,vx1] w fun v w'=>Ext w w'∧Vb w' (upA A w w') v r:=by
 obtain ⟨O,hB,q0⟩:=enter hA
 replace k0:=k0.mono q0
 obtain ⟨m1,rfl,v4,v5,rfl,h6,h9,n1,o1⟩:=k0
 obtain ⟨A7,c8,rfl⟩:=h6.form
 obtain ⟨v0,w0,rfl⟩:=h9.form
 replace l0:=l0.mono q0
 obtain ⟨y0,rfl,p1,q1,rfl,g0,h0,r1,s1⟩:=l0
 obtain ⟨z0,a1,rfl⟩:=g0.form
 obtain ⟨b1,c1,rfl⟩:=h0.form
 refine AP Tryz.func55 rfl Tryz.ntmps55 rfl ?_
 unfold Cm at hm
 refine Ab (Aa (BC 2 O rfl rfl fun d1 e1 r0 c0 d0=>?_))
 replace d0:Lc 2 e1 r0 d1 35 [(.string x0.name),(.int .i64 x0.cost),(.slice A7 x0.pre.length c8),(.slice v0 x0.effs.length w0)]:=d0
 refine BC 3 r0 rfl rfl fun f1 i0 j0 b0 e0=>?_
 replace e0:Lc 3 i0 j0 f1 35 [(.string x1.name),(.int .i64 x1.cost),(.slice z0 x1.pre.length a1),(.slice b1 x1.effs.length c1)]:=e0
 refine Am rfl rfl (o_z ?_)
 refine Ab ?_
 obtain ⟨g1,a0,hm⟩:=bs hm
 refine Ax (fun l' w'=>∃ (h1:Unit) (O':Lab),subs l' [(4,(.bool g1))]∧Bs w A w' O') ?_ ?_
 ·
  refine Aa (AS rfl rfl ?_)
  replace d0:=d0.st b0
  refine AJ (hc:=Blk.cell (i:=1) (d0.1) rfl) rfl rfl ?_
  refine AS rfl rfl (AJ (hc:=Blk.cell (i:=1) (e0.1) rfl) rfl rfl ?_)
  refine FK rfl rfl rfl (fun m0=>?_) fun m0=>?_
  ·
   replace a0:=ip a0 m0
   refine Aj rfl rfl (Ar rfl rfl (AS rfl rfl (Ar rfl rfl (AJ (hc:=Blk.cell (i:=2) (d0.1) rfl) rfl rfl ?_))))
   refine Ar rfl rfl (AS rfl rfl (Ar rfl rfl (AJ (hc:=Blk.cell (i:=2) (e0.1) rfl) rfl rfl ?_)))
   refine Ar rfl rfl ?_
   obtain ⟨s0,i1,a0⟩:=bs a0
   replace h6:=(h6.st c0).st b0
   replace g0:=(g0.st c0).st b0
   refine Bf (O:=j0) (A:=All i0) (R:=fun w' F v=>Vb w' F v s0) (Cg (fun _ h=>h) (Vb.mono (F:=Fr 0 i0 j0) h6 Fr.lt) (Vb.mono (F:=Fr 0 i0 j0) g0 Fr.lt) i1) rfl rfl fun t1 n0 o0 f0 j1=>?_
   obtain rfl:=j1.bool
   cases s0
   case false =>
    replace a0:=iF a0
    refine By rfl rfl rfl (Aj rfl rfl (An rfl rfl rfl rfl (An rfl rfl rfl rfl (An rfl rfl rfl rfl (An rfl rfl rfl rfl (An rfl rfl rfl rfl (Bz rfl rfl rfl (Am rfl rfl (o_z ?_)))))))))
    obtain rfl:=sm a0
    exact ⟨(),_,⟨rfl,trivial⟩,((hB.st c0).st b0).st f0⟩
   replace a0:=iT a0
   refine By rfl rfl rfl (Aj rfl rfl (Ar rfl rfl (AS rfl rfl (Ar rfl rfl ?_))))
   replace d0:=d0.st f0
   refine AJ (hc:=Blk.cell (i:=3) (d0.1) rfl) rfl rfl ?_
   refine Ar rfl rfl (AS rfl rfl (Ar rfl rfl ?_))
   replace e0:=e0.st f0
   refine AJ (hc:=Blk.cell (i:=3) (e0.1) rfl) rfl rfl ?_
   refine Ar rfl rfl ?_
   obtain ⟨t0,k1,a0⟩:=bs a0
   replace h9:=((h9.st c0).st b0).st f0
   replace h0:=((h0.st c0).st b0).st f0
   refine Bf (O:=o0) (A:=All n0) (R:=fun w' F v=>Vb w' F v t0) (Cf (fun _ h=>h) (Vb.mono (F:=Fr 0 n0 o0) h9 Fr.lt) (Vb.mono (F:=Fr 0 n0 o0) h0 Fr.lt) k1) rfl rfl fun u1 v1 w1 u0 l1=>?_
   obtain rfl:=l1.bool
   cases t0
   case false =>
    replace a0:=iF a0
    refine By rfl rfl rfl (Am rfl rfl (o_z ?_))
    obtain rfl:=sm a0
    exact ⟨(),_,⟨rfl,trivial⟩,(((hB.st c0).st b0).st f0).st u0⟩
   replace a0:=iT a0
   refine By rfl rfl rfl (Am rfl rfl (o_z ?_))
   obtain rfl:=sm a0
   exact ⟨(),_,⟨rfl,trivial⟩,(((hB.st c0).st b0).st f0).st u0⟩
  replace a0:=im a0 m0
  refine Aj rfl rfl (An rfl rfl rfl rfl (An rfl rfl rfl rfl (An rfl rfl rfl rfl (An rfl rfl rfl rfl (An rfl rfl rfl rfl (Bz rfl rfl rfl (Aj rfl rfl (An rfl rfl rfl rfl (An rfl rfl rfl rfl (An rfl rfl rfl rfl (An rfl rfl rfl rfl (An rfl rfl rfl rfl (Bz rfl rfl rfl (Am rfl rfl ?_))))))))))))))
  refine o_z ?_
  obtain rfl:=sm a0
  exact ⟨(),_,⟨rfl,trivial⟩,(hB.st c0).st b0⟩
 replace hB:=(hB.st c0).st b0
 rintro y1 z1 ⟨h1,a2,p0,hB⟩
 refine AE _ p0 ?_
 refine AF ?_
 obtain rfl:=sm hm
 exact ret1v rfl (AC rfl) ⟨hB.ext,vBool⟩
noncomputable def CV (x0:Int):Option (List Int) :=
  bnd (mkI 8 (0:Int) x0) fun u2=>bnd (rngN (ρ:=(List Int)) (fun (k21:Nat) (s19:(List Int))=>bnd (s19[k21]?) fun a40=>some (.next (s19.set k21 (k21:Int)))) u2.length u2) fun res17=>fin res17 fun (s56:(List Int))=>some s56
theorem Du {w:World} {A:Nat→Prop} (hA:∀ k,A k→k < w.heap.size) {x0:Int} (rx0:inI64 x0) {r:(List Int)} (hm:CV x0=some r) :
    Fn Tryz.prog 25 [(.int .i64 x0)] w fun v w'=>Ext w w'∧Vb w' (upA A w w') v r:=by
 obtain ⟨O,hB,b1⟩:=enter hA
 refine AP Tryz.func25 rfl Tryz.ntmps25 rfl ?_
 unfold CV at hm
 refine Ab (Aa (Am rfl rfl (o_z ?_)))
 refine Ab (Aa (Aj rfl rfl ?_))
 obtain ⟨u2,e3,hm⟩:=bs hm
 obtain ⟨m4,e5,e6,e7,e8⟩:=CL e3
 refine DG 2 (by decide) O (z0:=(0:Int)) rfl rfl rfl rfl rfl e5 (vInt (show inI64 0 from by decide)) e6 e7 rfl fun g9 c1 r0 o0 f0=>?_
 rw [← e8] at f0 ⊢
 refine Am rfl rfl (o_z ?_)
 refine Ab (Ab (Aa (Aj rfl rfl (AX rfl rfl ?_))))
 have h0:u2.length≤9223372036854775807:=Nat.le_trans f0.len.2.1 f0.len.2.2
 have d1:inI64 (u2.length:Int):=rngNat h0
 refine Aj rfl rfl (o_z ?_)
 obtain ⟨d0,i0,hm⟩:=bs hm
 refine Ax (aft d0 (fun (c0:(List Int)) (g0:Unit)=>[(3,(.slice (some ⟨g9,0,none⟩) u2.length m4))]) (fun c0 g0 w'=>∃ O':Lab,Bs w A w' O'∧Rw 2 w' O' 3 (.slice (some ⟨g9,0,none⟩) u2.length m4) c0)) ?_ ?_
 ·
  refine AG ?_
  replace hB:=hB.st o0
  refine Jg (σ:=(List Int)) (X:=Unit) (u2.length) i0 h0 (fun (c0:(List Int)) (g0:Unit)=>[(3,(.slice (some ⟨g9,0,none⟩) u2.length m4))]) _ (fun c0 g0 w'=>∃ O':Lab,Bs w A w' O'∧Rw 2 w' O' 3 (.slice (some ⟨g9,0,none⟩) u2.length m4) c0) _ () ⟨r0,hB,f0⟩ ⟨rfl,rfl,rfl,trivial⟩ (fun _ _=>⟨rfl,rfl⟩) (fun _ _=>⟨rfl,trivial⟩) (fun _ _ _ ⟨O',hB,a0⟩=>⟨O',hB,a0⟩) ⟨rfl,rfl,rfl⟩ ⟨rfl,rfl⟩ ?_
  rintro p0 c0 g0 e1 s0 j0 ⟨f1,hB,a0⟩ b0 k0 l0
  have rk21:inI64 (p0:Int):=rngKN j0 h0
  refine Ab (Aa (Aj rfl rfl (Am rfl rfl (o_z ?_))))
  refine Aa (Aj rfl rfl (Aj rfl rfl (Aj rfl rfl ?_)))
  obtain ⟨g1,q0,b0⟩:=bs b0
  obtain ⟨h1,i1,t0,e0,m0,u0,rfl,j1⟩:=a0.elem q0
  refine Bv (hA:=e0) (hj:=rfl) (hlt:=m0) rfl rfl rfl ?_
  refine EB rfl a0 (a:=(p0:Int)) (vInt rk21) e0 rfl rfl (Aw q0) fun k1 v0 a0=>?_
  refine o_z ?_
  obtain rfl:=sm b0
  exact show Exists _ from ⟨_,(),rfl,⟨rfl,rfl,rfl,trivial⟩,_,hB.st v0,a0⟩
 replace hB:=hB.st o0
 rintro l1 w0 ⟨m1,n1,rfl,n0,o1,hB,a0⟩
 replace hm:=AV hm
 refine AE _ n0 ?_
 refine Ab (Aa (Aj rfl rfl (Am rfl rfl (o_z ?_))))
 refine AF ?_
 obtain ⟨y0,a1,a0⟩:=a0.freeze
 obtain rfl:=sm hm
 replace hB:=hB.st a1
 exact ret1v rfl (AC rfl) ⟨hB.ext,(Vb.mono (F:=Fr 0 w0 y0) a0 hB.out)⟩
noncomputable def CM (x0:List Int) (x1:List Int):Option (List Int) :=
  bnd (mkI 8 (0:Int) (x0.length:Int)) fun u9=>bnd (rng (ρ:=(List Int)) (fun (k28:Nat) (a29:Int) (s26:(List Int))=>bnd (atI x1 a29) fun a51=>bnd (s26[k28]?) fun a63=>some (.next (s26.set k28 a51))) x0 0 u9) fun res24=>fin res24 fun (s79:(List Int))=>some s79
theorem Df {w:World} {A:Nat→Prop} (hA:∀ k,A k→k < w.heap.size) {vx0:Value} {x0:List Int} (a0:Vb w A vx0 x0) {vx1:Value} {x1:List Int} (c0:Vb w A vx1 x1) {r:(List Int)} (hm:CM x0 x1=some r) :
    Fn Tryz.prog 31 [vx0,vx1] w fun v w'=>Ext w w'∧Vb w' (upA A w w') v r:=by
 obtain ⟨O,hB,b1⟩:=enter hA
 replace a0:=a0.mono b1
 obtain ⟨A3,c4,rfl⟩:=a0.form
 replace c0:=c0.mono b1
 obtain ⟨A5,c6,rfl⟩:=c0.form
 refine AP Tryz.func31 rfl Tryz.ntmps31 rfl ?_
 unfold CM at hm
 refine Ab (Aa (Am rfl rfl (o_z ?_)))
 refine Ab (Aa (Aj rfl rfl (AX rfl rfl ?_)))
 have l8:x0.length≤9223372036854775807:=Nat.le_trans a0.len.2.1 a0.len.2.2
 have r7:inI64 (x0.length:Int):=rngNat l8
 obtain ⟨u9,e1,hm⟩:=bs hm
 obtain ⟨i0,f1,g1,h1,i1⟩:=CL e1
 refine DG 2 (by decide) O (z0:=(0:Int)) rfl rfl rfl rfl rfl f1 (vInt (show inI64 0 from by decide)) g1 h1 rfl fun j0 z1 j1 k0 c1=>?_
 rw [← i1] at c1 ⊢
 refine Am rfl rfl (o_z ?_)
 refine Ab (Ab (Aa (Aj rfl rfl (AX rfl rfl ?_))))
 replace a0:=a0.st k0
 have m0:x0.length≤9223372036854775807:=Nat.le_trans a0.len.2.1 a0.len.2.2
 have a2:inI64 (x0.length:Int):=rngNat m0
 refine Aj rfl rfl (o_z ?_)
 obtain ⟨f0,n0,hm⟩:=bs hm
 refine Ax (aft f0 (fun (e0:(List Int)) (l0:Unit)=>[(5,(.slice (some ⟨j0,0,none⟩) u9.length i0))]) (fun e0 l0 w'=>∃ O':Lab,Bs w A w' O'∧Rw 2 w' O' 3 (.slice (some ⟨j0,0,none⟩) u9.length i0) e0)) ?_ ?_
 ·
  refine AG ?_
  replace hB:=hB.st k0
  replace c0:=c0.st k0
  refine Bk (σ:=(List Int)) (X:=Unit) (x0.length) n0 rfl m0 (fun (e0:(List Int)) (l0:Unit)=>[(1,(.slice A5 x1.length c6)),(5,(.slice (some ⟨j0,0,none⟩) u9.length i0)),(11,(.slice A3 x0.length c4))]) _ (fun e0 l0 w'=>∃ O':Lab,Bs w A w' O'∧Vb w' (Fr 0 w' O') (.slice A5 x1.length c6) x1∧Rw 2 w' O' 3 (.slice (some ⟨j0,0,none⟩) u9.length i0) e0∧Vb w' (Fr 0 w' O') (.slice A3 x0.length c4) x0) _ () ⟨j1,hB,c0,c1,a0⟩ ⟨rfl,rfl,rfl,rfl,rfl,trivial⟩ (fun _ _=>⟨rfl,rfl⟩) (fun _ _=>⟨rfl,trivial⟩) (fun _ _ _ ⟨O',hB,c0,d0,a0⟩=>⟨O',hB,d0⟩) ⟨rfl,rfl,rfl⟩ ⟨rfl,rfl⟩ ?_
  rintro k1 b2 e0 l0 c2 l1 g0 ⟨d2,hB,c0,d0,a0⟩ b0 o0 p0
  have rk28:inI64 (k1:Int):=rngK g0 m0
  refine Ab (Aa (Aj rfl rfl ?_))
  obtain ⟨e2,f2,m1,q0,r0,s0,rfl,g2⟩:=a0.elem' g0
  refine Bv (hA:=q0) (hj:=rfl) (hlt:=r0) rfl rfl rfl ?_
  refine AJ (hc:=cat0 s0) rfl rfl ?_
  refine Am rfl rfl (Am rfl rfl (o_z ?_))
  refine Aa (Aj rfl rfl (Aj rfl rfl (Aj rfl rfl (Aj rfl rfl ?_))))
  obtain ⟨n1,o1,b0⟩:=bs b0
  obtain ⟨p1,q1⟩:=AO o1
  obtain ⟨h2,i2,r1,t0,u0,v0,rfl,s1⟩:=c0.elem' q1
  refine Bv (hA:=t0) (hj:=(Int.toNat_of_nonneg p1).symm) (hlt:=u0) rfl rfl rfl ?_
  refine AJ (hc:=cat0 v0) rfl rfl ?_
  obtain ⟨j2,d1,b0⟩:=bs b0
  obtain ⟨k2,l2,t1,h0,w0,u1,rfl,m2⟩:=d0.elem d1
  refine Bv (hA:=h0) (hj:=rfl) (hlt:=w0) rfl rfl rfl ?_
  refine EB rfl d0 (a:=n1) (vInt s1) h0 rfl rfl (Aw d1) fun n2 y0 d0=>?_
  refine o_z ?_
  obtain rfl:=sm b0
  exact show Exists _ from ⟨_,(),rfl,⟨rfl,rfl,rfl,rfl,rfl,trivial⟩,_,hB.st y0,c0.st y0,d0,a0.st y0⟩
 replace hB:=hB.st k0
 rintro o2 v1 ⟨p2,q2,rfl,a1,r2,hB,d0⟩
 replace hm:=AV hm
 refine AE _ a1 ?_
 refine Ab (Aa (Aj rfl rfl (Am rfl rfl (o_z ?_))))
 refine AF ?_
 obtain ⟨w1,y1,d0⟩:=d0.freeze
 obtain rfl:=sm hm
 replace hB:=hB.st y1
 exact ret1v rfl (AC rfl) ⟨hB.ext,(Vb.mono (F:=Fr 0 v1 w1) d0 hB.out)⟩
noncomputable def DJ (x0:List Fct) (x1:List Fct):Option Bool :=
  if (x0.length:Int)≠(x1.length:Int) then (some false) else (bnd (rng (ρ:=Bool) (fun (k18:Nat) (a19:Fct) (s16:Unit)=>bnd (x1[k18]?) fun a38=>if ¬ (a19.var=a38.var∧a19.val=a38.val) then (some (.ret false)) else (some (.next ()))) x0 0 ()) fun res14=>fin res14 fun (s54:Unit)=>some true)
theorem GB {w:World} {A:Nat→Prop} (hA:∀ k,A k→k < w.heap.size) {vx0:Value} {x0:List Fct} (b0:Vb w A vx0 x0) {vx1:Value} {x1:List Fct} (c0:Vb w A vx1 x1) {r:Bool} (hm:DJ x0 x1=some r) :
    Fn Tryz.prog 29 [vx0,vx1] w fun v w'=>Ext w w'∧Vb w' (upA A w w') v r:=by
 obtain ⟨O,hB,u0⟩:=enter hA
 replace b0:=b0.mono u0
 obtain ⟨A3,c4,rfl⟩:=b0.form
 replace c0:=c0.mono u0
 obtain ⟨A5,c6,rfl⟩:=c0.form
 refine AP Tryz.func29 rfl Tryz.ntmps29 rfl ?_
 unfold DJ at hm
 refine Ab (Aa (Am rfl rfl (o_z ?_)))
 refine Ab (Ab (Aa (Aj rfl rfl (AX rfl rfl ?_))))
 have l8:x0.length≤9223372036854775807:=Nat.le_trans b0.len.2.1 b0.len.2.2
 have r7:inI64 (x0.length:Int):=rngNat l8
 refine Aj rfl rfl (AX rfl rfl ?_)
 have v0:x1.length≤9223372036854775807:=Nat.le_trans c0.len.2.1 c0.len.2.2
 have r9:inI64 (x1.length:Int):=rngNat v0
 refine Gh rfl rfl rfl (fun i0=>?_) fun i0=>?_
 ·
  replace hm:=ip hm i0
  refine o_z ?_
  refine Ah rfl (Ab (Aa (Am rfl rfl (o_z ?_))))
  refine AF ?_
  obtain rfl:=sm hm
  exact ret1v rfl (AC rfl) ⟨hB.ext,vBool⟩
 replace hm:=im hm i0
 refine o_z ?_
 refine Ae rfl (AI (Ab (Ab (Aa (Aj rfl rfl (AX rfl rfl ?_))))))
 have j0:x0.length≤9223372036854775807:=Nat.le_trans b0.len.2.1 b0.len.2.2
 have d1:inI64 (x0.length:Int):=rngNat j0
 refine Aj rfl rfl (o_z ?_)
 obtain ⟨e0,k0,hm⟩:=bs hm
 refine Ax (aft e0 (fun (g0:Unit) (h0:Unit)=>[]) (fun g0 h0 w'=>∃ O':Lab,Bs w A w' O')) ?_ ?_
 ·
  refine AG (Bk (σ:=Unit) (X:=Unit) (x0.length) k0 rfl j0 (fun (g0:Unit) (h0:Unit)=>[(0,(.slice A3 x0.length c4)),(1,(.slice A5 x1.length c6))]) _ (fun g0 h0 w'=>∃ O':Lab,Bs w A w' O'∧Vb w' (Fr 0 w' O') (.slice A3 x0.length c4) x0∧Vb w' (Fr 0 w' O') (.slice A5 x1.length c6) x1) _ () ⟨O,hB,b0,c0⟩ ⟨rfl,rfl,rfl,rfl,trivial⟩ (fun _ _=>⟨rfl,rfl⟩) (fun _ _=>trivial) (fun _ _ _ ⟨O',hB,b0,c0⟩=>⟨O',hB⟩) ⟨rfl,rfl,rfl⟩ ⟨rfl,rfl⟩ ?_)
  rintro w0 e1 g0 h0 y0 z0 f0 ⟨f1,hB,b0,c0⟩ a0 d0 l0
  have rk18:inI64 (w0:Int):=rngK f0 j0
  refine Ab (Aa (Aj rfl rfl (Am rfl rfl (o_z ?_))))
  refine Ab (Dx (·=y0) [(0,true),(1,true),(2,true),(3,true),(4,true),(5,true),(6,true),(7,true),(8,true)] (by kernel_rfl) rfl (by kernel_rfl) rfl ?_)
  refine AH rfl rfl rfl (AH rfl rfl rfl ?_)
  obtain ⟨g1,h1,a1,m0,n0,o0,rfl,i1,j1⟩:=b0.elem' f0
  refine Bl (hA:=m0) (hj:=rfl) (hlt:=n0) rfl rfl rfl rfl ?_
  refine Lt (hl:=rfl) (hc:=o0) rfl rfl rfl ?_
  refine AH rfl rfl rfl (AH rfl rfl rfl ?_)
  obtain ⟨k1,b1,a0⟩:=bs a0
  obtain ⟨l1,m1,c1,p0,q0,r0,rfl,n1,o1⟩:=c0.elem' b1
  refine Bl (hA:=p0) (hj:=rfl) (hlt:=q0) rfl rfl rfl rfl ?_
  refine Lt (hl:=rfl) (hc:=r0) rfl rfl rfl ?_
  refine Qm rfl rfl rfl rfl (fun s0=>?_) fun s0=>?_
  ·
   replace a0:=ip a0 s0
   refine h_z ?_
   refine Ah rfl (Ab (Aa (Am rfl rfl (o_z ?_))))
   refine AF ?_
   obtain rfl:=sm a0
   obtain rfl:=d0 _ rfl
   obtain rfl:=sm (Cq hm)
   exact ret1v rfl (AC rfl) ⟨hB.ext,vBool⟩
  replace a0:=im a0 s0
  refine h_z ?_
  refine Ae rfl (AI ?_)
  obtain rfl:=sm a0
  exact show Exists _ from ⟨_,(),rfl,⟨rfl,rfl,rfl,rfl,trivial⟩,_,hB,b0,c0⟩
 rintro p1 q1 ⟨r1,s1,rfl,t0,t1,hB⟩
 replace hm:=AV hm
 refine AE _ t0 ?_
 refine Ab (Aa (Am rfl rfl (o_z ?_)))
 refine AF ?_
 obtain rfl:=sm hm
 exact ret1v rfl (AC rfl) ⟨hB.ext,vBool⟩
noncomputable def DR (x0:List Fct) (x1:Int):Option Int :=
  bnd (rng (ρ:=Int) (fun (k11:Nat) (a12:Fct) (s9:Unit)=>if a12.var=x1 then (some (.ret a12.val)) else (some (.next ()))) x0 0 ()) fun res7=>fin res7 fun (s43:Unit)=>some (-1)
theorem Lp {w:World} {A:Nat→Prop} (hA:∀ k,A k→k < w.heap.size) {vx0:Value} {x0:List Fct} (b0:Vb w A vx0 x0) {x1:Int} (rx1:inI64 x1) {r:Int} (hm:DR x0 x1=some r) :
    Fn Tryz.prog 75 [vx0,(.int .i64 x1)] w fun v w'=>Ext w w'∧Vb w' (upA A w w') v r:=by
 obtain ⟨O,hB,q0⟩:=enter hA
 replace b0:=b0.mono q0
 obtain ⟨A3,c4,rfl⟩:=b0.form
 refine AP Tryz.func75 rfl Tryz.ntmps75 rfl ?_
 unfold DR at hm
 refine Ab (Aa (Am rfl rfl (o_z ?_)))
 refine Ab (Ab (Aa (Aj rfl rfl (AX rfl rfl ?_))))
 have l6:x0.length≤9223372036854775807:=Nat.le_trans b0.len.2.1 b0.len.2.2
 have r5:inI64 (x0.length:Int):=rngNat l6
 refine Aj rfl rfl (o_z ?_)
 obtain ⟨g0,r0,hm⟩:=bs hm
 refine Ax (aft g0 (fun (s9:Unit) (f0:Unit)=>[]) (fun s9 f0 w'=>∃ O':Lab,Bs w A w' O')) ?_ ?_
 ·
  refine AG (Bk (σ:=Unit) (X:=Unit) (x0.length) r0 rfl l6 (fun (s9:Unit) (f0:Unit)=>[(1,(.int .i64 x1)),(7,(.slice A3 x0.length c4))]) _ (fun s9 f0 w'=>∃ O':Lab,Bs w A w' O'∧Vb w' (Fr 0 w' O') (.slice A3 x0.length c4) x0) _ () ⟨O,hB,b0⟩ ⟨rfl,rfl,rfl,rfl,trivial⟩ (fun _ _=>⟨rfl,rfl⟩) (fun _ _=>trivial) (fun _ _ _ ⟨O',hB,b0⟩=>⟨O',hB⟩) ⟨rfl,rfl,rfl⟩ ⟨rfl,rfl⟩ ?_)
  rintro s0 p0 s9 f0 b1 t0 e0 ⟨u0,hB,b0⟩ a0 c0 h0
  have rk11:inI64 (s0:Int):=rngK e0 l6
  refine Ab (Aa ?_)
  obtain ⟨c1,d1,v0,i0,j0,k0,rfl,e1,w0⟩:=b0.elem' e0
  refine Bv (hA:=i0) (hj:=rfl) (hlt:=j0) rfl rfl rfl ?_
  refine Ba (hl:=rfl) (hc:=k0) rfl rfl ?_
  refine Bd 2 u0 rfl fun y0 f1 z0 l0 d0=>?_
  refine AD d0 rfl rfl rfl (AU rfl) (allOne rfl) fun a1 m0 d0=>?_
  replace d0:Lc 2 a1 z0 y0 26 [(.int .i64 p0.var),(.int .i64 p0.val)]:=d0
  refine o_z ?_
  refine Ab (Aa (AS rfl rfl (AJ (hc:=Blk.cell (i:=0) (d0.1) rfl) rfl rfl ?_)))
  refine Aj rfl rfl (FK rfl rfl rfl (fun n0=>?_) fun n0=>?_)
  ·
   replace a0:=ip a0 n0
   refine o_z ?_
   refine Ah rfl (Ab (Aa (AS rfl rfl (AJ (hc:=Blk.cell (i:=1) (d0.1) rfl) rfl rfl ?_))))
   refine Am rfl rfl (o_z ?_)
   refine AF ?_
   obtain rfl:=sm a0
   obtain rfl:=c0 _ rfl
   obtain rfl:=sm (Cq hm)
   replace hB:=(hB.st l0).st m0
   exact ret1v rfl (AC rfl) ⟨hB.ext,(vInt w0)⟩
  replace a0:=im a0 n0
  refine o_z ?_
  refine Ae rfl (AI ?_)
  obtain rfl:=sm a0
  exact show Exists _ from ⟨_,(),rfl,⟨rfl,rfl,rfl,rfl,trivial⟩,_,(hB.st l0).st m0,(b0.st l0).st m0⟩
 rintro g1 h1 ⟨i1,j1,rfl,o0,k1,hB⟩
 replace hm:=AV hm
 refine AE _ o0 ?_
 refine Ab (Aa (Am rfl rfl (o_z ?_)))
 refine AF ?_
 obtain rfl:=sm hm
 exact ret1v rfl (AC rfl) ⟨hB.ext,(vInt (show inI64 (-1) from by decide))⟩
noncomputable def Ei (x0:List Fct) (x1:Fct):Option (List Fct) :=
  bnd (rng (ρ:=(List Fct)) (fun (k19:Nat) (a20:Fct) (s17:(List Fct)×Bool)=>bnd (bnd (if (!s17.2)=true then (if x1.var < a20.var then (some true) else (some false)) else (some false):Option Bool) fun y56=>if y56=true then (bnd (appI 16 s17.1 [x1]) fun u67=>some (u67,true)) else (some (s17.1,s17.2)):Option ((List Fct)×Bool)) fun y50=>bnd (appI 16 y50.1 [a20]) fun u83=>some (.next (u83,y50.2))) x0 0 (([]:List Fct),false)) fun res15=>fin res15 fun (s99:(List Fct)×Bool)=>bnd (if (!s99.2)=true then (bnd (appI 16 s99.1 [x1]) fun u108=>some u108) else (some s99.1):Option (List Fct)) fun y101=>some y101
theorem LR {w:World} {A:Nat→Prop} (hA:∀ k,A k→k < w.heap.size) {vx0:Value} {x0:List Fct} (c0:Vb w A vx0 x0) {vx1:Value} {x1:Fct} (d1:Vb w A vx1 x1) {r:(List Fct)} (hm:Ei x0 x1=some r) :
    Fn Tryz.prog 76 [vx0,vx1] w fun v w'=>Ext w w'∧Vb w' (upA A w w') v r:=by
 obtain ⟨O,hB,e2⟩:=enter hA
 replace c0:=c0.mono e2
 obtain ⟨A3,c4,rfl⟩:=c0.form
 replace d1:=d1.mono e2
 obtain ⟨g3,rfl,rfl,r6,r7⟩:=d1
 refine AP Tryz.func76 rfl Tryz.ntmps76 rfl ?_
 unfold Ei at hm
 refine Ab (Aa (BC 2 O rfl rfl fun g8 w9 f2 e1 b0=>?_))
 replace b0:Lc 2 w9 f2 g8 26 [(.int .i64 x1.var),(.int .i64 x1.val)]:=b0
 refine Am rfl rfl (o_z ?_)
 refine Ab (Aa (Am rfl rfl (o_z ?_)))
 refine Ab (Aa (Am rfl rfl (o_z ?_)))
 refine Ab (Ab (Aa (Aj rfl rfl (AX rfl rfl ?_))))
 replace c0:=c0.st e1
 have f1:x0.length≤9223372036854775807:=Nat.le_trans c0.len.2.1 c0.len.2.2
 have h3:inI64 (x0.length:Int):=rngNat f1
 refine Aj rfl rfl (o_z ?_)
 obtain ⟨s0,g1,hm⟩:=bs hm
 refine Ax (aft s0 (fun (i0:(List Fct)×Bool) (f0:(Option Addr×Nat))=>[(3,(.pointer (some ⟨g8,0,none⟩))),(5,(.slice f0.1 i0.1.length f0.2)),(6,(.bool i0.2))]) (fun i0 f0 w'=>∃ O':Lab,Bs w A w' O'∧Lc 2 w' O' g8 26 [(.int .i64 x1.var),(.int .i64 x1.val)]∧Rw 4 w' O' 26 (.slice f0.1 i0.1.length f0.2) i0.1)) ?_ ?_
 ·
  refine AG ?_
  replace hB:=hB.st e1
  refine Bk (σ:=(List Fct)×Bool) (X:=(Option Addr×Nat)) (x0.length) g1 rfl f1 (fun (i0:(List Fct)×Bool) (f0:(Option Addr×Nat))=>[(3,(.pointer (some ⟨g8,0,none⟩))),(5,(.slice f0.1 i0.1.length f0.2)),(6,(.bool i0.2)),(9,(.slice A3 x0.length c4))]) _ (fun i0 f0 w'=>∃ O':Lab,Bs w A w' O'∧Lc 2 w' O' g8 26 [(.int .i64 x1.var),(.int .i64 x1.val)]∧Rw 4 w' O' 26 (.slice f0.1 i0.1.length f0.2) i0.1∧Vb w' (Fr 0 w' O') (.slice A3 x0.length c4) x0) _ (none,0) ⟨f2,hB,b0,(Rw.nil 4 (by decide)),c0⟩ ⟨rfl,rfl,rfl,rfl,rfl,rfl,trivial⟩ (fun _ _=>⟨rfl,rfl⟩) (fun _ _=>⟨rfl,rfl,rfl,trivial⟩) (fun _ _ _ ⟨O',hB,b0,j0,c0⟩=>⟨O',hB,b0,j0⟩) ⟨rfl,rfl,rfl⟩ ⟨rfl,rfl⟩ ?_
  rintro h1 n0 i0 f0 i3 i2 t0 ⟨j2,hB,b0,j0,c0⟩ l0 i1 j1
  have rk19:inI64 (h1:Int):=rngK t0 f1
  refine Ab (Aa ?_)
  obtain ⟨j3,k3,k2,k1,l1,m1,rfl,l2,m2⟩:=c0.elem' t0
  refine Bv (hA:=k1) (hj:=rfl) (hlt:=l1) rfl rfl rfl ?_
  refine Ba (hl:=rfl) (hc:=m1) rfl rfl ?_
  refine Bd 3 j2 rfl fun u0 l3 n2 g0 k0=>?_
  refine AD k0 rfl rfl rfl (AU rfl) (allOne rfl) fun o2 h0 k0=>?_
  replace k0:Lc 3 o2 n2 u0 26 [(.int .i64 n0.var),(.int .i64 n0.val)]:=k0
  refine o_z ?_
  refine Ab ?_
  obtain ⟨b1,e0,l0⟩:=bs l0
  refine Ax (fun l' w'=>∃ (v0:(Option Addr×Nat)) (O':Lab),subs l' [(3,(.pointer (some ⟨g8,0,none⟩))),(5,(.slice v0.1 b1.1.length v0.2)),(6,(.bool b1.2)),(8,(.pointer (some ⟨u0,0,none⟩))),(9,(.slice A3 x0.length c4)),(10,(.int .i64 (x0.length:Int))),(11,(.int .i64 (h1:Int)))]∧Bs w A w' O'∧Lc 2 w' O' g8 26 [(.int .i64 x1.var),(.int .i64 x1.val)]∧Rw 4 w' O' 26 (.slice v0.1 b1.1.length v0.2) b1.1∧Lc 3 w' O' u0 26 [(.int .i64 n0.var),(.int .i64 n0.val)]∧Vb w' (Fr 0 w' O') (.slice A3 x0.length c4) x0) ?_ ?_
  ·
   refine Ab ?_
   obtain ⟨p2,d0,e0⟩:=bs e0
   refine Ax (fun l' w'=>∃ (q2:Unit) (O':Lab),subs l' [(3,(.pointer (some ⟨g8,0,none⟩))),(5,(.slice f0.1 i0.1.length f0.2)),(6,(.bool i0.2)),(8,(.pointer (some ⟨u0,0,none⟩))),(9,(.slice A3 x0.length c4)),(10,(.int .i64 (x0.length:Int))),(11,(.int .i64 (h1:Int))),(23,(.bool p2))]∧Bs w A w' O'∧Lc 2 w' O' g8 26 [(.int .i64 x1.var),(.int .i64 x1.val)]∧Rw 4 w' O' 26 (.slice f0.1 i0.1.length f0.2) i0.1∧Lc 3 w' O' u0 26 [(.int .i64 n0.var),(.int .i64 n0.val)]∧Vb w' (Fr 0 w' O') (.slice A3 x0.length c4) x0) ?_ ?_
   ·
    refine Aa (Aj rfl rfl (CU rfl rfl (Aj rfl rfl ?_)))
    rcases Bool.eq_false_or_eq_true (!i0.2) with w0|w0
    ·
     try simp only [w0]
     replace d0:=ip d0 w0
     refine Ar rfl rfl (AS rfl rfl (Ar rfl rfl (AJ (hc:=Blk.cell (i:=0) (k0.1) rfl) rfl rfl ?_)))
     refine Ar rfl rfl (AS rfl rfl (Ar rfl rfl ?_))
     replace b0:=(b0.st g0).st h0
     refine AJ (hc:=Blk.cell (i:=0) (b0.1) rfl) rfl rfl ?_
     refine Ar rfl rfl (CS rfl rfl rfl (fun n1=>?_) fun n1=>?_)
     ·
      replace d0:=ip d0 n1
      refine By rfl rfl rfl (o_z ?_)
      obtain rfl:=sm d0
      exact ⟨(),_,⟨rfl,rfl,rfl,rfl,rfl,rfl,rfl,rfl,trivial⟩,(hB.st g0).st h0,b0,(j0.st g0).st h0,k0,(c0.st g0).st h0⟩
     replace d0:=im d0 n1
     refine By rfl rfl rfl (o_z ?_)
     obtain rfl:=sm d0
     exact ⟨(),_,⟨rfl,rfl,rfl,rfl,rfl,rfl,rfl,rfl,trivial⟩,(hB.st g0).st h0,b0,(j0.st g0).st h0,k0,(c0.st g0).st h0⟩
    try simp only [w0]
    replace d0:=im' d0 w0
    refine An rfl rfl rfl rfl (An rfl rfl rfl rfl (An rfl rfl rfl rfl (An rfl rfl rfl rfl (An rfl rfl rfl rfl (Bz rfl rfl rfl (o_z ?_))))))
    obtain rfl:=sm d0
    exact ⟨(),_,⟨rfl,rfl,rfl,rfl,rfl,rfl,rfl,rfl,trivial⟩,(hB.st g0).st h0,(b0.st g0).st h0,(j0.st g0).st h0,k0,(c0.st g0).st h0⟩
   replace c0:=(c0.st g0).st h0
   replace hB:=(hB.st g0).st h0
   replace b0:=(b0.st g0).st h0
   replace j0:=(j0.st g0).st h0
   rintro m3 n3 ⟨q2,o3,o1,hB,b0,j0,k0,c0⟩
   refine AE _ o1 ?_
   refine Bp rfl (fun p1=>?_) (fun p1=>?_)
   ·
    replace e0:=ip e0 p1
    refine Ab (Aa (Aj rfl rfl (Ba (hl:=rfl) (hc:=(b0.1).cellsAt) rfl rfl ?_)))
    obtain ⟨p3,q1,e0⟩:=bs e0
    obtain ⟨q1,r2,s2⟩:=AT q1
    refine CF rfl (a:=x1) j0 (Vb.ofAgg (cs:=[(.int .i64 x1.var),(.int .i64 x1.val)]) (x:=x1) rfl ⟨rfl,r6,r7⟩) (fun _=>rfl) rfl (by decide) (by decide) r2 s2 ⟨rfl,rfl⟩ fun q3 t2 u2 r3 s3 c1 g2=>?_
    rw [← q1] at g2 ⊢
    refine Am rfl rfl (o_z ?_)
    refine Aa (Am rfl rfl (o_z ?_))
    obtain rfl:=sm e0
    exact ⟨(t2,u2),_,⟨rfl,rfl,rfl,rfl,rfl,rfl,rfl,trivial⟩,hB.st c1,b0.st c1,g2,k0.st c1,c0.st c1⟩
   replace e0:=im' e0 p1
   refine AI ?_
   obtain rfl:=sm e0
   exact ⟨(f0.1,f0.2),_,⟨rfl,rfl,rfl,rfl,rfl,rfl,rfl,trivial⟩,hB,b0,j0,k0,c0⟩
  replace c0:=(c0.st g0).st h0
  replace hB:=(hB.st g0).st h0
  replace b0:=(b0.st g0).st h0
  rintro t3 u3 ⟨v0,v3,r1,hB,b0,v2,k0,c0⟩
  refine AE _ r1 ?_
  refine Aa (Aj rfl rfl (Ba (hl:=rfl) (hc:=(k0.1).cellsAt) rfl rfl ?_))
  obtain ⟨w3,s1,l0⟩:=bs l0
  obtain ⟨s1,w2,x2⟩:=AT s1
  refine CF rfl (a:=n0) v2 (Vb.ofAgg (cs:=[(.int .i64 n0.var),(.int .i64 n0.val)]) (x:=n0) rfl ⟨rfl,l2,m2⟩) (fun _=>rfl) rfl (by decide) (by decide) w2 x2 ⟨rfl,rfl⟩ fun x3 y2 z2 y3 z3 t1 h2=>?_
  rw [← s1] at h2 ⊢
  refine Am rfl rfl (o_z ?_)
  obtain rfl:=sm l0
  exact show Exists _ from ⟨_,(y2,z2),rfl,⟨rfl,rfl,rfl,rfl,rfl,rfl,trivial⟩,_,hB.st t1,b0.st t1,h2,c0.st t1⟩
 replace hB:=hB.st e1
 rintro a4 b4 ⟨d4,y0,rfl,u1,e4,hB,b0,j0⟩
 replace hm:=AV hm
 refine AE _ u1 ?_
 refine Ab ?_
 obtain ⟨o0,a0,hm⟩:=bs hm
 refine Ax (fun l' w'=>∃ (m0:(Option Addr×Nat)) (O':Lab),subs l' [(5,(.slice m0.1 o0.length m0.2))]∧Bs w A w' O'∧Rw 4 w' O' 26 (.slice m0.1 o0.length m0.2) o0) ?_ ?_
 ·
  refine Ab (Aa (Aj rfl rfl (CU rfl rfl (o_z ?_))))
  refine Bp rfl (fun p0=>?_) (fun p0=>?_)
  ·
   replace a0:=ip a0 p0
   refine Aa (Aj rfl rfl (Ba (hl:=rfl) (hc:=(b0.1).cellsAt) rfl rfl ?_))
   obtain ⟨a3,q0,a0⟩:=bs a0
   obtain ⟨q0,v1,w1⟩:=AT q0
   refine CF rfl (a:=x1) j0 (Vb.ofAgg (cs:=[(.int .i64 x1.var),(.int .i64 x1.val)]) (x:=x1) rfl ⟨rfl,r6,r7⟩) (fun _=>rfl) rfl (by decide) (by decide) v1 w1 ⟨rfl,rfl⟩ fun b3 y1 z1 c3 d3 a2 z0=>?_
   rw [← q0] at z0 ⊢
   refine Am rfl rfl (o_z ?_)
   obtain rfl:=sm a0
   exact ⟨(y1,z1),_,⟨rfl,trivial⟩,hB.st a2,z0⟩
  replace a0:=im' a0 p0
  refine AI ?_
  obtain rfl:=sm a0
  exact ⟨(y0.1,y0.2),_,⟨rfl,trivial⟩,hB,j0⟩
 rintro e3 b2 ⟨m0,f3,a1,hB,r0⟩
 refine AE _ a1 ?_
 refine Ab (Aa (Aj rfl rfl (Am rfl rfl (o_z ?_))))
 refine AF ?_
 obtain ⟨c2,d2,r0⟩:=r0.freeze
 obtain rfl:=sm hm
 replace hB:=hB.st d2
 exact ret1v rfl (AC rfl) ⟨hB.ext,(Vb.mono (F:=Fr 0 b2 c2) r0 hB.out)⟩
noncomputable def EJ (x0:List Fct):Option ((List Fct)×Int) :=
  bnd (rng (ρ:=(List Fct)×Int) (fun (k10:Nat) (a11:Fct) (s8:Unit)=>bnd (if a11.var < 0 then (some true) else (if a11.val < 0 then (some true) else (some false)):Option Bool) fun y37=>if y37=true then (some (.ret (([]:List Fct),1))) else (some (.next ()))) x0 0 ()) fun res6=>fin res6 fun (s52:Unit)=>bnd (rng (ρ:=(List Fct)×Int) (fun (k60:Nat) (a61:Fct) (s58:(List Fct))=>bnd (DR s58 a61.var) fun q89=>bnd (if 0≤q89 then (if q89≠a61.val then (some true) else (some false)) else (some false):Option Bool) fun y97=>if y97=true then (some (.ret (([]:List Fct),2))) else (if q89 < 0 then (bnd (Ei s58 a61) fun q109=>some (.next q109)) else (some (.next s58)))) x0 0 ([]:List Fct)) fun res56=>fin res56 fun (s122:(List Fct))=>some (s122,0)
theorem LS {w:World} {A:Nat→Prop} (hA:∀ k,A k→k < w.heap.size) {vx0:Value} {x0:List Fct} (b0:Vb w A vx0 x0) {r:(List Fct)×Int} (hm:EJ x0=some r) :
    Fn Tryz.prog 58 [vx0] w fun v w'=>Ext w w'∧T2 w' (upA A w w') v r:=by
 obtain ⟨O,hB,l2⟩:=enter hA
 replace b0:=b0.mono l2
 obtain ⟨A2,c3,rfl⟩:=b0.form
 refine AP Tryz.func58 rfl Tryz.ntmps58 rfl ?_
 unfold EJ at hm
 refine Ab (Aa (Am rfl rfl (Am rfl rfl (o_z ?_))))
 refine Ab (Ab (Aa (Aj rfl rfl (AX rfl rfl ?_))))
 have l5:x0.length≤9223372036854775807:=Nat.le_trans b0.len.2.1 b0.len.2.2
 have r4:inI64 (x0.length:Int):=rngNat l5
 refine Aj rfl rfl (o_z ?_)
 obtain ⟨f1,m2,hm⟩:=bs hm
 refine Ax (aft f1 (fun (s8:Unit) (x9:Unit)=>[(0,(.slice A2 x0.length c3))]) (fun s8 x9 w'=>∃ O':Lab,Bs w A w' O'∧Vb w' (Fr 0 w' O') (.slice A2 x0.length c3) x0)) ?_ ?_
 ·
  refine AG (Bk (σ:=Unit) (X:=Unit) (x0.length) m2 rfl l5 (fun (s8:Unit) (x9:Unit)=>[(0,(.slice A2 x0.length c3)),(10,(.slice A2 x0.length c3))]) _ (fun s8 x9 w'=>∃ O':Lab,Bs w A w' O'∧Vb w' (Fr 0 w' O') (.slice A2 x0.length c3) x0) _ () ⟨O,hB,b0⟩ ⟨rfl,rfl,rfl,rfl,trivial⟩ (fun _ _=>⟨rfl,rfl⟩) (fun _ _=>⟨rfl,trivial⟩) (fun _ _ _ ⟨O',hB,b0⟩=>⟨O',hB,b0⟩) ⟨rfl,rfl,rfl⟩ ⟨rfl,rfl⟩ ?_)
  rintro g2 h2 s8 x9 n3 n2 w0 ⟨o2,hB,b0⟩ f0 o0 g1
  have rk10:inI64 (g2:Int):=rngK w0 l5
  refine Ab (Aa ?_)
  obtain ⟨o3,p3,p2,h1,i1,j1,rfl,q3,r3⟩:=b0.elem' w0
  refine Bv (hA:=h1) (hj:=rfl) (hlt:=i1) rfl rfl rfl ?_
  refine Ba (hl:=rfl) (hc:=j1) rfl rfl ?_
  refine Bd 2 o2 rfl fun q2 s3 r2 m0 v0=>?_
  refine AD v0 rfl rfl rfl (AU rfl) (allOne rfl) fun s2 n0 v0=>?_
  replace v0:Lc 2 s2 r2 q2 26 [(.int .i64 h2.var),(.int .i64 h2.val)]:=v0
  refine o_z ?_
  refine Ab ?_
  obtain ⟨t2,c0,f0⟩:=bs f0
  refine Ax (fun l' w'=>∃ (u2:Unit) (O':Lab),subs l' [(0,(.slice A2 x0.length c3)),(10,(.slice A2 x0.length c3)),(11,(.int .i64 (x0.length:Int))),(12,(.int .i64 (g2:Int))),(23,(.bool t2))]∧Bs w A w' O'∧Vb w' (Fr 0 w' O') (.slice A2 x0.length c3) x0) ?_ ?_
  ·
   refine Aa (AS rfl rfl (AJ (hc:=Blk.cell (i:=0) (v0.1) rfl) rfl rfl ?_))
   refine Dj rfl rfl rfl (fun k1=>?_) fun k1=>?_
   ·
    replace c0:=ip c0 k1
    refine Aj rfl rfl (An rfl rfl rfl rfl (An rfl rfl rfl rfl (An rfl rfl rfl rfl (By rfl rfl rfl (o_z ?_)))))
    obtain rfl:=sm c0
    exact ⟨(),_,⟨rfl,rfl,rfl,rfl,rfl,trivial⟩,(hB.st m0).st n0,(b0.st m0).st n0⟩
   replace c0:=im c0 k1
   refine Aj rfl rfl (Ar rfl rfl (AS rfl rfl (Ar rfl rfl (AJ (hc:=Blk.cell (i:=1) (v0.1) rfl) rfl rfl ?_))))
   refine Ar rfl rfl (Dj rfl rfl rfl (fun l1=>?_) fun l1=>?_)
   ·
    replace c0:=ip c0 l1
    refine Bz rfl rfl rfl (o_z ?_)
    obtain rfl:=sm c0
    exact ⟨(),_,⟨rfl,rfl,rfl,rfl,rfl,trivial⟩,(hB.st m0).st n0,(b0.st m0).st n0⟩
   replace c0:=im c0 l1
   refine Bz rfl rfl rfl (o_z ?_)
   obtain rfl:=sm c0
   exact ⟨(),_,⟨rfl,rfl,rfl,rfl,rfl,trivial⟩,(hB.st m0).st n0,(b0.st m0).st n0⟩
  replace b0:=(b0.st m0).st n0
  replace hB:=(hB.st m0).st n0
  rintro t3 v2 ⟨u2,w2,m1,hB,b0⟩
  refine AE _ m1 ?_
  refine Bp rfl (fun n1=>?_) (fun n1=>?_)
  ·
   replace f0:=ip f0 n1
   refine Ab (Aa (Am rfl rfl (Am rfl rfl (o_z ?_))))
   refine AF ?_
   obtain rfl:=sm f0
   obtain rfl:=o0 _ rfl
   obtain rfl:=sm (Cq hm)
   exact ret2 rfl (AC rfl) (AC rfl) ⟨hB.ext,_,_,rfl,(Vb.mono (F:=Fr 0 v2 w2) (Vb.nil _ _) hB.out),(vInt (show inI64 (1) from by decide))⟩
  replace f0:=im' f0 n1
  refine AI ?_
  obtain rfl:=sm f0
  exact show Exists _ from ⟨_,(),rfl,⟨rfl,rfl,rfl,rfl,trivial⟩,_,hB,b0⟩
 rintro u3 v3 ⟨w3,x3,rfl,o1,x2,hB,b0⟩
 replace hm:=AV hm
 refine AE _ o1 ?_
 refine Ab (Aa (Am rfl rfl (o_z ?_)))
 refine Ab (Ab (Aa (Aj rfl rfl (AX rfl rfl ?_))))
 have p1:x0.length≤9223372036854775807:=Nat.le_trans b0.len.2.1 b0.len.2.2
 have y3:inI64 (x0.length:Int):=rngNat p1
 refine Aj rfl rfl (o_z ?_)
 obtain ⟨y0,q1,hm⟩:=bs hm
 refine Ax (aft y0 (fun (j0:(List Fct)) (e0:(Option Addr×Nat))=>[(6,(.slice e0.1 j0.length e0.2))]) (fun j0 e0 w'=>∃ O':Lab,Bs w A w' O'∧Vb w' (Fr 0 w' O') (.slice e0.1 j0.length e0.2) j0)) ?_ ?_
 ·
  refine AG (Bk (σ:=(List Fct)) (X:=(Option Addr×Nat)) (x0.length) q1 rfl p1 (fun (j0:(List Fct)) (e0:(Option Addr×Nat))=>[(6,(.slice e0.1 j0.length e0.2)),(25,(.slice A2 x0.length c3))]) _ (fun j0 e0 w'=>∃ O':Lab,Bs w A w' O'∧Vb w' (Fr 0 w' O') (.slice e0.1 j0.length e0.2) j0∧Vb w' (Fr 0 w' O') (.slice A2 x0.length c3) x0) _ (none,0) ⟨x2,hB,(Vb.nil _ _),b0⟩ ⟨rfl,rfl,rfl,rfl,trivial⟩ (fun _ _=>⟨rfl,rfl⟩) (fun _ _=>⟨rfl,trivial⟩) (fun _ _ _ ⟨O',hB,g0,b0⟩=>⟨O',hB,g0⟩) ⟨rfl,rfl,rfl⟩ ⟨rfl,rfl⟩ ?_)
  rintro i2 p0 j0 e0 z3 y2 z0 ⟨z2,hB,g0,b0⟩ a0 q0 r1
  have rk60:inI64 (i2:Int):=rngK z0 p1
  refine Ab (Aa ?_)
  obtain ⟨a4,b4,a3,s1,t1,u1,rfl,j2,b3⟩:=b0.elem' z0
  refine Bv (hA:=s1) (hj:=rfl) (hlt:=t1) rfl rfl rfl ?_
  refine Ba (hl:=rfl) (hc:=u1) rfl rfl ?_
  refine Bd 3 z2 rfl fun v1 c4 w1 k0 h0=>?_
  refine AD h0 rfl rfl rfl (AU rfl) (allOne rfl) fun x1 l0 h0=>?_
  replace h0:Lc 3 x1 w1 v1 26 [(.int .i64 p0.var),(.int .i64 p0.val)]:=h0
  refine o_z ?_
  refine Ab (Aa (Aj rfl rfl (AS rfl rfl (AJ (hc:=Blk.cell (i:=0) (h0.1) rfl) rfl rfl ?_))))
  obtain ⟨k2,d3,a0⟩:=bs a0
  replace g0:=(g0.st k0).st l0
  refine Bf (O:=w1) (A:=All x1) (R:=fun w' F v=>Vb w' F v k2) (Lp (fun _ h=>h) (Vb.mono (F:=Fr 0 x1 w1) g0 Fr.lt) j2 d3) rfl rfl fun d4 e4 f4 i0 e3=>?_
  obtain ⟨rfl,g4⟩:=e3.int
  refine Am rfl rfl (o_z ?_)
  refine Ab (Ab ?_)
  obtain ⟨f3,d0,a0⟩:=bs a0
  refine Ax (fun l' w'=>∃ (y1:Unit) (O':Lab),subs l' [(6,(.slice e0.1 j0.length e0.2)),(8,(.pointer (some ⟨v1,0,none⟩))),(9,(.int .i64 k2)),(25,(.slice A2 x0.length c3)),(26,(.int .i64 (x0.length:Int))),(27,(.int .i64 (i2:Int))),(42,(.bool f3))]∧Bs w A w' O'∧Vb w' (Fr 0 w' O') (.slice e0.1 j0.length e0.2) j0∧Lc 3 w' O' v1 26 [(.int .i64 p0.var),(.int .i64 p0.val)]∧Vb w' (Fr 0 w' O') (.slice A2 x0.length c3) x0) ?_ ?_
  ·
   refine Aa (Aj rfl rfl (IA rfl rfl rfl (fun r0=>?_) fun r0=>?_))
   ·
    replace d0:=ip d0 r0
    refine Aj rfl rfl (Ar rfl rfl (Aj rfl rfl (Ar rfl rfl (AS rfl rfl (Ar rfl rfl ?_)))))
    replace h0:=h0.st i0
    refine AJ (hc:=Blk.cell (i:=1) (h0.1) rfl) rfl rfl ?_
    refine Ar rfl rfl (Gh rfl rfl rfl (fun s0=>?_) fun s0=>?_)
    ·
     replace d0:=ip d0 s0
     refine By rfl rfl rfl (o_z ?_)
     obtain rfl:=sm d0
     exact ⟨(),_,⟨rfl,rfl,rfl,rfl,rfl,rfl,rfl,trivial⟩,((hB.st k0).st l0).st i0,g0.st i0,h0,((b0.st k0).st l0).st i0⟩
    replace d0:=im d0 s0
    refine By rfl rfl rfl (o_z ?_)
    obtain rfl:=sm d0
    exact ⟨(),_,⟨rfl,rfl,rfl,rfl,rfl,rfl,rfl,trivial⟩,((hB.st k0).st l0).st i0,g0.st i0,h0,((b0.st k0).st l0).st i0⟩
   replace d0:=im d0 r0
   refine Aj rfl rfl (An rfl rfl rfl rfl (An rfl rfl rfl rfl (An rfl rfl rfl rfl (An rfl rfl rfl rfl (Bz rfl rfl rfl (o_z ?_))))))
   obtain rfl:=sm d0
   exact ⟨(),_,⟨rfl,rfl,rfl,rfl,rfl,rfl,rfl,trivial⟩,((hB.st k0).st l0).st i0,g0.st i0,h0.st i0,((b0.st k0).st l0).st i0⟩
  replace hB:=((hB.st k0).st l0).st i0
  replace b0:=((b0.st k0).st l0).st i0
  replace g0:=g0.st i0
  replace h0:=h0.st i0
  rintro g3 z1 ⟨y1,a1,b1,hB,g0,h0,b0⟩
  refine AE _ b1 ?_
  refine Bp rfl (fun t0=>?_) (fun t0=>?_)
  ·
   replace a0:=ip a0 t0
   refine Ab (Aa (Am rfl rfl (Am rfl rfl (o_z ?_))))
   refine AF ?_
   obtain rfl:=sm a0
   obtain rfl:=q0 _ rfl
   obtain rfl:=sm (Cq hm)
   exact ret2 rfl (AC rfl) (AC rfl) ⟨hB.ext,_,_,rfl,(Vb.mono (F:=Fr 0 z1 a1) (Vb.nil _ _) hB.out),(vInt (show inI64 (2) from by decide))⟩
  replace a0:=im' a0 t0
  refine AI (Ab (Aa (Aj rfl rfl (Dj rfl rfl rfl (fun u0=>?_) fun u0=>?_))))
  ·
   replace a0:=ip a0 u0
   refine o_z ?_
   refine Ah rfl (Aa (Aj rfl rfl (Ba (hl:=rfl) (hc:=(h0.1).cellsAt) rfl rfl ?_)))
   obtain ⟨a2,b2,a0⟩:=bs a0
   refine BQ (O:=a1) (R:=fun w' F v=>Vb w' F v a2) (LR Fr.lt g0 (Vb.ofAgg (cs:=[(.int .i64 p0.var),(.int .i64 p0.val)]) (x:=p0) rfl ⟨rfl,j2,b3⟩) b2) rfl rfl fun h3 i3 j3 c1 d1=>?_
   obtain ⟨c2,d2,rfl⟩:=d1.form
   refine Am rfl rfl (o_z ?_)
   obtain rfl:=sm a0
   exact show Exists _ from ⟨_,(c2,d2),rfl,⟨rfl,rfl,rfl,rfl,trivial⟩,_,hB.st c1,d1,b0.st c1⟩
  replace a0:=im a0 u0
  refine o_z ?_
  refine Ae rfl (AI ?_)
  obtain rfl:=sm a0
  exact show Exists _ from ⟨_,(e0.1,e0.2),rfl,⟨rfl,rfl,rfl,rfl,trivial⟩,_,hB,g0,b0⟩
 rintro k3 e2 ⟨l3,m3,rfl,e1,f2,hB,g0⟩
 replace hm:=AV hm
 refine AE _ e1 ?_
 refine Ab (Aa (Aj rfl rfl (Am rfl rfl (Am rfl rfl (o_z ?_)))))
 refine AF ?_
 obtain rfl:=sm hm
 exact ret2 rfl (AC rfl) (AC rfl) ⟨hB.ext,_,_,rfl,(Vb.mono (F:=Fr 0 e2 f2) g0 hB.out),(vInt (show inI64 (0) from by decide))⟩
noncomputable def Ej (x0:Swp) (x1:Fct):Option Fct :=
  bnd (atI x0.vars x1.var) fun a34=>bnd (atI x0.vals x1.var) fun a46=>bnd (atI a46 x1.val) fun a61=>some (⟨a34,a61⟩:Fct)
theorem Ii {w:World} {A:Nat→Prop} (hA:∀ k,A k→k < w.heap.size) {vx0:Value} {x0:Swp} (j0:Vb w A vx0 x0) {vx1:Value} {x1:Fct} (k0:Vb w A vx1 x1) {r:Fct} (hm:Ej x0 x1=some r) :
    Fn Tryz.prog 57 [vx0,vx1] w fun v w'=>Ext w w'∧Vb w' (upA A w w') v r:=by
 obtain ⟨O,hB,z0⟩:=enter hA
 replace j0:=j0.mono z0
 obtain ⟨f2,rfl,v4,v5,v6,rfl,h7,e0,d1⟩:=j0
 obtain ⟨A8,c9,rfl⟩:=h7.form
 obtain ⟨e1,f1,rfl⟩:=e0.form
 obtain ⟨g1,h1,rfl⟩:=d1.form
 replace k0:=k0.mono z0
 obtain ⟨i1,rfl,rfl,g2,h2⟩:=k0
 refine AP Tryz.func57 rfl Tryz.ntmps57 rfl ?_
 unfold Ej at hm
 refine Ab (Aa (BC 2 O rfl rfl fun j1 k1 a1 l0 b0=>?_))
 replace b0:Lc 2 k1 a1 j1 43 [(.slice A8 x0.vars.length c9),(.slice e1 x0.vals.length f1),(.slice g1 x0.ops.length h1)]:=b0
 refine BC 3 a1 rfl rfl fun l1 m1 b1 f0 a0=>?_
 replace a0:Lc 3 m1 b1 l1 26 [(.int .i64 x1.var),(.int .i64 x1.val)]:=a0
 refine Bd 4 b1 rfl fun n1 i2 c1 c0 d0=>?_
 refine o_z ?_
 refine Ab (Bc [] c1 ?_)
 refine Az (fuel:=1) [] [(0,true),(1,true),(2,true),(3,true),(4,true),(5,true),(6,true),(7,true),(8,true),(9,true),(10,true),(11,true),(12,true),(13,true),(14,true),(15,true),(16,true)] (by kernel_rfl) rfl ?_
 refine AM rfl rfl rfl ?_
 replace b0:=(b0.st f0).st c0
 refine AK (hc:=fun w' ⟨O',hq⟩=>Blk.cell (i:=0) ((b0.st hq (by decide)).1) rfl) rfl rfl rfl ?_
 refine AM rfl rfl rfl ?_
 replace a0:=a0.st c0
 refine AK (hc:=fun w' ⟨O',hq⟩=>Blk.cell (i:=0) ((a0.st hq (by decide)).1) rfl) rfl rfl rfl ?_
 obtain ⟨g0,o1,hm⟩:=bs hm
 obtain ⟨p1,q1⟩:=AO o1
 replace h7:=((h7.st l0).st f0).st c0
 obtain ⟨j2,k2,r1,m0,n0,o0,p0,rfl,s1⟩:=h7.elem q1
 refine Bl (hA:=m0) (hj:=(Int.toNat_of_nonneg p1).symm) (hlt:=o0) rfl rfl rfl rfl ?_
 refine AK (hc:=fun w' ⟨O',hq⟩=>cat0 (AL (hq.agree (i:=0) (by decide)) n0 p0)) rfl rfl rfl ?_
 refine AM rfl rfl rfl (AK (hc:=fun w' ⟨O',hq⟩=>Blk.cell (i:=1) ((b0.st hq (by decide)).1) rfl) rfl rfl rfl ?_)
 refine AM rfl rfl rfl (AK (hc:=fun w' ⟨O',hq⟩=>Blk.cell (i:=0) ((a0.st hq (by decide)).1) rfl) rfl rfl rfl ?_)
 obtain ⟨l2,t1,hm⟩:=bs hm
 obtain ⟨u1,v1⟩:=AO t1
 replace e0:=((e0.st l0).st f0).st c0
 obtain ⟨m2,n2,w1,q0,r0,s0,t0,o2,rfl,h0⟩:=e0.elem v1
 replace h0:=Vb.of_slice h0
 obtain ⟨p2,q2,rfl⟩:=h0.form
 refine Bl (hA:=q0) (hj:=(Int.toNat_of_nonneg u1).symm) (hlt:=s0) rfl rfl rfl rfl ?_
 refine AK (hc:=fun w' ⟨O',hq⟩=>cat0 (AL (hq.agree (i:=0) (by decide)) r0 t0)) rfl rfl rfl ?_
 refine AM rfl rfl rfl (AK (hc:=fun w' ⟨O',hq⟩=>Blk.cell (i:=1) ((a0.st hq (by decide)).1) rfl) rfl rfl rfl ?_)
 obtain ⟨i0,y1,hm⟩:=bs hm
 obtain ⟨z1,a2⟩:=AO y1
 obtain ⟨r2,s2,b2,u0,v0,w0,y0,rfl,c2⟩:=h0.elem a2
 refine Bl (hA:=u0) (hj:=(Int.toNat_of_nonneg z1).symm) (hlt:=w0) rfl rfl rfl rfl ?_
 refine AK (hc:=fun w' ⟨O',hq⟩=>cat0 (AL (hq.agree (i:=0) (by decide)) v0 y0)) rfl rfl rfl ?_
 refine Ft rfl rfl rfl rfl ?_
 refine As ?_
 refine Au (i:=17) (by kernel_rfl) rfl ?_
 refine AD d0 rfl rfl rfl (AU rfl) (allOne rfl) fun d2 e2 d0=>?_
 replace d0:Lc 4 d2 c1 n1 26 [(.int .i64 g0),(.int .i64 i0)]:=d0
 refine BK (by kernel_rfl) ?_
 refine AZ (by kernel_rfl) ?_
 refine AF ?_
 obtain rfl:=sm hm
 replace hB:=(((hB.st l0).st f0).st c0).st e2
 exact ret1v rfl (CK (cs:=[(.int .i64 g0),(.int .i64 i0)]) rfl rfl d0.1.cellsAt) ⟨hB.ext,(Vb.ofAgg (cs:=[(.int .i64 g0),(.int .i64 i0)]) (x:=(⟨g0,i0⟩:Fct)) rfl ⟨rfl,s1,c2⟩)⟩
noncomputable def CI (x0:Swp) (x1:List Fct):Option (List Fct) :=
  bnd (rng (ρ:=(List Fct)) (fun (k29:Nat) (a30:Fct) (s27:(List Fct))=>bnd (Ej x0 a30) fun q60=>bnd (appI 16 s27 [q60]) fun u70=>some (.next u70)) x1 0 ([]:List Fct)) fun res25=>fin res25 fun (s86:(List Fct))=>bnd (EJ s86) fun q90=>some q90.1
theorem Gc {w:World} {A:Nat→Prop} (hA:∀ k,A k→k < w.heap.size) {vx0:Value} {x0:Swp} (z0:Vb w A vx0 x0) {vx1:Value} {x1:List Fct} (a0:Vb w A vx1 x1) {r:(List Fct)} (hm:CI x0 x1=some r) :
    Fn Tryz.prog 30 [vx0,vx1] w fun v w'=>Ext w w'∧Vb w' (upA A w w') v r:=by
 obtain ⟨O,hB,l1⟩:=enter hA
 replace z0:=z0.mono l1
 obtain ⟨u2,rfl,v4,v5,v6,rfl,h7,d0,e0⟩:=z0
 obtain ⟨A8,c9,rfl⟩:=h7.form
 obtain ⟨s0,t0,rfl⟩:=d0.form
 obtain ⟨u0,v0,rfl⟩:=e0.form
 replace a0:=a0.mono l1
 obtain ⟨m1,n1,rfl⟩:=a0.form
 refine AP Tryz.func30 rfl Tryz.ntmps30 rfl ?_
 unfold CI at hm
 refine Ab (Aa (BC 2 O rfl rfl fun a1 r1 o1 l0 g0=>?_))
 replace g0:Lc 2 r1 o1 a1 43 [(.slice A8 x0.vars.length c9),(.slice s0 x0.vals.length t0),(.slice u0 x0.ops.length v0)]:=g0
 refine Am rfl rfl (o_z ?_)
 refine Ab (Aa (Am rfl rfl (o_z ?_)))
 refine Ab (Ab (Aa (Aj rfl rfl (AX rfl rfl ?_))))
 replace a0:=a0.st l0
 have b1:x1.length≤9223372036854775807:=Nat.le_trans a0.len.2.1 a0.len.2.2
 have v2:inI64 (x1.length:Int):=rngNat b1
 refine Aj rfl rfl (o_z ?_)
 obtain ⟨n0,c1,hm⟩:=bs hm
 refine Ax (aft n0 (fun (f0:(List Fct)) (b0:(Option Addr×Nat))=>[(5,(.slice b0.1 f0.length b0.2))]) (fun f0 b0 w'=>∃ O':Lab,Bs w A w' O'∧Rw 4 w' O' 26 (.slice b0.1 f0.length b0.2) f0)) ?_ ?_
 ·
  refine AG ?_
  replace hB:=hB.st l0
  replace h7:=h7.st l0
  replace d0:=d0.st l0
  replace e0:=e0.st l0
  refine Bk (σ:=(List Fct)) (X:=(Option Addr×Nat)) (x1.length) c1 rfl b1 (fun (f0:(List Fct)) (b0:(Option Addr×Nat))=>[(2,(.pointer (some ⟨a1,0,none⟩))),(5,(.slice b0.1 f0.length b0.2)),(10,(.slice m1 x1.length n1))]) _ (fun f0 b0 w'=>∃ O':Lab,Bs w A w' O'∧Lc 2 w' O' a1 43 [(.slice A8 x0.vars.length c9),(.slice s0 x0.vals.length t0),(.slice u0 x0.ops.length v0)]∧Vb w' (Fr 0 w' O') (.slice A8 x0.vars.length c9) x0.vars∧Vb w' (Fr 0 w' O') (.slice s0 x0.vals.length t0) x0.vals∧Vb w' (Fr 0 w' O') (.slice u0 x0.ops.length v0) x0.ops∧Rw 4 w' O' 26 (.slice b0.1 f0.length b0.2) f0∧Vb w' (Fr 0 w' O') (.slice m1 x1.length n1) x1) _ (none,0) ⟨o1,hB,g0,h7,d0,e0,(Rw.nil 4 (by decide)),a0⟩ ⟨rfl,rfl,rfl,rfl,rfl,trivial⟩ (fun _ _=>⟨rfl,rfl⟩) (fun _ _=>⟨rfl,trivial⟩) (fun _ _ _ ⟨O',hB,g0,h7,d0,e0,h0,a0⟩=>⟨O',hB,h0⟩) ⟨rfl,rfl,rfl⟩ ⟨rfl,rfl⟩ ?_
  rintro s1 o0 f0 b0 w2 t1 p0 ⟨u1,hB,g0,h7,d0,e0,h0,a0⟩ c0 d1 e1
  have rk29:inI64 (s1:Int):=rngK p0 b1
  refine Ab (Aa ?_)
  obtain ⟨x2,y2,v1,f1,g1,h1,rfl,w1,y1⟩:=a0.elem' p0
  refine Bv (hA:=f1) (hj:=rfl) (hlt:=g1) rfl rfl rfl ?_
  refine Ba (hl:=rfl) (hc:=h1) rfl rfl ?_
  refine Bd 3 u1 rfl fun z1 z2 w0 i0 q0=>?_
  refine AD q0 rfl rfl rfl (AU rfl) (allOne rfl) fun y0 j0 q0=>?_
  replace q0:Lc 3 y0 w0 z1 26 [(.int .i64 o0.var),(.int .i64 o0.val)]:=q0
  refine o_z ?_
  refine Aa (Aj rfl rfl ?_)
  replace g0:=(g0.st i0).st j0
  refine Ba (hl:=rfl) (hc:=(g0.1).cellsAt) rfl rfl ?_
  refine Ba (hl:=rfl) (hc:=(q0.1).cellsAt) rfl rfl ?_
  obtain ⟨r0,a2,c0⟩:=bs c0
  replace h7:=(h7.st i0).st j0
  replace d0:=(d0.st i0).st j0
  replace e0:=(e0.st i0).st j0
  refine Bf (O:=w0) (A:=All y0) (R:=fun w' F v=>Vb w' F v r0) (Ii (fun _ h=>h) (Vb.mono (F:=Fr 0 y0 w0) (Vb.ofAgg (cs:=[(.slice A8 x0.vars.length c9),(.slice s0 x0.vals.length t0),(.slice u0 x0.ops.length v0)]) (x:=x0) rfl ⟨_,_,_,rfl,h7,d0,e0⟩) Fr.lt) (Vb.mono (F:=Fr 0 y0 w0) (Vb.ofAgg (cs:=[(.int .i64 o0.var),(.int .i64 o0.val)]) (x:=o0) rfl ⟨rfl,w1,y1⟩) Fr.lt) a2) rfl rfl fun a3 b3 c3 k0 b2=>?_
  obtain ⟨c2,rfl,rfl,d2,e2⟩:=b2
  obtain ⟨d3,i1,c0⟩:=bs c0
  obtain ⟨i1,f2,g2⟩:=AT i1
  replace h0:=((h0.st i0).st j0).st k0
  refine CF rfl (a:=r0) h0 (Vb.ofAgg (cs:=[(.int .i64 r0.var),(.int .i64 r0.val)]) (x:=r0) rfl ⟨rfl,d2,e2⟩) (fun _=>rfl) rfl (by decide) (by decide) f2 g2 ⟨rfl,rfl⟩ fun e3 h2 i2 f3 g3 m0 p1=>?_
  rw [← i1] at p1 ⊢
  refine Am rfl rfl (o_z ?_)
  obtain rfl:=sm c0
  exact show Exists _ from ⟨_,(h2,i2),rfl,⟨rfl,rfl,rfl,rfl,rfl,trivial⟩,_,(((hB.st i0).st j0).st k0).st m0,(g0.st k0).st m0,(h7.st k0).st m0,(d0.st k0).st m0,(e0.st k0).st m0,p1,(((a0.st i0).st j0).st k0).st m0⟩
 replace hB:=hB.st l0
 rintro h3 i3 ⟨j3,k3,rfl,j1,l3,hB,h0⟩
 replace hm:=AV hm
 refine AE _ j1 ?_
 refine Ab (Aa (Aj rfl rfl ?_))
 obtain ⟨j2,k2,h0⟩:=h0.freeze
 obtain ⟨l2,m2,hm⟩:=bs hm
 refine BQ (O:=j2) (R:=fun w' F v=>T2 w' F v l2) (LS Fr.lt h0 m2) rfl rfl fun m3 n2 o2 p2 q2=>?_
 obtain ⟨n3,o3,rfl,q1,k1⟩:=q2
 obtain ⟨r2,s2,rfl⟩:=q1.form
 obtain ⟨rfl,t2⟩:=k1.int
 refine Aj rfl rfl (DN rfl rfl rfl (DN rfl rfl rfl (Am rfl rfl (Am rfl rfl (o_z ?_)))))
 refine Ab (Aa (Aj rfl rfl (Am rfl rfl (o_z ?_))))
 refine AF ?_
 obtain rfl:=sm hm
 replace hB:=(hB.st k2).st p2
 exact ret1v rfl (AC rfl) ⟨hB.ext,(Vb.mono (F:=Fr 0 n2 o2) q1 hB.out)⟩
noncomputable def CW (x0:Swp) (x1:Opr) (x2:Opr):Option Bool :=
  bnd (if x1.cost≠x2.cost then (some true) else (if (x1.effs.length:Int)≠(x2.effs.length:Int) then (some true) else (bnd (CI x0 x1.pre) fun q64=>bnd (DJ q64 x2.pre) fun q73=>if q73=true then some false else some true)):Option Bool) fun y54=>if y54=true then (some false) else (bnd (rng (ρ:=Bool) (fun (k91:Nat) (a92:Eff) (s89:Unit)=>bnd (Ej x0 (⟨a92.var,a92.val⟩:Fct)) fun q122=>bnd (bnd (x2.effs[k91]?) fun a143=>if q122.var≠a143.var then (some true) else (bnd (x2.effs[k91]?) fun a159=>if q122.val≠a159.val then (some true) else (bnd (x2.effs[k91]?) fun a175=>bnd (CI x0 a92.cond) fun q190=>bnd (DJ q190 a175.cond) fun q199=>if q199=true then some false else some true)):Option Bool) fun y139=>if y139=true then (some (.ret false)) else (some (.next ()))) x1.effs 0 ()) fun res87=>fin res87 fun (s215:Unit)=>some true)
theorem LT {w:World} {A:Nat→Prop} (hA:∀ k,A k→k < w.heap.size) {vx0:Value} {x0:Swp} (a3:Vb w A vx0 x0) {vx1:Value} {x1:Opr} (b3:Vb w A vx1 x1) {vx2:Value} {x2:Opr} (c3:Vb w A vx2 x2) {r:Bool} (hm:CW x0 x1 x2=some r) :
    Fn Tryz.prog 28 [vx0,vx1,vx2] w fun v w'=>Ext w w'∧Vb w' (upA A w w') v r:=by
 obtain ⟨O,hB,d3⟩:=enter hA
 replace a3:=a3.mono d3
 obtain ⟨j7,rfl,v5,v6,v7,rfl,h8,n0,o0⟩:=a3
 obtain ⟨A9,b1,rfl⟩:=h8.form
 obtain ⟨c1,d1,rfl⟩:=n0.form
 obtain ⟨e1,f1,rfl⟩:=o0.form
 replace b3:=b3.mono d3
 obtain ⟨w4,rfl,k7,l7,rfl,a1,q0,m7,n7⟩:=b3
 obtain ⟨e3,f3,rfl⟩:=a1.form
 obtain ⟨k1,l1,rfl⟩:=q0.form
 replace c3:=c3.mono d3
 obtain ⟨x4,rfl,o7,p7,rfl,t0,p0,q7,r7⟩:=c3
 obtain ⟨m1,n1,rfl⟩:=t0.form
 obtain ⟨o1,p1,rfl⟩:=p0.form
 refine AP Tryz.func28 rfl Tryz.ntmps28 rfl ?_
 unfold CW at hm
 refine Ab (Aa (BC 2 O rfl rfl fun q1 y4 m4 l0 m0=>?_))
 replace m0:Lc 2 y4 m4 q1 43 [(.slice A9 x0.vars.length b1),(.slice c1 x0.vals.length d1),(.slice e1 x0.ops.length f1)]:=m0
 refine BC 3 m4 rfl rfl fun g3 z4 n4 k0 y0=>?_
 replace y0:Lc 3 z4 n4 g3 35 [(.string x1.name),(.int .i64 x1.cost),(.slice e3 x1.pre.length f3),(.slice k1 x1.effs.length l1)]:=y0
 refine BC 4 n4 rfl rfl fun r1 a5 h3 j0 r0=>?_
 replace r0:Lc 4 a5 h3 r1 35 [(.string x2.name),(.int .i64 x2.cost),(.slice m1 x2.pre.length n1),(.slice o1 x2.effs.length p1)]:=r0
 refine Am rfl rfl (o_z ?_)
 refine Ab (Ab ?_)
 obtain ⟨b5,g0,hm⟩:=bs hm
 refine Ax (fun l' w'=>∃ (c5:Unit) (O':Lab),subs l' [(3,(.pointer (some ⟨q1,0,none⟩))),(4,(.pointer (some ⟨g3,0,none⟩))),(5,(.pointer (some ⟨r1,0,none⟩))),(33,(.bool b5))]∧Bs w A w' O'∧Lc 2 w' O' q1 43 [(.slice A9 x0.vars.length b1),(.slice c1 x0.vals.length d1),(.slice e1 x0.ops.length f1)]∧Vb w' (Fr 0 w' O') (.slice A9 x0.vars.length b1) x0.vars∧Vb w' (Fr 0 w' O') (.slice c1 x0.vals.length d1) x0.vals∧Vb w' (Fr 0 w' O') (.slice e1 x0.ops.length f1) x0.ops∧Lc 3 w' O' g3 35 [(.string x1.name),(.int .i64 x1.cost),(.slice e3 x1.pre.length f3),(.slice k1 x1.effs.length l1)]∧Vb w' (Fr 0 w' O') (.slice e3 x1.pre.length f3) x1.pre∧Vb w' (Fr 0 w' O') (.slice k1 x1.effs.length l1) x1.effs∧Lc 4 w' O' r1 35 [(.string x2.name),(.int .i64 x2.cost),(.slice m1 x2.pre.length n1),(.slice o1 x2.effs.length p1)]∧Vb w' (Fr 0 w' O') (.slice m1 x2.pre.length n1) x2.pre∧Vb w' (Fr 0 w' O') (.slice o1 x2.effs.length p1) x2.effs) ?_ ?_
 ·
  refine Bc [] h3 ?_
  refine Az (fuel:=4) [] [(0,true),(1,true),(2,true),(3,true),(4,true),(5,true),(6,true),(7,true),(8,true),(9,true),(10,true),(11,true),(12,true),(13,true),(14,true),(15,true),(16,true),(17,true),(19,true),(20,true)] (by kernel_rfl) rfl ?_
  refine AM rfl rfl rfl ?_
  replace y0:=y0.st j0
  refine AK (hc:=fun w' ⟨O',hq⟩=>Blk.cell (i:=1) ((y0.st hq (by decide)).1) rfl) rfl rfl rfl ?_
  refine AM rfl rfl rfl (AK (hc:=fun w' ⟨O',hq⟩=>Blk.cell (i:=1) ((r0.st hq (by decide)).1) rfl) rfl rfl rfl ?_)
  refine Lw rfl rfl rfl rfl (fun i3=>?_) fun i3=>?_
  ·
   replace g0:=ip g0 i3
   refine AH rfl rfl rfl (AB rfl rfl rfl rfl rfl (AB rfl rfl rfl rfl rfl (AB rfl rfl rfl rfl rfl (AB rfl rfl rfl rfl rfl (AB rfl rfl rfl rfl rfl (AB rfl rfl rfl rfl rfl (AB rfl rfl rfl rfl rfl (Ce rfl rfl rfl rfl (AH rfl rfl rfl (AB rfl rfl rfl rfl rfl (AB rfl rfl rfl rfl rfl (AB rfl rfl rfl rfl rfl (AB rfl rfl rfl rfl rfl (AB rfl rfl rfl rfl rfl ?_))))))))))))))
   refine As ?_
   refine Au (i:=18) (by kernel_rfl) rfl ?_
   refine An rfl rfl rfl rfl (Ay [] ((St.refl nT _ _).lst [] (fun _ h=>h.elim)) (by kernel_rfl) ?_)
   refine Au (i:=21) (by kernel_rfl) rfl ?_
   refine An rfl rfl rfl rfl (Ay [] ((St.refl nT _ _).lst [] (fun _ h=>h.elim)) (by kernel_rfl) ?_)
   refine Az (fuel:=0) [] [(22,true),(23,true)] (by kernel_rfl) rfl ?_
   refine AB rfl rfl rfl rfl rfl (Ce rfl rfl rfl rfl (As ?_))
   refine AZ (by kernel_rfl) ?_
   obtain rfl:=sm g0
   exact ⟨(),_,⟨rfl,rfl,rfl,rfl,trivial⟩,((hB.st l0).st k0).st j0,(m0.st k0).st j0,((h8.st l0).st k0).st j0,((n0.st l0).st k0).st j0,((o0.st l0).st k0).st j0,y0,((a1.st l0).st k0).st j0,((q0.st l0).st k0).st j0,r0,((t0.st l0).st k0).st j0,((p0.st l0).st k0).st j0⟩
  replace g0:=im g0 i3
  refine AH rfl rfl rfl (Al rfl (Ak rfl rfl (BD rfl rfl (Al rfl (Ak rfl rfl (Da (hc:=fun w' ⟨O',hq⟩=>Blk.cell (i:=3) ((y0.st hq (by decide)).1) rfl) rfl rfl ?_))))))
  refine Al rfl (Ak rfl rfl (Ie rfl rfl ?_))
  replace q0:=((q0.st l0).st k0).st j0
  have d5:x1.effs.length≤9223372036854775807:=Nat.le_trans q0.len.2.1 q0.len.2.2
  have s7:inI64 (x1.effs.length:Int):=rngNat d5
  refine Al rfl (Ak rfl rfl (BD rfl rfl (Al rfl (Ak rfl rfl (Da (hc:=fun w' ⟨O',hq⟩=>Blk.cell (i:=3) ((r0.st hq (by decide)).1) rfl) rfl rfl ?_)))))
  refine Al rfl (Ak rfl rfl (Ie rfl rfl ?_))
  replace p0:=((p0.st l0).st k0).st j0
  have e5:x2.effs.length≤9223372036854775807:=Nat.le_trans p0.len.2.1 p0.len.2.2
  have t7:inI64 (x2.effs.length:Int):=rngNat e5
  refine Al rfl (Ak rfl rfl (Bn (fun _ _=>GP rfl rfl) rfl (fun j3=>?_) (fun j3=>?_)))
  ·
   replace g0:=ip g0 j3
   refine Cb rfl rfl rfl rfl (AH rfl rfl rfl (AB rfl rfl rfl rfl rfl (AB rfl rfl rfl rfl rfl (AB rfl rfl rfl rfl rfl (AB rfl rfl rfl rfl rfl (AB rfl rfl rfl rfl rfl (As ?_)))))))
   refine Au (i:=18) (by kernel_rfl) rfl ?_
   refine An rfl rfl rfl rfl (Ay [] ((St.refl nT _ _).lst [] (fun _ h=>h.elim)) (by kernel_rfl) ?_)
   refine Au (i:=21) (by kernel_rfl) rfl ?_
   refine An rfl rfl rfl rfl (Ay [] ((St.refl nT _ _).lst [] (fun _ h=>h.elim)) (by kernel_rfl) ?_)
   refine Az (fuel:=0) [] [(22,true),(23,true)] (by kernel_rfl) rfl ?_
   refine AB rfl rfl rfl rfl rfl (Ce rfl rfl rfl rfl (As ?_))
   refine AZ (by kernel_rfl) ?_
   obtain rfl:=sm g0
   exact ⟨(),_,⟨rfl,rfl,rfl,rfl,trivial⟩,((hB.st l0).st k0).st j0,(m0.st k0).st j0,((h8.st l0).st k0).st j0,((n0.st l0).st k0).st j0,((o0.st l0).st k0).st j0,y0,((a1.st l0).st k0).st j0,q0,r0,((t0.st l0).st k0).st j0,p0⟩
  replace g0:=im g0 j3
  refine Cb rfl rfl rfl rfl (AH rfl rfl rfl (Al rfl (Ak rfl rfl ?_)))
  replace m0:=(m0.st k0).st j0
  refine Fu (hl:=rfl) (hb:=fun w' ⟨O',hq⟩=>((m0.st hq (by decide)).1).cellsAt) rfl rfl ?_
  refine Al rfl (Ak rfl rfl (BD rfl rfl (Al rfl (Ak rfl rfl (Da (hc:=fun w' ⟨O',hq⟩=>Blk.cell (i:=2) ((y0.st hq (by decide)).1) rfl) rfl rfl ?_)))))
  refine Al rfl (Ak rfl rfl (BD rfl rfl (Al rfl (Ak rfl rfl (Da (hc:=fun w' ⟨O',hq⟩=>Blk.cell (i:=2) ((r0.st hq (by decide)).1) rfl) rfl rfl ?_)))))
  refine As ?_
  refine Au (i:=18) (by kernel_rfl) rfl ?_
  refine Ar rfl rfl ?_
  obtain ⟨f5,g5,g0⟩:=bs g0
  replace h8:=((h8.st l0).st k0).st j0
  replace n0:=((n0.st l0).st k0).st j0
  replace o0:=((o0.st l0).st k0).st j0
  replace a1:=((a1.st l0).st k0).st j0
  refine BQ (O:=h3) (R:=fun w' F v=>Vb w' F v f5) (Gc Fr.lt (Vb.ofAgg (cs:=[(.slice A9 x0.vars.length b1),(.slice c1 x0.vals.length d1),(.slice e1 x0.ops.length f1)]) (x:=x0) rfl ⟨_,_,_,rfl,h8,n0,o0⟩) a1 g5) rfl rfl fun u7 k3 l3 u0 o4=>?_
  obtain ⟨w7,x7,rfl⟩:=o4.form
  have hZ:=u0.lst [] (fun _ h=>h.elim)
  refine Ay [] hZ (by kernel_rfl) ?_
  refine Au (i:=21) (by kernel_rfl) rfl ?_
  refine Ar rfl rfl ?_
  obtain ⟨p4,h5,g0⟩:=bs g0
  replace t0:=(((t0.st l0).st k0).st j0).st u0
  refine Bf (O:=l3) (A:=All k3) (R:=fun w' F v=>Vb w' F v p4) (GB (fun _ h=>h) (Vb.mono (F:=Fr 0 k3 l3) o4 Fr.lt) (Vb.mono (F:=Fr 0 k3 l3) t0 Fr.lt) h5) rfl rfl fun y7 z7 a8 s0 i5=>?_
  obtain rfl:=i5.bool
  have hZ:=s0.lst [] (fun _ h=>h.elim)
  cases p4
  case false =>
   replace g0:=iF g0
   refine Ay [] hZ (by kernel_rfl) ?_
   refine Az (fuel:=0) [] [(22,true),(23,true)] (by kernel_rfl) rfl ?_
   refine Al rfl (Ak rfl rfl (Kn rfl rfl (Cb rfl rfl rfl rfl (As ?_))))
   refine AZ (by kernel_rfl) ?_
   obtain rfl:=sm g0
   exact ⟨(),_,⟨rfl,rfl,rfl,rfl,trivial⟩,((((hB.st l0).st k0).st j0).st u0).st s0,(m0.st u0).st s0,(h8.st u0).st s0,(n0.st u0).st s0,(o0.st u0).st s0,(y0.st u0).st s0,(a1.st u0).st s0,(q0.st u0).st s0,(r0.st u0).st s0,t0.st s0,(p0.st u0).st s0⟩
  replace g0:=iT g0
  refine Ay [] hZ (by kernel_rfl) ?_
  refine Az (fuel:=0) [] [(22,true),(23,true)] (by kernel_rfl) rfl ?_
  refine Al rfl (Ak rfl rfl (Km rfl rfl (Cb rfl rfl rfl rfl (As ?_))))
  refine AZ (by kernel_rfl) ?_
  obtain rfl:=sm g0
  exact ⟨(),_,⟨rfl,rfl,rfl,rfl,trivial⟩,((((hB.st l0).st k0).st j0).st u0).st s0,(m0.st u0).st s0,(h8.st u0).st s0,(n0.st u0).st s0,(o0.st u0).st s0,(y0.st u0).st s0,(a1.st u0).st s0,(q0.st u0).st s0,(r0.st u0).st s0,t0.st s0,(p0.st u0).st s0⟩
 replace hB:=((hB.st l0).st k0).st j0
 replace h8:=((h8.st l0).st k0).st j0
 replace n0:=((n0.st l0).st k0).st j0
 replace o0:=((o0.st l0).st k0).st j0
 replace a1:=((a1.st l0).st k0).st j0
 replace q0:=((q0.st l0).st k0).st j0
 replace t0:=((t0.st l0).st k0).st j0
 replace p0:=((p0.st l0).st k0).st j0
 replace m0:=(m0.st k0).st j0
 replace y0:=y0.st j0
 rintro b8 c8 ⟨c5,j5,m3,hB,m0,h8,n0,o0,y0,a1,q0,r0,t0,p0⟩
 refine AE _ m3 ?_
 refine Bp rfl (fun n3=>?_) (fun n3=>?_)
 ·
  replace hm:=ip hm n3
  refine Ab (Aa (Am rfl rfl (o_z ?_)))
  refine AF ?_
  obtain rfl:=sm hm
  exact ret1v rfl (AC rfl) ⟨hB.ext,vBool⟩
 replace hm:=im' hm n3
 refine AI (Ab (Ab (Aa (AS rfl rfl (AJ (hc:=Blk.cell (i:=3) (y0.1) rfl) rfl rfl ?_)))))
 refine AX rfl rfl ?_
 have o3:x1.effs.length≤9223372036854775807:=Nat.le_trans q0.len.2.1 q0.len.2.2
 have d8:inI64 (x1.effs.length:Int):=rngNat o3
 refine Aj rfl rfl (o_z ?_)
 obtain ⟨c2,p3,hm⟩:=bs hm
 refine Ax (aft c2 (fun (y2:Unit) (z2:Unit)=>[]) (fun y2 z2 w'=>∃ O':Lab,Bs w A w' O')) ?_ ?_
 ·
  refine AG (Bk (σ:=Unit) (X:=Unit) (x1.effs.length) p3 rfl o3 (fun (y2:Unit) (z2:Unit)=>[(3,(.pointer (some ⟨q1,0,none⟩))),(5,(.pointer (some ⟨r1,0,none⟩))),(35,(.slice k1 x1.effs.length l1))]) _ (fun y2 z2 w'=>∃ O':Lab,Bs w A w' O'∧Lc 2 w' O' q1 43 [(.slice A9 x0.vars.length b1),(.slice c1 x0.vals.length d1),(.slice e1 x0.ops.length f1)]∧Vb w' (Fr 0 w' O') (.slice A9 x0.vars.length b1) x0.vars∧Vb w' (Fr 0 w' O') (.slice c1 x0.vals.length d1) x0.vals∧Vb w' (Fr 0 w' O') (.slice e1 x0.ops.length f1) x0.ops∧Lc 4 w' O' r1 35 [(.string x2.name),(.int .i64 x2.cost),(.slice m1 x2.pre.length n1),(.slice o1 x2.effs.length p1)]∧Vb w' (Fr 0 w' O') (.slice m1 x2.pre.length n1) x2.pre∧Vb w' (Fr 0 w' O') (.slice o1 x2.effs.length p1) x2.effs∧Vb w' (Fr 0 w' O') (.slice k1 x1.effs.length l1) x1.effs) _ () ⟨j5,hB,m0,h8,n0,o0,r0,t0,p0,q0⟩ ⟨rfl,rfl,rfl,rfl,rfl,trivial⟩ (fun _ _=>⟨rfl,rfl⟩) (fun _ _=>trivial) (fun _ _ _ ⟨O',hB,m0,h8,n0,o0,r0,t0,p0,q0⟩=>⟨O',hB⟩) ⟨rfl,rfl,rfl⟩ ⟨rfl,rfl⟩ ?_)
  rintro q4 s1 y2 z2 e8 k5 d2 ⟨l5,hB,m0,h8,n0,o0,r0,t0,p0,q0⟩ v0 t1 q3
  have rk91:inI64 (q4:Int):=rngK d2 o3
  refine Ab (Aa (Aj rfl rfl ?_))
  obtain ⟨m5,n5,r4,e2,f2,g2,o5,rfl,g1,r3,s3⟩:=q0.elem' d2
  obtain ⟨t3,u3,rfl⟩:=g1.form
  refine Bv (hA:=e2) (hj:=rfl) (hlt:=f2) rfl rfl rfl ?_
  refine Ba (hl:=rfl) (hc:=g2) rfl rfl ?_
  refine Bd 5 l5 rfl fun v3 p5 h1 e0 w0=>?_
  refine Am rfl rfl (AD w0 rfl rfl rfl (AU rfl) (allOne rfl) fun i1 f0 w0=>?_)
  replace w0:Lc 5 i1 h1 v3 32 [(.slice t3 s1.cond.length u3),(.int .i64 s1.var),(.int .i64 s1.val)]:=w0
  refine o_z ?_
  refine Ab (Aa ?_)
  replace m0:=(m0.st e0).st f0
  refine Ba (hl:=rfl) (hc:=(m0.1).cellsAt) rfl rfl ?_
  refine AS rfl rfl (AJ (hc:=Blk.cell (i:=1) (w0.1) rfl) rfl rfl ?_)
  refine AS rfl rfl (AJ (hc:=Blk.cell (i:=2) (w0.1) rfl) rfl rfl ?_)
  refine EH rfl rfl rfl ?_
  obtain ⟨u1,w3,v0⟩:=bs v0
  replace h8:=(h8.st e0).st f0
  replace n0:=(n0.st e0).st f0
  replace o0:=(o0.st e0).st f0
  refine Bf (O:=h1) (A:=All i1) (R:=fun w' F v=>Vb w' F v u1) (Ii (fun _ h=>h) (Vb.mono (F:=Fr 0 i1 h1) (Vb.ofAgg (cs:=[(.slice A9 x0.vars.length b1),(.slice c1 x0.vals.length d1),(.slice e1 x0.ops.length f1)]) (x:=x0) rfl ⟨_,_,_,rfl,h8,n0,o0⟩) Fr.lt) (Vb.mono (F:=Fr 0 i1 h1) (Vb.ofAgg (cs:=[(.int .i64 s1.var),(.int .i64 s1.val)]) (x:=(⟨s1.var,s1.val⟩:Fct)) rfl ⟨rfl,r3,s3⟩) Fr.lt) w3) rfl rfl fun q5 r5 x3 b0 y3=>?_
  obtain ⟨s4,rfl,rfl,s5,t5⟩:=y3
  refine Bd 6 x3 rfl fun z3 u5 v1 c0 z0=>?_
  refine AD z0 rfl rfl rfl (AU rfl) (allOne rfl) fun a4 d0 z0=>?_
  replace z0:Lc 6 a4 v1 z3 26 [(.int .i64 u1.var),(.int .i64 u1.val)]:=z0
  refine o_z ?_
  refine Ab ?_
  obtain ⟨b4,a0,v0⟩:=bs v0
  refine Ax (fun l' w'=>∃ (c4:Unit) (O':Lab),subs l' [(3,(.pointer (some ⟨q1,0,none⟩))),(5,(.pointer (some ⟨r1,0,none⟩))),(35,(.slice k1 x1.effs.length l1)),(36,(.int .i64 (x1.effs.length:Int))),(37,(.int .i64 (q4:Int))),(82,(.bool b4))]∧Bs w A w' O'∧Lc 2 w' O' q1 43 [(.slice A9 x0.vars.length b1),(.slice c1 x0.vals.length d1),(.slice e1 x0.ops.length f1)]∧Vb w' (Fr 0 w' O') (.slice A9 x0.vars.length b1) x0.vars∧Vb w' (Fr 0 w' O') (.slice c1 x0.vals.length d1) x0.vals∧Vb w' (Fr 0 w' O') (.slice e1 x0.ops.length f1) x0.ops∧Lc 4 w' O' r1 35 [(.string x2.name),(.int .i64 x2.cost),(.slice m1 x2.pre.length n1),(.slice o1 x2.effs.length p1)]∧Vb w' (Fr 0 w' O') (.slice m1 x2.pre.length n1) x2.pre∧Vb w' (Fr 0 w' O') (.slice o1 x2.effs.length p1) x2.effs∧Vb w' (Fr 0 w' O') (.slice k1 x1.effs.length l1) x1.effs) ?_ ?_
  ·
   refine Bc [] v1 ?_
   refine Az (fuel:=4) [] [(0,true),(1,true),(2,true),(3,true),(4,true),(5,true),(6,true),(7,true),(8,true),(9,true),(10,true),(11,true),(12,true),(13,true),(14,true),(15,true),(16,true),(17,true),(18,true),(19,true),(20,true),(21,true),(22,true),(23,true),(25,true),(26,true),(27,true),(28,true),(29,true),(30,true)] (by kernel_rfl) rfl ?_
   refine AM rfl rfl rfl (AK (hc:=fun w' ⟨O',hq⟩=>Blk.cell (i:=0) ((z0.st hq (by decide)).1) rfl) rfl rfl rfl ?_)
   refine AM rfl rfl rfl ?_
   replace r0:=((((r0.st e0).st f0).st b0).st c0).st d0
   refine AK (hc:=fun w' ⟨O',hq⟩=>Blk.cell (i:=3) ((r0.st hq (by decide)).1) rfl) rfl rfl rfl ?_
   refine AH rfl rfl rfl ?_
   obtain ⟨w5,d4,a0⟩:=bs a0
   replace p0:=((((p0.st e0).st f0).st b0).st c0).st d0
   obtain ⟨x5,y5,t4,h2,i2,j2,k2,z5,rfl,e4,a6,b6⟩:=p0.elem d4
   obtain ⟨c6,d6,rfl⟩:=e4.form
   refine Bl (hA:=h2) (hj:=rfl) (hlt:=j2) rfl rfl rfl rfl ?_
   refine AM rfl rfl rfl (AK (hc:=fun w' ⟨O',hq⟩=>cat1 (AL (hq.agree (i:=0) (by decide)) i2 k2)) rfl rfl rfl ?_)
   refine Lw rfl rfl rfl rfl (fun w1=>?_) fun w1=>?_
   ·
    replace a0:=ip a0 w1
    refine AH rfl rfl rfl (AB rfl rfl rfl rfl rfl (AB rfl rfl rfl rfl rfl (AB rfl rfl rfl rfl rfl (AB rfl rfl rfl rfl rfl (AB rfl rfl rfl rfl rfl (AB rfl rfl rfl rfl rfl (AB rfl rfl rfl rfl rfl (AB rfl rfl rfl rfl rfl (AB rfl rfl rfl rfl rfl (Ce rfl rfl rfl rfl (AH rfl rfl rfl (AB rfl rfl rfl rfl rfl (AB rfl rfl rfl rfl rfl (AB rfl rfl rfl rfl rfl ?_))))))))))))))
    refine AB rfl rfl rfl rfl rfl (AB rfl rfl rfl rfl rfl (AB rfl rfl rfl rfl rfl (AB rfl rfl rfl rfl rfl (AB rfl rfl rfl rfl rfl (AB rfl rfl rfl rfl rfl (As ?_))))))
    refine Au (i:=24) (by kernel_rfl) rfl ?_
    refine An rfl rfl rfl rfl (Ay [] ((St.refl nT _ _).lst [] (fun _ h=>h.elim)) (by kernel_rfl) ?_)
    refine Au (i:=31) (by kernel_rfl) rfl ?_
    refine An rfl rfl rfl rfl (Ay [] ((St.refl nT _ _).lst [] (fun _ h=>h.elim)) (by kernel_rfl) ?_)
    refine Az (fuel:=0) [] [(32,true),(33,true)] (by kernel_rfl) rfl ?_
    refine AB rfl rfl rfl rfl rfl (Ce rfl rfl rfl rfl (As ?_))
    refine AZ (by kernel_rfl) ?_
    obtain rfl:=sm a0
    exact ⟨(),_,⟨rfl,rfl,rfl,rfl,rfl,rfl,trivial⟩,((((hB.st e0).st f0).st b0).st c0).st d0,((m0.st b0).st c0).st d0,((h8.st b0).st c0).st d0,((n0.st b0).st c0).st d0,((o0.st b0).st c0).st d0,r0,((((t0.st e0).st f0).st b0).st c0).st d0,p0,((((q0.st e0).st f0).st b0).st c0).st d0⟩
   replace a0:=im a0 w1
   refine AH rfl rfl rfl (Al rfl (Ak rfl rfl (BD rfl rfl (Al rfl (Ak rfl rfl (Da (hc:=fun w' ⟨O',hq⟩=>Blk.cell (i:=1) ((z0.st hq (by decide)).1) rfl) rfl rfl ?_))))))
   refine Al rfl (Ak rfl rfl (BD rfl rfl (Al rfl (Ak rfl rfl (Da (hc:=fun w' ⟨O',hq⟩=>Blk.cell (i:=3) ((r0.st hq (by decide)).1) rfl) rfl rfl ?_)))))
   refine Al rfl (Ak rfl rfl (BS rfl rfl (Al rfl (Ak rfl rfl ?_))))
   obtain ⟨e6,f4,a0⟩:=bs a0
   obtain ⟨f6,g6,u4,l2,m2,n2,o2,h6,rfl,g4,i6,j6⟩:=p0.elem f4
   obtain ⟨k6,l6,rfl⟩:=g4.form
   refine DM (hA:=l2) (hj:=rfl) (hlt:=n2) rfl rfl rfl ?_
   refine Al rfl (Ak rfl rfl (BD rfl rfl (Al rfl (Ak rfl rfl (Da (hc:=fun w' ⟨O',hq⟩=>cat2 (AL (hq.agree (i:=0) (by decide)) m2 o2)) rfl rfl ?_)))))
   refine Al rfl (Ak rfl rfl (Bn (fun _ _=>GP rfl rfl) rfl (fun y1=>?_) (fun y1=>?_)))
   ·
    replace a0:=ip a0 y1
    refine Cb rfl rfl rfl rfl (AH rfl rfl rfl (AB rfl rfl rfl rfl rfl (AB rfl rfl rfl rfl rfl (AB rfl rfl rfl rfl rfl (AB rfl rfl rfl rfl rfl (AB rfl rfl rfl rfl rfl (AB rfl rfl rfl rfl rfl (AB rfl rfl rfl rfl rfl (AB rfl rfl rfl rfl rfl (AB rfl rfl rfl rfl rfl (As ?_)))))))))))
    refine Au (i:=24) (by kernel_rfl) rfl ?_
    refine An rfl rfl rfl rfl (Ay [] ((St.refl nT _ _).lst [] (fun _ h=>h.elim)) (by kernel_rfl) ?_)
    refine Au (i:=31) (by kernel_rfl) rfl ?_
    refine An rfl rfl rfl rfl (Ay [] ((St.refl nT _ _).lst [] (fun _ h=>h.elim)) (by kernel_rfl) ?_)
    refine Az (fuel:=0) [] [(32,true),(33,true)] (by kernel_rfl) rfl ?_
    refine AB rfl rfl rfl rfl rfl (Ce rfl rfl rfl rfl (As ?_))
    refine AZ (by kernel_rfl) ?_
    obtain rfl:=sm a0
    exact ⟨(),_,⟨rfl,rfl,rfl,rfl,rfl,rfl,trivial⟩,((((hB.st e0).st f0).st b0).st c0).st d0,((m0.st b0).st c0).st d0,((h8.st b0).st c0).st d0,((n0.st b0).st c0).st d0,((o0.st b0).st c0).st d0,r0,((((t0.st e0).st f0).st b0).st c0).st d0,p0,((((q0.st e0).st f0).st b0).st c0).st d0⟩
   replace a0:=im a0 y1
   refine Cb rfl rfl rfl rfl (AH rfl rfl rfl (Al rfl (Ak rfl rfl ?_)))
   replace m0:=((m0.st b0).st c0).st d0
   refine Fu (hl:=rfl) (hb:=fun w' ⟨O',hq⟩=>((m0.st hq (by decide)).1).cellsAt) rfl rfl ?_
   refine Al rfl (Ak rfl rfl (BD rfl rfl (Al rfl (Ak rfl rfl ?_))))
   replace w0:=((w0.st b0).st c0).st d0
   refine Da (hc:=fun w' ⟨O',hq⟩=>Blk.cell (i:=0) ((w0.st hq (by decide)).1) rfl) rfl rfl ?_
   refine Al rfl (Ak rfl rfl (BD rfl rfl (Al rfl (Ak rfl rfl (Da (hc:=fun w' ⟨O',hq⟩=>Blk.cell (i:=3) ((r0.st hq (by decide)).1) rfl) rfl rfl ?_)))))
   refine Al rfl (Ak rfl rfl (BS rfl rfl (Al rfl (Ak rfl rfl ?_))))
   obtain ⟨m6,h4,a0⟩:=bs a0
   obtain ⟨n6,o6,v4,p2,q2,r2,s2,p6,rfl,j1,q6,r6⟩:=p0.elem h4
   obtain ⟨s6,t6,rfl⟩:=j1.form
   refine DM (hA:=p2) (hj:=rfl) (hlt:=r2) rfl rfl rfl ?_
   refine Al rfl (Ak rfl rfl (BD rfl rfl (Al rfl (Ak rfl rfl (Da (hc:=fun w' ⟨O',hq⟩=>cat0 (AL (hq.agree (i:=0) (by decide)) q2 s2)) rfl rfl ?_)))))
   refine As ?_
   refine Au (i:=24) (by kernel_rfl) rfl ?_
   refine Ar rfl rfl ?_
   obtain ⟨i4,j4,a0⟩:=bs a0
   replace h8:=((h8.st b0).st c0).st d0
   replace n0:=((n0.st b0).st c0).st d0
   replace o0:=((o0.st b0).st c0).st d0
   replace g1:=((((g1.st e0).st f0).st b0).st c0).st d0
   refine BQ (O:=v1) (R:=fun w' F v=>Vb w' F v i4) (Gc Fr.lt (Vb.ofAgg (cs:=[(.slice A9 x0.vars.length b1),(.slice c1 x0.vals.length d1),(.slice e1 x0.ops.length f1)]) (x:=x0) rfl ⟨_,_,_,rfl,h8,n0,o0⟩) g1 j4) rfl rfl fun u6 z1 a2 h0 t2=>?_
   obtain ⟨w6,x6,rfl⟩:=t2.form
   have hZ:=h0.lst [] (fun _ h=>h.elim)
   refine Ay [] hZ (by kernel_rfl) ?_
   refine Au (i:=31) (by kernel_rfl) rfl ?_
   refine Ar rfl rfl ?_
   obtain ⟨u2,k4,a0⟩:=bs a0
   replace j1:=j1.st h0
   refine Bf (O:=a2) (A:=All z1) (R:=fun w' F v=>Vb w' F v u2) (GB (fun _ h=>h) (Vb.mono (F:=Fr 0 z1 a2) t2 Fr.lt) (Vb.mono (F:=Fr 0 z1 a2) j1 Fr.lt) k4) rfl rfl fun y6 z6 a7 i0 l4=>?_
   obtain rfl:=l4.bool
   have hZ:=i0.lst [] (fun _ h=>h.elim)
   cases u2
   case false =>
    replace a0:=iF a0
    refine Ay [] hZ (by kernel_rfl) ?_
    refine Az (fuel:=0) [] [(32,true),(33,true)] (by kernel_rfl) rfl ?_
    refine Al rfl (Ak rfl rfl (Kn rfl rfl (Cb rfl rfl rfl rfl (As ?_))))
    refine AZ (by kernel_rfl) ?_
    obtain rfl:=sm a0
    exact ⟨(),_,⟨rfl,rfl,rfl,rfl,rfl,rfl,trivial⟩,((((((hB.st e0).st f0).st b0).st c0).st d0).st h0).st i0,(m0.st h0).st i0,(h8.st h0).st i0,(n0.st h0).st i0,(o0.st h0).st i0,(r0.st h0).st i0,((((((t0.st e0).st f0).st b0).st c0).st d0).st h0).st i0,(p0.st h0).st i0,((((((q0.st e0).st f0).st b0).st c0).st d0).st h0).st i0⟩
   replace a0:=iT a0
   refine Ay [] hZ (by kernel_rfl) ?_
   refine Az (fuel:=0) [] [(32,true),(33,true)] (by kernel_rfl) rfl ?_
   refine Al rfl (Ak rfl rfl (Km rfl rfl (Cb rfl rfl rfl rfl (As ?_))))
   refine AZ (by kernel_rfl) ?_
   obtain rfl:=sm a0
   exact ⟨(),_,⟨rfl,rfl,rfl,rfl,rfl,rfl,trivial⟩,((((((hB.st e0).st f0).st b0).st c0).st d0).st h0).st i0,(m0.st h0).st i0,(h8.st h0).st i0,(n0.st h0).st i0,(o0.st h0).st i0,(r0.st h0).st i0,((((((t0.st e0).st f0).st b0).st c0).st d0).st h0).st i0,(p0.st h0).st i0,((((((q0.st e0).st f0).st b0).st c0).st d0).st h0).st i0⟩
  replace hB:=((((hB.st e0).st f0).st b0).st c0).st d0
  replace h8:=((h8.st b0).st c0).st d0
  replace n0:=((n0.st b0).st c0).st d0
  replace o0:=((o0.st b0).st c0).st d0
  replace q0:=((((q0.st e0).st f0).st b0).st c0).st d0
  replace t0:=((((t0.st e0).st f0).st b0).st c0).st d0
  replace p0:=((((p0.st e0).st f0).st b0).st c0).st d0
  replace m0:=((m0.st b0).st c0).st d0
  replace r0:=((((r0.st e0).st f0).st b0).st c0).st d0
  rintro b7 c7 ⟨c4,d7,v2,hB,m0,h8,n0,o0,r0,t0,p0,q0⟩
  refine AE _ v2 ?_
  refine Bp rfl (fun b2=>?_) (fun b2=>?_)
  ·
   replace v0:=ip v0 b2
   refine Ab (Aa (Am rfl rfl (o_z ?_)))
   refine AF ?_
   obtain rfl:=sm v0
   obtain rfl:=t1 _ rfl
   obtain rfl:=sm (Cq hm)
   exact ret1v rfl (AC rfl) ⟨hB.ext,vBool⟩
  replace v0:=im' v0 b2
  refine AI ?_
  obtain rfl:=sm v0
  exact show Exists _ from ⟨_,(),rfl,⟨rfl,rfl,rfl,rfl,rfl,trivial⟩,_,hB,m0,h8,n0,o0,r0,t0,p0,q0⟩
 rintro e7 f7 ⟨g7,h7,rfl,w2,i7,hB⟩
 replace hm:=AV hm
 refine AE _ w2 ?_
 refine Ab (Aa (Am rfl rfl (o_z ?_)))
 refine AF ?_
 obtain rfl:=sm hm
 exact ret1v rfl (AC rfl) ⟨hB.ext,vBool⟩
end
end Go.Proofs.YtdhaelekmjgbmaaGreatDoor

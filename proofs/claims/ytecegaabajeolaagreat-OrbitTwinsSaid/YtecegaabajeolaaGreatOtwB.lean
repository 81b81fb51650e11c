/- Own text: what the proof of orbitTwins_holds uses, part 2: rules, models and their proofs, plain laws. -/
import Derived.Test.YtecegaabajeolaaGreatOtwA
set_option linter.unusedVariables false
set_option linter.unusedSimpArgs false
namespace Go.Proofs.YtecegaabajeolaaGreat
open Go Go.RowKit
section
open Go Go.RowKit
attribute [local irreducible] ewp owp hwp hwq hws Ev Evg Fn retPost loud loudS Res1
def VarsOk (t:Tsk):Prop:=∀ (i:Nat) n,t.vars[i]?=some n→1≤n∧n≤64
def CostsOk (t:Tsk):Prop:=∀ (i:Nat) o,t.ops[i]?=some o→0≤o.cost∧o.cost≤1048576
def CondsOk (t:Tsk):Prop:=∀ (i:Nat) f,(conds t)[i]?=some f→FactsOk t.vars f
def EffsOk (t:Tsk):Prop:=∀ (i:Nat) o,t.ops[i]?=some o→∀ (j:Nat) e,o.effs[j]?=some e→FactOk t.vars ⟨e.var,e.val⟩
def NamesOk (t:Tsk):Prop:=∀ (i:Nat) o,t.ops[i]?=some o→NameOk o.name
noncomputable def checkN (t:Tsk):Int :=
  if bof (Large t)=true then 5 else if bof (VarsOk t∧CostsOk t)=false then 1 else if bof (StateOk t.vars t.init∧CondsOk t∧EffsOk t)=false then 2 else if bof (NamesOk t)=false then 8 else 0
theorem taskCheck {w:World} {tv:Value} {t:Tsk} (ht:V w tv t):Fn Tryz.prog 22 [tv] w fun v w'=>v=errV (checkN t)∧Ext w w':=by
  have ht0:=ht
  obtain ⟨cs,rfl,a,b,c,d,rfl,hvars,hinit,hgoal,hops⟩:=ht
  obtain ⟨Av,cv,rfl⟩:=hvars.form
  obtain ⟨Ai,ci,rfl⟩:=hinit.form
  obtain ⟨Ag,cg,rfl⟩:=hgoal.form
  obtain ⟨Ao,co,rfl⟩:=hops.form
  have hvl:=hvars.len
  have hol:=hops.len
  refine AQ Tryz.func22 rfl Tryz.ntmps22 rfl ?_
  repeat (first|refine Aw ?_|refine Ah rfl ?_|refine Ae rfl ?_)
  refine DI rfl rfl fun w1 hN=>?_
  have hb1:=hN.blk
  have hE1:Ext w w1:=hN.ext
  (refine Ay rfl rfl ?_<;>(refine o_z ?_))
  repeat (first|refine Aw ?_|refine Ah rfl ?_|refine Ae rfl ?_)
  (refine Br rfl rfl ?_)
  refine Ek rfl rfl (taskLarge (ht0.ext hE1)) ?_ ?_
  case refine_1 =>
    intro w2 hP hE2
    ((refine o_z ?_))
    repeat (first|refine Aw ?_|refine Ah rfl ?_|refine Ae rfl ?_)
    ((repeat (first|refine Aw ?_|refine Ah rfl ?_|refine Ae rfl ?_))<;>(refine Ia rfl rfl ?_<;>refine Ay rfl rfl ?_<;>(refine o_z ?_))<;>(repeat (first|refine Aw ?_|refine Ah rfl ?_|refine Ae rfl ?_)))
    refine ret1 rfl rfl ⟨?_,hE1.trans' hE2⟩
    rw [checkN,Bl hP];rfl
  intro w2 hlarge hE2
  replace hb1:=hb1.ext hE2
  replace hE2:Ext w w2:=hE1.trans' hE2
  have hm:∀ (i:Nat) o,t.ops[i]?=some o→o.effs.length≤64:=fun i o ho=>Nat.le_of_not_lt fun h=>hlarge (.inr (.inr (.inl ⟨i,o,ho,h⟩)))
  have hn4:t.ops.length≤4096:=Nat.le_of_not_lt fun h=>hlarge (.inr (.inl h))
  have c1:checkN t=if bof (VarsOk t∧CostsOk t)=false then 1 else if bof (StateOk t.vars t.init∧CondsOk t∧EffsOk t)=false then 2 else if bof (NamesOk t)=false then 8 else 0:=by rw [checkN,Bh hlarge];rfl
  ((refine o_z ?_))
  repeat (first|refine Aw ?_|refine Ah rfl ?_|refine Ae rfl ?_)
  ((repeat (first|refine Aw ?_|refine Ah rfl ?_|refine Ae rfl ?_))<;>(refine AV rfl rfl ?_<;>refine AP rfl rfl ?_<;>refine Bj rfl rfl ?_<;>refine Ar rfl rfl ?_<;>(refine o_z ?_))<;>(repeat (first|refine Aw ?_|refine Ah rfl ?_|refine Ae rfl ?_)))
  refine BU t.vars.length (by omega) (fun _:Unit=>[(1,.pointer (some ⟨w.heap.size,0,none⟩)),(19,.slice Av t.vars.length cv)]) (fun k _ w'=>w'=w2∧∀ i,i < k→∀ n,t.vars[i]?=some n→1≤n∧n≤64) ()
    ⟨rfl,fun i hi=>by omega⟩ ⟨rfl,rfl,rfl,rfl,trivial⟩ (fun _=>⟨rfl,rfl⟩) ⟨rfl,rfl,rfl⟩ ⟨rfl,rfl⟩ ?_ ?_
  · rintro k _ _ hk ⟨rfl,hh⟩
    obtain ⟨n,hn⟩:=AN hk
    obtain ⟨b2,o2,ce,rfl,_,_,hd1,rfl,_⟩:=(hvars.ext hE2).elem hn
    ((repeat (first|refine Aw ?_|refine Ah rfl ?_|refine Ae rfl ?_))<;>(refine CY rfl rfl rfl ?_<;>refine AP rfl rfl ?_<;>refine Ay rfl rfl ?_<;>(refine o_z ?_))<;>(repeat (first|refine Aw ?_|refine Ah rfl ?_|refine Ae rfl ?_))<;>(refine Ar rfl rfl ?_<;>(first|refine Dt rfl rfl rfl ?_|refine Du rfl rfl rfl ?_|refine EA rfl rfl rfl (fun _=>?_) fun _=>?_)<;>refine Ar rfl rfl ?_<;>(first|(refine AE rfl rfl ?_;refine Ar rfl rfl ?_)|refine AC rfl rfl rfl rfl ?_)<;>(first|(refine AE rfl rfl ?_;(first|refine FQ rfl rfl rfl ?_|refine FR rfl rfl rfl ?_|refine FS rfl rfl rfl (fun _=>?_) fun _=>?_))|refine AC rfl rfl rfl rfl ?_)<;>(first|refine BF rfl rfl rfl ?_|refine BN rfl rfl rfl ?_)<;>(refine o_z ?_))<;>(repeat (first|refine Aw ?_|refine Ah rfl ?_|refine Ae rfl ?_)))
    all_goals try (
      ((repeat (first|refine Aw ?_|refine Ah rfl ?_|refine Ae rfl ?_))<;>(refine Ia rfl rfl ?_<;>refine Ay rfl rfl ?_<;>(refine o_z ?_))<;>(repeat (first|refine Aw ?_|refine Ah rfl ?_|refine Ae rfl ?_)))
      refine ret1 rfl rfl ⟨?_,hE2⟩
      rw [c1,Bh (fun h=>by have:=h.1 k n hn;omega)];rfl)
    exact ⟨(),⟨rfl,rfl,rfl,rfl,trivial⟩,rfl,CT hh fun n' hn'=>by rw [hn] at hn';injection hn' with hn';omega⟩
  rintro _ _ ⟨rfl,hdom⟩
  replace hdom:VarsOk t:=fun i n hn=>hdom i (BH hn) n hn
  repeat (first|refine Aw ?_|refine Ah rfl ?_|refine Ae rfl ?_)
  ((repeat (first|refine Aw ?_|refine Ah rfl ?_|refine Ae rfl ?_))<;>(refine AV rfl rfl ?_<;>refine AP rfl rfl ?_<;>refine Bj rfl rfl ?_<;>refine Ar rfl rfl ?_<;>(refine o_z ?_))<;>(repeat (first|refine Aw ?_|refine Ah rfl ?_|refine Ae rfl ?_)))
  refine BU t.ops.length (by omega) (fun _:Unit=>[(1,.pointer (some ⟨w.heap.size,0,none⟩)),(34,.slice Ao t.ops.length co)]) (fun k _ w'=>Ext w w'∧Blk w' w.heap.size 26 [.slice Av t.vars.length cv,.slice Ai t.init.length ci,.slice Ag t.goal.length cg,.slice Ao t.ops.length co]∧∀ i,i < k→∀ o,t.ops[i]?=some o→0≤o.cost∧o.cost≤1048576) ()
    ⟨hE2,hb1,fun i hi=>by omega⟩ ⟨rfl,rfl,rfl,rfl,trivial⟩ (fun _=>⟨rfl,rfl⟩) ⟨rfl,rfl,rfl⟩ ⟨rfl,rfl⟩ ?_ ?_
  · rintro k _ w4 hk ⟨hE4,hb1,hh⟩
    obtain ⟨o,ho⟩:=AN hk
    obtain ⟨b2,o2,ce,rfl,_,_,hd1,p,q,rfl,hp,hq,hc,hn⟩:=(hops.ext hE4).elem ho
    obtain ⟨Ap,cp,rfl⟩:=hp.form
    obtain ⟨Aq,cq,rfl⟩:=hq.form
    ((repeat (first|refine Aw ?_|refine Ah rfl ?_|refine Ae rfl ?_))<;>(refine CY rfl rfl rfl ?_<;>refine Br rfl rfl ?_)<;>(repeat (first|refine Aw ?_|refine Ah rfl ?_|refine Ae rfl ?_)))
    refine Ce rfl rfl rfl (by simp [Value.cells,Value.oneCell']) fun w5 hN5=>?_
    replace hb1:=hb1.ext hN5.ext
    have hb2:=hN5.blk
    have hE5:Ext w w5:=hE4.trans' hN5.ext
    ((refine o_z ?_))
    repeat (first|refine Aw ?_|refine Ah rfl ?_|refine Ae rfl ?_)
    ((repeat (first|refine Aw ?_|refine Ah rfl ?_|refine Ae rfl ?_))<;>(refine AV rfl rfl ?_<;>refine AP rfl rfl ?_<;>(first|refine Dt rfl rfl rfl ?_|refine Du rfl rfl rfl ?_|refine EA rfl rfl rfl (fun _=>?_) fun _=>?_)<;>refine Ar rfl rfl ?_<;>(first|(refine AE rfl rfl ?_;refine AV rfl rfl ?_)|refine AC rfl rfl rfl rfl ?_)<;>(first|(refine AE rfl rfl ?_;refine AP rfl rfl ?_)|refine AC rfl rfl rfl rfl ?_)<;>(first|(refine AE rfl rfl ?_;(first|refine FQ rfl rfl rfl ?_|refine FR rfl rfl rfl ?_|refine FS rfl rfl rfl (fun _=>?_) fun _=>?_))|refine AC rfl rfl rfl rfl ?_)<;>(first|refine BF rfl rfl rfl ?_|refine BN rfl rfl rfl ?_)<;>(refine o_z ?_))<;>(repeat (first|refine Aw ?_|refine Ah rfl ?_|refine Ae rfl ?_)))
    all_goals try (
      ((repeat (first|refine Aw ?_|refine Ah rfl ?_|refine Ae rfl ?_))<;>(refine Ia rfl rfl ?_<;>refine Ay rfl rfl ?_<;>(refine o_z ?_))<;>(repeat (first|refine Aw ?_|refine Ah rfl ?_|refine Ae rfl ?_)))
      refine ret1 rfl rfl ⟨?_,hE5⟩
      rw [c1,Bh (fun h=>by have:=h.2 k o ho;omega)];rfl)
    exact ⟨(),⟨rfl,rfl,rfl,rfl,trivial⟩,hE5,hb1,CT hh fun o' ho'=>by rw [ho] at ho';injection ho' with ho';subst ho';omega⟩
  rintro _ w3 ⟨hE3,hb1,hcost⟩
  replace hcost:CostsOk t:=fun i o ho=>hcost i (BH ho) o ho
  have c2:checkN t=if bof (StateOk t.vars t.init∧CondsOk t∧EffsOk t)=false then 2 else if bof (NamesOk t)=false then 8 else 0:=by rw [c1,Bl ⟨hdom,hcost⟩];rfl
  repeat (first|refine Aw ?_|refine Ah rfl ?_|refine Ae rfl ?_)
  (refine AV rfl rfl ?_<;>refine AP rfl rfl ?_<;>refine AV rfl rfl ?_<;>refine AP rfl rfl ?_)
  refine Ek rfl rfl (taskProper (hvars.ext hE3) (hinit.ext hE3)) ?_ ?_
  case refine_2 =>
    intro w4 hP hE4
    ((first|refine DK rfl rfl ?_|refine DL rfl rfl ?_|refine Fs rfl rfl ?_)<;>(refine o_z ?_))
    repeat (first|refine Aw ?_|refine Ah rfl ?_|refine Ae rfl ?_)
    ((repeat (first|refine Aw ?_|refine Ah rfl ?_|refine Ae rfl ?_))<;>(refine Ia rfl rfl ?_<;>refine Ay rfl rfl ?_<;>(refine o_z ?_))<;>(repeat (first|refine Aw ?_|refine Ah rfl ?_|refine Ae rfl ?_)))
    refine ret1 rfl rfl ⟨?_,hE3.trans' hE4⟩
    rw [c2,Bh (fun h=>hP h.1)];rfl
  intro w4 hst hE4
  replace hb1:=hb1.ext hE4
  replace hE4:Ext w w4:=hE3.trans' hE4
  ((first|refine DK rfl rfl ?_|refine DL rfl rfl ?_|refine Fs rfl rfl ?_)<;>(refine o_z ?_))
  repeat (first|refine Aw ?_|refine Ah rfl ?_|refine Ae rfl ?_)
  (refine Br rfl rfl ?_)
  refine Bo rfl rfl (taskConditions (ht0.ext hE4) hn4 hm) ?_
  rintro v5 w5 ⟨hv5,hE5⟩
  obtain ⟨Ac,cc,rfl⟩:=hv5.form
  have hcl:=hv5.len
  replace hb1:=hb1.ext hE5
  replace hE5:Ext w w5:=hE4.trans' hE5
  (refine Bj rfl rfl ?_<;>refine Ar rfl rfl ?_<;>(refine o_z ?_))
  repeat (first|refine Aw ?_|refine Ah rfl ?_|refine Ae rfl ?_)
  refine BU (conds t).length (by omega) (fun _:Unit=>[(1,.pointer (some ⟨w.heap.size,0,none⟩)),(58,.slice Ac (conds t).length cc)]) (fun k _ w'=>Ext w5 w'∧∀ i,i < k→∀ f,(conds t)[i]?=some f→FactsOk t.vars f) ()
    ⟨Below.refl _ _,fun i hi=>by omega⟩ ⟨rfl,rfl,rfl,rfl,trivial⟩ (fun _=>⟨rfl,rfl⟩) ⟨rfl,rfl,rfl⟩ ⟨rfl,rfl⟩ ?_ ?_
  · rintro k _ w6 hk ⟨hE6,hh⟩
    obtain ⟨f,hf⟩:=AN hk
    have hb1:=hb1.ext hE6
    obtain ⟨b2,o2,ce,rfl,_,_,hd1,v,rfl,hR⟩:=(hv5.ext hE6).elem hf
    ((repeat (first|refine Aw ?_|refine Ah rfl ?_|refine Ae rfl ?_))<;>(refine CY rfl rfl rfl ?_<;>refine AP rfl rfl ?_<;>refine Ay rfl rfl ?_<;>(refine o_z ?_))<;>(repeat (first|refine Aw ?_|refine Ah rfl ?_|refine Ae rfl ?_))<;>(refine AV rfl rfl ?_<;>refine AP rfl rfl ?_<;>refine Ar rfl rfl ?_)<;>(repeat (first|refine Aw ?_|refine Ah rfl ?_|refine Ae rfl ?_)))
    refine Ek rfl rfl (taskFacts (hvars.ext (hE5.trans' hE6)) (Vb.of_slice hR)) ?_ ?_
    · intro w7 hP hE7
      ((first|refine DK rfl rfl ?_|refine DL rfl rfl ?_|refine Fs rfl rfl ?_)<;>(refine o_z ?_))
      repeat (first|refine Aw ?_|refine Ah rfl ?_|refine Ae rfl ?_)
      exact ⟨(),⟨rfl,rfl,rfl,rfl,trivial⟩,hE6.trans' hE7,CT hh fun f' hf'=>by rw [hf] at hf';injection hf' with hf';exact hf' ▸ hP⟩
    · intro w7 hP hE7
      ((first|refine DK rfl rfl ?_|refine DL rfl rfl ?_|refine Fs rfl rfl ?_)<;>(refine o_z ?_))
      repeat (first|refine Aw ?_|refine Ah rfl ?_|refine Ae rfl ?_)
      ((repeat (first|refine Aw ?_|refine Ah rfl ?_|refine Ae rfl ?_))<;>(refine Ia rfl rfl ?_<;>refine Ay rfl rfl ?_<;>(refine o_z ?_))<;>(repeat (first|refine Aw ?_|refine Ah rfl ?_|refine Ae rfl ?_)))
      refine ret1 rfl rfl ⟨?_,hE5.trans' (hE6.trans' hE7)⟩
      rw [c2,Bh (fun h=>hP (h.2.1 k f hf))];rfl
  rintro _ w6 ⟨hE6,hcond⟩
  replace hcond:CondsOk t:=fun i f hf=>hcond i (BH hf) f hf
  replace hb1:=hb1.ext hE6
  replace hE6:Ext w w6:=hE5.trans' hE6
  repeat (first|refine Aw ?_|refine Ah rfl ?_|refine Ae rfl ?_)
  ((repeat (first|refine Aw ?_|refine Ah rfl ?_|refine Ae rfl ?_))<;>(refine AV rfl rfl ?_<;>refine AP rfl rfl ?_<;>refine Bj rfl rfl ?_<;>refine Ar rfl rfl ?_<;>(refine o_z ?_))<;>(repeat (first|refine Aw ?_|refine Ah rfl ?_|refine Ae rfl ?_)))
  refine BU t.ops.length (by omega) (fun _:Unit=>[(1,.pointer (some ⟨w.heap.size,0,none⟩)),(72,.slice Ao t.ops.length co)]) (fun k _ w'=>Ext w6 w'∧∀ i,i < k→∀ o,t.ops[i]?=some o→∀ (j:Nat) e,o.effs[j]?=some e→FactOk t.vars ⟨e.var,e.val⟩) ()
    ⟨Below.refl _ _,fun i hi=>by omega⟩ ⟨rfl,rfl,rfl,rfl,trivial⟩ (fun _=>⟨rfl,rfl⟩) ⟨rfl,rfl,rfl⟩ ⟨rfl,rfl⟩ ?_ ?_
  · rintro k _ w7 hk ⟨hE7,hh⟩
    obtain ⟨o,ho⟩:=AN hk
    have hb1:=hb1.ext hE7
    obtain ⟨b2,o2,ce,rfl,_,_,hd1,p,q,rfl,hp,hq,hc,hn⟩:=(hops.ext (hE6.trans' hE7)).elem ho
    obtain ⟨Ap,cp,rfl⟩:=hp.form
    obtain ⟨Aq,cq,rfl⟩:=hq.form
    have hql:=hq.len
    ((repeat (first|refine Aw ?_|refine Ah rfl ?_|refine Ae rfl ?_))<;>(refine CY rfl rfl rfl ?_<;>refine Br rfl rfl ?_)<;>(repeat (first|refine Aw ?_|refine Ah rfl ?_|refine Ae rfl ?_)))
    refine Ce rfl rfl rfl (by simp [Value.cells,Value.oneCell']) fun w8 hN8=>?_
    replace hb1:=hb1.ext hN8.ext
    have hb2:=hN8.blk
    have hE8:Ext w6 w8:=hE7.trans' hN8.ext
    replace hq:=hq.ext hN8.ext
    ((refine o_z ?_))
    repeat (first|refine Aw ?_|refine Ah rfl ?_|refine Ae rfl ?_)
    ((repeat (first|refine Aw ?_|refine Ah rfl ?_|refine Ae rfl ?_))<;>(refine AV rfl rfl ?_<;>refine AP rfl rfl ?_<;>refine Bj rfl rfl ?_<;>refine Ar rfl rfl ?_<;>(refine o_z ?_))<;>(repeat (first|refine Aw ?_|refine Ah rfl ?_|refine Ae rfl ?_)))
    refine BU o.effs.length (by omega) (fun _:Unit=>[(1,.pointer (some ⟨w.heap.size,0,none⟩)),(72,.slice (some ⟨b2,o2,none⟩) t.ops.length co),(73,.int .i64 (t.ops.length:Int)),(74,.int .i64 (k:Int)),(79,.slice Aq o.effs.length cq)]) (fun j _ w'=>Ext w8 w'∧∀ i,i < j→∀ e,o.effs[i]?=some e→FactOk t.vars ⟨e.var,e.val⟩) ()
      ⟨Below.refl _ _,fun i hi=>by omega⟩ ⟨rfl,rfl,rfl,rfl,rfl,rfl,rfl,trivial⟩ (fun _=>⟨rfl,rfl⟩) ⟨rfl,rfl,rfl⟩ ⟨rfl,rfl⟩ ?_ ?_
    · rintro j _ w9 hj ⟨hE9,hh9⟩
      obtain ⟨e,he⟩:=AN hj
      have hb1:=hb1.ext hE9
      obtain ⟨b3,o3,ce,rfl,_,_,hd1,cv',rfl,hcn,hr1,hr2⟩:=(hq.ext hE9).elem he
      obtain ⟨Acn,ccn,rfl⟩:=hcn.form
      ((repeat (first|refine Aw ?_|refine Ah rfl ?_|refine Ae rfl ?_))<;>(refine CY rfl rfl rfl ?_<;>refine Br rfl rfl ?_)<;>(repeat (first|refine Aw ?_|refine Ah rfl ?_|refine Ae rfl ?_)))
      refine Ce rfl rfl rfl (by simp [Value.cells,Value.oneCell']) fun w10 hN10=>?_
      have hb3:=hN10.blk
      replace hb1:=hb1.ext hN10.ext
      have hE10:Ext w w10:=hE6.trans' (hE8.trans' (hE9.trans' hN10.ext))
      ((refine o_z ?_))
      repeat (first|refine Aw ?_|refine Ah rfl ?_|refine Ae rfl ?_)
      (refine AV rfl rfl ?_<;>refine AP rfl rfl ?_<;>refine AV rfl rfl ?_<;>refine AP rfl rfl ?_<;>refine AV rfl rfl ?_<;>refine AP rfl rfl ?_<;>refine CG rfl rfl rfl ?_)
      refine Ds rfl rfl rfl (by simp [Value.cells];rfl) (by decide) rfl fun w11 hN11=>?_
      have hE11:Ext w w11:=hE10.trans' hN11.ext
      have hone:V w11 (.slice (some ⟨w10.heap.size,0,none⟩) 1 1) [(⟨e.var,e.val⟩:Fct)]:=Vb.made hN11 (.single ⟨rfl,hr1,hr2⟩) rfl hN11.blk.lt (by decide)
      refine Ek rfl rfl (taskFacts (hvars.ext hE11) hone) ?_ ?_
      · intro w12 hP hE12
        ((first|refine DK rfl rfl ?_|refine DL rfl rfl ?_|refine Fs rfl rfl ?_)<;>(refine o_z ?_))
        repeat (first|refine Aw ?_|refine Ah rfl ?_|refine Ae rfl ?_)
        exact ⟨(),⟨rfl,rfl,rfl,rfl,rfl,rfl,rfl,trivial⟩,hE9.trans' (hN10.ext.trans' (hN11.ext.trans' hE12)),CT hh9 fun e' he'=>by rw [he] at he';injection he' with he';subst he';exact HU.1 hP⟩
      · intro w12 hP hE12
        ((first|refine DK rfl rfl ?_|refine DL rfl rfl ?_|refine Fs rfl rfl ?_)<;>(refine o_z ?_))
        repeat (first|refine Aw ?_|refine Ah rfl ?_|refine Ae rfl ?_)
        ((repeat (first|refine Aw ?_|refine Ah rfl ?_|refine Ae rfl ?_))<;>(refine Ia rfl rfl ?_<;>refine Ay rfl rfl ?_<;>(refine o_z ?_))<;>(repeat (first|refine Aw ?_|refine Ah rfl ?_|refine Ae rfl ?_)))
        refine ret1 rfl rfl ⟨?_,hE11.trans' hE12⟩
        rw [c2,Bh (fun h=>hP (HU.2 (h.2.2 k o ho j e he)))];rfl
    rintro _ w9 ⟨hE9,hh9⟩
    repeat (first|refine Aw ?_|refine Ah rfl ?_|refine Ae rfl ?_)
    exact ⟨(),⟨rfl,rfl,rfl,rfl,trivial⟩,hE8.trans' hE9,CT hh fun o' ho' j e he=>by rw [ho] at ho';injection ho' with ho';subst ho';exact hh9 j (BH he) e he⟩
  rintro _ w7 ⟨hE7,heff⟩
  replace heff:EffsOk t:=fun i o ho=>heff i (BH ho) o ho
  have c3:checkN t=if bof (NamesOk t)=false then 8 else 0:=by rw [c2,Bl ⟨hst,hcond,heff⟩];rfl
  replace hb1:=hb1.ext hE7
  replace hE7:Ext w w7:=hE6.trans' hE7
  repeat (first|refine Aw ?_|refine Ah rfl ?_|refine Ae rfl ?_)
  ((repeat (first|refine Aw ?_|refine Ah rfl ?_|refine Ae rfl ?_))<;>(refine AV rfl rfl ?_<;>refine AP rfl rfl ?_<;>refine Bj rfl rfl ?_<;>refine Ar rfl rfl ?_<;>(refine o_z ?_))<;>(repeat (first|refine Aw ?_|refine Ah rfl ?_|refine Ae rfl ?_)))
  refine BU t.ops.length (by omega) (fun _:Unit=>[(1,.pointer (some ⟨w.heap.size,0,none⟩)),(99,.slice Ao t.ops.length co)]) (fun k _ w'=>Ext w w'∧∀ i,i < k→∀ o,t.ops[i]?=some o→NameOk o.name) ()
    ⟨hE7,fun i hi=>by omega⟩ ⟨rfl,rfl,rfl,rfl,trivial⟩ (fun _=>⟨rfl,rfl⟩) ⟨rfl,rfl,rfl⟩ ⟨rfl,rfl⟩ ?_ ?_
  · rintro k _ w8 hk ⟨hE8,hh⟩
    obtain ⟨o,ho⟩:=AN hk
    obtain ⟨b2,o2,ce,rfl,_,_,hd1,p,q,rfl,hp,hq,hc,hn⟩:=(hops.ext hE8).elem ho
    obtain ⟨Ap,cp,rfl⟩:=hp.form
    obtain ⟨Aq,cq,rfl⟩:=hq.form
    ((repeat (first|refine Aw ?_|refine Ah rfl ?_|refine Ae rfl ?_))<;>(refine CY rfl rfl rfl ?_<;>refine Br rfl rfl ?_)<;>(repeat (first|refine Aw ?_|refine Ah rfl ?_|refine Ae rfl ?_)))
    refine Ce rfl rfl rfl (by simp [Value.cells,Value.oneCell']) fun w9 hN9=>?_
    have hb2:=hN9.blk
    have hE9:Ext w w9:=hE8.trans' hN9.ext
    ((refine o_z ?_))
    repeat (first|refine Aw ?_|refine Ah rfl ?_|refine Ae rfl ?_)
    (refine AV rfl rfl ?_<;>refine AP rfl rfl ?_)
    refine Ek rfl rfl (taskNamed hn) ?_ ?_
    · intro w10 hP hE10
      ((first|refine DK rfl rfl ?_|refine DL rfl rfl ?_|refine Fs rfl rfl ?_)<;>(refine o_z ?_))
      repeat (first|refine Aw ?_|refine Ah rfl ?_|refine Ae rfl ?_)
      exact ⟨(),⟨rfl,rfl,rfl,rfl,trivial⟩,hE9.trans' hE10,CT hh fun o' ho'=>by rw [ho] at ho';injection ho' with ho';exact ho' ▸ hP⟩
    · intro w10 hP hE10
      ((first|refine DK rfl rfl ?_|refine DL rfl rfl ?_|refine Fs rfl rfl ?_)<;>(refine o_z ?_))
      repeat (first|refine Aw ?_|refine Ah rfl ?_|refine Ae rfl ?_)
      ((repeat (first|refine Aw ?_|refine Ah rfl ?_|refine Ae rfl ?_))<;>(refine Ia rfl rfl ?_<;>refine Ay rfl rfl ?_<;>(refine o_z ?_))<;>(repeat (first|refine Aw ?_|refine Ah rfl ?_|refine Ae rfl ?_)))
      refine ret1 rfl rfl ⟨?_,hE9.trans' hE10⟩
      rw [c3,Bh (fun h=>hP (h k o ho))];rfl
  rintro _ w8 ⟨hE8,hnames⟩
  repeat (first|refine Aw ?_|refine Ah rfl ?_|refine Ae rfl ?_)
  ((repeat (first|refine Aw ?_|refine Ah rfl ?_|refine Ae rfl ?_))<;>(refine Ay rfl rfl ?_<;>(refine o_z ?_))<;>(repeat (first|refine Aw ?_|refine Ah rfl ?_|refine Ae rfl ?_)))
  refine ret1 rfl rfl ⟨?_,hE8⟩
  rw [c3,Bl (show NamesOk t from fun i o ho=>hnames i (BH ho) o ho)];rfl
end
section
theorem HI {p:Prop}:bof p=true↔p:=⟨fun h=>Classical.byContradiction fun hn=>(by rw [Bh hn] at h;exact Bool.noConfusion h),Bl⟩
theorem DS {p:Prop}:bof p=false↔¬ p:=by
  rw [← Bool.not_eq_true,HI]
theorem Fy {vars:List Int} {f:List Fct} (h:FactsOk vars f):∀ (j i:Nat) (x y:Fct),i < j→f[i]?=some x→f[j]?=some y→x.var < y.var
  | 0,i,_,_,hij,_,_=>by omega
  | j + 1,i,x,y,hij,hx,hy=>by
    by_cases he:i=j
    · subst he;exact h.2 i x y hx hy
    · obtain ⟨z,hz⟩:=AN (l:=f) (k:=j) (by have:=BH hy;omega)
      have h1:=Fy h j i x z (by omega) hx hz
      have h2:=h.2 j z y hz hy
      omega
theorem IJ {vars:List Int} {f:List Fct} (h:FactsOk vars f):∀ (i:Nat) (x:Fct),f[i]?=some x→(i:Int)≤x.var
  | 0,x,hx=>(h.1 0 x hx).1
  | i + 1,x,hx=>by
    obtain ⟨z,hz⟩:=AN (l:=f) (k:=i) (by have:=BH hx;omega)
    have h1:=IJ h i z hz
    have h2:=h.2 i z x hz hx
    omega
theorem Ew {vars:List Int} {f:List Fct} (h:FactsOk vars f):f.length≤vars.length:=by
  rcases Nat.eq_zero_or_pos f.length with h0|h0
  · omega
  · obtain ⟨x,hx⟩:=AN (l:=f) (k:=f.length - 1) (by omega)
    have h1:=IJ h _ x hx
    obtain ⟨h2,h3,y,hy,_⟩:=h.1 _ x hx
    have:=BH hy
    omega
theorem FX {t:Tsk} {f:List Fct}:f∈conds t↔f=t.goal∨∃ (i:Nat) (o:Opr),t.ops[i]?=some o∧(f=o.pre∨∃ (j:Nat) (e:Eff),o.effs[j]?=some e∧f=e.cond):=by
  unfold conds opConds
  rw [List.mem_cons,List.mem_flatMap]
  constructor
  · rintro (h|⟨o,ho,hf⟩)
    · exact .inl h
    · obtain ⟨i,hi⟩:=List.getElem?_of_mem ho
      refine .inr ⟨i,o,hi,?_⟩
      rcases List.mem_cons.1 hf with h|h
      · exact .inl h
      · obtain ⟨e,he,rfl⟩:=List.mem_map.1 h
        obtain ⟨j,hj⟩:=List.getElem?_of_mem he
        exact .inr ⟨j,e,hj,rfl⟩
  · rintro (h|⟨i,o,ho,h⟩)
    · exact .inl h
    · refine .inr ⟨o,List.mem_of_getElem? ho,?_⟩
      rcases h with rfl|⟨j,e,he,rfl⟩
      · exact List.mem_cons_self
      · exact List.mem_cons_of_mem _ (List.mem_map.2 ⟨e,List.mem_of_getElem? he,rfl⟩)
theorem Dj {t:Tsk}:checkN t=0↔TaskOk t:=by
  unfold checkN
  constructor
  · intro h
    by_cases h1:Large t
    · rw [if_pos (HI.2 h1)] at h;cases h
    rw [if_neg (fun hh=>h1 (HI.1 hh))] at h
    by_cases h2:VarsOk t∧CostsOk t
    case neg=>rw [if_pos (DS.2 h2)] at h;cases h
    rw [if_neg (fun hh=>DS.1 hh h2)] at h
    by_cases h3:StateOk t.vars t.init∧CondsOk t∧EffsOk t
    case neg=>rw [if_pos (DS.2 h3)] at h;cases h
    rw [if_neg (fun hh=>DS.1 hh h3)] at h
    by_cases h4:NamesOk t
    case neg=>rw [if_pos (DS.2 h4)] at h;cases h
    have hc:∀ f∈conds t,FactsOk t.vars f:=fun f hf=>by
      obtain ⟨i,hi⟩:=List.getElem?_of_mem hf
      exact h3.2.1 i f hi
    have hl:t.vars.length≤64∧t.ops.length≤4096∧(∀ (i:Nat) (o:Opr),t.ops[i]?=some o→o.effs.length≤64):=by
      unfold Large at h1
      refine ⟨Nat.le_of_not_lt fun h=>h1 (.inl h),Nat.le_of_not_lt fun h=>h1 (.inr (.inl h)),fun i o ho=>Nat.le_of_not_lt fun h=>h1 (.inr (.inr (.inl ⟨i,o,ho,h⟩)))⟩
    exact ⟨hl.1,hl.2.1,h2.1,h3.1,hc _ (FX.2 (.inl rfl)),fun i o ho=>⟨(h2.2 i o ho).1,(h2.2 i o ho).2,hl.2.2 i o ho,h4 i o ho,hc _ (FX.2 (.inr ⟨i,o,ho,.inl rfl⟩)),fun j e he=>⟨hc _ (FX.2 (.inr ⟨i,o,ho,.inr ⟨j,e,he,rfl⟩⟩)),h3.2.2 i o ho j e he⟩⟩⟩
  · rintro ⟨h1,h2,h3,h4,h5,h6⟩
    have hc:∀ f∈conds t,FactsOk t.vars f:=fun f hf=>by
      rcases FX.1 hf with rfl|⟨i,o,ho,rfl|⟨j,e,he,rfl⟩⟩
      · exact h5
      · exact (h6 i o ho).2.2.2.2.1
      · exact ((h6 i o ho).2.2.2.2.2 j e he).1
    have hL:¬ Large t:=by
      rintro (h|h|⟨i,o,ho,h⟩|⟨f,hf,h⟩)
      · omega
      · omega
      · have:=(h6 i o ho).2.2.1;omega
      · have:=Ew (hc f hf);omega
    have hV:VarsOk t∧CostsOk t:=⟨h3,fun i o ho=>⟨(h6 i o ho).1,(h6 i o ho).2.1⟩⟩
    have hS:StateOk t.vars t.init∧CondsOk t∧EffsOk t:=⟨h4,fun i f hf=>hc f (List.mem_of_getElem? hf),fun i o ho j e he=>((h6 i o ho).2.2.2.2.2 j e he).2⟩
    have hN:NamesOk t:=fun i o ho=>(h6 i o ho).2.2.2.1
    rw [if_neg (fun hh=>hL (HI.1 hh)),if_neg (fun hh=>DS.1 hh hV),if_neg (fun hh=>DS.1 hh hS),if_neg (fun hh=>DS.1 hh hN)]
theorem TaskOk.vars {t:Tsk} (h:TaskOk t):VarsOk t:=h.2.2.1
end
section
open Go Go.RowKit
section
variable {P : Program} {l : Env} {w : World} {dst : Option Tmp} {ty : TypeId} {pos : String} {aft : Array Edge}
theorem IK {t u:TypeId} {x y:Operand} {a b c:Int} (hx:opv l x=some (.int .i64 a)) (hy:opv l y=some (.int .i64 b)) (he:chkI (a + b)=some c):Ev P ⟨dst,.binOp .add t x y u,ty,pos,aft,none⟩ l w (.int .i64 c):=by
  obtain ⟨rfl,h⟩:=FV he
  exact Kg hx hy h
theorem LT {t u:TypeId} {x y:Operand} {a b c:Int} (hx:opv l x=some (.int .i64 a)) (hy:opv l y=some (.int .i64 b)) (he:chkI (a - b)=some c):Ev P ⟨dst,.binOp .sub t x y u,ty,pos,aft,none⟩ l w (.int .i64 c):=by
  obtain ⟨rfl,h⟩:=FV he
  exact Ph hx hy h
theorem LU {t u:TypeId} {x y:Operand} {a b c:Int} (hx:opv l x=some (.int .i64 a)) (hy:opv l y=some (.int .i64 b)) (he:chkI (a * b)=some c):Ev P ⟨dst,.binOp .mul t x y u,ty,pos,aft,none⟩ l w (.int .i64 c):=by
  obtain ⟨rfl,h⟩:=FV he
  exact Pi hx hy h
theorem Kr {t e:TypeId} [TSlice P t e] {z:Value} {size bytes:Nat} [TInfo P e z size bytes] {x i:Operand} {k:IntKind} {A:Option Addr} {b o m c j:Nat} {q:Int} (hx:opv l x=some (.slice A m c)) (hq:opv l i=some (.int k q)) (hA:A=some ⟨b,o,none⟩) (hj:q=(j:Int)) (hlt:j < m) :
    Ev P ⟨dst,.indexAddr t x i,ty,pos,aft,none⟩ l w (.pointer (some ⟨b,o + j * size,none⟩)):=by
  subst hA
  exact EP hx hq hj hlt
theorem Pv {t:TypeId} {f off:Nat} [TField P t f off] {x:Operand} {p:Option Addr} {b o:Nat} (hx:opv l x=some (.pointer p)) (hA:p=some ⟨b,o,none⟩):Ev P ⟨dst,.fieldAddr t x f,ty,pos,aft,none⟩ l w (.pointer (some ⟨b,o + off,none⟩)):=by
  subst hA
  exact Dh hx
theorem Pw {x:Operand} {p:Option Addr} {ad:Addr} (hx:opv l x=some (.pointer p)) (hA:p=some ad):Ev P ⟨dst,.nilCheck x,ty,pos,aft,none⟩ l w (.pointer p):=by
  subst hA
  exact Gy hx
theorem Px {x:Operand} {n:Int} [TInt P 59 .i64] (hx:opv l x=some (.int .i64 n)) (hn:n≠0):Ev P ⟨dst,.makeInterface 59 x,ty,pos,aft,none⟩ l w (errV n):=by
  rw [GC hn]
  exact ID hx
theorem Jl (a b c d:Int) (w:World):(Op.equal 45 (.agg #[.int .i64 a,.int .i64 b]) (.agg #[.int .i64 c,.int .i64 d])).run Tryz.prog w=.ok (decide (a=c∧b=d)) w:=by
  have h1:∀ (n:Nat) (x y:Int) (w:World),(Op.equalIn (n + 1) 3 (.int .i64 x) (.int .i64 y)).run Tryz.prog w=.ok (x == y) w:=fun n x y w=>by simp [Op.equalIn,run_underlying Tryz.underlying3]
  have hs:Tryz.prog.stoodInHeld 45=false:=by kernel_rfl
  have hd:∀ n:Nat,(Op.equalIn (n + 2) 45 (.agg #[.int .i64 a,.int .i64 b]) (.agg #[.int .i64 c,.int .i64 d])).run Tryz.prog w=.ok (decide (a=c∧b=d)) w:=fun n=>by
    rw [Op.equalIn]
    simp [run_underlying Tryz.underlying45,hs,Go.part,FH (P:=Tryz.prog) (t:=3),h1]
    by_cases hx:a=c<;>by_cases hy:b=d<;>simp [hx,hy]
  exact hd 9998
theorem Qc {u:TypeId} {x y:Operand} {a b c d:Int} (hx:opv l x=some (.agg #[.int .i64 a,.int .i64 b])) (hy:opv l y=some (.agg #[.int .i64 c,.int .i64 d])):Ev Tryz.prog ⟨dst,.binOp .neq 45 x y u,ty,pos,aft,none⟩ l w (.bool (decide (¬ (a=c∧b=d)))):=fun _ _ e ha=>by
  simp [execOp,ha.eval hx,ha.eval hy,eqGuard,binOp,Jl]
theorem Oq {t u:TypeId} [TIface P t] {x:Operand} {n:Int} (hx:opv l x=some (errV n)):Ev P ⟨dst,.binOp .eql t x (.const .nilIface) u,ty,pos,aft,none⟩ l w (.bool (decide (n=0))):=by
  by_cases h:n=0
  · subst h
    rw [FW] at hx
    exact Mn hx
  · rw [GC h] at hx
    simpa [h] using LM (P:=P) (w:=w) (dst:=dst) (ty:=ty) (pos:=pos) (aft:=aft) (t:=t) (u:=u) hx
theorem Ot {t u:TypeId} [TIface P t] {x:Operand} {n:Int} (hx:opv l x=some (errV n)):Ev P ⟨dst,.binOp .neq t x (.const .nilIface) u,ty,pos,aft,none⟩ l w (.bool (decide (n≠0))):=by
  by_cases h:n=0
  · subst h
    rw [FW] at hx
    exact IE hx
  · rw [GC h] at hx
    simpa [h] using HR (P:=P) (w:=w) (dst:=dst) (ty:=ty) (pos:=pos) (aft:=aft) (t:=t) (u:=u) hx
end
section
variable {P : Program} {n : Nat} {ops : Array Oper} {Q : Post} {rest : List Oper} {l : Env} {w : World} {d : Tmp} {ty : TypeId} {pos : String} {aft : Array Edge}
theorem Fz {t u:TypeId} {x y:Operand} {a b c:Int} (hx:opv l x=some (.int .i64 a)) (hy:opv l y=some (.int .i64 b)) (hd:Nat.blt d n=true) (h:owp P n ops Q rest ((d,.int .i64 c) :: l) w) (he:chkI (a + b)=some c:=by assumption):owp P n ops Q (⟨some d,.binOp .add t x y u,ty,pos,aft,none⟩ :: rest) l w:=Bp (IK hx hy he) hd h
theorem FY {t u:TypeId} {x y:Operand} {a b c:Int} (hx:opv l x=some (.int .i64 a)) (hy:opv l y=some (.int .i64 b)) (hd:Nat.blt d n=true) (h:owp P n ops Q rest ((d,.int .i64 c) :: l) w) (he:chkI (a - b)=some c:=by assumption):owp P n ops Q (⟨some d,.binOp .sub t x y u,ty,pos,aft,none⟩ :: rest) l w:=Bp (LT hx hy he) hd h
theorem Oe {t u:TypeId} {x y:Operand} {a b c:Int} (hx:opv l x=some (.int .i64 a)) (hy:opv l y=some (.int .i64 b)) (hd:Nat.blt d n=true) (h:owp P n ops Q rest ((d,.int .i64 c) :: l) w) (he:chkI (a * b)=some c:=by assumption):owp P n ops Q (⟨some d,.binOp .mul t x y u,ty,pos,aft,none⟩ :: rest) l w:=Bp (LU hx hy he) hd h
theorem BB {t e:TypeId} [TSlice P t e] {z:Value} {size bytes:Nat} [TInfo P e z size bytes] {x i:Operand} {k:IntKind} {A:Option Addr} {b o m c j:Nat} {q:Int} (hx:opv l x=some (.slice A m c)) (hq:opv l i=some (.int k q)) (hd:Nat.blt d n=true) (h:owp P n ops Q rest ((d,.pointer (some ⟨b,o + j * size,none⟩)) :: l) w) (hA:A=some ⟨b,o,none⟩:=by assumption) (hj:q=(j:Int):=by rfl) (hlt:j < m:=by assumption):owp P n ops Q (⟨some d,.indexAddr t x i,ty,pos,aft,none⟩ :: rest) l w:=Bp (Kr hx hq hA hj hlt) hd h
theorem Qd {t:TypeId} {f off:Nat} [TField P t f off] {x:Operand} {p:Option Addr} {b o:Nat} (hx:opv l x=some (.pointer p)) (hd:Nat.blt d n=true) (h:owp P n ops Q rest ((d,.pointer (some ⟨b,o + off,none⟩)) :: l) w) (hA:p=some ⟨b,o,none⟩:=by assumption):owp P n ops Q (⟨some d,.fieldAddr t x f,ty,pos,aft,none⟩ :: rest) l w:=Bp (Pv hx hA) hd h
theorem Qe {x:Operand} {p:Option Addr} {ad:Addr} (hx:opv l x=some (.pointer p)) (hd:Nat.blt d n=true) (h:owp P n ops Q rest ((d,.pointer p) :: l) w) (hA:p=some ad:=by assumption):owp P n ops Q (⟨some d,.nilCheck x,ty,pos,aft,none⟩ :: rest) l w:=Bp (Pw hx hA) hd h
theorem Py {t e:TypeId} [TSlice P t e] {z:Value} {size bytes:Nat} [TInfo P e z size bytes] {A A':Option Addr} {m c m' c':Nat} {q:Int} {k:IntKind} {x y:Operand} (hx:opv l x=some (.slice A m c)) (hy:opv l y=some (.int k q)) (hd:Nat.blt d n=true) (h:owp P n ops Q rest ((d,.slice A' m' c') :: l) w) (hc:CutB size A m c 0 q A' m' c':=by assumption):owp P n ops Q (⟨some d,.slice t x none (some y) none,ty,pos,aft,none⟩ :: rest) l w:=Bp (Oo hx hy hc) hd h
theorem LV [TInt P 59 .i64] {x:Operand} {q:Int} (hx:opv l x=some (.int .i64 q)) (hd:Nat.blt d n=true) (h:owp P n ops Q rest ((d,errV q) :: l) w) (hn:q≠0:=by decide):owp P n ops Q (⟨some d,.makeInterface 59 x,ty,pos,aft,none⟩ :: rest) l w:=Bp (Px hx hn) hd h
theorem LW {t u:TypeId} [TIface P t] {x:Operand} {k:Int} (hx:opv l x=some (errV k)) (hd:Nat.blt d n=true) (ht:k=0→owp P n ops Q rest ((d,.bool true) :: l) w) (hf:¬ (k=0)→owp P n ops Q rest ((d,.bool false) :: l) w):owp P n ops Q (⟨some d,.binOp .eql t x (.const .nilIface) u,ty,pos,aft,none⟩ :: rest) l w:=DR (Oq hx) hd ht hf
theorem Ej {t u:TypeId} [TIface P t] {x:Operand} {k:Int} (hx:opv l x=some (errV k)) (hd:Nat.blt d n=true) (ht:k≠0→owp P n ops Q rest ((d,.bool true) :: l) w) (hf:¬ (k≠0)→owp P n ops Q rest ((d,.bool false) :: l) w):owp P n ops Q (⟨some d,.binOp .neq t x (.const .nilIface) u,ty,pos,aft,none⟩ :: rest) l w:=DR (Ot hx) hd ht hf
variable {S : World → Prop} {r : List (Nat × Bool)} {i : Nat}
theorem Qf {u:TypeId} {x y:Operand} {a b c e:Int} (hi:ops[i]?=some ⟨some d,.binOp .neq 45 x y u,ty,pos,aft,none⟩) (hx:opv l x=some (.agg #[.int .i64 a,.int .i64 b])) (hy:opv l y=some (.agg #[.int .i64 c,.int .i64 e])) (hd:Nat.blt d n=true) (ht:¬ (a=c∧b=e)→hwp Tryz.prog n ops Q S r ((d,.bool true) :: l) w) (hf:¬ (¬ (a=c∧b=e))→hwp Tryz.prog n ops Q S r ((d,.bool false) :: l) w):hwp Tryz.prog n ops Q S ((i,true) :: r) l w:=AK hi (BP (fun _ _=>Qc hx hy) hd ht hf)
theorem IL {t u:TypeId} {x y:Operand} {a b c:Int} (hi:ops[i]?=some ⟨some d,.binOp .add t x y u,ty,pos,aft,none⟩) (hx:opv l x=some (.int .i64 a)) (hy:opv l y=some (.int .i64 b)) (hd:Nat.blt d n=true) (h:hwp P n ops Q S r ((d,.int .i64 c) :: l) w) (he:chkI (a + b)=some c:=by assumption):hwp P n ops Q S ((i,true) :: r) l w:=AK hi (Bx (fun _ _=>IK hx hy he) hd h)
theorem BC {t e:TypeId} [TSlice P t e] {z:Value} {size bytes:Nat} [TInfo P e z size bytes] {x i':Operand} {k:IntKind} {A:Option Addr} {b o m c j:Nat} {q:Int} (hi:ops[i]?=some ⟨some d,.indexAddr t x i',ty,pos,aft,none⟩) (hx:opv l x=some (.slice A m c)) (hq:opv l i'=some (.int k q)) (hd:Nat.blt d n=true) (h:hwp P n ops Q S r ((d,.pointer (some ⟨b,o + j * size,none⟩)) :: l) w) (hA:A=some ⟨b,o,none⟩:=by assumption) (hj:q=(j:Int):=by rfl) (hlt:j < m:=by assumption):hwp P n ops Q S ((i,true) :: r) l w:=AK hi (Bx (fun _ _=>Kr hx hq hA hj hlt) hd h)
theorem LX {t e:TypeId} [TSlice P t e] {z:Value} {size bytes:Nat} [TInfo P e z size bytes] {x i':Operand} {k:IntKind} {A:Option Addr} {b o m c j:Nat} {q:Int} (hx:opv l x=some (.slice A m c)) (hq:opv l i'=some (.int k q)) (hd:Nat.blt d n=true) (h:hwp P n ops Q S r ((d,.pointer (some ⟨b,o + j * size,none⟩)) :: l) w) (hA:A=some ⟨b,o,none⟩:=by assumption) (hj:q=(j:Int):=by rfl) (hlt:j < m:=by assumption):hwq P n ops Q S ⟨some d,.indexAddr t x i',ty,pos,aft,none⟩ r l w:=Bx (fun _ _=>Kr hx hq hA hj hlt) hd h
end
end
section
open Go Go.RowKit
def Bm (w0:World) (O0:Lab) (w:World) (O:Lab):Prop:=St (fun j=>j≠0∧j≠1) w0 O0 w O
section
variable {T : Nat → Prop} {w w' w0 : World} {O O' O0 : Lab}
theorem Bm.st (h:Bm w0 O0 w O) (hS:St T w O w' O') (h0:¬ T 0:=by decide) (h1:¬ T 1:=by decide):Bm w0 O0 w' O' :=
  St.comp h hS fun j hj=>⟨fun e=>h0 (e ▸ hj),fun e=>h1 (e ▸ hj)⟩
theorem Bm.refl:Bm w O w O:=St.refl _ _ _
structure Lbl (f:Nat→Nat) (T:Nat→Prop):Prop where
  z:f 0=0
  nz:∀ j,f j=0→j=0
  o:∀ j,¬ T j→f j=0∨f j=1
theorem Lbl.one {i:Nat} (hi:i≠0):Lbl (fun j=>if j=0 then 0 else if j=i then 2 else 1) (eT i) :=
  ⟨rfl,fun j h=>by by_cases hj:j=0<;>simp_all;split at h<;>simp_all,fun j h=>by by_cases hj:j=0<;>by_cases hk:j=i<;>simp_all⟩
theorem Lbl.fr0 {f:Nat→Nat} (h:Lbl f T):∀ k,Fr 0 w O k→Fr 0 w (fun k=>f (O k)) k:=fun k hk=>⟨hk.1,by show f (O k)=0;rw [hk.2];exact h.z⟩
theorem Bm.leave {f:Nat→Nat} (g:Nat→Nat) (hf:Lbl f T) (hg:g 0=0) (h:Bm w (fun k=>f (O k)) w' O') :
    ∃ O'',St T w O w' O''∧(∀ k,Fr 0 w' O' k→Fr 0 w' O'' k)∧∀ j,j≠0→j≠1→∀ k,Fr j w' O' k→Fr (g j) w' O'' k:=by
  classical
  have key:∀ k,k < w.heap.size→¬ T (O k)→w'.heap[k]?=w.heap[k]?∧O' k=f (O k):=fun k hk ht =>
    h.same k hk (by rcases hf.o _ ht with e|e<;>simp [e])
  refine ⟨fun k=>if k < w.heap.size∧¬ T (O k) then O k else g (O' k),⟨h.os,h.tape,h.output,h.size,fun k hk ht=>⟨(key k hk ht).1,if_pos ⟨hk,ht⟩⟩⟩,fun k hk=>⟨hk.1,?_⟩,fun j h0 h1 k hk=>⟨hk.1,?_⟩⟩
  · by_cases hc:k < w.heap.size∧¬ T (O k)
    · show (if _ then _ else _)=_
      rw [if_pos hc]
      exact hf.nz _ ((key k hc.1 hc.2).2.symm.trans hk.2)
    · show (if _ then _ else _)=_
      rw [if_neg hc,hk.2,hg]
  · by_cases hc:k < w.heap.size∧¬ T (O k)
    · have h2:=(key k hc.1 hc.2).2.symm.trans hk.2
      rcases hf.o _ hc.2 with e|e<;>rw [e] at h2<;>omega
    · show (if _ then _ else _)=_
      rw [if_neg hc,hk.2]
theorem EJ {P:Program} {n:Nat} {ops:Array Oper} {Q:Post} {rest:List Oper} {l:Env} {w:World} {d:Tmp} {ty:TypeId} {pos:String} {aft:Array Edge} {f:FuncId} [Callable P f] {xs:List Operand} {vs:List Value} {ts:Array TypeId} {O:Lab} {R:Value→World→Lab→Prop}
    (hc:Fn P f vs w fun v w'=>∃ O',St T w O w' O'∧R v w' O') (hx:opvs l xs=some vs) (hd:Nat.blt d n=true)
    (h:∀ v w' O',St T w O w' O'→R v w' O'→owp P n ops Q rest ((d,v) :: l) w'):owp P n ops Q (⟨some d,.call { callee:=.value (.func f),args:=xs.toArray,argTypes:=ts },ty,pos,aft,none⟩ :: rest) l w :=
  Bo hx hd hc fun v w' ⟨O',hS,hR⟩=>h v w' O' hS hR
end
def Ent (T:Nat→Prop) (O O0:Lab):Prop:=∃ f,Lbl f T∧O0=fun k=>f (O k)
theorem ent1 {w:World} {O:Lab} {i:Nat} (hi:i≠0):∃ O0,Ent (eT i) O O0∧(∀ k,Fr 0 w O k→Fr 0 w O0 k)∧∀ k,Fr i w O k→Fr 2 w O0 k :=
  ⟨_,⟨_,Lbl.one hi,rfl⟩,(Lbl.one hi).fr0,fun k hk=>⟨hk.1,by simp [hk.2,hi]⟩⟩
theorem Ent.leave {T:Nat→Prop} {w w':World} {O O0 O':Lab} (h:Ent T O O0) (g:Nat→Nat) (hg:g 0=0) (hB:Bm w O0 w' O') :
    ∃ O'',St T w O w' O''∧(∀ k,Fr 0 w' O' k→Fr 0 w' O'' k)∧∀ j,j≠0→j≠1→∀ k,Fr j w' O' k→Fr (g j) w' O'' k:=by
  obtain ⟨f,hf,rfl⟩:=h
  exact Bm.leave g hf hg hB
theorem ret0n {P:Program} {l:Env} {w:World} {fn:Func} {R:Value→World→Prop} (hr:fn.results=#[]) (h:R (.tuple #[]) w):retPost P fn R .normal l w:=⟨_,fun n a d ha=>by simp [Fv,hr],h⟩
class Ow (α:Type) where
  R:World→(Nat→Prop)→(Nat→Prop)→Value→α→Prop
  agree:∀ {w w':World} {F M:Nat→Prop} {v:Value} {x:α},R w F M v x→Agree F w w'→Agree M w w'→R w' F M v x
  mono:∀ {w:World} {F M F' M':Nat→Prop} {v:Value} {x:α},R w F M v x→(∀ k,F k→F' k)→(∀ k,M k→M' k)→(∀ k,F' k→¬ M' k)→R w F' M' v x
def Ob {α:Type} [Ow α] (i:Nat) (w:World) (O:Lab) (v:Value) (x:α):Prop:=Ow.R w (Fr 0 w O) (Fr i w O) v x∧i≠0
theorem frNe {i j:Nat} (h:i≠j) {w:World} {O:Lab}:∀ k,Fr i w O k→¬ Fr j w O k:=fun _ h1 h2=>h (h1.2.symm.trans h2.2)
theorem frNe0 {j:Nat} (h:j≠0) {w:World} {O:Lab}:∀ k,Fr 0 w O k→¬ Fr j w O k:=frNe (Ne.symm h)
section
variable {α : Type} [Ow α] {T : Nat → Prop} {i : Nat} {w w' : World} {O O' : Lab} {v : Value} {x : α}
theorem Ob.st (h:Ob i w O v x) (hS:St T w O w' O') (h0:¬ T 0:=by decide) (hi:¬ T i:=by decide):Ob i w' O' v x :=
  ⟨Ow.mono (Ow.agree h.1 (hS.agree h0) (hS.agree hi)) (hS.fr h0) (hS.fr hi) (frNe0 h.2),h.2⟩
theorem Ob.leave {j:Nat} (h:Ob i w O v x) (h1:∀ k,Fr 0 w O k→Fr 0 w O' k) (h2:∀ k,Fr i w O k→Fr j w O' k) (hj:j≠0):Ob j w O' v x:=⟨Ow.mono h.1 h1 h2 (frNe0 hj),hj⟩
end
def RwM {α:Type} [Rp α] (w:World) (F M:Nat→Prop) (e:TypeId) (v:Value) (xs:List α):Prop:=Own w 0 F e v xs∧∀ g,v.ownBlock=some g→M g
section
variable {α : Type} [Rp α] {i : Nat} {w w' : World} {O O' : Lab} {v : Value} {xs : List α} {e : TypeId} {F M F' M' : Nat → Prop}
theorem RwM.agree (h:RwM w F M e v xs) (h1:Agree F w w') (h2:Agree M w w'):RwM w' F M e v xs:=⟨h.1.agree h1 fun g hg=>h2 g (h.2 g hg),h.2⟩
theorem RwM.mono (h:RwM w F M e v xs) (h1:∀ k,F k→F' k) (h2:∀ k,M k→M' k) (h3:∀ k,F' k→¬ M' k):RwM w F' M' e v xs :=
  ⟨h.1.mono h1 fun g hg hf=>h3 g hf (h2 g (h.2 g hg)),fun g hg=>h2 g (h.2 g hg)⟩
theorem RwM.rw (h:RwM w F M e v xs) (h1:∀ k,F k→Fr 0 w O k) (h2:∀ k,M k→Fr i w O k) (hi:i≠0):Rw i w O e v xs :=
  ⟨h.1.mono h1 fun g hg hf=>frNe0 hi g hf (h2 g (h.2 g hg)),fun g hg=>(h2 g (h.2 g hg)).2,hi⟩
theorem Rw.m (h:Rw i w O e v xs) (h1:∀ k,Fr 0 w O k→F k) (h2:∀ k,Fr i w O k→M k) (h3:∀ k,F k→¬ M k):RwM w F M e v xs :=
  ⟨h.1.mono h1 fun g hg hf=>h3 g hf (h2 g ⟨(h.1.lt g hg).2,h.2.1 g hg⟩),fun g hg=>h2 g ⟨(h.1.lt g hg).2,h.2.1 g hg⟩⟩
end
theorem Rw.leave {α:Type} [Rp α] {i j:Nat} {w:World} {O O':Lab} {e:TypeId} {v:Value} {xs:List α} (h:Rw i w O e v xs) (h1:∀ k,Fr 0 w O k→Fr 0 w O' k) (h2:∀ k,Fr i w O k→Fr j w O' k) (hj:j≠0):Rw j w O' e v xs:=(h.m (fun _ h=>h) (fun _ h=>h) (frNe0 h.2.2)).rw h1 h2 hj
theorem cutRw {α:Type} [Rp α] {i:Nat} {w:World} {O:Lab} {e:TypeId} {A:Option Addr} {m c:Nat} {q:Int} {xs u:List α} (h:Rw i w O e (.slice A m c) xs) (he:cutI xs 0 q=some u):Rw i w O e (.slice A u.length c) u∧CutB (Rp.size α) A m c 0 q A u.length c:=by
  obtain ⟨a,b,ha,rfl,h1,h2,rfl⟩:=Mt he
  obtain rfl:a=0:=by omega
  obtain ⟨hm,hc,hc2⟩:=h.len
  have hl:((xs.take b).drop 0).length=b:=by simp;omega
  rw [hl]
  have hob:(Value.slice A b c).ownBlock=(Value.slice A m c).ownBlock:=by cases A<;>rfl
  refine ⟨⟨?_,by rw [hob];exact h.2.1,h.2.2⟩,0,b,rfl,rfl,Nat.zero_le _,by omega,hc,?_⟩
  · obtain ⟨cells,o1,o2,o3⟩:=h.1
    refine ⟨cells.take (b * Rp.size α),⟨by rw [List.length_take,o2.length,hl,Nat.min_eq_left (Nat.mul_le_mul_right _ h2)],?_⟩,by simpa using o2.take b,by rw [hob];exact o3⟩
    rcases o1.2 with ⟨hv,hn⟩|⟨g,cap,cur,hv,hg,hh,hnc,hcm,hcs,hcur⟩
    · injection hv with e1 e2 e3
      have:b=0:=by omega
      subst this
      exact .inl ⟨by rw [e1,e3],hl⟩
    · injection hv with e1 e2 e3
      refine .inr ⟨g,cap,cur,by rw [e1,e3,hl],hg,hh,by omega,hcm,hcs,?_⟩
      rw [hl,← hcur,List.take_take,Nat.min_eq_left (Nat.mul_le_mul_right _ h2)]
  · have:(A.map (·.add (0 * Rp.size α)))=A:=by
      cases A with
      | none=>rfl
      | some ad=>obtain ⟨b',o',p'⟩:=ad;simp [Addr.add]
    split<;>simp_all
def part (O:Lab) (i:Nat) (L:Lab) (ls:List Nat):Lab:=fun k=>if O k=i then ls.getD (L k) (ls.headD 2) else O k
def whole (O:Lab) (i:Nat) (ls:List Nat):Lab:=fun k=>if O k∈ls then i else O k
section
variable {i : Nat} {w : World} {O L : Lab} {ls : List Nat}
theorem Lu (h:i≠0):St (eT i) w O w (part O i L ls):=⟨rfl,rfl,rfl,Nat.le_refl _,fun _ _ hk=>⟨rfl,if_neg hk⟩⟩
theorem DV (h:i≠0):∀ k,Fr 0 w O k→Fr 0 w (part O i L ls) k:=fun k hk=>⟨hk.1,by unfold part;rw [if_neg (fun e=>h (e.symm.trans hk.2))];exact hk.2⟩
theorem FF {j q:Nat} (hj:ls[j]?=some q):∀ k,(Fr i w O k∧L k=j)→Fr q w (part O i L ls) k:=fun k hk=>⟨hk.1.1,by unfold part;rw [if_pos hk.1.2,hk.2];simp [hj]⟩
theorem Ks (hl:ls≠[]):∀ k,Fr i w O k→∃ q,q∈ls∧Fr q w (part O i L ls) k:=fun k hk=>by
  refine ⟨part O i L ls k,?_,hk.1,rfl⟩
  unfold part
  rw [if_pos hk.2]
  cases h:ls[L k]? with
  | some q=>rw [List.getD_eq_getElem?_getD,h];exact List.mem_of_getElem? h
  | none =>
    rw [List.getD_eq_getElem?_getD,h]
    cases ls with
    | nil=>exact absurd rfl hl
    | cons a l=>simp
theorem Kt:St (·∈ls) w O w (whole O i ls):=⟨rfl,rfl,rfl,Nat.le_refl _,fun _ _ hk=>⟨rfl,if_neg hk⟩⟩
theorem CU (h:¬ 0∈ls):∀ k,Fr 0 w O k→Fr 0 w (whole O i ls) k:=fun k hk=>⟨hk.1,by unfold whole;rw [if_neg (by rw [hk.2];exact h)];exact hk.2⟩
theorem Jx:∀ q,q∈ls→∀ k,Fr q w O k→Fr i w (whole O i ls) k:=fun q hq k hk=>⟨hk.1,by unfold whole;rw [if_pos (by rw [hk.2];exact hq)]⟩
theorem EX {j q:Nat} (hj:ls.idxOf q=j) (hq:q∈ls):∀ k,Fr q w O k→Fr i w (whole O i ls) k∧ls.idxOf (O k)=j:=fun k hk=>⟨⟨hk.1,by unfold whole;rw [if_pos (by rw [hk.2];exact hq)]⟩,by rw [hk.2];exact hj⟩
end
structure BxR (t e:TypeId) (α:Type) where
  l:List α
end
section
open Go Go.RowKit
def wpAnyX (P:Program) (ops:Array Oper) (Q:Exit→Act→World→Prop) (S:Array Bool→World→Prop):Nat→Array Bool→Act→World→Prop
  | 0,listed,a,w=>Region.ready .any ops listed=[]∧Q .normal a w
  | fuel + 1,listed,a,w =>
    (Region.ready .any ops listed=[]→Q .normal a w) ∧
    ∀ i∈Region.ready .any ops listed,wpOp P ops Q i (fun a' w'=>(isLast ops i=false→S (listed.setIfInBounds i true) w')∧wpAnyX P ops Q S fuel (listed.setIfInBounds i true) a' w') a w
theorem IM {P:Program} {ops:Array Oper} {Q:Exit→Act→World→Prop} {S:Array Bool→World→Prop}:∀ (fuel:Nat) (listed:Array Bool) (a:Act) (w:World),wpAnyX P ops Q S fuel listed a w→wpAny P .any ops Q fuel listed a w
  | 0,_,_,_,h=>h
  | fuel + 1,_,_,_,h=>⟨h.1,fun i hi=>wpOp_mono (fun a' w' h'=>IM fuel _ a' w' h'.2) (h.2 i hi)⟩
theorem Ku {P:Program} {ops:Array Oper} {Q:Exit→Act→World→Prop} {S:Array Bool→World→Prop} {Si:World→Prop} {i:Nat} {oi:Oper} {v:Value} (hi:ops[i]?=some oi) (hsel:∀ (j:Nat) (o:Oper) cs b,ops[j]?=some o→o.op≠.select cs b)
    (hQ:∀ c a w,Q (.panic c) (a.put oi.dst v) w→Q (.panic c) a w) (hinv:∀ listed w,S (listed.setIfInBounds i true) w→S listed w) (hinv':∀ listed w,S listed w→S (listed.setIfInBounds i true) w)
    (hSi:∀ listed w,Closed ops listed→i∈Region.ready .any ops listed→S listed w→Si w) :
    ∀ (fuel:Nat) (listed:Array Bool) (a:Act) (w:World),Closed ops listed →
      (∀ j oj,ops[j]?=some oj→j≠i→listed.getD j true=false→(∀ e∈oj.after,Region.binds .any e=true→e.on≠i)→oi.apart ops oj=true) →
      i∈Region.ready .any ops listed→YieldsIf P ops Si oi v a→S listed w →
      wpAnyX P ops Q S fuel (listed.setIfInBounds i true) (a.put oi.dst v) w→wpAnyX P ops Q S (fuel + 1) listed a w:=by
  intro fuel
  induction fuel with
  | zero =>
    intro listed a w hcl _ hr hy hS H
    refine ⟨fun h=>(by rw [h] at hr;cases hr),fun j hj=>?_⟩
    by_cases hji:j=i
    · subst hji;exact hy.wpOp hi (hSi _ _ hcl hr hS) ⟨fun _=>hinv' _ _ hS,H⟩
    · have:=ready_mono hj hji
      rw [H.1] at this
      cases this
  | succ fuel ih =>
    intro listed a w hcl hfree hr hy hS H
    refine ⟨fun h=>(by rw [h] at hr;cases hr),fun j hj=>?_⟩
    by_cases hji:j=i
    · subst hji;exact hy.wpOp hi (hSi _ _ hcl hr hS) ⟨fun _=>hinv' _ _ hS,H⟩
    · have h1:=H.2 j (ready_mono hj hji)
      obtain ⟨hjun,oj,hoj,hall⟩:=mem_ready.1 hj
      have hnot:∀ e∈oj.after,Region.binds .any e=true→e.on≠i:=fun e he hb heq=>by
        have h1:=hall e he hb
        have h0:=(mem_ready.1 hr).1
        rw [heq] at h1
        rcases Nat.lt_or_ge i listed.size with h'|h'
        · simp [h'] at h0 h1;rw [h0] at h1;cases h1
        · simp [Array.getElem?_eq_none h'] at h1
      have hap:=hfree j oj hoj hji hjun hnot
      have hrj:i∈Region.ready .any ops (listed.setIfInBounds j true):=ready_mono hr (Ne.symm hji)
      have hil:i < ops.size:=by
        rcases Nat.lt_or_ge i ops.size with h|h
        · exact h
        · rw [Array.getElem?_eq_none h] at hi;cases hi
      have hnl:isLast ops j=false:=by
        cases hl:isLast ops j with
        | false=>rfl
        | true =>
          exfalso
          have h4:=List.all_eq_true.1 hl i (List.mem_range.2 hil)
          rw [Bool.or_eq_true] at h4
          rcases h4 with h4|h4
          · exact hji (by simpa using h4:i=j).symm
          · have h5:=Ez hcl ops.size j i oj hoj hall h4
            have h6:=(mem_ready.1 hr).1
            rcases Nat.lt_or_ge i listed.size with h'|h'
            · simp [h'] at h5 h6;rw [h6] at h5;cases h5
            · simp [Array.getElem?_eq_none h'] at h5
      have hfree':∀ k ok,ops[k]?=some ok→k≠i→(listed.setIfInBounds j true).getD k true=false →
          (∀ e∈ok.after,Region.binds .any e=true→e.on≠i)→oi.apart ops ok=true:=fun k ok hk hki hun hno=>by
        refine hfree k ok hk hki ?_ hno
        by_cases hjk:j=k
        · subst hjk;exact hjun
        · rw [getD_set_ne true hjk] at hun;exact hun
      have h2:=wpOp_putIf hoj hap (fun cs b=>hsel i oi cs b hi) (fun cs b=>hsel j oj cs b hoj) hQ hy h1
      refine wpOp_mono (fun a' w' h3=>?_) h2
      have hS':S (listed.setIfInBounds j true) w':=hinv _ _ (by
        have:=h3.2.1 hnl
        rwa [Array.setIfInBounds_comm _ _ (Ne.symm hji)] at this)
      refine ⟨fun _=>hS',ih (listed.setIfInBounds j true) a' w' (hcl.set hj) hfree' hrj h3.1 hS' ?_⟩
      rw [Array.setIfInBounds_comm _ _ hji]
      exact h3.2.2
theorem HV {P:Program} {ops:Array Oper} {Q:Exit→Act→World→Prop} {S S':Array Bool→World→Prop} (P0:Array Bool→Prop) (hP:∀ listed i,P0 listed→P0 (listed.setIfInBounds i true)) (hS:∀ listed w,P0 listed→S' listed w→S listed w) :
    ∀ (fuel:Nat) (listed:Array Bool) (a:Act) (w:World),P0 listed→wpAnyX P ops Q S' fuel listed a w→wpAnyX P ops Q S fuel listed a w
  | 0,_,_,_,_,h=>h
  | fuel + 1,listed,_,_,hp,h=>⟨h.1,fun i hi=>wpOp_mono (fun a' w' h'=>⟨fun hl=>hS _ _ (hP _ i hp) (h'.1 hl),HV P0 hP hS fuel _ a' w' (hP _ i hp) h'.2⟩) (h.2 i hi)⟩
def tcs (acts:List (Nat×List Nat)) (listed:Array Bool):List Nat:=(acts.filter fun p=>listed.getD p.1 false).flatMap (·.2)
def tci (ops:Array Oper) (acts:List (Nat×List Nat)) (i:Nat):List Nat:=(acts.filter fun p=>!comesB ops ops.size p.1 i).flatMap (·.2)
def Sx (acts:List (Nat×List Nat)) (w0:World) (O0:Lab) (listed:Array Bool) (w:World):Prop:=∃ d O',St (·∈tcs acts listed) w0 O0 (dr w d) O'
theorem St.mono {T T':Nat→Prop} {w w':World} {O O':Lab} (h:St T w O w' O') (ht:∀ i,T i→T' i):St T' w O w' O' :=
  ⟨h.os,h.tape,h.output,h.size,fun k hk hn=>h.same k hk fun e=>hn (ht _ e)⟩
theorem St.lst {T:Nat→Prop} {w w':World} {O O':Lab} (h:St T w O w' O') (ls:List Nat) (ht:∀ i,T i→i∈ls):St (·∈ls) w O w' O':=h.mono ht
theorem St.cmp {T:Nat→Prop} {ls:List Nat} {w w' w'':World} {O O' O'':Lab} (h:St (·∈ls) w O w' O') (k:St T w' O' w'' O'') (ls':List Nat) (ht:∀ i,T i→i∈ls') (hl:(ls.all (ls'.contains ·))=true):St (·∈ls') w O w'' O'' :=
  St.comp (h.mono fun q hq=>by simpa using List.all_eq_true.1 hl q hq) (k.mono ht) fun _ h=>h
theorem Lv {acts:List (Nat×List Nat)} {i:Nat} (hi:(acts.any (·.1 == i))=false) (listed:Array Bool):tcs acts (listed.setIfInBounds i true)=tcs acts listed:=by
  unfold tcs
  congr 1
  apply List.filter_congr
  intro p hp
  have:p.1≠i:=fun e=>by
    have h2:(acts.any (·.1 == i))=true:=List.any_eq_true.2 ⟨p,hp,by simp [e]⟩
    rw [hi] at h2;cases h2
  exact getD_set_ne false (Ne.symm this)
theorem Ou {ops:Array Oper} {acts:List (Nat×List Nat)} {i:Nat} {listed:Array Bool} (hb:(acts.all fun p=>(ops[p.1]?).isSome)=true) (hcl:Closed ops listed) (hr:i∈Region.ready .any ops listed):∀ q,q∈tcs acts listed→q∈tci ops acts i:=by
  intro q hq
  unfold tcs at hq
  unfold tci
  rw [List.mem_flatMap] at hq ⊢
  obtain ⟨p,hp,hq⟩:=hq
  rw [List.mem_filter] at hp
  refine ⟨p,List.mem_filter.2 ⟨hp.1,?_⟩,hq⟩
  cases hc:comesB ops ops.size p.1 i with
  | false=>rfl
  | true =>
    exfalso
    have hp2:=hp.2
    have hs:=List.all_eq_true.1 hb p hp.1
    obtain ⟨o,ho⟩:=Option.isSome_iff_exists.1 hs
    have h5:=Ez hcl ops.size p.1 i o ho (fun e he hbi=>hcl p.1 o hp2 ho e he hbi) hc
    have h6:=(mem_ready.1 hr).1
    rcases Nat.lt_or_ge i listed.size with h'|h'
    · simp [h'] at h5 h6;rw [h6] at h5;cases h5
    · simp [Array.getElem?_eq_none h'] at h5
def hwx (P:Program) (n:Nat) (ops:Array Oper) (Q:Post) (acts:List (Nat×List Nat)) (w0:World) (O0:Lab) (fuel:Nat) (listed:Array Bool) (l:Env) (w:World):Prop :=
  Closed ops listed→∀ a d,Ok n a l→wpAnyX P ops (lift n Q) (Sx acts w0 O0) fuel listed a (dr w d)
def loudX (P:Program) (n:Nat) (ops:Array Oper) (Q:Post) (acts:List (Nat×List Nat)) (w0:World) (O0:Lab) (i:Nat) (fuel:Nat) (listed:Array Bool):Post
  | .normal,l,w=>(isLast ops i=false→Sx acts w0 O0 (listed.setIfInBounds i true) w)∧hwx P n ops Q acts w0 O0 fuel (listed.setIfInBounds i true) l w
  | _,_,_=>False
abbrev SS (w0:World) (O0:Lab) (ls:List Nat):World→Prop:=fun w'=>∃ O',St (·∈ls) w0 O0 w' O'
theorem Sx.dr {acts:List (Nat×List Nat)} {w0 w:World} {O0:Lab} {listed:Array Bool} (h:Sx acts w0 O0 listed w) (d:Nat):Sx acts w0 O0 listed (dr w d):=by
  obtain ⟨e,O',h⟩:=h
  exact ⟨e,O',h⟩
theorem IN {P:Program} {ops:Array Oper} {Q Q':Exit→Act→World→Prop} {acts:List (Nat×List Nat)} {w0:World} {O0:Lab} {fuel:Nat} (ls:List Nat) (hs:Region.noSelect ops=true) (hb:(acts.all fun p=>(ops[p.1]?).isSome)=true) (hQ:∀ c a w,¬ Q (.panic c) a w) :
    ∀ (ord:List (Nat×Bool)) (listed:Array Bool) (a:Act) (w:World),Closed ops listed→ordPre ops listed ord=true→(ord.all fun p=>(tci ops acts p.1).all (ls.contains ·) && !acts.any (·.1 == p.1))=true→Sx acts w0 O0 listed w →
      (∀ a w,Closed ops (listAll listed ord)→Q' .normal a w→wpAnyX P ops Q (Sx acts w0 O0) fuel (listAll listed ord) a w)→wpOrd P ops Q' (fun w'=>∃ d',SS w0 O0 ls (dr w' d')) ord a w→wpAnyX P ops Q (Sx acts w0 O0) (ord.length + fuel) listed a w
  | [],listed,a,w,hcl,_,_,_,hk,h=>by rw [List.length_nil,Nat.zero_add];exact hk a w hcl h
  | (i, true) :: r,listed,a,w,hcl,hc,hl,hS,hk,h=>by
    simp only [ordPre,Bool.and_eq_true] at hc
    rw [List.all_cons,Bool.and_eq_true,Bool.and_eq_true] at hl
    obtain ⟨o,v,ho,hy,hr⟩:=h
    have hi:i∈Region.ready .any ops listed:=by simpa using hc.1
    have hna:(acts.any (·.1 == i))=false:=by simpa using hl.1.2
    have e1:∀ listed w,Sx acts w0 O0 (listed.setIfInBounds i true) w→Sx acts w0 O0 listed w:=fun listed w h=>by unfold Sx at *;rwa [Lv hna] at h
    have e2:∀ listed w,Sx acts w0 O0 listed w→Sx acts w0 O0 (listed.setIfInBounds i true) w:=fun listed w h=>by unfold Sx at *;rwa [Lv hna]
    have:=Ku ho (Region.noSelect_spec hs) (fun c a w hq=>(hQ c _ _ hq).elim) e1 e2 (fun listed w hc hr ⟨d,O',hS⟩=>(⟨d,O',hS.mono fun q hq=>by
        have:=List.all_eq_true.1 hl.1.1 q (Ou hb hc hr q hq)
        simpa using this⟩:∃ d',SS w0 O0 ls (Proofs.YtecegaabajeolaaGreat.dr w d'))) (r.length + fuel) listed a w hcl (Region.free_spec ho hc.2.1) hi hy hS (IN ls hs hb hQ r _ _ w (hcl.set hi) hc.2.2 hl.2 (e2 _ _ hS) hk hr)
    rwa [List.length_cons,show r.length + 1 + fuel=r.length + fuel + 1 from by omega]
  | (i,false) :: r,listed,a,w,hcl,hc,_,_,_,_=>by simp [ordPre] at hc
section
variable {P : Program} {n : Nat} {ops : Array Oper} {Q : Post} {acts : List (Nat × List Nat)} {w0 : World} {O0 : Lab} {l : Env} {w : World}
theorem Pz {fuel tot:Nat} {listed:Array Bool} (ls:List Nat) (ord:List (Nat×Bool)) (hs:(Region.noSelect ops && (acts.all fun p=>(ops[p.1]?).isSome) && ordPre ops listed ord && (ord.all fun p=>(tci ops acts p.1).all (ls.contains ·) && !acts.any (·.1 == p.1)))=true) (hl:ord.length + fuel=tot)
    (h:hwp P n ops (thn (hwx P n ops Q acts w O0 fuel (listAll listed ord)) fun _ _ _=>False) (SS w O0 ls) ord l w):hwx P n ops Q acts w O0 tot listed l w:=fun hcl a e ha=>by
  subst hl
  simp only [Bool.and_eq_true] at hs
  obtain ⟨⟨⟨h1,h2⟩,h3⟩,h4⟩:=hs
  refine IN (P:=P) ls h1 h2 (Q:=lift n Q) (fun c a w hq=>hq.1) ord listed a (dr w e) hcl h3 (by simpa using h4) ⟨w.drawn,O0,St.refl _ _ _⟩ ?_ (h a e ha)
  rintro a' w' hcl' ⟨_,l',w₀,d',rfl,ho,hh⟩
  exact hh hcl' a' d' ho
theorem EY {fuel i:Nat} {o:Oper} {listed:Array Bool} (hi:ops[i]?=some o) (hr:i∈Region.ready .any ops listed) (h:owp P n ops (loudX P n ops Q acts w0 O0 i fuel listed) [o] l w) (hcl:Closed ops listed) (a:Act) (e:Nat) (ha:Ok n a l) :
    wpOp P ops (lift n Q) i (fun a' w'=>(isLast ops i=false→Sx acts w0 O0 (listed.setIfInBounds i true) w')∧wpAnyX P ops (lift n Q) (Sx acts w0 O0) fuel (listed.setIfInBounds i true) a' w') a (dr w e):=by
  have h1:=h a e ha
  unfold wpList at h1
  unfold wpOp
  simp only [hi]
  have conv:∀ a' w',lift n (loudX P n ops Q acts w0 O0 i fuel listed) .normal a' w'→(isLast ops i=false→Sx acts w0 O0 (listed.setIfInBounds i true) w')∧wpAnyX P ops (lift n Q) (Sx acts w0 O0) fuel (listed.setIfInBounds i true) a' w':=by
    rintro a' w' ⟨_,l',w₀,d',rfl,ho,hS,hh⟩
    exact ⟨fun hl=>(hS hl).dr d',hh (hcl.set hr) a' d' ho⟩
  have nope:∀ e' a' w',lift n (loudX P n ops Q acts w0 O0 i fuel listed) e' a' w'→e'=.normal:=by
    rintro e' a' w' ⟨hn,l',w₀,d',rfl,ho,hh⟩
    cases e'<;>first|rfl|exact hh.elim
  by_cases hw:Region.wanted o (yielded ops a.tmps)=true
  · rw [if_pos hw] at h1
    rw [if_pos hw]
    rcases h1 with h1|⟨h1,a0,w0,h2⟩
    · refine .inl ?_
      unfold Oper.wp at *
      generalize (execOp a.eval o).run P (dr w e)=res at *
      cases res with
      | ok nx w' =>
        cases nx<;>simp only [Oper.upon] at h1 ⊢ <;>
          first
            | exact conv _ _ h1
            | exact Calls.mono h1 (fun en w'' he=>by
                cases en with
                | returned v=>exact conv _ _ he
                | panicked c=>exact absurd (nope _ _ _ he) (by simp)
                | outgrown=>obtain ⟨a0,w0,hq⟩:=he;exact absurd (nope _ _ _ hq) (by simp))
            | exact Rows.mono h1 (fun _ _ he=>conv _ _ he)
            | exact h1.elim
      | halt x w'=>cases x<;>simp only [Oper.upon] at h1 ⊢<;>first|exact h1.elim|exact absurd (nope _ _ _ h1) (by simp)
    · exact absurd (nope _ _ _ h2) (by simp)
  · rw [if_neg hw] at h1
    rw [if_neg hw]
    exact conv _ _ h1
theorem At {fuel i:Nat} {oi:Oper} {listed:Array Bool} (hr:Region.ready .any ops listed=[i]) (hi:ops[i]?=some oi) (h1:owp P n ops (loudX P n ops Q acts w0 O0 i fuel listed) [oi] l w):hwx P n ops Q acts w0 O0 (fuel + 1) listed l w:=fun hcl a e ha=>by
  refine ⟨fun h0=>by rw [hr] at h0;simp at h0,fun k hk=>?_⟩
  have hk':=hk
  rw [hr] at hk
  have:k=i:=by simpa using hk
  subst this
  exact EY hi hk' h1 hcl a e ha
theorem Bz {fuel i j:Nat} {oi oj:Oper} {listed:Array Bool} (hr:Region.ready .any ops listed=[i,j]) (hi:ops[i]?=some oi) (hj:ops[j]?=some oj)
    (h1:owp P n ops (loudX P n ops Q acts w0 O0 i fuel listed) [oi] l w) (h2:owp P n ops (loudX P n ops Q acts w0 O0 j fuel listed) [oj] l w):hwx P n ops Q acts w0 O0 (fuel + 1) listed l w:=fun hcl a e ha=>by
  refine ⟨fun h0=>by rw [hr] at h0;simp at h0,fun k hk=>?_⟩
  have hk':=hk
  rw [hr] at hk
  have:k=i∨k=j:=by simpa using hk
  rcases this with rfl|rfl
  · exact EY hi hk' h1 hcl a e ha
  · exact EY hj hk' h2 hcl a e ha
theorem EZ {fuel i j k:Nat} {oi oj ok:Oper} {listed:Array Bool} (hr:Region.ready .any ops listed=[i,j,k]) (hi:ops[i]?=some oi) (hj:ops[j]?=some oj) (hk:ops[k]?=some ok)
    (h1:owp P n ops (loudX P n ops Q acts w0 O0 i fuel listed) [oi] l w) (h2:owp P n ops (loudX P n ops Q acts w0 O0 j fuel listed) [oj] l w) (h3:owp P n ops (loudX P n ops Q acts w0 O0 k fuel listed) [ok] l w):hwx P n ops Q acts w0 O0 (fuel + 1) listed l w:=fun hcl a e ha=>by
  refine ⟨fun h0=>by rw [hr] at h0;simp at h0,fun q hq=>?_⟩
  have hq':=hq
  rw [hr] at hq
  have:q=i∨q=j∨q=k:=by simpa using hq
  rcases this with rfl|rfl|rfl
  · exact EY hi hq' h1 hcl a e ha
  · exact EY hj hq' h2 hcl a e ha
  · exact EY hk hq' h3 hcl a e ha
theorem Az {fuel i:Nat} {listed:Array Bool} {ls:List Nat} {O':Lab} (acts':List (Nat×List Nat)) (hZ:St (·∈ls) w0 O0 w O') (hs:(ls.all ((tcs acts (listed.setIfInBounds i true)).contains ·) && acts'.all (acts.contains ·))=true) (h2:hwx P n ops Q acts' w O' fuel (listed.setIfInBounds i true) l w):owp P n ops (loudX P n ops Q acts w0 O0 i fuel listed) [] l w:=by
  rw [Bool.and_eq_true] at hs
  have hls:∀ q,q∈ls→q∈tcs acts (listed.setIfInBounds i true):=fun q hq=>by simpa using List.all_eq_true.1 hs.1 q hq
  have hac:∀ p,p∈acts'→p∈acts:=fun q hq=>by simpa using List.all_eq_true.1 hs.2 q hq
  refine EU ⟨fun _=>⟨w.drawn,O',hZ.mono hls⟩,fun hcl a d ha=>?_⟩
  refine HV (fun listed'=>∀ j,(listed.setIfInBounds i true).getD j false=true→listed'.getD j false=true) (fun listed' k h j hj=>getD_set_true (h j hj)) ?_ _ _ _ _ (fun j hj=>hj) (h2 hcl a d ha)
  rintro listed' v hp ⟨e,O'',hS⟩
  refine ⟨e,O'',((hZ.mono fun q hq=>?_).comp (hS.mono fun q hq=>?_) fun _ h=>h:St (·∈tcs acts listed') w0 O0 _ O'')⟩
  · have:=hls q hq
    unfold tcs at this ⊢
    rw [List.mem_flatMap] at this ⊢
    obtain ⟨p,h1,h3⟩:=this
    rw [List.mem_filter] at h1
    exact ⟨p,List.mem_filter.2 ⟨h1.1,hp _ h1.2⟩,h3⟩
  · unfold tcs at hq ⊢
    rw [List.mem_flatMap] at hq ⊢
    obtain ⟨p,h1,h3⟩:=hq
    rw [List.mem_filter] at h1
    exact ⟨p,List.mem_filter.2 ⟨hac _ h1.1,h1.2⟩,h3⟩
theorem PA {fuel i:Nat} {listed:Array Bool} (hl:isLast ops i=true) (h2:hwx P n ops Q acts w0 O0 fuel (listed.setIfInBounds i true) l w):owp P n ops (loudX P n ops Q acts w0 O0 i fuel listed) [] l w:=EU ⟨(fun h=>by rw [hl] at h;exact Bool.noConfusion h),h2⟩
theorem AY {listed:Array Bool} (hr:Region.ready .any ops listed=[]) (h:Q .normal l w):hwx P n ops Q acts w0 O0 0 listed l w:=fun _ _ _ ha=>⟨hr,FC trivial ha h⟩
def maskOf (ms:List Nat) (o:Oper):Nat:=o.after.toList.foldl (fun m e=>if Region.binds .any e=true then m ||| (2 ^ e.on ||| ms.getD e.on 0) else m) 0
def masksFrom:List Oper→List Nat→List Nat
  | [],ms=>ms
  | o :: r,ms=>masksFrom r (ms ++ [maskOf ms o])
def bef (ops:Array Oper) (j k:Nat):Bool:=((masksFrom ops.toList []).getD j 0).testBit k
theorem HW {ops:Array Oper}:∀ (f j k:Nat),comesB ops f j k=true→comesB ops (f + 1) j k=true
  | 0,j,k,h=>by simp [comesB] at h
  | f + 1,j,k,h=>by
    rw [comesB] at h ⊢
    cases hj:ops[j]? with
    | none=>rw [hj] at h;simp at h
    | some o =>
      rw [hj] at h
      simp only [Option.any_some,Array.any_eq_true'] at h ⊢
      obtain ⟨e,he,h⟩:=h
      refine ⟨e,he,?_⟩
      simp only [Bool.and_eq_true,Bool.or_eq_true] at h ⊢
      refine ⟨h.1,h.2.imp id fun h=>HW f e.on k h⟩
theorem Jy {ops:Array Oper} {f g j k:Nat} (h:comesB ops f j k=true) (hl:f≤g):comesB ops g j k=true:=by
  induction hl with
  | refl=>exact h
  | step _ ih=>exact HW _ _ _ ih
theorem Jz {ms:List Nat} {k:Nat}:∀ (l:List Edge) (m:Nat),(l.foldl (fun m e=>if Region.binds .any e=true then m ||| (2 ^ e.on ||| ms.getD e.on 0) else m) m).testBit k=true→m.testBit k=true∨∃ e∈l,Region.binds .any e=true∧(e.on=k∨(ms.getD e.on 0).testBit k=true)
  | [],m,h=>.inl h
  | e :: l,m,h=>by
    rw [List.foldl_cons] at h
    rcases Jz l _ h with h|⟨e',h1,h2⟩
    · by_cases hb:Region.binds .any e=true
      · rw [if_pos hb,Nat.testBit_or,Nat.testBit_or,Nat.testBit_two_pow,Bool.or_eq_true,Bool.or_eq_true] at h
        rcases h with h|h|h
        · exact .inl h
        · exact .inr ⟨e,List.mem_cons_self,hb,.inl (by simpa using h)⟩
        · exact .inr ⟨e,List.mem_cons_self,hb,.inr h⟩
      · rw [if_neg hb] at h;exact .inl h
    · exact .inr ⟨e',List.mem_cons_of_mem _ h1,h2⟩
theorem Kv {ops:Array Oper}:∀ (rest pre:List Oper) (ms:List Nat),ops.toList=pre ++ rest→ms.length=pre.length→(∀ a k,(ms.getD a 0).testBit k=true→comesB ops (a + 1) a k=true)→(masksFrom rest ms).length=ops.size∧∀ a k,((masksFrom rest ms).getD a 0).testBit k=true→comesB ops (a + 1) a k=true
  | [],pre,ms,h1,h2,h3=>⟨by rw [masksFrom,h2,← Array.length_toList,h1,List.append_nil],h3⟩
  | o :: rest,pre,ms,h1,h2,h3=>by
    refine Kv rest (pre ++ [o]) (ms ++ [maskOf ms o]) (by rw [h1,List.append_assoc];rfl) (by simp [h2]) fun a k hk=>?_
    by_cases ha:a < ms.length
    · rw [List.getD_eq_getElem?_getD,List.getElem?_append_left ha,← List.getD_eq_getElem?_getD] at hk;exact h3 a k hk
    · by_cases ha2:a=ms.length
      · subst ha2
        have:(ms ++ [maskOf ms o]).getD ms.length 0=maskOf ms o:=by simp
        rw [this] at hk
        rcases Jz _ _ hk with h|⟨e,he,hb,h⟩
        · simp at h
        · have ho:ops[ms.length]?=some o:=by rw [← Array.getElem?_toList,h1,h2];simp
          rw [comesB,ho]
          simp only [Option.any_some,Array.any_eq_true',Bool.and_eq_true,Bool.or_eq_true]
          refine ⟨e,by simpa using he,hb,?_⟩
          rcases h with h|h
          · exact .inl (by simpa using h)
          · have hlt:e.on < ms.length:=by
              rcases Nat.lt_or_ge e.on ms.length with h'|h'
              · exact h'
              · rw [List.getD_eq_getElem?_getD,List.getElem?_eq_none h'] at h;simp at h
            exact .inr (Jy (h3 _ _ h) hlt)
      · rw [List.getD_eq_getElem?_getD,List.getElem?_eq_none (by simp;omega)] at hk;simp at hk
theorem JA {ops:Array Oper} {j k:Nat} (h:bef ops j k=true):comesB ops ops.size j k=true:=by
  obtain ⟨h1,h2⟩:=Kv (ops:=ops) ops.toList [] [] (by simp) rfl (fun a k h=>by simp at h)
  refine Jy (h2 j k h) ?_
  rcases Nat.lt_or_ge j ops.size with h'|h'
  · exact h'
  · unfold bef at h
    rw [List.getD_eq_getElem?_getD,List.getElem?_eq_none (by omega)] at h;simp at h
theorem AD {fuel tot:Nat} {listed:Array Bool} (ls:List Nat) (ord:List (Nat×Bool)) (hs:(Region.noSelect ops && (acts.all fun p=>(ops[p.1]?).isSome) && ordPre ops listed ord && (ord.all fun p=>(acts.all fun q=>q.2.all (ls.contains ·) || bef ops q.1 p.1) && !acts.any (·.1 == p.1)))=true) (hl:ord.length + fuel=tot)
    (h:hwp P n ops (thn (hwx P n ops Q acts w O0 fuel (listAll listed ord)) fun _ _ _=>False) (SS w O0 ls) ord l w):hwx P n ops Q acts w O0 tot listed l w:=by
  refine Pz ls ord ?_ hl h
  simp only [Bool.and_eq_true] at hs ⊢
  refine ⟨hs.1,List.all_eq_true.2 fun p hp=>?_⟩
  have h1:=List.all_eq_true.1 hs.2 p hp
  rw [Bool.and_eq_true] at h1 ⊢
  refine ⟨List.all_eq_true.2 fun q hq=>?_,h1.2⟩
  unfold tci at hq
  rw [List.mem_flatMap] at hq
  obtain ⟨a,ha,hqa⟩:=hq
  rw [List.mem_filter] at ha
  have h2:=List.all_eq_true.1 h1.1 a ha.1
  rw [Bool.or_eq_true] at h2
  rcases h2 with h2|h2
  · exact List.all_eq_true.1 h2 q hqa
  · have:=ha.2;rw [JA h2] at this;simp at this
theorem Be {fuel i:Nat} {listed:Array Bool} (hl:((List.range ops.size).all fun k=>k == i || bef ops i k)=true) (h2:hwx P n ops Q acts w0 O0 fuel (listed.setIfInBounds i true) l w):owp P n ops (loudX P n ops Q acts w0 O0 i fuel listed) [] l w:=by
  refine PA ?_ h2
  refine List.all_eq_true.2 fun k hk=>?_
  have:=List.all_eq_true.1 hl k hk
  rw [Bool.or_eq_true] at this ⊢
  exact this.imp id JA
theorem Bw [hm:Mixed P] {id:Nat} {L:List Oper} (acts:List (Nat×List Nat)) (O:Lab) (h:hwx P n L.toArray Q acts w O L.toArray.size (Array.replicate L.toArray.size false) l w):ewp P n (.region id L.toArray true) Q l w:=fun a d ha =>
  wp_region_any hm.eq (IM _ _ _ _ (h (fun m om hm=>by
      simp only [Array.getD_eq_getD_getElem?,Array.getElem?_replicate] at hm
      split at hm<;>simp at hm) a (d + 1) ha))
end
end
section
open Go Go.RowKit
attribute [local irreducible] ewp owp hwp hwq hws Ev Evg Fn retPost loud loudS Res1
section
variable {w : World} {A : Nat → Prop} (hA : ∀ k, A k → k < w.heap.size) {v0 v1 : Value}
include hA
omit hA in
def DM (f:List Fct) (s:List Int):Option Bool:=some (holdsB f s)
theorem FN {x0:List Fct} (h0:Vb w A v0 x0) {x1:List Int} (h1:Vb w A v1 x1) {r:Bool} (hm:DM x0 x1=some r):Fn Tryz.prog 36 [v0,v1] w fun v w'=>Ext w w'∧Vb w' (upA A w w') v r:=by
  obtain rfl:=sm hm
  refine (baseHolds (h0.mono hA) (h1.mono hA)).mono fun v w' h=>⟨h.2,?_⟩
  rw [h.1,Fw];exact vBool
omit hA in
def DN (f:List Fct) (s:List Int):Option Bool:=some (holdsB f s)
theorem Hk {x0:List Fct} (h0:Vb w A v0 x0) {x1:List Int} (h1:Vb w A v1 x1) {r:Bool} (hm:DN x0 x1=some r):Fn Tryz.prog 28 [v0,v1] w fun v w'=>Ext w w'∧Vb w' (upA A w w') v r:=by
  obtain rfl:=sm hm
  refine (taskHolds (h0.mono hA) (h1.mono hA)).mono fun v w' h=>⟨h.2,?_⟩
  rw [h.1,Fw];exact vBool
omit hA in
noncomputable def Gf (x:List Int) (y:List Int):Option Bool:=some (bof (x=y))
theorem Lb {x0:List Int} (h0:Vb w A v0 x0) {x1:List Int} (h1:Vb w A v1 x1) {r:Bool} (hm:Gf x0 x1=some r):Fn Tryz.prog 17 [v0,v1] w fun v w'=>Ext w w'∧Vb w' (upA A w w') v r:=by
  obtain rfl:=sm hm
  refine (baseInts (h0.mono hA) (h1.mono hA)).mono fun v w' h=>⟨h.2,?_⟩
  rw [h.1];exact vBool
omit hA in
noncomputable def EB (x:List Int) (y:List Int):Option Bool:=some (bof (StateOk x y))
theorem JU {x0:List Int} (h0:Vb w A v0 x0) {x1:List Int} (h1:Vb w A v1 x1) {r:Bool} (hm:EB x0 x1=some r):Fn Tryz.prog 50 [v0,v1] w fun v w'=>Ext w w'∧Vb w' (upA A w w') v r:=by
  obtain rfl:=sm hm
  refine (taskProper (h0.mono hA) (h1.mono hA)).mono fun v w' h=>⟨h.2,?_⟩
  rw [h.1];exact vBool
end
noncomputable def Cq (t:Tsk):Option Err:=some ⟨checkN t⟩
theorem IO (t:Tsk):inI64 (checkN t):=by unfold checkN;(repeat' split)<;>decide
theorem FO {w:World} {A:Nat→Prop} (hA:∀ k,A k→k < w.heap.size) {v0:Value} {x0:Tsk} (h0:Vb w A v0 x0) {r:Err} (hm:Cq x0=some r):Fn Tryz.prog 22 [v0] w fun v w'=>Ext w w'∧Vb w' (upA A w w') v r:=by
  obtain rfl:=sm hm
  refine (taskCheck (h0.mono hA)).mono fun v w' h=>⟨h.2,?_⟩
  rw [h.1]
  exact vErr (IO _)
def Cf (xs:List Int):Option (List Int):=if xs.length * 8≤140737488355328∧xs.length≤9223372036854775807 then some xs else none
theorem Ep {w:World} {A:Nat→Prop} (hA:∀ k,A k→k < w.heap.size) {v0:Value} {x0:List Int} (h0:Vb w A v0 x0) {r:List Int} (hm:Cf x0=some r) :
    Fn Tryz.prog 66 [v0] w fun v w'=>Ext w w'∧RowR w w' (upA A w w') 3 v r:=by
  obtain ⟨⟨hl,a0⟩,rfl⟩:=Ie hm
  obtain ⟨O,hB,b0⟩:=enter hA
  replace h0:=h0.mono b0
  obtain ⟨Ad,c,rfl⟩:=h0.form
  refine AQ Tryz.func66 rfl Tryz.ntmps66 rfl ?_
  cases Ad with
  | none =>
    have hx:x0=[]:=by
      cases x0 with
      | nil=>rfl
      | cons x xs=>obtain ⟨_,_,_,h,_⟩:=h0.elem (k:=0) (x:=x) rfl;cases h
    subst hx
    ((repeat (first|refine Aw ?_|refine Ah rfl ?_|refine Ae rfl ?_))<;>(refine Ay rfl rfl ?_<;>(refine o_z ?_))<;>(repeat (first|refine Aw ?_|refine Ah rfl ?_|refine Ae rfl ?_))<;>(refine Ar rfl rfl ?_<;>refine Jf rfl rfl ?_<;>(refine o_z ?_))<;>(repeat (first|refine Aw ?_|refine Ah rfl ?_|refine Ae rfl ?_))<;>(refine Ay rfl rfl ?_<;>(refine o_z ?_))<;>(repeat (first|refine Aw ?_|refine Ah rfl ?_|refine Ae rfl ?_)))
    exact ret1 rfl rfl ⟨Below.refl _ _,RowR.nil⟩
  | some ad =>
    ((repeat (first|refine Aw ?_|refine Ah rfl ?_|refine Ae rfl ?_))<;>(refine Ay rfl rfl ?_<;>(refine o_z ?_))<;>(repeat (first|refine Aw ?_|refine Ah rfl ?_|refine Ae rfl ?_))<;>(refine Ar rfl rfl ?_<;>refine Jf rfl rfl ?_<;>(refine o_z ?_))<;>(repeat (first|refine Aw ?_|refine Ah rfl ?_|refine Ae rfl ?_)))
    refine AM 2 (by decide) O (xs:=([]:List Int)) rfl rfl rfl rfl trivial (by decide) (by decide) rfl fun g w1 O1 S1 h1=>?_
    replace hB:=hB.st S1 (fun h=>h) (fun h=>h)
    replace h0:=h0.st S1 (fun h=>h)
    (refine Ar rfl rfl ?_)
    refine AF rfl h1 h0.rd rfl rfl (by decide) (by simpa using hl) (by simpa using a0) rfl fun A2 c2 w2 O2 S2 h2=>?_
    replace hB:=hB.st S2 (by decide) (by decide)
    rw [List.nil_append] at h2 ⊢
    (refine Ay rfl rfl ?_<;>(refine o_z ?_))
    repeat (first|refine Aw ?_|refine Ah rfl ?_|refine Ae rfl ?_)
    exact ret1 rfl rfl ⟨hB.ext,h2.out hB (by decide)⟩
end
section
open Go Go.RowKit
attribute [local irreducible] ewp owp hwp hwq hws Ev Evg Fn retPost loud loudS Res1
structure Swp where
  vars:List Int
  vals:List (List Int)
  ops:List Int
instance:Rp Swp where
  isAgg:=true
  size:=3
  R w F cs x:=∃ v0 v1 v2,cs=[v0,v1,v2]∧Vb w F v0 x.vars∧Vb w F v1 x.vals∧Vb w F v2 x.ops
  len:=by rintro w F cs x ⟨v0,v1,v2,rfl,h0,h1,h2⟩;rfl
  one:=by rintro w F cs x ⟨v0,v1,v2,rfl,h0,h1,h2⟩ u hu;simp at hu;rcases hu with rfl|rfl|rfl<;>first|rfl|exact Vb.one rfl (by assumption)
  agree:=by rintro w w' F cs x ⟨v0,v1,v2,rfl,h0,h1,h2⟩ ha;exact ⟨v0,v1,v2,rfl,h0.agree ha,h1.agree ha,h2.agree ha⟩
  mono:=by rintro w F G cs x ⟨v0,v1,v2,rfl,h0,h1,h2⟩ ha;exact ⟨v0,v1,v2,rfl,h0.mono ha,h1.mono ha,h2.mono ha⟩
noncomputable def Bv (x0:List Fct) (x1:List Fct):Option Bool :=
  if (x0.length:Int)≠(x1.length:Int) then (some false) else (bnd (rng (ρ:=Bool) (fun (k18:Nat) (a19:Fct) (s16:Unit)=>bnd (x1[k18]?) fun a38=>if ¬ (a19.var=a38.var∧a19.val=a38.val) then (some (.ret false)) else (some (.next ()))) x0 0 ()) fun res14=>fin res14 fun (s54:Unit)=>some true)
theorem CA {w:World} {A:Nat→Prop} (hA:∀ k,A k→k < w.heap.size) {vx0:Value} {x0:List Fct} (b0:Vb w A vx0 x0) {vx1:Value} {x1:List Fct} (c0:Vb w A vx1 x1) {r:Bool} (hm:Bv x0 x1=some r) :
    Fn Tryz.prog 77 [vx0,vx1] w fun v w'=>Ext w w'∧Vb w' (upA A w w') v r:=by
 obtain ⟨O,hB,u0⟩:=enter hA
 replace b0:=b0.mono u0
 obtain ⟨A3,c4,rfl⟩:=b0.form
 replace c0:=c0.mono u0
 obtain ⟨A5,c6,rfl⟩:=c0.form
 refine AQ Tryz.func77 rfl Tryz.ntmps77 rfl ?_
 unfold Bv at hm
 refine Al (Aj (Ay rfl rfl (o_z ?_)))
 refine Al (Al (Aj (Ar rfl rfl (Bj rfl rfl ?_))))
 have l8:x0.length≤9223372036854775807:=Nat.le_trans b0.len.2.1 b0.len.2.2
 have r7:inI64 (x0.length:Int):=rngNat l8
 refine Ar rfl rfl (Bj rfl rfl ?_)
 have v0:x1.length≤9223372036854775807:=Nat.le_trans c0.len.2.1 c0.len.2.2
 have r9:inI64 (x1.length:Int):=rngNat v0
 refine HE rfl rfl rfl (fun i0=>?_) fun i0=>?_
 ·
  replace hm:=ip hm i0
  refine o_z ?_
  refine Ah rfl (Al (Aj (Ay rfl rfl (o_z ?_))))
  refine AR ?_
  obtain rfl:=sm hm
  exact ret1v rfl (AO rfl) ⟨hB.ext,vBool⟩
 replace hm:=im hm i0
 refine o_z ?_
 refine Ae rfl (AZ (Al (Al (Aj (Ar rfl rfl (Bj rfl rfl ?_))))))
 have j0:x0.length≤9223372036854775807:=Nat.le_trans b0.len.2.1 b0.len.2.2
 have d1:inI64 (x0.length:Int):=rngNat j0
 refine Ar rfl rfl (o_z ?_)
 obtain ⟨e0,k0,hm⟩:=bs hm
 refine AU (aft e0 (fun (g0:Unit) (h0:Unit)=>[]) (fun g0 h0 w'=>∃ O':Lab,Bs w A w' O')) ?_ ?_
 ·
  refine Bf (BS (σ:=Unit) (X:=Unit) (x0.length) k0 rfl j0 (fun (g0:Unit) (h0:Unit)=>[(0,(.slice A3 x0.length c4)),(1,(.slice A5 x1.length c6))]) _ (fun g0 h0 w'=>∃ O':Lab,Bs w A w' O'∧Vb w' (Fr 0 w' O') (.slice A3 x0.length c4) x0∧Vb w' (Fr 0 w' O') (.slice A5 x1.length c6) x1) _ () ⟨O,hB,b0,c0⟩ ⟨rfl,rfl,rfl,rfl,trivial⟩ (fun _ _=>⟨rfl,rfl⟩) (fun _ _=>trivial) (fun _ _ _ ⟨O',hB,b0,c0⟩=>⟨O',hB⟩) ⟨rfl,rfl,rfl⟩ ⟨rfl,rfl⟩ ?_)
  rintro w0 e1 g0 h0 y0 z0 f0 ⟨f1,hB,b0,c0⟩ a0 d0 l0
  have rk18:inI64 (w0:Int):=rngK f0 j0
  refine Al (Aj (Ar rfl rfl (Ay rfl rfl (o_z ?_))))
  refine Al (Cu (·=y0) [(0,true),(1,true),(2,true),(3,true),(4,true),(5,true),(6,true),(7,true),(8,true)] (by kernel_rfl) rfl (by kernel_rfl) rfl ?_)
  refine AW rfl rfl rfl (AW rfl rfl rfl ?_)
  obtain ⟨g1,h1,a1,m0,n0,o0,rfl,i1,j1⟩:=b0.elem' f0
  refine BC (hA:=m0) (hj:=rfl) (hlt:=n0) rfl rfl rfl rfl ?_
  refine NW (hl:=rfl) (hc:=o0) rfl rfl rfl ?_
  refine AW rfl rfl rfl (AW rfl rfl rfl ?_)
  obtain ⟨k1,b1,a0⟩:=bs a0
  obtain ⟨l1,m1,c1,p0,q0,r0,rfl,n1,o1⟩:=c0.elem' b1
  refine BC (hA:=p0) (hj:=rfl) (hlt:=q0) rfl rfl rfl rfl ?_
  refine NW (hl:=rfl) (hc:=r0) rfl rfl rfl ?_
  refine Qf rfl rfl rfl rfl (fun s0=>?_) fun s0=>?_
  ·
   replace a0:=ip a0 s0
   refine h_z ?_
   refine Ah rfl (Al (Aj (Ay rfl rfl (o_z ?_))))
   refine AR ?_
   obtain rfl:=sm a0
   obtain rfl:=d0 _ rfl
   obtain rfl:=sm (Cn hm)
   exact ret1v rfl (AO rfl) ⟨hB.ext,vBool⟩
  replace a0:=im a0 s0
  refine h_z ?_
  refine Ae rfl (AZ ?_)
  obtain rfl:=sm a0
  exact show Exists _ from ⟨_,(),rfl,⟨rfl,rfl,rfl,rfl,trivial⟩,_,hB,b0,c0⟩
 rintro p1 q1 ⟨r1,s1,rfl,t0,t1,hB⟩
 replace hm:=Bq hm
 refine Bc _ t0 ?_
 refine Al (Aj (Ay rfl rfl (o_z ?_)))
 refine AR ?_
 obtain rfl:=sm hm
 exact ret1v rfl (AO rfl) ⟨hB.ext,vBool⟩
noncomputable def BL (x0:List Int) (x1:Int):Option Bool :=
  if (x0.length:Int)≠x1 then (some false) else (bnd (mkI 1 (false:Bool) x1) fun u8=>bnd (rng (ρ:=Bool) (fun (k27:Nat) (a28:Int) (s25:(List Bool))=>bnd (if a28 < 0 then (some true) else (if x1≤a28 then (some true) else (bnd (atI s25 a28) fun a56=>some a56)):Option Bool) fun y50=>if y50=true then (some (.ret false)) else (bnd (atI s25 a28) fun a72=>some (.next (s25.set (a28:Int).toNat true)))) x0 0 u8) fun res23=>fin res23 fun (s89:(List Bool))=>some true)
theorem DB {w:World} {A:Nat→Prop} (hA:∀ k,A k→k < w.heap.size) {vx0:Value} {x0:List Int} (c0:Vb w A vx0 x0) {x1:Int} (rx1:inI64 x1) {r:Bool} (hm:BL x0 x1=some r) :
    Fn Tryz.prog 76 [vx0,(.int .i64 x1)] w fun v w'=>Ext w w'∧Vb w' (upA A w w') v r:=by
 obtain ⟨O,hB,i1⟩:=enter hA
 replace c0:=c0.mono i1
 obtain ⟨A3,c4,rfl⟩:=c0.form
 refine AQ Tryz.func76 rfl Tryz.ntmps76 rfl ?_
 unfold BL at hm
 refine Al (Aj (Ay rfl rfl (o_z ?_)))
 refine Al (Al (Aj (Ar rfl rfl (Bj rfl rfl ?_))))
 have l6:x0.length≤9223372036854775807:=Nat.le_trans c0.len.2.1 c0.len.2.2
 have r5:inI64 (x0.length:Int):=rngNat l6
 refine Ar rfl rfl (HE rfl rfl rfl (fun c7=>?_) fun c7=>?_)
 ·
  replace hm:=ip hm c7
  refine o_z ?_
  refine Ah rfl (Al (Aj (Ay rfl rfl (o_z ?_))))
  refine AR ?_
  obtain rfl:=sm hm
  exact ret1v rfl (AO rfl) ⟨hB.ext,vBool⟩
 replace hm:=im hm c7
 refine o_z ?_
 refine Ae rfl (AZ (Al (Aj (Ar rfl rfl ?_))))
 obtain ⟨u8,e9,hm⟩:=bs hm
 obtain ⟨j0,j1,k1,l1,m1⟩:=CD e9
 refine Di 2 (by decide) O (z0:=(false:Bool)) rfl rfl rfl rfl rfl j1 vBool k1 l1 rfl fun k0 c2 n1 m0 e1=>?_
 rw [← m1] at e1 ⊢
 refine Ay rfl rfl (o_z ?_)
 refine Al (Al (Aj (Ar rfl rfl (Bj rfl rfl ?_))))
 replace c0:=c0.st m0
 have n0:x0.length≤9223372036854775807:=Nat.le_trans c0.len.2.1 c0.len.2.2
 have d2:inI64 (x0.length:Int):=rngNat n0
 refine Ar rfl rfl (o_z ?_)
 obtain ⟨g0,o0,hm⟩:=bs hm
 refine AU (aft g0 (fun (f0:(List Bool)) (l0:Unit)=>[]) (fun f0 l0 w'=>∃ O':Lab,Bs w A w' O')) ?_ ?_
 ·
  refine Bf ?_
  replace hB:=hB.st m0
  refine BS (σ:=(List Bool)) (X:=Unit) (x0.length) o0 rfl n0 (fun (f0:(List Bool)) (l0:Unit)=>[(1,(.int .i64 x1)),(5,(.slice (some ⟨k0,0,none⟩) u8.length j0)),(14,(.slice A3 x0.length c4))]) _ (fun f0 l0 w'=>∃ O':Lab,Bs w A w' O'∧Rw 2 w' O' 4 (.slice (some ⟨k0,0,none⟩) u8.length j0) f0∧Vb w' (Fr 0 w' O') (.slice A3 x0.length c4) x0) _ () ⟨n1,hB,e1,c0⟩ ⟨rfl,rfl,rfl,rfl,rfl,trivial⟩ (fun _ _=>⟨rfl,rfl⟩) (fun _ _=>trivial) (fun _ _ _ ⟨O',hB,d0,c0⟩=>⟨O',hB⟩) ⟨rfl,rfl,rfl⟩ ⟨rfl,rfl⟩ ?_
  rintro f1 o1 f0 l0 e2 p1 h0 ⟨f2,hB,d0,c0⟩ b0 e0 p0
  have rk27:inI64 (f1:Int):=rngK h0 n0
  refine Al (Aj ?_)
  obtain ⟨g2,h2,q1,q0,r0,s0,rfl,i2⟩:=c0.elem' h0
  refine BB (hA:=q0) (hj:=rfl) (hlt:=r0) rfl rfl rfl ?_
  refine AP (hc:=cat0 s0) rfl rfl ?_
  refine Ay rfl rfl (o_z ?_)
  refine Al (Al ?_)
  obtain ⟨r1,a0,b0⟩:=bs b0
  refine AU (fun l' w'=>∃ (s1:Unit) (O':Lab),subs l' [(1,(.int .i64 x1)),(5,(.slice (some ⟨k0,0,none⟩) u8.length j0)),(7,(.int .i64 o1)),(14,(.slice A3 x0.length c4)),(15,(.int .i64 (x0.length:Int))),(16,(.int .i64 (f1:Int))),(32,(.bool r1))]∧Bs w A w' O'∧Rw 2 w' O' 4 (.slice (some ⟨k0,0,none⟩) u8.length j0) f0∧Vb w' (Fr 0 w' O') (.slice A3 x0.length c4) x0) ?_ ?_
  ·
   refine Aj (Ar rfl rfl (EA rfl rfl rfl (fun t0=>?_) fun t0=>?_))
   ·
    replace a0:=ip a0 t0
    refine Ar rfl rfl (AC rfl rfl rfl rfl (AC rfl rfl rfl rfl (AC rfl rfl rfl rfl (BF rfl rfl rfl (Ar rfl rfl (AC rfl rfl rfl rfl (AC rfl rfl rfl rfl (AC rfl rfl rfl rfl (AC rfl rfl rfl rfl (BF rfl rfl rfl (o_z ?_)))))))))))
    obtain rfl:=sm a0
    exact ⟨(),_,⟨rfl,rfl,rfl,rfl,rfl,rfl,rfl,trivial⟩,hB,d0,c0⟩
   replace a0:=im a0 t0
   refine Ar rfl rfl (AE rfl rfl (Ar rfl rfl (AE rfl rfl (Ar rfl rfl (AE rfl rfl (Fc rfl rfl rfl (fun u0=>?_) fun u0=>?_))))))
   ·
    replace a0:=ip a0 u0
    refine BN rfl rfl rfl (Ar rfl rfl (AC rfl rfl rfl rfl (AC rfl rfl rfl rfl (AC rfl rfl rfl rfl (AC rfl rfl rfl rfl (BF rfl rfl rfl (o_z ?_)))))))
    obtain rfl:=sm a0
    exact ⟨(),_,⟨rfl,rfl,rfl,rfl,rfl,rfl,rfl,trivial⟩,hB,d0,c0⟩
   replace a0:=im a0 u0
   refine BN rfl rfl rfl (Ar rfl rfl (AE rfl rfl (Ar rfl rfl (AE rfl rfl (Ar rfl rfl (AE rfl rfl ?_))))))
   obtain ⟨j2,t1,a0⟩:=bs a0
   obtain ⟨u1,v1⟩:=Ba t1
   obtain ⟨k2,l2,w1,v0,w0,y0,rfl⟩:=d0.elem v1
   refine BB (hA:=v0) (hj:=(Int.toNat_of_nonneg u1).symm) (hlt:=w0) rfl rfl rfl ?_
   refine AE rfl rfl (AP (hc:=cat0 y0) rfl rfl ?_)
   refine BN rfl rfl rfl (o_z ?_)
   obtain rfl:=sm a0
   exact ⟨(),_,⟨rfl,rfl,rfl,rfl,rfl,rfl,rfl,trivial⟩,hB,d0,c0⟩
  rintro m2 n2 ⟨s1,o2,a1,hB,d0,c0⟩
  refine Bc _ a1 ?_
  refine CC rfl (fun b1=>?_) (fun b1=>?_)
  ·
   replace b0:=ip b0 b1
   refine Al (Aj (Ay rfl rfl (o_z ?_)))
   refine AR ?_
   obtain rfl:=sm b0
   obtain rfl:=e0 _ rfl
   obtain rfl:=sm (Cn hm)
   exact ret1v rfl (AO rfl) ⟨hB.ext,vBool⟩
  replace b0:=im' b0 b1
  refine AZ (Aj (Ar rfl rfl (Ar rfl rfl ?_)))
  obtain ⟨p2,y1,b0⟩:=bs b0
  obtain ⟨z1,g1⟩:=Ba y1
  obtain ⟨q2,r2,a2,i0,c1,b2,rfl⟩:=d0.elem g1
  refine BB (hA:=i0) (hj:=(Int.toNat_of_nonneg z1).symm) (hlt:=c1) rfl rfl rfl ?_
  refine CM rfl d0 (a:=true) vBool i0 rfl rfl (AL g1) fun s2 h1 d0=>?_
  refine o_z ?_
  obtain rfl:=sm b0
  exact show Exists _ from ⟨_,(),rfl,⟨rfl,rfl,rfl,rfl,rfl,trivial⟩,_,hB.st h1,d0,c0.st h1⟩
 replace hB:=hB.st m0
 rintro t2 u2 ⟨v2,w2,rfl,d1,x2,hB⟩
 replace hm:=Bq hm
 refine Bc _ d1 ?_
 refine Al (Aj (Ay rfl rfl (o_z ?_)))
 refine AR ?_
 obtain rfl:=sm hm
 exact ret1v rfl (AO rfl) ⟨hB.ext,vBool⟩
noncomputable def Dk (x0:Tsk) (x1:Swp):Option Bool :=
  bnd (bnd (BL x1.vars (x0.vars.length:Int)) fun q49=>if q49=true then if (x1.vals.length:Int)≠(x0.vars.length:Int) then (some true) else (some false) else some true:Option Bool) fun y43=>if y43=true then (some false) else (bnd (rng (ρ:=Bool) (fun (k72:Nat) (a73:Int) (s70:Unit)=>bnd (bnd (x1.vars[k72]?) fun a95=>bnd (atI x0.vars a95) fun a105=>if a105≠a73 then (some true) else (bnd (x1.vals[k72]?) fun a118=>bnd (BL a118 a73) fun q131=>if q131=true then some false else some true):Option Bool) fun y91=>if y91=true then (some (.ret false)) else (some (.next ()))) x0.vars 0 ()) fun res68=>fin res68 fun (s147:Unit)=>some true)
theorem Ih {w:World} {A:Nat→Prop} (hA:∀ k,A k→k < w.heap.size) {vx0:Value} {x0:Tsk} (d2:Vb w A vx0 x0) {vx1:Value} {x1:Swp} (e2:Vb w A vx1 x1) {r:Bool} (hm:Dk x0 x1=some r) :
    Fn Tryz.prog 75 [vx0,vx1] w fun v w'=>Ext w w'∧Vb w' (upA A w w') v r:=by
 obtain ⟨O,hB,x2⟩:=enter hA
 replace d2:=d2.mono x2
 obtain ⟨s4,rfl,v4,v5,v6,v7,rfl,h8,l0,m0,n0⟩:=d2
 obtain ⟨A9,p0,rfl⟩:=h8.form
 obtain ⟨r0,s0,rfl⟩:=l0.form
 obtain ⟨t0,u0,rfl⟩:=m0.form
 obtain ⟨v0,w0,rfl⟩:=n0.form
 replace e2:=e2.mono x2
 obtain ⟨e3,rfl,t4,u4,w4,rfl,j0,h0,o0⟩:=e2
 obtain ⟨y0,z0,rfl⟩:=j0.form
 obtain ⟨a1,b1,rfl⟩:=h0.form
 obtain ⟨c1,d1,rfl⟩:=o0.form
 refine AQ Tryz.func75 rfl Tryz.ntmps75 rfl ?_
 unfold Dk at hm
 refine Al (Aj (Cp 2 O rfl rfl fun e1 f3 y2 d0 g0=>?_))
 replace g0:Lc 2 f3 y2 e1 26 [(.slice A9 x0.vars.length p0),(.slice r0 x0.init.length s0),(.slice t0 x0.goal.length u0),(.slice v0 x0.ops.length w0)]:=g0
 refine Cp 3 y2 rfl rfl fun f1 f2 g2 c0 i0=>?_
 replace i0:Lc 3 f2 g2 f1 53 [(.slice y0 x1.vars.length z0),(.slice a1 x1.vals.length b1),(.slice c1 x1.ops.length d1)]:=i0
 refine Ay rfl rfl (o_z ?_)
 refine Al (Al ?_)
 obtain ⟨g3,e0,hm⟩:=bs hm
 refine AU (fun l' w'=>∃ (h3:Unit) (O':Lab),subs l' [(2,(.pointer (some ⟨e1,0,none⟩))),(3,(.pointer (some ⟨f1,0,none⟩))),(22,(.bool g3))]∧Bs w A w' O'∧Lc 2 w' O' e1 26 [(.slice A9 x0.vars.length p0),(.slice r0 x0.init.length s0),(.slice t0 x0.goal.length u0),(.slice v0 x0.ops.length w0)]∧Vb w' (Fr 0 w' O') (.slice A9 x0.vars.length p0) x0.vars∧Vb w' (Fr 0 w' O') (.slice r0 x0.init.length s0) x0.init∧Vb w' (Fr 0 w' O') (.slice t0 x0.goal.length u0) x0.goal∧Vb w' (Fr 0 w' O') (.slice v0 x0.ops.length w0) x0.ops∧Lc 3 w' O' f1 53 [(.slice y0 x1.vars.length z0),(.slice a1 x1.vals.length b1),(.slice c1 x1.ops.length d1)]∧Vb w' (Fr 0 w' O') (.slice y0 x1.vars.length z0) x1.vars∧Vb w' (Fr 0 w' O') (.slice a1 x1.vals.length b1) x1.vals∧Vb w' (Fr 0 w' O') (.slice c1 x1.ops.length d1) x1.ops) ?_ ?_
 ·
  refine Aj (AV rfl rfl (AP (hc:=Blk.cell (i:=0) (i0.1) rfl) rfl rfl ?_))
  refine AV rfl rfl ?_
  replace g0:=g0.st c0
  refine AP (hc:=Blk.cell (i:=0) (g0.1) rfl) rfl rfl ?_
  refine Bj rfl rfl ?_
  replace h8:=(h8.st d0).st c0
  have i3:x0.vars.length≤9223372036854775807:=Nat.le_trans h8.len.2.1 h8.len.2.2
  have j3:inI64 (x0.vars.length:Int):=rngNat i3
  obtain ⟨z2,k3,e0⟩:=bs e0
  replace j0:=(j0.st d0).st c0
  refine By (O:=g2) (A:=All f2) (R:=fun w' F v=>Vb w' F v z2) (DB (fun _ h=>h) (Vb.mono (F:=Fr 0 f2 g2) j0 Fr.lt) j3 k3) rfl rfl fun x4 y4 z4 f0 l3=>?_
  obtain rfl:=l3.bool
  cases z2
  case false =>
   replace e0:=iF e0
   refine DL rfl rfl (Ar rfl rfl (AC rfl rfl rfl rfl (AC rfl rfl rfl rfl (AC rfl rfl rfl rfl (AC rfl rfl rfl rfl (AC rfl rfl rfl rfl (AC rfl rfl rfl rfl (AC rfl rfl rfl rfl (BF rfl rfl rfl (o_z ?_))))))))))
   obtain rfl:=sm e0
   exact ⟨(),_,⟨rfl,rfl,rfl,trivial⟩,((hB.st d0).st c0).st f0,g0.st f0,h8.st f0,((l0.st d0).st c0).st f0,((m0.st d0).st c0).st f0,((n0.st d0).st c0).st f0,i0.st f0,j0.st f0,((h0.st d0).st c0).st f0,((o0.st d0).st c0).st f0⟩
  replace e0:=iT e0
  refine DK rfl rfl (Ar rfl rfl (AE rfl rfl (AV rfl rfl (AE rfl rfl ?_))))
  replace i0:=i0.st f0
  refine AP (hc:=Blk.cell (i:=1) (i0.1) rfl) rfl rfl ?_
  refine AE rfl rfl (Bj rfl rfl ?_)
  replace h0:=((h0.st d0).st c0).st f0
  have m3:x1.vals.length≤9223372036854775807:=Nat.le_trans h0.len.2.1 h0.len.2.2
  have a5:inI64 (x1.vals.length:Int):=rngNat m3
  refine AE rfl rfl (AV rfl rfl (AE rfl rfl ?_))
  replace g0:=g0.st f0
  refine AP (hc:=Blk.cell (i:=0) (g0.1) rfl) rfl rfl ?_
  refine AE rfl rfl (Bj rfl rfl ?_)
  replace h8:=h8.st f0
  have n3:x0.vars.length≤9223372036854775807:=Nat.le_trans h8.len.2.1 h8.len.2.2
  have b5:inI64 (x0.vars.length:Int):=rngNat n3
  refine AE rfl rfl (HE rfl rfl rfl (fun h2=>?_) fun h2=>?_)
  ·
   replace e0:=ip e0 h2
   refine BN rfl rfl rfl (o_z ?_)
   obtain rfl:=sm e0
   exact ⟨(),_,⟨rfl,rfl,rfl,trivial⟩,((hB.st d0).st c0).st f0,g0,h8,((l0.st d0).st c0).st f0,((m0.st d0).st c0).st f0,((n0.st d0).st c0).st f0,i0,j0.st f0,h0,((o0.st d0).st c0).st f0⟩
  replace e0:=im e0 h2
  refine BN rfl rfl rfl (o_z ?_)
  obtain rfl:=sm e0
  exact ⟨(),_,⟨rfl,rfl,rfl,trivial⟩,((hB.st d0).st c0).st f0,g0,h8,((l0.st d0).st c0).st f0,((m0.st d0).st c0).st f0,((n0.st d0).st c0).st f0,i0,j0.st f0,h0,((o0.st d0).st c0).st f0⟩
 replace hB:=(hB.st d0).st c0
 replace h8:=(h8.st d0).st c0
 replace l0:=(l0.st d0).st c0
 replace m0:=(m0.st d0).st c0
 replace n0:=(n0.st d0).st c0
 replace j0:=(j0.st d0).st c0
 replace h0:=(h0.st d0).st c0
 replace o0:=(o0.st d0).st c0
 replace g0:=g0.st c0
 rintro c5 d5 ⟨h3,o3,i2,hB,g0,h8,l0,m0,n0,i0,j0,h0,o0⟩
 refine Bc _ i2 ?_
 refine CC rfl (fun j2=>?_) (fun j2=>?_)
 ·
  replace hm:=ip hm j2
  refine Al (Aj (Ay rfl rfl (o_z ?_)))
  refine AR ?_
  obtain rfl:=sm hm
  exact ret1v rfl (AO rfl) ⟨hB.ext,vBool⟩
 replace hm:=im' hm j2
 refine AZ (Al (Al (Aj (AV rfl rfl (AP (hc:=Blk.cell (i:=0) (g0.1) rfl) rfl rfl ?_)))))
 refine Bj rfl rfl ?_
 have k2:x0.vars.length≤9223372036854775807:=Nat.le_trans h8.len.2.1 h8.len.2.2
 have e5:inI64 (x0.vars.length:Int):=rngNat k2
 refine Ar rfl rfl (o_z ?_)
 obtain ⟨j1,l2,hm⟩:=bs hm
 refine AU (aft j1 (fun (b2:Unit) (c2:Unit)=>[]) (fun b2 c2 w'=>∃ O':Lab,Bs w A w' O')) ?_ ?_
 ·
  refine Bf (BS (σ:=Unit) (X:=Unit) (x0.vars.length) l2 rfl k2 (fun (b2:Unit) (c2:Unit)=>[(2,(.pointer (some ⟨e1,0,none⟩))),(3,(.pointer (some ⟨f1,0,none⟩))),(24,(.slice A9 x0.vars.length p0))]) _ (fun b2 c2 w'=>∃ O':Lab,Bs w A w' O'∧Lc 2 w' O' e1 26 [(.slice A9 x0.vars.length p0),(.slice r0 x0.init.length s0),(.slice t0 x0.goal.length u0),(.slice v0 x0.ops.length w0)]∧Vb w' (Fr 0 w' O') (.slice A9 x0.vars.length p0) x0.vars∧Vb w' (Fr 0 w' O') (.slice r0 x0.init.length s0) x0.init∧Vb w' (Fr 0 w' O') (.slice t0 x0.goal.length u0) x0.goal∧Vb w' (Fr 0 w' O') (.slice v0 x0.ops.length w0) x0.ops∧Lc 3 w' O' f1 53 [(.slice y0 x1.vars.length z0),(.slice a1 x1.vals.length b1),(.slice c1 x1.ops.length d1)]∧Vb w' (Fr 0 w' O') (.slice y0 x1.vars.length z0) x1.vars∧Vb w' (Fr 0 w' O') (.slice a1 x1.vals.length b1) x1.vals∧Vb w' (Fr 0 w' O') (.slice c1 x1.ops.length d1) x1.ops) _ () ⟨o3,hB,g0,h8,l0,m0,n0,i0,j0,h0,o0⟩ ⟨rfl,rfl,rfl,rfl,rfl,trivial⟩ (fun _ _=>⟨rfl,rfl⟩) (fun _ _=>trivial) (fun _ _ _ ⟨O',hB,g0,h8,l0,m0,n0,i0,j0,h0,o0⟩=>⟨O',hB⟩) ⟨rfl,rfl,rfl⟩ ⟨rfl,rfl⟩ ?_)
  rintro a3 f5 b2 c2 b3 p3 k1 ⟨m2,hB,g0,h8,l0,m0,n0,i0,j0,h0,o0⟩ k0 g1 n2
  have rk72:inI64 (a3:Int):=rngK k1 k2
  refine Al (Aj (Ar rfl rfl ?_))
  obtain ⟨g5,h5,q3,o2,p2,q2,rfl,r3⟩:=h8.elem' k1
  refine BB (hA:=o2) (hj:=rfl) (hlt:=p2) rfl rfl rfl ?_
  refine AP (hc:=cat0 q2) rfl rfl ?_
  refine Ay rfl rfl (Ay rfl rfl (o_z ?_))
  refine Al ?_
  obtain ⟨s3,b0,k0⟩:=bs k0
  refine AU (fun l' w'=>∃ (t3:Unit) (O':Lab),subs l' [(2,(.pointer (some ⟨e1,0,none⟩))),(3,(.pointer (some ⟨f1,0,none⟩))),(24,(.slice A9 x0.vars.length p0)),(25,(.int .i64 (x0.vars.length:Int))),(26,(.int .i64 (a3:Int))),(51,(.bool s3))]∧Bs w A w' O'∧Lc 2 w' O' e1 26 [(.slice A9 x0.vars.length p0),(.slice r0 x0.init.length s0),(.slice t0 x0.goal.length u0),(.slice v0 x0.ops.length w0)]∧Vb w' (Fr 0 w' O') (.slice A9 x0.vars.length p0) x0.vars∧Vb w' (Fr 0 w' O') (.slice r0 x0.init.length s0) x0.init∧Vb w' (Fr 0 w' O') (.slice t0 x0.goal.length u0) x0.goal∧Vb w' (Fr 0 w' O') (.slice v0 x0.ops.length w0) x0.ops∧Lc 3 w' O' f1 53 [(.slice y0 x1.vars.length z0),(.slice a1 x1.vals.length b1),(.slice c1 x1.ops.length d1)]∧Vb w' (Fr 0 w' O') (.slice y0 x1.vars.length z0) x1.vars∧Vb w' (Fr 0 w' O') (.slice a1 x1.vals.length b1) x1.vals∧Vb w' (Fr 0 w' O') (.slice c1 x1.ops.length d1) x1.ops) ?_ ?_
  ·
   refine Bw [] m2 ?_
   refine AD (fuel:=3) [] [(0,true),(1,true),(2,true),(3,true),(4,true),(5,true),(6,true),(7,true),(8,true),(9,true),(10,true),(11,true),(12,true),(13,true),(14,true),(15,true),(16,true),(17,true)] (by kernel_rfl) rfl ?_
   refine AJ rfl rfl rfl (Bb (hc:=fun w' ⟨O',hq⟩=>Blk.cell (i:=0) ((g0.st hq (by decide)).1) rfl) rfl rfl rfl ?_)
   refine AJ rfl rfl rfl (Bb (hc:=fun w' ⟨O',hq⟩=>Blk.cell (i:=0) ((i0.st hq (by decide)).1) rfl) rfl rfl rfl ?_)
   refine AW rfl rfl rfl ?_
   obtain ⟨i5,u3,b0⟩:=bs b0
   obtain ⟨j5,k5,v3,l1,m1,n1,o1,rfl,w3⟩:=j0.elem u3
   refine BC (hA:=l1) (hj:=rfl) (hlt:=n1) rfl rfl rfl rfl ?_
   refine Bb (hc:=fun w' ⟨O',hq⟩=>cat0 (Bg (hq.agree (i:=0) (by decide)) m1 o1)) rfl rfl rfl ?_
   obtain ⟨x3,r2,b0⟩:=bs b0
   obtain ⟨s2,t2⟩:=Ba r2
   obtain ⟨y3,z3,c3,p1,q1,r1,s1,rfl,a4⟩:=h8.elem t2
   refine BC (hA:=p1) (hj:=(Int.toNat_of_nonneg s2).symm) (hlt:=r1) rfl rfl rfl rfl ?_
   refine Bb (hc:=fun w' ⟨O',hq⟩=>cat0 (Bg (hq.agree (i:=0) (by decide)) q1 s1)) rfl rfl rfl ?_
   refine AW rfl rfl rfl (LS rfl rfl rfl rfl (fun h1=>?_) fun h1=>?_)
   ·
    replace b0:=ip b0 h1
    refine AW rfl rfl rfl (Ck rfl rfl rfl rfl rfl (Ck rfl rfl rfl rfl rfl (Ck rfl rfl rfl rfl rfl (Ck rfl rfl rfl rfl rfl (Ck rfl rfl rfl rfl rfl (Ck rfl rfl rfl rfl rfl (Au ?_)))))))
    refine At (i:=18) (by kernel_rfl) rfl ?_
    refine AC rfl rfl rfl rfl (Az [] ((St.refl nT _ _).lst [] (fun _ h=>h.elim)) (by kernel_rfl) ?_)
    refine AD (fuel:=0) [] [(19,true),(20,true)] (by kernel_rfl) rfl ?_
    refine Ck rfl rfl rfl rfl rfl (Dp rfl rfl rfl rfl (Au ?_))
    refine AY (by kernel_rfl) ?_
    obtain rfl:=sm b0
    exact ⟨(),_,⟨rfl,rfl,rfl,rfl,rfl,rfl,trivial⟩,hB,g0,h8,l0,m0,n0,i0,j0,h0,o0⟩
   replace b0:=im b0 h1
   refine AW rfl rfl rfl (AK rfl (AH rfl rfl (Cz rfl rfl (AK rfl (AH rfl rfl (HH (hc:=fun w' ⟨O',hq⟩=>Blk.cell (i:=1) ((i0.st hq (by decide)).1) rfl) rfl rfl ?_))))))
   refine AK rfl (AH rfl rfl (Eh rfl rfl (AK rfl (AH rfl rfl ?_))))
   obtain ⟨b4,u2,b0⟩:=bs b0
   obtain ⟨c4,d4,d3,t1,u1,v1,w1,e4,rfl,q0⟩:=h0.elem u2
   replace q0:=Vb.of_slice q0
   obtain ⟨f4,g4,rfl⟩:=q0.form
   refine LX (hA:=t1) (hj:=rfl) (hlt:=v1) rfl rfl rfl ?_
   refine AK rfl (AH rfl rfl (HH (hc:=fun w' ⟨O',hq⟩=>cat0 (Bg (hq.agree (i:=0) (by decide)) u1 w1)) rfl rfl ?_))
   refine AK rfl (AH rfl rfl (Eh rfl rfl (Au ?_)))
   refine At (i:=18) (by kernel_rfl) rfl ?_
   refine AE rfl rfl ?_
   obtain ⟨y1,v2,b0⟩:=bs b0
   refine By (O:=m2) (A:=All b3) (R:=fun w' F v=>Vb w' F v y1) (DB (fun _ h=>h) (Vb.mono (F:=Fr 0 b3 m2) q0 Fr.lt) r3 v2) rfl rfl fun h4 i4 j4 a0 w2=>?_
   obtain rfl:=w2.bool
   have hZ:=a0.lst [] (fun _ h=>h.elim)
   cases y1
   case false =>
    replace b0:=iF b0
    refine Az [] hZ (by kernel_rfl) ?_
    refine AD (fuel:=0) [] [(19,true),(20,true)] (by kernel_rfl) rfl ?_
    refine AK rfl (AH rfl rfl (Jh rfl rfl (CS rfl rfl rfl rfl (Au ?_))))
    refine AY (by kernel_rfl) ?_
    obtain rfl:=sm b0
    exact ⟨(),_,⟨rfl,rfl,rfl,rfl,rfl,rfl,trivial⟩,hB.st a0,g0.st a0,h8.st a0,l0.st a0,m0.st a0,n0.st a0,i0.st a0,j0.st a0,h0.st a0,o0.st a0⟩
   replace b0:=iT b0
   refine Az [] hZ (by kernel_rfl) ?_
   refine AD (fuel:=0) [] [(19,true),(20,true)] (by kernel_rfl) rfl ?_
   refine AK rfl (AH rfl rfl (Jg rfl rfl (CS rfl rfl rfl rfl (Au ?_))))
   refine AY (by kernel_rfl) ?_
   obtain rfl:=sm b0
   exact ⟨(),_,⟨rfl,rfl,rfl,rfl,rfl,rfl,trivial⟩,hB.st a0,g0.st a0,h8.st a0,l0.st a0,m0.st a0,n0.st a0,i0.st a0,j0.st a0,h0.st a0,o0.st a0⟩
  rintro k4 l4 ⟨t3,m4,z1,hB,g0,h8,l0,m0,n0,i0,j0,h0,o0⟩
  refine Bc _ z1 ?_
  refine CC rfl (fun i1=>?_) (fun i1=>?_)
  ·
   replace k0:=ip k0 i1
   refine Al (Aj (Ay rfl rfl (o_z ?_)))
   refine AR ?_
   obtain rfl:=sm k0
   obtain rfl:=g1 _ rfl
   obtain rfl:=sm (Cn hm)
   exact ret1v rfl (AO rfl) ⟨hB.ext,vBool⟩
  replace k0:=im' k0 i1
  refine AZ ?_
  obtain rfl:=sm k0
  exact show Exists _ from ⟨_,(),rfl,⟨rfl,rfl,rfl,rfl,rfl,trivial⟩,_,hB,g0,h8,l0,m0,n0,i0,j0,h0,o0⟩
 rintro n4 o4 ⟨p4,q4,rfl,a2,r4,hB⟩
 replace hm:=Bq hm
 refine Bc _ a2 ?_
 refine Al (Aj (Ay rfl rfl (o_z ?_)))
 refine AR ?_
 obtain rfl:=sm hm
 exact ret1v rfl (AO rfl) ⟨hB.ext,vBool⟩
noncomputable def Ch (x0:Swp) (x1:List Int):Option (List Int) :=
  bnd (mkI 8 (0:Int) (x1.length:Int)) fun u25=>bnd (rng (ρ:=(List Int)) (fun (k44:Nat) (a45:Int) (s42:(List Int))=>bnd (x0.vars[k44]?) fun a67=>bnd (x0.vals[k44]?) fun a77=>bnd (atI a77 a45) fun a90=>bnd (atI s42 a67) fun a102=>some (.next (s42.set (a67:Int).toNat a90))) x1 0 u25) fun res40=>fin res40 fun (s120:(List Int))=>some s120
theorem Ii {w:World} {A:Nat→Prop} (hA:∀ k,A k→k < w.heap.size) {vx0:Value} {x0:Swp} (w0:Vb w A vx0 x0) {vx1:Value} {x1:List Int} (b0:Vb w A vx1 x1) {r:(List Int)} (hm:Ch x0 x1=some r) :
    Fn Tryz.prog 86 [vx0,vx1] w fun v w'=>Ext w w'∧Vb w' (upA A w w') v r:=by
 obtain ⟨O,hB,d2⟩:=enter hA
 replace w0:=w0.mono d2
 obtain ⟨p3,rfl,v4,v5,v6,rfl,h7,f0,h0⟩:=w0
 obtain ⟨A8,c9,rfl⟩:=h7.form
 obtain ⟨y0,a1,rfl⟩:=f0.form
 obtain ⟨b1,c1,rfl⟩:=h0.form
 replace b0:=b0.mono d2
 obtain ⟨e2,f2,rfl⟩:=b0.form
 refine AQ Tryz.func86 rfl Tryz.ntmps86 rfl ?_
 unfold Ch at hm
 refine Al (Aj (Cp 2 O rfl rfl fun d1 l2 g2 j0 d0=>?_))
 replace d0:Lc 2 l2 g2 d1 53 [(.slice A8 x0.vars.length c9),(.slice y0 x0.vals.length a1),(.slice b1 x0.ops.length c1)]:=d0
 refine Ay rfl rfl (o_z ?_)
 refine Al (Aj (Ar rfl rfl (Bj rfl rfl ?_)))
 replace b0:=b0.st j0
 have m2:x1.length≤9223372036854775807:=Nat.le_trans b0.len.2.1 b0.len.2.2
 have q3:inI64 (x1.length:Int):=rngNat m2
 obtain ⟨r0,n2,hm⟩:=bs hm
 obtain ⟨s0,o2,p2,q2,r2⟩:=CD n2
 refine Di 3 (by decide) g2 (z0:=(0:Int)) rfl rfl rfl rfl rfl o2 (vInt (show inI64 0 from by decide)) p2 q2 rfl fun t0 r3 s2 i0 h2=>?_
 rw [← r2] at h2 ⊢
 refine Ay rfl rfl (o_z ?_)
 refine Al (Al (Aj (Ar rfl rfl (Bj rfl rfl ?_))))
 replace b0:=b0.st i0
 have e1:x1.length≤9223372036854775807:=Nat.le_trans b0.len.2.1 b0.len.2.2
 have s3:inI64 (x1.length:Int):=rngNat e1
 refine Ar rfl rfl (o_z ?_)
 obtain ⟨l0,f1,hm⟩:=bs hm
 refine AU (aft l0 (fun (k0:(List Int)) (u0:Unit)=>[(5,(.slice (some ⟨t0,0,none⟩) r0.length s0))]) (fun k0 u0 w'=>∃ O':Lab,Bs w A w' O'∧Rw 3 w' O' 3 (.slice (some ⟨t0,0,none⟩) r0.length s0) k0)) ?_ ?_
 ·
  refine Bf ?_
  replace hB:=(hB.st j0).st i0
  replace h7:=(h7.st j0).st i0
  replace f0:=(f0.st j0).st i0
  replace h0:=(h0.st j0).st i0
  replace d0:=d0.st i0
  refine BS (σ:=(List Int)) (X:=Unit) (x1.length) f1 rfl e1 (fun (k0:(List Int)) (u0:Unit)=>[(2,(.pointer (some ⟨d1,0,none⟩))),(5,(.slice (some ⟨t0,0,none⟩) r0.length s0)),(11,(.slice e2 x1.length f2))]) _ (fun k0 u0 w'=>∃ O':Lab,Bs w A w' O'∧Lc 2 w' O' d1 53 [(.slice A8 x0.vars.length c9),(.slice y0 x0.vals.length a1),(.slice b1 x0.ops.length c1)]∧Vb w' (Fr 0 w' O') (.slice A8 x0.vars.length c9) x0.vars∧Vb w' (Fr 0 w' O') (.slice y0 x0.vals.length a1) x0.vals∧Vb w' (Fr 0 w' O') (.slice b1 x0.ops.length c1) x0.ops∧Rw 3 w' O' 3 (.slice (some ⟨t0,0,none⟩) r0.length s0) k0∧Vb w' (Fr 0 w' O') (.slice e2 x1.length f2) x1) _ () ⟨s2,hB,d0,h7,f0,h0,h2,b0⟩ ⟨rfl,rfl,rfl,rfl,rfl,trivial⟩ (fun _ _=>⟨rfl,rfl⟩) (fun _ _=>⟨rfl,trivial⟩) (fun _ _ _ ⟨O',hB,d0,h7,f0,h0,e0,b0⟩=>⟨O',hB,e0⟩) ⟨rfl,rfl,rfl⟩ ⟨rfl,rfl⟩ ?_
  rintro t2 t3 k0 u0 u3 u2 m0 ⟨v2,hB,d0,h7,f0,h0,e0,b0⟩ a0 g1 h1
  have rk44:inI64 (t2:Int):=rngK m0 e1
  refine Al (Aj (Ar rfl rfl ?_))
  obtain ⟨v3,w3,w2,i1,j1,k1,rfl,x3⟩:=b0.elem' m0
  refine BB (hA:=i1) (hj:=rfl) (hlt:=j1) rfl rfl rfl ?_
  refine AP (hc:=cat0 k1) rfl rfl ?_
  refine Ay rfl rfl (Ay rfl rfl (o_z ?_))
  refine Bw [] v2 ?_
  refine AD (fuel:=1) [] [(0,true),(1,true),(2,true),(3,true),(4,true),(5,true),(6,true),(7,true),(8,true),(9,true),(10,true),(11,true),(12,true),(13,true),(14,true)] (by kernel_rfl) rfl ?_
  refine AW rfl rfl rfl (AJ rfl rfl rfl (Bb (hc:=fun w' ⟨O',hq⟩=>Blk.cell (i:=0) ((d0.st hq (by decide)).1) rfl) rfl rfl rfl ?_))
  refine AW rfl rfl rfl ?_
  obtain ⟨y3,x2,a0⟩:=bs a0
  obtain ⟨z3,a4,y2,l1,m1,n1,o1,rfl,b4⟩:=h7.elem x2
  refine BC (hA:=l1) (hj:=rfl) (hlt:=n1) rfl rfl rfl rfl ?_
  refine Bb (hc:=fun w' ⟨O',hq⟩=>cat0 (Bg (hq.agree (i:=0) (by decide)) m1 o1)) rfl rfl rfl ?_
  refine AJ rfl rfl rfl (Bb (hc:=fun w' ⟨O',hq⟩=>Blk.cell (i:=1) ((d0.st hq (by decide)).1) rfl) rfl rfl rfl ?_)
  refine AW rfl rfl rfl ?_
  obtain ⟨c4,z2,a0⟩:=bs a0
  obtain ⟨d4,e4,a3,p1,q1,r1,s1,f4,rfl,v0⟩:=f0.elem z2
  replace v0:=Vb.of_slice v0
  obtain ⟨g4,h4,rfl⟩:=v0.form
  refine BC (hA:=p1) (hj:=rfl) (hlt:=r1) rfl rfl rfl rfl ?_
  refine Bb (hc:=fun w' ⟨O',hq⟩=>cat0 (Bg (hq.agree (i:=0) (by decide)) q1 s1)) rfl rfl rfl ?_
  refine AW rfl rfl rfl ?_
  obtain ⟨b3,c3,a0⟩:=bs a0
  obtain ⟨d3,e3⟩:=Ba c3
  obtain ⟨i4,j4,f3,t1,n0,u1,v1,rfl,w1⟩:=v0.elem e3
  refine BC (hA:=t1) (hj:=(Int.toNat_of_nonneg d3).symm) (hlt:=u1) rfl rfl rfl rfl ?_
  refine Bb (hc:=fun w' ⟨O',hq⟩=>cat0 (Bg (hq.agree (i:=0) (by decide)) n0 v1)) rfl rfl rfl ?_
  obtain ⟨g3,y1,a0⟩:=bs a0
  obtain ⟨z1,o0⟩:=Ba y1
  obtain ⟨h3,i3,i2,g0,j2,p0,k2,rfl,j3⟩:=e0.elemF o0
  refine BC (hA:=g0) (hj:=(Int.toNat_of_nonneg z1).symm) (hlt:=p0) rfl rfl rfl rfl ?_
  refine Au ?_
  refine At (i:=15) (by kernel_rfl) rfl ?_
  refine CM rfl e0 (a:=b3) (vInt w1) g0 rfl rfl (AL o0) fun k3 c0 e0=>?_
  refine Be (by kernel_rfl) ?_
  refine AY (by kernel_rfl) ?_
  obtain rfl:=sm a0
  exact show Exists _ from ⟨_,(),rfl,⟨rfl,rfl,rfl,rfl,rfl,trivial⟩,_,hB.st c0,d0.st c0,h7.st c0,f0.st c0,h0.st c0,e0,b0.st c0⟩
 replace hB:=(hB.st j0).st i0
 rintro l3 a2 ⟨m3,n3,rfl,q0,o3,hB,e0⟩
 replace hm:=Bq hm
 refine Bc _ q0 ?_
 refine Al (Aj (Ar rfl rfl (Ay rfl rfl (o_z ?_))))
 refine AR ?_
 obtain ⟨b2,c2,e0⟩:=e0.freeze
 obtain rfl:=sm hm
 replace hB:=hB.st c2
 exact ret1v rfl (AO rfl) ⟨hB.ext,(Vb.mono (F:=Fr 0 a2 b2) e0 hB.out)⟩
noncomputable def CO (x0:Eff) (x1:Eff):Option Bool :=
  bnd (if x0.var=x1.var then (if x0.val=x1.val then (bnd (Bv x0.cond x1.cond) fun q33=>if q33=true then some true else some false) else (some false)) else (some false):Option Bool) fun y27=>some y27
theorem GX {w:World} {A:Nat→Prop} (hA:∀ k,A k→k < w.heap.size) {vx0:Value} {x0:Eff} (i0:Vb w A vx0 x0) {vx1:Value} {x1:Eff} (j0:Vb w A vx1 x1) {r:Bool} (hm:CO x0 x1=some r) :
    Fn Tryz.prog 100 [vx0,vx1] w fun v w'=>Ext w w'∧Vb w' (upA A w w') v r:=by
 obtain ⟨O,hB,n0⟩:=enter hA
 replace i0:=i0.mono n0
 obtain ⟨c1,rfl,v4,rfl,h5,r8,r9⟩:=i0
 obtain ⟨A6,c7,rfl⟩:=h5.form
 replace j0:=j0.mono n0
 obtain ⟨r0,rfl,d1,rfl,f0,e1,f1⟩:=j0
 obtain ⟨s0,t0,rfl⟩:=f0.form
 refine AQ Tryz.func100 rfl Tryz.ntmps100 rfl ?_
 unfold CO at hm
 refine Al (Aj (Cp 2 O rfl rfl fun u0 v0 o0 c0 d0=>?_))
 replace d0:Lc 2 v0 o0 u0 47 [(.slice A6 x0.cond.length c7),(.int .i64 x0.var),(.int .i64 x0.val)]:=d0
 refine Cp 3 o0 rfl rfl fun w0 g0 h0 b0 e0=>?_
 replace e0:Lc 3 g0 h0 w0 47 [(.slice s0 x1.cond.length t0),(.int .i64 x1.var),(.int .i64 x1.val)]:=e0
 refine Ay rfl rfl (o_z ?_)
 refine Al ?_
 obtain ⟨y0,a0,hm⟩:=bs hm
 refine AU (fun l' w'=>∃ (z0:Unit) (O':Lab),subs l' [(4,(.bool y0))]∧Bs w A w' O') ?_ ?_
 ·
  refine Aj (AV rfl rfl ?_)
  replace d0:=d0.st b0
  refine AP (hc:=Blk.cell (i:=1) (d0.1) rfl) rfl rfl ?_
  refine AV rfl rfl (AP (hc:=Blk.cell (i:=1) (e0.1) rfl) rfl rfl ?_)
  refine Ei rfl rfl rfl (fun k0=>?_) fun k0=>?_
  ·
   replace a0:=ip a0 k0
   refine Ar rfl rfl (AE rfl rfl (AV rfl rfl (AE rfl rfl (AP (hc:=Blk.cell (i:=2) (d0.1) rfl) rfl rfl ?_))))
   refine AE rfl rfl (AV rfl rfl (AE rfl rfl (AP (hc:=Blk.cell (i:=2) (e0.1) rfl) rfl rfl ?_)))
   refine AE rfl rfl (Ei rfl rfl rfl (fun l0=>?_) fun l0=>?_)
   ·
    replace a0:=ip a0 l0
    refine BF rfl rfl rfl (Ar rfl rfl (AE rfl rfl (AV rfl rfl (AE rfl rfl (AP (hc:=Blk.cell (i:=0) (d0.1) rfl) rfl rfl ?_)))))
    refine AE rfl rfl (AV rfl rfl (AE rfl rfl (AP (hc:=Blk.cell (i:=0) (e0.1) rfl) rfl rfl ?_)))
    refine AE rfl rfl ?_
    obtain ⟨p0,a1,a0⟩:=bs a0
    replace h5:=(h5.st c0).st b0
    replace f0:=(f0.st c0).st b0
    refine By (O:=h0) (A:=All g0) (R:=fun w' F v=>Vb w' F v p0) (CA (fun _ h=>h) (Vb.mono (F:=Fr 0 g0 h0) h5 Fr.lt) (Vb.mono (F:=Fr 0 g0 h0) f0 Fr.lt) a1) rfl rfl fun g1 h1 i1 q0 b1=>?_
    obtain rfl:=b1.bool
    cases p0
    case false =>
     replace a0:=iF a0
     refine BF rfl rfl rfl (Ay rfl rfl (o_z ?_))
     obtain rfl:=sm a0
     exact ⟨(),_,⟨rfl,trivial⟩,((hB.st c0).st b0).st q0⟩
    replace a0:=iT a0
    refine BF rfl rfl rfl (Ay rfl rfl (o_z ?_))
    obtain rfl:=sm a0
    exact ⟨(),_,⟨rfl,trivial⟩,((hB.st c0).st b0).st q0⟩
   replace a0:=im a0 l0
   refine BF rfl rfl rfl (Ar rfl rfl (AC rfl rfl rfl rfl (AC rfl rfl rfl rfl (AC rfl rfl rfl rfl (AC rfl rfl rfl rfl (AC rfl rfl rfl rfl (BN rfl rfl rfl (Ay rfl rfl (o_z ?_)))))))))
   obtain rfl:=sm a0
   exact ⟨(),_,⟨rfl,trivial⟩,(hB.st c0).st b0⟩
  replace a0:=im a0 k0
  refine Ar rfl rfl (AC rfl rfl rfl rfl (AC rfl rfl rfl rfl (AC rfl rfl rfl rfl (AC rfl rfl rfl rfl (AC rfl rfl rfl rfl (BN rfl rfl rfl (Ar rfl rfl (AC rfl rfl rfl rfl (AC rfl rfl rfl rfl (AC rfl rfl rfl rfl (AC rfl rfl rfl rfl (AC rfl rfl rfl rfl (BN rfl rfl rfl (Ay rfl rfl ?_))))))))))))))
  refine o_z ?_
  obtain rfl:=sm a0
  exact ⟨(),_,⟨rfl,trivial⟩,(hB.st c0).st b0⟩
 replace hB:=(hB.st c0).st b0
 rintro j1 k1 ⟨z0,l1,m0,hB⟩
 refine Bc _ m0 ?_
 refine AR ?_
 obtain rfl:=sm hm
 exact ret1v rfl (AO rfl) ⟨hB.ext,vBool⟩
noncomputable def AX (x0:List Eff) (x1:List Eff):Option Bool :=
  if (x0.length:Int)≠(x1.length:Int) then (some false) else (bnd (rng (ρ:=Bool) (fun (k19:Nat) (a20:Eff) (s17:Unit)=>bnd (x1[k19]?) fun a50=>bnd (CO a20 a50) fun q72=>if q72=true then some (.next ()) else some (.ret false)) x0 0 ()) fun res15=>fin res15 fun (s83:Unit)=>some true)
theorem Cc {w:World} {A:Nat→Prop} (hA:∀ k,A k→k < w.heap.size) {vx0:Value} {x0:List Eff} (b0:Vb w A vx0 x0) {vx1:Value} {x1:List Eff} (c0:Vb w A vx1 x1) {r:Bool} (hm:AX x0 x1=some r) :
    Fn Tryz.prog 99 [vx0,vx1,(.func (.func 100) #[] #[])] w fun v w'=>Ext w w'∧Vb w' (upA A w w') v r:=by
 obtain ⟨O,hB,h1⟩:=enter hA
 replace b0:=b0.mono h1
 obtain ⟨A4,c5,rfl⟩:=b0.form
 replace c0:=c0.mono h1
 obtain ⟨A6,c7,rfl⟩:=c0.form
 refine AQ Tryz.func99 rfl Tryz.ntmps99 rfl ?_
 unfold AX at hm
 refine Al (Aj (Ay rfl rfl (o_z ?_)))
 refine Al (Al (Aj (Ar rfl rfl (Bj rfl rfl ?_))))
 have l9:x0.length≤9223372036854775807:=Nat.le_trans b0.len.2.1 b0.len.2.2
 have r8:inI64 (x0.length:Int):=rngNat l9
 refine Ar rfl rfl (Bj rfl rfl ?_)
 have o1:x1.length≤9223372036854775807:=Nat.le_trans c0.len.2.1 c0.len.2.2
 have f2:inI64 (x1.length:Int):=rngNat o1
 refine HE rfl rfl rfl (fun v0=>?_) fun v0=>?_
 ·
  replace hm:=ip hm v0
  refine o_z ?_
  refine Ah rfl (Al (Aj (Ay rfl rfl (o_z ?_))))
  refine AR ?_
  obtain rfl:=sm hm
  exact ret1v rfl (AO rfl) ⟨hB.ext,vBool⟩
 replace hm:=im hm v0
 refine o_z ?_
 refine Ae rfl (AZ (Al (Al (Aj (Ar rfl rfl (Bj rfl rfl ?_))))))
 have w0:x0.length≤9223372036854775807:=Nat.le_trans b0.len.2.1 b0.len.2.2
 have g2:inI64 (x0.length:Int):=rngNat w0
 refine Ar rfl rfl (o_z ?_)
 obtain ⟨j0,y0,hm⟩:=bs hm
 refine AU (aft j0 (fun (o0:Unit) (p0:Unit)=>[]) (fun o0 p0 w'=>∃ O':Lab,Bs w A w' O')) ?_ ?_
 ·
  refine Bf (BS (σ:=Unit) (X:=Unit) (x0.length) y0 rfl w0 (fun (o0:Unit) (p0:Unit)=>[(1,(.slice A6 x1.length c7)),(2,(.func (.func 100) #[] #[])),(15,(.slice A4 x0.length c5))]) _ (fun o0 p0 w'=>∃ O':Lab,Bs w A w' O'∧Vb w' (Fr 0 w' O') (.slice A6 x1.length c7) x1∧Vb w' (Fr 0 w' O') (.slice A4 x0.length c5) x0) _ () ⟨O,hB,c0,b0⟩ ⟨rfl,rfl,rfl,rfl,rfl,trivial⟩ (fun _ _=>⟨rfl,rfl⟩) (fun _ _=>trivial) (fun _ _ _ ⟨O',hB,c0,b0⟩=>⟨O',hB⟩) ⟨rfl,rfl,rfl⟩ ⟨rfl,rfl⟩ ?_)
  rintro p1 d0 o0 p0 h2 q1 k0 ⟨r1,hB,c0,b0⟩ a0 e0 z0
  have rk19:inI64 (p1:Int):=rngK k0 w0
  refine Al (Aj (Ar rfl rfl ?_))
  obtain ⟨i2,j2,s1,a1,b1,c1,k2,rfl,q0,t1,u1⟩:=b0.elem' k0
  obtain ⟨i1,j1,rfl⟩:=q0.form
  refine BB (hA:=a1) (hj:=rfl) (hlt:=b1) rfl rfl rfl ?_
  refine Br (hl:=rfl) (hc:=c1) rfl rfl ?_
  refine Bk 2 r1 rfl fun v1 l2 k1 l0 f0=>?_
  refine Ay rfl rfl (AA f0 rfl rfl rfl (AG rfl) (allOne rfl) fun w1 m0 f0=>?_)
  replace f0:Lc 2 w1 k1 v1 47 [(.slice i1 d0.cond.length j1),(.int .i64 d0.var),(.int .i64 d0.val)]:=f0
  refine o_z ?_
  refine Al (Aj (Ar rfl rfl (Ar rfl rfl ?_)))
  obtain ⟨g0,y1,a0⟩:=bs a0
  replace c0:=(c0.st l0).st m0
  obtain ⟨m2,n2,z1,d1,e1,f1,o2,rfl,r0,a2,b2⟩:=c0.elem' y1
  obtain ⟨l1,m1,rfl⟩:=r0.form
  refine BB (hA:=d1) (hj:=rfl) (hlt:=e1) rfl rfl rfl ?_
  refine Br (hl:=rfl) (hc:=f1) rfl rfl ?_
  refine Bk 3 k1 rfl fun c2 p2 s0 h0 n0=>?_
  refine AA n0 rfl rfl rfl (AG rfl) (allOne rfl) fun t0 i0 n0=>?_
  replace n0:Lc 3 t0 s0 c2 47 [(.slice l1 g0.cond.length m1),(.int .i64 g0.var),(.int .i64 g0.val)]:=n0
  refine o_z ?_
  refine Al (Aj (Ar rfl rfl ?_))
  replace f0:=(f0.st h0).st i0
  refine Br (hl:=rfl) (hc:=(f0.1).cellsAt) rfl rfl ?_
  refine Br (hl:=rfl) (hc:=(n0.1).cellsAt) rfl rfl ?_
  obtain ⟨n1,d2,a0⟩:=bs a0
  replace q0:=(((q0.st l0).st m0).st h0).st i0
  replace r0:=(r0.st h0).st i0
  refine Nl (O:=s0) (A:=All t0) (R:=fun w' F v=>Vb w' F v n1) (GX (fun _ h=>h) (Vb.mono (F:=Fr 0 t0 s0) (Vb.ofAgg (cs:=[(.slice i1 d0.cond.length j1),(.int .i64 d0.var),(.int .i64 d0.val)]) (x:=d0) rfl ⟨_,rfl,q0,t1,u1⟩) Fr.lt) (Vb.mono (F:=Fr 0 t0 s0) (Vb.ofAgg (cs:=[(.slice l1 g0.cond.length m1),(.int .i64 g0.var),(.int .i64 g0.val)]) (x:=g0) rfl ⟨_,rfl,r0,a2,b2⟩) Fr.lt) d2) rfl rfl rfl fun q2 r2 s2 u0 e2=>?_
  obtain rfl:=e2.bool
  cases n1
  case false =>
   replace a0:=iF a0
   refine DL rfl rfl (o_z ?_)
   refine Ah rfl (Al (Aj (Ay rfl rfl (o_z ?_))))
   refine AR ?_
   obtain rfl:=sm a0
   obtain rfl:=e0 _ rfl
   obtain rfl:=sm (Cn hm)
   replace hB:=((((hB.st l0).st m0).st h0).st i0).st u0
   exact ret1v rfl (AO rfl) ⟨hB.ext,vBool⟩
  replace a0:=iT a0
  refine DK rfl rfl (o_z ?_)
  refine Ae rfl (AZ ?_)
  obtain rfl:=sm a0
  exact show Exists _ from ⟨_,(),rfl,⟨rfl,rfl,rfl,rfl,rfl,trivial⟩,_,((((hB.st l0).st m0).st h0).st i0).st u0,((c0.st h0).st i0).st u0,((((b0.st l0).st m0).st h0).st i0).st u0⟩
 rintro t2 u2 ⟨v2,w2,rfl,g1,x2,hB⟩
 replace hm:=Bq hm
 refine Bc _ g1 ?_
 refine Al (Aj (Ay rfl rfl (o_z ?_)))
 refine AR ?_
 obtain rfl:=sm hm
 exact ret1v rfl (AO rfl) ⟨hB.ext,vBool⟩
noncomputable def Dl (x0:Opr) (x1:Opr):Option Bool :=
  bnd (if x0.cost=x1.cost then (bnd (Bv x0.pre x1.pre) fun q40=>if q40=true then bnd (AX x0.effs x1.effs) fun q47=>if q47=true then some true else some false else some false) else (some false):Option Bool) fun y35=>some y35
theorem Ij {w:World} {A:Nat→Prop} (hA:∀ k,A k→k < w.heap.size) {vx0:Value} {x0:Opr} (k0:Vb w A vx0 x0) {vx1:Value} {x1:Opr} (l0:Vb w A vx1 x1) {r:Bool} (hm:Dl x0 x1=some r) :
    Fn Tryz.prog 79 [vx0,vx1] w fun v w'=>Ext w w'∧Vb w' (upA A w w') v r:=by
 obtain ⟨O,hB,q0⟩:=enter hA
 replace k0:=k0.mono q0
 obtain ⟨m1,rfl,v4,v5,rfl,h6,h9,n1,o1⟩:=k0
 obtain ⟨A7,c8,rfl⟩:=h6.form
 obtain ⟨v0,w0,rfl⟩:=h9.form
 replace l0:=l0.mono q0
 obtain ⟨y0,rfl,p1,q1,rfl,g0,h0,r1,s1⟩:=l0
 obtain ⟨z0,a1,rfl⟩:=g0.form
 obtain ⟨b1,c1,rfl⟩:=h0.form
 refine AQ Tryz.func79 rfl Tryz.ntmps79 rfl ?_
 unfold Dl at hm
 refine Al (Aj (Cp 2 O rfl rfl fun d1 e1 r0 c0 d0=>?_))
 replace d0:Lc 2 e1 r0 d1 50 [(.string x0.name),(.int .i64 x0.cost),(.slice A7 x0.pre.length c8),(.slice v0 x0.effs.length w0)]:=d0
 refine Cp 3 r0 rfl rfl fun f1 i0 j0 b0 e0=>?_
 replace e0:Lc 3 i0 j0 f1 50 [(.string x1.name),(.int .i64 x1.cost),(.slice z0 x1.pre.length a1),(.slice b1 x1.effs.length c1)]:=e0
 refine Ay rfl rfl (o_z ?_)
 refine Al ?_
 obtain ⟨g1,a0,hm⟩:=bs hm
 refine AU (fun l' w'=>∃ (h1:Unit) (O':Lab),subs l' [(4,(.bool g1))]∧Bs w A w' O') ?_ ?_
 ·
  refine Aj (AV rfl rfl ?_)
  replace d0:=d0.st b0
  refine AP (hc:=Blk.cell (i:=1) (d0.1) rfl) rfl rfl ?_
  refine AV rfl rfl (AP (hc:=Blk.cell (i:=1) (e0.1) rfl) rfl rfl ?_)
  refine Ei rfl rfl rfl (fun m0=>?_) fun m0=>?_
  ·
   replace a0:=ip a0 m0
   refine Ar rfl rfl (AE rfl rfl (AV rfl rfl (AE rfl rfl (AP (hc:=Blk.cell (i:=2) (d0.1) rfl) rfl rfl ?_))))
   refine AE rfl rfl (AV rfl rfl (AE rfl rfl (AP (hc:=Blk.cell (i:=2) (e0.1) rfl) rfl rfl ?_)))
   refine AE rfl rfl ?_
   obtain ⟨s0,i1,a0⟩:=bs a0
   replace h6:=(h6.st c0).st b0
   replace g0:=(g0.st c0).st b0
   refine By (O:=j0) (A:=All i0) (R:=fun w' F v=>Vb w' F v s0) (CA (fun _ h=>h) (Vb.mono (F:=Fr 0 i0 j0) h6 Fr.lt) (Vb.mono (F:=Fr 0 i0 j0) g0 Fr.lt) i1) rfl rfl fun t1 n0 o0 f0 j1=>?_
   obtain rfl:=j1.bool
   cases s0
   case false =>
    replace a0:=iF a0
    refine BF rfl rfl rfl (Ar rfl rfl (AC rfl rfl rfl rfl (AC rfl rfl rfl rfl (AC rfl rfl rfl rfl (AC rfl rfl rfl rfl (AC rfl rfl rfl rfl (BN rfl rfl rfl (Ay rfl rfl (o_z ?_)))))))))
    obtain rfl:=sm a0
    exact ⟨(),_,⟨rfl,trivial⟩,((hB.st c0).st b0).st f0⟩
   replace a0:=iT a0
   refine BF rfl rfl rfl (Ar rfl rfl (AE rfl rfl (AV rfl rfl (AE rfl rfl ?_))))
   replace d0:=d0.st f0
   refine AP (hc:=Blk.cell (i:=3) (d0.1) rfl) rfl rfl ?_
   refine AE rfl rfl (AV rfl rfl (AE rfl rfl ?_))
   replace e0:=e0.st f0
   refine AP (hc:=Blk.cell (i:=3) (e0.1) rfl) rfl rfl ?_
   refine AE rfl rfl ?_
   obtain ⟨t0,k1,a0⟩:=bs a0
   replace h9:=((h9.st c0).st b0).st f0
   replace h0:=((h0.st c0).st b0).st f0
   refine By (O:=o0) (A:=All n0) (R:=fun w' F v=>Vb w' F v t0) (Cc (fun _ h=>h) (Vb.mono (F:=Fr 0 n0 o0) h9 Fr.lt) (Vb.mono (F:=Fr 0 n0 o0) h0 Fr.lt) k1) rfl rfl fun u1 v1 w1 u0 l1=>?_
   obtain rfl:=l1.bool
   cases t0
   case false =>
    replace a0:=iF a0
    refine BF rfl rfl rfl (Ay rfl rfl (o_z ?_))
    obtain rfl:=sm a0
    exact ⟨(),_,⟨rfl,trivial⟩,(((hB.st c0).st b0).st f0).st u0⟩
   replace a0:=iT a0
   refine BF rfl rfl rfl (Ay rfl rfl (o_z ?_))
   obtain rfl:=sm a0
   exact ⟨(),_,⟨rfl,trivial⟩,(((hB.st c0).st b0).st f0).st u0⟩
  replace a0:=im a0 m0
  refine Ar rfl rfl (AC rfl rfl rfl rfl (AC rfl rfl rfl rfl (AC rfl rfl rfl rfl (AC rfl rfl rfl rfl (AC rfl rfl rfl rfl (BN rfl rfl rfl (Ar rfl rfl (AC rfl rfl rfl rfl (AC rfl rfl rfl rfl (AC rfl rfl rfl rfl (AC rfl rfl rfl rfl (AC rfl rfl rfl rfl (BN rfl rfl rfl (Ay rfl rfl ?_))))))))))))))
  refine o_z ?_
  obtain rfl:=sm a0
  exact ⟨(),_,⟨rfl,trivial⟩,(hB.st c0).st b0⟩
 replace hB:=(hB.st c0).st b0
 rintro y1 z1 ⟨h1,a2,p0,hB⟩
 refine Bc _ p0 ?_
 refine AR ?_
 obtain rfl:=sm hm
 exact ret1v rfl (AO rfl) ⟨hB.ext,vBool⟩
noncomputable def CH (x0:Int):Option (List Int) :=
  bnd (mkI 8 (0:Int) x0) fun u2=>bnd (rngN (ρ:=(List Int)) (fun (k21:Nat) (s19:(List Int))=>bnd (s19[k21]?) fun a40=>some (.next (s19.set k21 (k21:Int)))) u2.length u2) fun res17=>fin res17 fun (s56:(List Int))=>some s56
theorem CX {w:World} {A:Nat→Prop} (hA:∀ k,A k→k < w.heap.size) {x0:Int} (rx0:inI64 x0) {r:(List Int)} (hm:CH x0=some r) :
    Fn Tryz.prog 89 [(.int .i64 x0)] w fun v w'=>Ext w w'∧Vb w' (upA A w w') v r:=by
 obtain ⟨O,hB,b1⟩:=enter hA
 refine AQ Tryz.func89 rfl Tryz.ntmps89 rfl ?_
 unfold CH at hm
 refine Al (Aj (Ay rfl rfl (o_z ?_)))
 refine Al (Aj (Ar rfl rfl ?_))
 obtain ⟨u2,e3,hm⟩:=bs hm
 obtain ⟨m4,e5,e6,e7,e8⟩:=CD e3
 refine Di 2 (by decide) O (z0:=(0:Int)) rfl rfl rfl rfl rfl e5 (vInt (show inI64 0 from by decide)) e6 e7 rfl fun g9 c1 r0 o0 f0=>?_
 rw [← e8] at f0 ⊢
 refine Ay rfl rfl (o_z ?_)
 refine Al (Al (Aj (Ar rfl rfl (Bj rfl rfl ?_))))
 have h0:u2.length≤9223372036854775807:=Nat.le_trans f0.len.2.1 f0.len.2.2
 have d1:inI64 (u2.length:Int):=rngNat h0
 refine Ar rfl rfl (o_z ?_)
 obtain ⟨d0,i0,hm⟩:=bs hm
 refine AU (aft d0 (fun (c0:(List Int)) (g0:Unit)=>[(3,(.slice (some ⟨g9,0,none⟩) u2.length m4))]) (fun c0 g0 w'=>∃ O':Lab,Bs w A w' O'∧Rw 2 w' O' 3 (.slice (some ⟨g9,0,none⟩) u2.length m4) c0)) ?_ ?_
 ·
  refine Bf ?_
  replace hB:=hB.st o0
  refine GB (σ:=(List Int)) (X:=Unit) (u2.length) i0 h0 (fun (c0:(List Int)) (g0:Unit)=>[(3,(.slice (some ⟨g9,0,none⟩) u2.length m4))]) _ (fun c0 g0 w'=>∃ O':Lab,Bs w A w' O'∧Rw 2 w' O' 3 (.slice (some ⟨g9,0,none⟩) u2.length m4) c0) _ () ⟨r0,hB,f0⟩ ⟨rfl,rfl,rfl,trivial⟩ (fun _ _=>⟨rfl,rfl⟩) (fun _ _=>⟨rfl,trivial⟩) (fun _ _ _ ⟨O',hB,a0⟩=>⟨O',hB,a0⟩) ⟨rfl,rfl,rfl⟩ ⟨rfl,rfl⟩ ?_
  rintro p0 c0 g0 e1 s0 j0 ⟨f1,hB,a0⟩ b0 k0 l0
  have rk21:inI64 (p0:Int):=rngKN j0 h0
  refine Al (Aj (Ar rfl rfl (Ay rfl rfl (o_z ?_))))
  refine Aj (Ar rfl rfl (Ar rfl rfl (Ar rfl rfl ?_)))
  obtain ⟨g1,q0,b0⟩:=bs b0
  obtain ⟨h1,i1,t0,e0,m0,u0,rfl,j1⟩:=a0.elem q0
  refine BB (hA:=e0) (hj:=rfl) (hlt:=m0) rfl rfl rfl ?_
  refine CM rfl a0 (a:=(p0:Int)) (vInt rk21) e0 rfl rfl (AL q0) fun k1 v0 a0=>?_
  refine o_z ?_
  obtain rfl:=sm b0
  exact show Exists _ from ⟨_,(),rfl,⟨rfl,rfl,rfl,trivial⟩,_,hB.st v0,a0⟩
 replace hB:=hB.st o0
 rintro l1 w0 ⟨m1,n1,rfl,n0,o1,hB,a0⟩
 replace hm:=Bq hm
 refine Bc _ n0 ?_
 refine Al (Aj (Ar rfl rfl (Ay rfl rfl (o_z ?_))))
 refine AR ?_
 obtain ⟨y0,a1,a0⟩:=a0.freeze
 obtain rfl:=sm hm
 replace hB:=hB.st a1
 exact ret1v rfl (AO rfl) ⟨hB.ext,(Vb.mono (F:=Fr 0 w0 y0) a0 hB.out)⟩
noncomputable def CE (x0:List Int) (x1:List Int):Option (List Int) :=
  bnd (mkI 8 (0:Int) (x0.length:Int)) fun u9=>bnd (rng (ρ:=(List Int)) (fun (k28:Nat) (a29:Int) (s26:(List Int))=>bnd (atI x1 a29) fun a51=>bnd (s26[k28]?) fun a63=>some (.next (s26.set k28 a51))) x0 0 u9) fun res24=>fin res24 fun (s79:(List Int))=>some s79
theorem CQ {w:World} {A:Nat→Prop} (hA:∀ k,A k→k < w.heap.size) {vx0:Value} {x0:List Int} (a0:Vb w A vx0 x0) {vx1:Value} {x1:List Int} (c0:Vb w A vx1 x1) {r:(List Int)} (hm:CE x0 x1=some r) :
    Fn Tryz.prog 91 [vx0,vx1] w fun v w'=>Ext w w'∧Vb w' (upA A w w') v r:=by
 obtain ⟨O,hB,b1⟩:=enter hA
 replace a0:=a0.mono b1
 obtain ⟨A3,c4,rfl⟩:=a0.form
 replace c0:=c0.mono b1
 obtain ⟨A5,c6,rfl⟩:=c0.form
 refine AQ Tryz.func91 rfl Tryz.ntmps91 rfl ?_
 unfold CE at hm
 refine Al (Aj (Ay rfl rfl (o_z ?_)))
 refine Al (Aj (Ar rfl rfl (Bj rfl rfl ?_)))
 have l8:x0.length≤9223372036854775807:=Nat.le_trans a0.len.2.1 a0.len.2.2
 have r7:inI64 (x0.length:Int):=rngNat l8
 obtain ⟨u9,e1,hm⟩:=bs hm
 obtain ⟨i0,f1,g1,h1,i1⟩:=CD e1
 refine Di 2 (by decide) O (z0:=(0:Int)) rfl rfl rfl rfl rfl f1 (vInt (show inI64 0 from by decide)) g1 h1 rfl fun j0 z1 j1 k0 c1=>?_
 rw [← i1] at c1 ⊢
 refine Ay rfl rfl (o_z ?_)
 refine Al (Al (Aj (Ar rfl rfl (Bj rfl rfl ?_))))
 replace a0:=a0.st k0
 have m0:x0.length≤9223372036854775807:=Nat.le_trans a0.len.2.1 a0.len.2.2
 have a2:inI64 (x0.length:Int):=rngNat m0
 refine Ar rfl rfl (o_z ?_)
 obtain ⟨f0,n0,hm⟩:=bs hm
 refine AU (aft f0 (fun (e0:(List Int)) (l0:Unit)=>[(5,(.slice (some ⟨j0,0,none⟩) u9.length i0))]) (fun e0 l0 w'=>∃ O':Lab,Bs w A w' O'∧Rw 2 w' O' 3 (.slice (some ⟨j0,0,none⟩) u9.length i0) e0)) ?_ ?_
 ·
  refine Bf ?_
  replace hB:=hB.st k0
  replace c0:=c0.st k0
  refine BS (σ:=(List Int)) (X:=Unit) (x0.length) n0 rfl m0 (fun (e0:(List Int)) (l0:Unit)=>[(1,(.slice A5 x1.length c6)),(5,(.slice (some ⟨j0,0,none⟩) u9.length i0)),(11,(.slice A3 x0.length c4))]) _ (fun e0 l0 w'=>∃ O':Lab,Bs w A w' O'∧Vb w' (Fr 0 w' O') (.slice A5 x1.length c6) x1∧Rw 2 w' O' 3 (.slice (some ⟨j0,0,none⟩) u9.length i0) e0∧Vb w' (Fr 0 w' O') (.slice A3 x0.length c4) x0) _ () ⟨j1,hB,c0,c1,a0⟩ ⟨rfl,rfl,rfl,rfl,rfl,trivial⟩ (fun _ _=>⟨rfl,rfl⟩) (fun _ _=>⟨rfl,trivial⟩) (fun _ _ _ ⟨O',hB,c0,d0,a0⟩=>⟨O',hB,d0⟩) ⟨rfl,rfl,rfl⟩ ⟨rfl,rfl⟩ ?_
  rintro k1 b2 e0 l0 c2 l1 g0 ⟨d2,hB,c0,d0,a0⟩ b0 o0 p0
  have rk28:inI64 (k1:Int):=rngK g0 m0
  refine Al (Aj (Ar rfl rfl ?_))
  obtain ⟨e2,f2,m1,q0,r0,s0,rfl,g2⟩:=a0.elem' g0
  refine BB (hA:=q0) (hj:=rfl) (hlt:=r0) rfl rfl rfl ?_
  refine AP (hc:=cat0 s0) rfl rfl ?_
  refine Ay rfl rfl (Ay rfl rfl (o_z ?_))
  refine Aj (Ar rfl rfl (Ar rfl rfl (Ar rfl rfl (Ar rfl rfl ?_))))
  obtain ⟨n1,o1,b0⟩:=bs b0
  obtain ⟨p1,q1⟩:=Ba o1
  obtain ⟨h2,i2,r1,t0,u0,v0,rfl,s1⟩:=c0.elem' q1
  refine BB (hA:=t0) (hj:=(Int.toNat_of_nonneg p1).symm) (hlt:=u0) rfl rfl rfl ?_
  refine AP (hc:=cat0 v0) rfl rfl ?_
  obtain ⟨j2,d1,b0⟩:=bs b0
  obtain ⟨k2,l2,t1,h0,w0,u1,rfl,m2⟩:=d0.elem d1
  refine BB (hA:=h0) (hj:=rfl) (hlt:=w0) rfl rfl rfl ?_
  refine CM rfl d0 (a:=n1) (vInt s1) h0 rfl rfl (AL d1) fun n2 y0 d0=>?_
  refine o_z ?_
  obtain rfl:=sm b0
  exact show Exists _ from ⟨_,(),rfl,⟨rfl,rfl,rfl,rfl,rfl,trivial⟩,_,hB.st y0,c0.st y0,d0,a0.st y0⟩
 replace hB:=hB.st k0
 rintro o2 v1 ⟨p2,q2,rfl,a1,r2,hB,d0⟩
 replace hm:=Bq hm
 refine Bc _ a1 ?_
 refine Al (Aj (Ar rfl rfl (Ay rfl rfl (o_z ?_))))
 refine AR ?_
 obtain ⟨w1,y1,d0⟩:=d0.freeze
 obtain rfl:=sm hm
 replace hB:=hB.st y1
 exact ret1v rfl (AO rfl) ⟨hB.ext,(Vb.mono (F:=Fr 0 v1 w1) d0 hB.out)⟩
noncomputable def Cd (x0:List Int):Option (List Int) :=
  bnd (mkI 8 (0:Int) (x0.length:Int)) fun u6=>bnd (rng (ρ:=(List Int)) (fun (k25:Nat) (a26:Int) (s23:(List Int))=>bnd (atI s23 a26) fun a48=>some (.next (s23.set (a26:Int).toNat (k25:Int)))) x0 0 u6) fun res21=>fin res21 fun (s66:(List Int))=>some s66
theorem Bu {w:World} {A:Nat→Prop} (hA:∀ k,A k→k < w.heap.size) {vx0:Value} {x0:List Int} (a0:Vb w A vx0 x0) {r:(List Int)} (hm:Cd x0=some r) :
    Fn Tryz.prog 90 [vx0] w fun v w'=>Ext w w'∧Vb w' (upA A w w') v r:=by
 obtain ⟨O,hB,y0⟩:=enter hA
 replace a0:=a0.mono y0
 obtain ⟨A2,c3,rfl⟩:=a0.form
 refine AQ Tryz.func90 rfl Tryz.ntmps90 rfl ?_
 unfold Cd at hm
 refine Al (Aj (Ay rfl rfl (o_z ?_)))
 refine Al (Aj (Ar rfl rfl (Bj rfl rfl ?_)))
 have l5:x0.length≤9223372036854775807:=Nat.le_trans a0.len.2.1 a0.len.2.2
 have r4:inI64 (x0.length:Int):=rngNat l5
 obtain ⟨u6,e7,hm⟩:=bs hm
 obtain ⟨m8,e9,a1,b1,c1⟩:=CD e7
 refine Di 2 (by decide) O (z0:=(0:Int)) rfl rfl rfl rfl rfl e9 (vInt (show inI64 0 from by decide)) a1 b1 rfl fun h0 n1 d1 j0 t0=>?_
 rw [← c1] at t0 ⊢
 refine Ay rfl rfl (o_z ?_)
 refine Al (Al (Aj (Ar rfl rfl (Bj rfl rfl ?_))))
 replace a0:=a0.st j0
 have k0:x0.length≤9223372036854775807:=Nat.le_trans a0.len.2.1 a0.len.2.2
 have o1:inI64 (x0.length:Int):=rngNat k0
 refine Ar rfl rfl (o_z ?_)
 obtain ⟨e0,l0,hm⟩:=bs hm
 refine AU (aft e0 (fun (d0:(List Int)) (i0:Unit)=>[(3,(.slice (some ⟨h0,0,none⟩) u6.length m8))]) (fun d0 i0 w'=>∃ O':Lab,Bs w A w' O'∧Rw 2 w' O' 3 (.slice (some ⟨h0,0,none⟩) u6.length m8) d0)) ?_ ?_
 ·
  refine Bf ?_
  replace hB:=hB.st j0
  refine BS (σ:=(List Int)) (X:=Unit) (x0.length) l0 rfl k0 (fun (d0:(List Int)) (i0:Unit)=>[(3,(.slice (some ⟨h0,0,none⟩) u6.length m8)),(9,(.slice A2 x0.length c3))]) _ (fun d0 i0 w'=>∃ O':Lab,Bs w A w' O'∧Rw 2 w' O' 3 (.slice (some ⟨h0,0,none⟩) u6.length m8) d0∧Vb w' (Fr 0 w' O') (.slice A2 x0.length c3) x0) _ () ⟨d1,hB,t0,a0⟩ ⟨rfl,rfl,rfl,rfl,trivial⟩ (fun _ _=>⟨rfl,rfl⟩) (fun _ _=>⟨rfl,trivial⟩) (fun _ _ _ ⟨O',hB,b0,a0⟩=>⟨O',hB,b0⟩) ⟨rfl,rfl,rfl⟩ ⟨rfl,rfl⟩ ?_
  rintro u0 p1 d0 i0 q1 e1 f0 ⟨r1,hB,b0,a0⟩ c0 m0 n0
  have rk25:inI64 (u0:Int):=rngK f0 k0
  refine Al (Aj (Ar rfl rfl ?_))
  obtain ⟨s1,t1,f1,o0,p0,q0,rfl,u1⟩:=a0.elem' f0
  refine BB (hA:=o0) (hj:=rfl) (hlt:=p0) rfl rfl rfl ?_
  refine AP (hc:=cat0 q0) rfl rfl ?_
  refine Ay rfl rfl (Ay rfl rfl (o_z ?_))
  refine Aj (Ar rfl rfl (Ar rfl rfl (Ar rfl rfl ?_)))
  obtain ⟨v1,g1,c0⟩:=bs c0
  obtain ⟨h1,v0⟩:=Ba g1
  obtain ⟨w1,x1,i1,g0,r0,j1,rfl,y1⟩:=b0.elem v0
  refine BB (hA:=g0) (hj:=(Int.toNat_of_nonneg h1).symm) (hlt:=r0) rfl rfl rfl ?_
  refine CM rfl b0 (a:=(u0:Int)) (vInt rk25) g0 rfl rfl (AL v0) fun z1 w0 b0=>?_
  refine o_z ?_
  obtain rfl:=sm c0
  exact show Exists _ from ⟨_,(),rfl,⟨rfl,rfl,rfl,rfl,trivial⟩,_,hB.st w0,b0,a0.st w0⟩
 replace hB:=hB.st j0
 rintro a2 k1 ⟨b2,c2,rfl,s0,d2,hB,b0⟩
 replace hm:=Bq hm
 refine Bc _ s0 ?_
 refine Al (Aj (Ar rfl rfl (Ay rfl rfl (o_z ?_))))
 refine AR ?_
 obtain ⟨l1,m1,b0⟩:=b0.freeze
 obtain rfl:=sm hm
 replace hB:=hB.st m1
 exact ret1v rfl (AO rfl) ⟨hB.ext,(Vb.mono (F:=Fr 0 k1 l1) b0 hB.out)⟩
noncomputable def Dq (x0:Swp) (x1:List Int):Option (List Int) :=
  bnd (mkI 8 (0:Int) (x1.length:Int)) fun u25=>bnd (rng (ρ:=(List Int)) (fun (k44:Nat) (a45:Int) (s42:(List Int))=>bnd (x0.vars[k44]?) fun a59=>bnd (x0.vals[k44]?) fun a69=>bnd (atI a69 a45) fun a90=>bnd (atI s42 a59) fun a102=>some (.next (s42.set (a59:Int).toNat a90))) x1 0 u25) fun res40=>fin res40 fun (s120:(List Int))=>some s120
end
section
open Go Go.RowKit Go.ChangeShapes Go.WideShapes Go.Deep
theorem wf8 {z:Int} (h:(Lit.int .u8 z).wf=true):0≤z∧z≤255:=by
  simpa [Lit.wf,IntKind.min,IntKind.max,IntKind.signed,IntKind.bits] using h
theorem readsByte {P:Program} {t:TypeId} (ht:P.underlying t=some (.int .u8)):Reads P t Byt:=⟨fun h=>by
  obtain ⟨z,rfl,_,hw⟩:=DataW.trod_int ht h
  exact ⟨⟨z,(wf8 hw).1,(wf8 hw).2⟩,rfl⟩⟩
instance:Reads Tryz.prog 5 Byt:=readsByte Tryz.underlying5
end
section
open Go Go.RowKit
class TCon (P:Program) (t:TypeId):Prop where eq:∃ d,P.underlying t=some d∧(match d with|.interface _=>false|_=>true)=true
instance {P:Program} {t e:TypeId} [h:TPtr P t e]:TCon P t:=⟨⟨_,h.eq,rfl⟩⟩
instance {P:Program} {t:TypeId} [h:TAgg P t]:TCon P t:=⟨by obtain ⟨d,h1,h2⟩:=h.eq;exact ⟨d,h1,by cases d<;>first|rfl|cases h2⟩⟩
class TMth (P:Program) (t:TypeId) (name:String) (f:outParam FuncId) (b:outParam Bool):Prop where
  eq:((P.info? t).bind fun i=>i.methods.find? (·.name == name)).map (fun m=>(m.path.toList,m.func))=some ([],some (f,b))
def Mth (P:Program) (t:TypeId) (v:Value) (name:String) (w:World) (f:FuncId) (r:Value):Prop:=∀ d,(method (P.types.size + Made.depth) t v name).run P (dr w d)=.ok (f,r) (dr w d)
section
variable {P : Program} {t e : TypeId} {name : String} {f : FuncId} {w : World}
theorem TMth.row {b:Bool} (h:TMth P t name f b):∃ i m,P.info? t=some i∧i.methods.find? (·.name == name)=some m∧m.path.toList=[]∧m.func=some (f,b):=by
  obtain ⟨m,h1,h2⟩:=Option.map_eq_some_iff.1 h.eq
  obtain ⟨i,h3,h4⟩:=Option.bind_eq_some_iff.1 h1
  injection h2 with h5 h6
  exact ⟨i,m,h3,h4,h5,h6⟩
theorem Lw {v:Value} [hm:TMth P t name f true] [hp:TPtr P t e]:Mth P t v name w f v:=fun d=>by
  obtain ⟨i,m,h1,h2,h3,h4⟩:=hm.row
  show (method ((P.types.size + 99) + 1) t v name).run P (dr w d)=_
  rw [method]
  simp [typeInfo,h1,h2,h3,h4,follow,receiverAt,run_underlying hp.eq,Place.get]
theorem Ld (ts:Array TypeId) (a:Addr) (x y:String):(Builtin.ssaWrapNilChk_ ts t #[.pointer (some a),strVal x,strVal y]).run P w=.ok (.pointer (some a)) w:=rfl
theorem EK {ad:Addr} {u:Value} [hm:TMth P t name f false] [hp:TPtr P t e] [TOne P e] (hc:w.cell? ad=some u):Mth P t (.pointer (some ad)) name w f u:=fun d=>by
  obtain ⟨i,m,h1,h2,h3,h4⟩:=hm.row
  have h5:m.path=#[]:=by cases hm':m.path;rw [hm'] at h3;simp at h3;rw [h3]
  have hl:(load ad).run P (dr w d)=.ok u (dr w d):=by simp [load,Sem.run,Jb,hc]
  show (method ((P.types.size + 99) + 1) t _ name).run P (dr w d)=_
  rw [method]
  simp [typeInfo,h1,h2,h4,h5,follow,receiverAt,run_underlying hp.eq,Place.get,Ld,asAddr,loadVar,FH,Jb,hc]
end
section
variable {P : Program} {n : Nat} {ops : Array Oper} {Q : Post} {rest : List Oper} {l : Env} {w : World} {d : Tmp} {ty : TypeId} {pos : String} {aft : Array Edge}
theorem Lx {f:FuncId} [hf:Callable P f] {y:Operand} {name:String} {t:TypeId} {v r:Value} {xs:List Operand} {vs:List Value} {ts:Array TypeId} {R:Value→World→Prop} (hm:Mth P t v name w f r) (hy:opv l y=some (.iface t v)) (hx:opvs l xs=some vs) (hd:Nat.blt d n=true) (hc:Fn P f (r :: vs) w R)
    (h:∀ v w',R v w'→owp P n ops Q rest ((d,v) :: l) w'):owp P n ops Q (⟨some d,.call { callee:=.invoke y name,args:=xs.toArray,argTypes:=ts },ty,pos,aft,none⟩ :: rest) l w :=
  Gl fun a e ha K hK=>by
    obtain ⟨fn,h1,h2,h3⟩:=hf.eq
    have h2':¬ fn.body=none:=fun e=>by rw [e] at h2;simp at h2
    have h3' : ¬ fn.name = "runtime.NumGoroutine" := fun e => by rw [e] at h3; simp at h3
    unfold Oper.wp
    have:(execOp a.eval ⟨some d,.call { callee:=.invoke y name,args:=xs.toArray,argTypes:=ts },ty,pos,aft,none⟩).run P (dr w e)=.ok (.enter f (r :: vs).toArray) (dr w e):=by
      simp [execOp,resolve,ha.eval hy,invoke,callMethod,hm e,callFunc,h1,h2',h3',ha.evals hx]
    rw [this]
    exact (hc e).mono fun _ _ ⟨v,w₀,d',he,hw,hR⟩=>by subst he;subst hw;exact hK _ _ (h v w₀ hR _ _ (ha.put hd v))
theorem Hl {T:Nat→Prop} {f:FuncId} [Callable P f] {y:Operand} {name:String} {t:TypeId} {v r:Value} {xs:List Operand} {vs:List Value} {ts:Array TypeId} {O:Lab} {R:Value→World→Lab→Prop}
    (hc:Fn P f (r :: vs) w fun v w'=>∃ O',St T w O w' O'∧R v w' O') (hm:Mth P t v name w f r) (hy:opv l y=some (.iface t v)) (hx:opvs l xs=some vs) (hd:Nat.blt d n=true)
    (h:∀ v w' O',St T w O w' O'→R v w' O'→owp P n ops Q rest ((d,v) :: l) w'):owp P n ops Q (⟨some d,.call { callee:=.invoke y name,args:=xs.toArray,argTypes:=ts },ty,pos,aft,none⟩ :: rest) l w :=
  Lx hm hy hx hd hc fun v w' ⟨O',hS,hR⟩=>h v w' O' hS hR
theorem Hm {f:FuncId} [Callable P f] {y:Operand} {name:String} {t:TypeId} {v r:Value} {xs:List Operand} {vs:List Value} {ts:Array TypeId} {O:Lab} {A:Nat→Prop} {R:World→(Nat→Prop)→Value→Prop} (hc:Fn P f (r :: vs) w fun v w'=>Ext w w'∧R w' (upA A w w') v) (hm:Mth P t v name w f r) (hy:opv l y=some (.iface t v)) (hx:opvs l xs=some vs) (hd:Nat.blt d n=true)
    (h:∀ v w' O',St nT w O w' O'→R w' (upA A w w') v→owp P n ops Q rest ((d,v) :: l) w'):owp P n ops Q (⟨some d,.call { callee:=.invoke y name,args:=xs.toArray,argTypes:=ts },ty,pos,aft,none⟩ :: rest) l w :=
  Lx hm hy hx hd hc fun v w' ⟨hE,hR⟩=>h v w' (upO O w.heap.size fun _=>0) (hE.st O _) hR
end
def quoT (a b:Int):Option Int:=if 0 < b then some (if 0≤a then a / b else -((-a) / b)) else none
theorem Ly {a b r:Int} (h:quoT a b=some r) (ha:inI64 a):inI64 r:=by
  unfold quoT at h
  split at h
  · rename_i hb
    rw [← sm h]
    unfold inI64 at *
    split
    · rename_i h0
      have:=Int.ediv_le_self b h0
      have:=Int.ediv_nonneg h0 (show 0≤b by omega)
      omega
    · have h0:0≤-a:=by omega
      have:=Int.ediv_le_self b h0
      have:=Int.ediv_nonneg h0 (show 0≤b by omega)
      omega
  · cases h
theorem PB {P:Program} {l:Env} {w:World} {dst:Option Tmp} {ty:TypeId} {pos:String} {aft:Array Edge} {t u:TypeId} {x y:Operand} {a b c:Int} (hx:opv l x=some (.int .i64 a)) (hy:opv l y=some (.int .i64 b)) (he:quoT a b=some c) (hr:inI64 a):Ev P ⟨dst,.binOp .quo t x y u,ty,pos,aft,none⟩ l w (.int .i64 c):=fun _ _ d ha=>by
  have hc:=Ly he hr
  unfold quoT at he
  split at he
  · rename_i hb
    have hn:b≠0:=by omega
    have h1:a.tdiv b=c:=by
      rw [← sm he]
      split
      · rename_i h0;exact Int.tdiv_eq_ediv_of_nonneg h0
      · rw [← Int.tdiv_eq_ediv_of_nonneg (show 0≤-a by omega),Int.neg_tdiv,Int.neg_neg]
    simp [execOp,ha.eval hx,ha.eval hy,eqGuard,binOp,Op.intDiv,hn,h1,wrap_i64 hc.1 hc.2]
  · cases he
structure An (t:TypeId) (α:Type) where
  x:α
instance {t:TypeId} {α:Type} [Rp α]:Rp (An t α) where
  isAgg:=false
  size:=1
  R w F cs a:=∃ v,cs=[.iface t v]∧Vb w F v a.x
  len:=by rintro w F cs x ⟨v,rfl,_⟩;rfl
  one:=by
    rintro w F cs x ⟨v,rfl,_⟩ u hu
    have:u=.iface t v:=by simpa using hu
    subst this;rfl
  agree:=by rintro w w' F cs x ⟨v,rfl,h⟩ ha;exact ⟨v,rfl,h.agree ha⟩
  mono:=by rintro w F G cs x ⟨v,rfl,h⟩ ha;exact ⟨v,rfl,h.mono ha⟩
theorem Vb.any {w:World} {F:Nat→Prop} {v:Value} {t:TypeId} {α:Type} [Rp α] {x:An t α} (h:Vb w F v x):∃ u,v=.iface t u∧Vb w F u x.x:=by
  obtain ⟨u,hu,h'⟩:=h
  exact ⟨u,by simpa using hu,h'⟩
theorem vAny {w:World} {F:Nat→Prop} {v:Value} {t:TypeId} {α:Type} [Rp α] {x:α} (h:Vb w F v x):Vb w F (.iface t v) (⟨x⟩:An t α):=⟨v,rfl,h⟩
section
variable {P : Program} {l : Env} {w : World} {dst : Option Tmp} {ty : TypeId} {pos : String} {aft : Array Edge}
theorem Mu {t:TypeId} [hk:TCon P t] {x:Operand} {v:Value} (hx:opv l x=some v):Ev P ⟨dst,.makeInterface t x,ty,pos,aft,none⟩ l w (.iface t v):=fun _ a d ha=>by
  obtain ⟨q,h1,h2⟩:=hk.eq
  cases q<;>first|(cases h2;done)|simp [execOp,ha.eval hx,Instr.makeInterface,run_underlying h1]
theorem PC {s t:TypeId} [hk:TCon P t] {x:Operand} {v:Value} (hx:opv l x=some (.iface t v)):Ev P ⟨dst,.typeAssert x s t true,ty,pos,aft,none⟩ l w (.tuple #[v,.bool true]):=fun _ a d ha=>by
  obtain ⟨q,h1,h2⟩:=hk.eq
  cases q<;>first|(cases h2;done)|simp [execOp,ha.eval hx,Instr.typeAssert,run_underlying h1]
end
section
variable {P : Program} {n : Nat} {ops : Array Oper} {Q : Post} {S : World → Prop} {rest : List Oper} {r : List (Nat × Bool)} {l : Env} {w : World} {d i : Nat} {ty : TypeId} {pos : String} {aft : Array Edge}
theorem Qg {t u:TypeId} {x y:Operand} {a b c:Int} (hx:opv l x=some (.int .i64 a)) (hy:opv l y=some (.int .i64 b)) (hd:Nat.blt d n=true) (h:owp P n ops Q rest ((d,.int .i64 c) :: l) w) (he:quoT a b=some c:=by assumption) (hr:inI64 a:=by assumption):owp P n ops Q (⟨some d,.binOp .quo t x y u,ty,pos,aft,none⟩ :: rest) l w:=Bp (PB hx hy he hr) hd h
theorem Of {t:TypeId} [TCon P t] {x:Operand} {v:Value} (hx:opv l x=some v) (hd:Nat.blt d n=true) (h:owp P n ops Q rest ((d,.iface t v) :: l) w):owp P n ops Q (⟨some d,.makeInterface t x,ty,pos,aft,none⟩ :: rest) l w:=Bp (Mu hx) hd h
theorem Og {t:TypeId} [TCon P t] {x:Operand} {v:Value} (hi:ops[i]?=some ⟨some d,.makeInterface t x,ty,pos,aft,none⟩) (hx:opv l x=some v) (hd:Nat.blt d n=true) (h:hwp P n ops Q S r ((d,.iface t v) :: l) w):hwp P n ops Q S ((i,true) :: r) l w:=AK hi (Bx (fun _ _=>Mu hx) hd h)
theorem Oh {s t:TypeId} [TCon P t] {x:Operand} {v:Value} (hx:opv l x=some (.iface t v)) (hd:Nat.blt d n=true) (h:owp P n ops Q rest ((d,.tuple #[v,.bool true]) :: l) w):owp P n ops Q (⟨some d,.typeAssert x s t true,ty,pos,aft,none⟩ :: rest) l w:=Bp (PC hx) hd h
end
end
section
open Go Go.RowKit
structure Cx where
  ty:TypeId
  pre:List Value
  post:List Value
structure BxC (cx:Cx) (e:TypeId) (α:Type) where
  l:List α
def BxR.c (cx:Cx) {t e:TypeId} {α:Type} (x:BxR t e α):BxC cx e α:=⟨x.l⟩
instance {cx:Cx} {e:TypeId} {α:Type} [Rp α]:Ow (BxC cx e α) where
  R w F M v x:=∃ (g:Nat) (L:Lab) (c0:Value),v=.pointer (some ⟨g,cx.pre.length,none⟩)∧Blk w g cx.ty (cx.pre ++ c0 :: cx.post)∧M g∧L g=0∧RwM w F (fun k=>M k∧L k=1) e c0 x.l
  agree:=by rintro w w' F M v x ⟨g,L,c0,rfl,hb,hM,hL,h0⟩ a1 a2;exact ⟨g,L,c0,rfl,hb.keep (a2 g hM),hM,hL,h0.agree a1 fun k hk=>a2 k hk.1⟩
  mono:=by rintro w F M F' M' v x ⟨g,L,c0,rfl,hb,hM,hL,h0⟩ a1 a2 a3;exact ⟨g,L,c0,rfl,hb,a2 g hM,hL,h0.mono a1 (fun k hk=>⟨a2 k hk.1,hk.2⟩) fun k hf hm=>a3 k hf hm.1⟩
theorem BxC.opn {cx:Cx} {t e:TypeId} {α:Type} [Rp α] {i:Nat} {w:World} {O:Lab} {p:Nat} {x:BxR t e α} (h:Ob i w O (.pointer (some ⟨p,cx.pre.length,none⟩)) (BxR.c cx x)) (l0 l1:Nat) (hl:l0≠0∧l1≠0):∃ (O':Lab) (c0:Value),St (eT i) w O w O'∧(∀ k,Fr i w O k→∃ q,q∈[l0,l1]∧Fr q w O' k)∧Lc l0 w O' p cx.ty (cx.pre ++ c0 :: cx.post)∧Rw l1 w O' e c0 x.l:=by
  obtain ⟨⟨g,L,c0,hv,hb,hM,hL,h0⟩,hi⟩:=h
  obtain rfl:p=g:=by injection hv with hv;injection hv with hv;injection hv
  exact ⟨part O i L [l0,l1],c0,Lu hi,Ks (by simp),⟨hb,(FF (j:=0) rfl p ⟨hM,hL⟩).2⟩,h0.rw (DV hi) (FF (j:=1) rfl) hl.2⟩
theorem BxC.shut {cx:Cx} {t e:TypeId} {α:Type} [Rp α] {w:World} {O:Lab} {p:Nat} {x:BxR t e α} {l0 l1:Nat} {c0:Value} (hd:¬ 0∈[l0,l1]∧[l0,l1].idxOf l0=0∧[l0,l1].idxOf l1=1) (hb:Lc l0 w O p cx.ty (cx.pre ++ c0 :: cx.post)) (h0:Rw l1 w O e c0 x.l):∃ O',St (·∈[l0,l1]) w O w O'∧(∀ k,Fr 0 w O k→Fr 0 w O' k)∧(∀ q,q∈[l0,l1]→∀ k,Fr q w O k→Fr l0 w O' k)∧Ob l0 w O' (.pointer (some ⟨p,cx.pre.length,none⟩)) (BxR.c cx x):=by
  have hb1:l0≠0:=fun e=>hd.1 (by simp [e])
  have hg:=EX (i:=l0) hd.2.1 (by simp) p ⟨hb.1.lt,hb.2⟩
  exact ⟨whole O l0 [l0,l1],Kt,CU hd.1,Jx,⟨p,fun k=>[l0,l1].idxOf (O k),c0,rfl,hb.1,hg.1,hg.2,h0.m (CU hd.1) (EX hd.2.2 (by simp)) (fun k a b=>frNe0 hb1 k a b.1)⟩,hb1⟩
theorem cxcell {cx:Cx} {w:World} {g:Nat} {c:Value} (h:Blk w g cx.ty (cx.pre ++ c :: cx.post)):w.cell? ⟨g,cx.pre.length,none⟩=some c:=h.cell (by simp)
theorem Lz {α:Type} (v c:α) (post:List α):∀ (pre:List α),(pre ++ c :: post).set pre.length v=pre ++ v :: post
  | []=>rfl
  | x :: pre=>by simp [Lz v c post pre]
section
variable {P : Program} {n : Nat} {ops : Array Oper} {Q : Post} {rest : List Oper} {l : Env} {w : World} {ty : TypeId} {pos : String} {aft : Array Edge}
theorem Kw {i:Nat} {O:Lab} {cx:Cx} {t:TypeId} {z:Value} {bytes:Nat} [TInfo P t z 1 bytes] {x y:Operand} {g:Nat} {c v:Value} (hL:Lc i w O g cx.ty (cx.pre ++ c :: cx.post)) (hx:opv l x=some (.pointer (some ⟨g,cx.pre.length,none⟩))) (hy:opv l y=some v)
    (hsz:v.cells.toList=[v]) (h1:∀ u∈v.cells.toList,u.oneCell'=true)
    (h:∀ w',St (eT i) w O w' O→Lc i w' O g cx.ty (cx.pre ++ v :: cx.post)→owp P n ops Q rest l w'):owp P n ops Q (⟨none,.store t x y,ty,pos,aft,none⟩ :: rest) l w:=by
  refine AA hL hx hy (by rw [hsz];rfl) (by simp) h1 fun w' hS hL'=>h w' hS ?_
  rw [hsz] at hL'
  have e:setFrom (cx.pre ++ c :: cx.post) cx.pre.length [v]=cx.pre ++ v :: cx.post:=by
    show (cx.pre ++ c :: cx.post).set cx.pre.length v=_
    rw [Lz]
  rwa [e] at hL'
end
end
section
open Go Go.RowKit
class TMap (P:Program) (t:TypeId) (k e:outParam TypeId):Prop where eq:P.underlying t=some (.map k e)
class MKey (K:Type) where
  dec:DecidableEq K
  enc:K→Value
  desc:TypeDesc
  key:∀ a,MapKept.IsKey desc (enc a)
  inj:∀ a b,enc a=enc b→a=b
class TKey (P:Program) (t:TypeId) (K:Type) [MKey K]:Prop where eq:P.underlying t=some (MKey.desc K)
instance:MKey ByteArray where
  dec:=inferInstance
  enc a:=.string a
  desc:=.string
  key _:=trivial
  inj _ _ h:=by injection h
section
variable {K V : Type} [MKey K]
instance keyDec:DecidableEq K:=MKey.dec
def mhas:List (K×V)→K→Bool
  | [],_=>false
  | p :: r,k=>if p.1=k then true else mhas r k
def mget (z:V):List (K×V)→K→V
  | [],_=>z
  | p :: r,k=>if p.1=k then p.2 else mget z r k
def mput:List (K×V)→K→V→List (K×V)
  | [],k,v=>[(k,v)]
  | p :: r,k,v=>if p.1=k then (k,v) :: r else p :: mput r k v
def midx:List (K×V)→K→Option Nat
  | [],_=>none
  | p :: r,k=>if p.1=k then some 0 else (midx r k).map (· + 1)
theorem Fh (a:K):∀ (es:List MapEntry) (x:List (K×V)) (i:Nat),es.map (·.key)=x.map (fun p=>MKey.enc p.1) →
    (midx x a=none∧Instr.findNow (MKey.desc K) (MKey.enc a) es i=some none∧mhas x a=false∧(∀ z,mget z x a=z)∧∀ v,mput x a v=x ++ [(a,v)]) ∨
    ∃ j e p,midx x a=some j∧es[j]?=some e∧x[j]?=some p∧Instr.findNow (MKey.desc K) (MKey.enc a) es i=some (some (i + j,e.val))∧e.key=MKey.enc a∧mhas x a=true∧(∀ z,mget z x a=p.2)∧∀ v,mput x a v=x.set j (a,v)
  | [],[],_,_=>.inl ⟨rfl,rfl,rfl,fun _=>rfl,fun _=>rfl⟩
  | [],_ :: _,_,h=>by simp at h
  | _ :: _,[],_,h=>by simp at h
  | e :: es,p :: x,i,h=>by
    rw [List.map_cons,List.map_cons] at h
    injection h with h1 h2
    obtain ⟨r,hr,hiff⟩:=MapKept.sameNow_of_keys (MKey.key a) (MKey.key p.1)
    by_cases hp:p.1=a
    · have:r=true:=hiff.2 (by rw [hp])
      subst this
      refine .inr ⟨0,e,p,by simp [midx,hp],rfl,rfl,?_,by rw [h1,hp],by simp [mhas,hp],fun z=>by simp [mget,hp],fun v=>by simp [mput,hp]⟩
      simp [Instr.findNow,h1,hr]
    · have:r=false:=by
        cases r with
        | false=>rfl
        | true=>exact absurd (MKey.inj _ _ (hiff.1 rfl)).symm hp
      subst this
      rcases Fh a es x (i + 1) h2 with ⟨g0,g1,g2,g3,g4⟩|⟨j,e',p',g0,g1,g2,g3,g4,g5,g6,g7⟩
      · exact .inl ⟨by simp [midx,hp,g0],by simp [Instr.findNow,h1,hr,g1],by simp [mhas,hp,g2],fun z=>by simp [mget,hp,g3],fun v=>by simp [mput,hp,g4]⟩
      · refine .inr ⟨j + 1,e',p',by simp [midx,hp,g0],by simpa using g1,by simpa using g2,?_,g4,by simp [mhas,hp,g5],fun z=>by simp [mget,hp,g6],fun v=>by simp [mput,hp,g7]⟩
        simp [Instr.findNow,h1,hr,g3];omega
end
def LkV (d:TypeDesc) (z:Value) (w:World) (r:Nat) (key v:Value) (b:Bool):Prop:=∃ es ck a,w.heap[r]?=some (.map es ck)∧Instr.findNow d key es.toList 0=some a∧v=(match a with|some p=>p.2|none=>z)∧b=a.isSome
section
variable {P : Program} {l : Env} {w : World} {dst : Option Tmp} {ty : TypeId} {pos : String} {aft : Array Edge}
theorem PD {K:Type} [MKey K] {t k e:TypeId} [ht:TMap P t k e] [hk:TKey P k K] {z:Value} {size bytes:Nat} [TInfo P e z size bytes] {x y:Operand} {r:Nat} {a:K} {v:Value} {b:Bool} (hx:opv l x=some (.map (some r))) (hy:opv l y=some (MKey.enc a)) (hv:LkV (MKey.desc K) z w r (MKey.enc a) v b) :
    Ev P ⟨dst,.lookup t x y true,ty,pos,aft,none⟩ l w (.tuple #[v,.bool b]):=fun _ _ d ha=>by
  obtain ⟨es,ck,q,h1,h2,h3,h4⟩:=hv
  have hb:(dr w d).heap[r]?=some (.map es ck):=h1
  subst h3;subst h4
  cases q with
  | none=>simp [execOp,ha.eval hx,ha.eval hy,Instr.lookup,run_underlying ht.eq,MapKept.run_getObj_map hb,MapKept.run_checkKey hk.eq (MKey.key a),MapKept.run_findKey hk.eq h2,Result.andThen,Gx (P:=P) (t:=e)]
  | some p=>simp [execOp,ha.eval hx,ha.eval hy,Instr.lookup,run_underlying ht.eq,MapKept.run_getObj_map hb,MapKept.run_checkKey hk.eq (MKey.key a),MapKept.run_findKey hk.eq h2,Result.andThen]
end
def putEs (es:List MapEntry) (ck:Nat) (key v:Value):Option Nat→List MapEntry
  | none=>es ++ [{ key:=key,val:=v,born:=ck }]
  | some j=>es.modify j fun e=>{ e with key:=key,val:=v }
section
variable {P : Program} {n : Nat} {ops : Array Oper} {Q : Post} {rest : List Oper} {l : Env} {w : World} {d : Tmp} {ty : TypeId} {pos : String} {aft : Array Edge}
theorem Nn {K V:Type} [MKey K] {t k e:TypeId} [ht:TMap P t k e] [hk:TKey P k K] {x y u:Operand} {r ck:Nat} {a:K} {v:Value} {es:List MapEntry} {xs:List (K×V)} (hb:w.heap[r]?=some (.map es.toArray ck)) (hks:es.map (·.key)=xs.map (fun p=>MKey.enc p.1)) (hx:opv l x=some (.map (some r))) (hy:opv l y=some (MKey.enc a)) (hu:opv l u=some v)
    (h:∀ w' ck',w'.os=w.os→w'.tape=w.tape→w'.output=w.output→w'.heap.size=w.heap.size→w'.heap[r]?=some (.map (putEs es ck (MKey.enc a) v (midx xs a)).toArray ck')→(∀ q,q≠r→w'.heap[q]?=w.heap[q]?)→owp P n ops Q rest l w'):owp P n ops Q (⟨none,.mapUpdate t x y u,ty,pos,aft,none⟩ :: rest) l w:=fun ac d ha=>by
  refine wpList_plain rfl fun K' hK=>?_
  have hbd:(dr w d).heap[r]?=some (.map es.toArray ck):=hb
  unfold Oper.wp
  rcases Fh a es xs 0 hks with ⟨g0,g1,_⟩|⟨j,e',p,g0,g1,g2,g3,g4,_⟩
  · have hr:(execOp ac.eval ⟨none,.mapUpdate t x y u,ty,pos,aft,none⟩).run P (dr w d)=.ok .skip { (dr w d) with heap:=(dr w d).heap.setIfInBounds r (.map (es.toArray.push { key:=MKey.enc a,val:=v,born:=ck }) (ck + 1)) }:=by
      simp [execOp,ha.eval hx,ha.eval hy,ha.eval hu,Instr.mapUpdate,run_underlying ht.eq,MapKept.run_getObj_map hbd,MapKept.run_checkKey hk.eq (MKey.key a),MapKept.run_findKey hk.eq g1,MapKept.run_setObj_map _ hbd,Result.andThen]
    rw [hr]
    refine hK _ _ (h { w with heap:=w.heap.setIfInBounds r (.map (es.toArray.push { key:=MKey.enc a,val:=v,born:=ck }) (ck + 1)) } (ck + 1) rfl rfl rfl (by simp) ?_ (fun q hq=>(MapKept.heap_set hb).2 q hq) _ d ha)
    rw [g0]
    simpa [putEs] using (MapKept.heap_set hb).1
  · have hj:es.toArray[j]?=some e':=by simpa using g1
    have hj':es[j]?=some e':=g1
    rw [Nat.zero_add] at g3
    have hr:(execOp ac.eval ⟨none,.mapUpdate t x y u,ty,pos,aft,none⟩).run P (dr w d)=.ok .skip { (dr w d) with heap:=(dr w d).heap.setIfInBounds r (.map (es.toArray.modify j fun e=>{ e with key:=MKey.enc a,val:=v }) ck) }:=by
      simp [execOp,ha.eval hx,ha.eval hy,ha.eval hu,Instr.mapUpdate,run_underlying ht.eq,MapKept.run_getObj_map hbd,MapKept.run_checkKey hk.eq (MKey.key a),MapKept.run_findKey hk.eq g3,hj',g4,MapKept.run_keyThatStays (MKey.key a),MapKept.run_setObj_map _ hbd,Result.andThen]
    rw [hr]
    refine hK _ _ (h { w with heap:=w.heap.setIfInBounds r (.map (es.toArray.modify j fun e=>{ e with key:=MKey.enc a,val:=v }) ck) } ck rfl rfl rfl (by simp) ?_ (fun q hq=>(MapKept.heap_set hb).2 q hq) _ d ha)
    rw [g0]
    have:=(MapKept.heap_set (o':=.map (es.toArray.modify j fun e=>{ e with key:=MKey.enc a,val:=v }) ck) hb).1
    simpa [putEs] using this
theorem Mv {t:TypeId} (hd:Nat.blt d n=true) (h:∀ w',Ext w w'→w'.heap.size=w.heap.size + 1→w'.heap[w.heap.size]?=some (.map #[] 0)→owp P n ops Q rest ((d,.map (some w.heap.size)) :: l) w'):owp P n ops Q (⟨some d,.makeMap t none,ty,pos,aft,none⟩ :: rest) l w :=
  Gm (w':=w.alloc (.map #[] 0)) (fun a e ha=>.inl ⟨.map (some w.heap.size),e,by simp [execOp,Instr.makeMap];exact ⟨rfl,rfl⟩,ha.put hd _⟩)
    (h _ ((Below.refl _ _).alloc (Nat.le_refl _) _) (by simp) (by show (w.heap.push _)[_]?=_;simp))
end
theorem LY {K V:Type} [MKey K] {es:List MapEntry} {xs:List (K×V)} (ck:Nat) (a:K) (v:Value) (y:V) (h:es.map (·.key)=xs.map (fun p=>MKey.enc p.1)):(putEs es ck (MKey.enc a) v (midx xs a)).map (·.key)=(mput xs a y).map (fun p=>MKey.enc p.1):=by
  rcases Fh a es xs 0 h with ⟨g0,_,_,_,g4⟩|⟨j,e',p,g0,g1,g2,g3,g4,_,_,g7⟩
  · rw [g0,g4];simp [putEs,h]
  · rw [g0,g7]
    simp only [putEs,List.map_set,← h]
    apply List.ext_getElem?
    intro q
    rw [List.getElem?_map,List.getElem?_modify,List.getElem?_set]
    by_cases hq:j=q
    · subst hq
      have hlt:j < es.length:=AL g1
      simp [g1,hlt]
    · simp [hq]
structure MapP (K V:Type) where
  l:List (K×V)
def VA {V:Type} [Rp V] (w:World) (F:Nat→Prop) (es:List MapEntry) {K:Type} (xs:List (K×V)):Prop:=∀ (j:Nat) (e:MapEntry) (p:K×V),es[j]?=some e→xs[j]?=some p→Vb w F e.val p.2
instance {K V:Type} [MKey K] [Rp V]:Ow (MapP K V) where
  R w F M v x:=∃ (r:Nat) (es:List MapEntry) (ck:Nat),v=.map (some r)∧w.heap[r]?=some (.map es.toArray ck)∧M r∧es.map (·.key)=x.l.map (fun p=>MKey.enc p.1)∧VA w F es x.l
  agree:=by rintro w w' F M v x ⟨r,es,ck,rfl,hb,hM,hk,hv⟩ a1 a2;exact ⟨r,es,ck,rfl,(a2 r hM).trans hb,hM,hk,fun j e p h1 h2=>(hv j e p h1 h2).agree a1⟩
  mono:=by rintro w F M F' M' v x ⟨r,es,ck,rfl,hb,hM,hk,hv⟩ a1 a2 a3;exact ⟨r,es,ck,rfl,hb,a2 r hM,hk,fun j e p h1 h2=>(hv j e p h1 h2).mono a1⟩
class OwM (α:Type) [Ow α]:Prop where
  mptr:∀ {w:World} {F M:Nat→Prop} {v:Value} {x:α},Ow.R w F M v x→∃ r,v=.map (some r)
theorem Ob.mptr {α:Type} [Ow α] [OwM α] {i:Nat} {w:World} {O:Lab} {v:Value} {x:α} (h:Ob i w O v x):∃ r,v=.map (some r):=OwM.mptr h.1
instance {K V:Type} [MKey K] [Rp V]:OwM (MapP K V):=⟨by rintro w F M v x ⟨r,es,ck,rfl,_⟩;exact ⟨r,rfl⟩⟩
theorem VA.put {K V:Type} [MKey K] [Rp V] {w:World} {F:Nat→Prop} {es:List MapEntry} {xs:List (K×V)} {ck:Nat} {a:K} {v:Value} {y:V} (hk:es.map (·.key)=xs.map (fun p=>MKey.enc p.1)) (h:VA w F es xs) (hv:Vb w F v y):VA w F (putEs es ck (MKey.enc a) v (midx xs a)) (mput xs a y):=by
  have hlen:es.length=xs.length:=by have:=congrArg List.length hk;simpa using this
  intro q e p h1 h2
  rcases Fh a es xs 0 hk with ⟨g0,_,_,_,g4⟩|⟨j,e',p',g0,g1,g2,g3,g4,_,_,g7⟩
  · rw [g0] at h1
    rw [g4] at h2
    simp only [putEs] at h1
    by_cases hq:q < es.length
    · rw [List.getElem?_append_left hq] at h1
      rw [List.getElem?_append_left (by omega)] at h2
      exact h q e p h1 h2
    · rw [List.getElem?_append_right (by omega)] at h1
      rw [List.getElem?_append_right (by omega)] at h2
      cases hz:q - es.length with
      | zero =>
        rw [hz] at h1
        rw [show q - xs.length=0 from by omega] at h2
        simp at h1 h2
        subst h1;subst h2
        exact hv
      | succ m=>rw [hz] at h1;simp at h1
  · rw [g0] at h1
    rw [g7] at h2
    simp only [putEs] at h1
    rw [List.getElem?_modify] at h1
    rw [List.getElem?_set] at h2
    by_cases hq:j=q
    · subst hq
      have hlt:=AL g2
      rw [g1] at h1
      simp [hlt] at h1 h2
      subst h1;subst h2
      exact hv
    · simp [hq] at h1 h2
      exact h q e p h1 h2
section
variable {K V : Type} [MKey K] [Rp V] {i : Nat} {w : World} {O : Lab} {r : Nat} {x : MapP K V}
theorem MapP.get (h:Ob i w O (.map (some r)) x) (a:K) {z:Value} {z0:V} (hz:Vb w (Fr 0 w O) z z0):∃ v,LkV (MKey.desc K) z w r (MKey.enc a) v (mhas x.l a)∧Vb w (Fr 0 w O) v (mget z0 x.l a):=by
  obtain ⟨⟨r',es,ck,hv,hb,hM,hk,hva⟩,_⟩:=h
  injection hv with hv
  injection hv with hv
  subst hv
  rcases Fh a es x.l 0 hk with ⟨g0,g1,g2,g3,g4⟩|⟨j,e',p,g0,g1,g2,g3,g4,g5,g6,g7⟩
  · exact ⟨z,⟨_,ck,none,hb,by simpa using g1,rfl,g2⟩,by rw [g3];exact hz⟩
  · exact ⟨e'.val,⟨_,ck,some (0 + j,e'.val),hb,by simpa using g3,rfl,g5⟩,by rw [g6];exact hva j e' p g1 g2⟩
end
section
variable {P : Program} {n : Nat} {ops : Array Oper} {Q : Post} {rest : List Oper} {l : Env} {w : World} {d : Tmp} {ty : TypeId} {pos : String} {aft : Array Edge} {K V : Type} [MKey K] {i : Nat} {O : Lab} {r : Nat}
theorem PE [Rp V] {x:MapP K V} {t k e:TypeId} [TMap P t k e] [TKey P k K] {m y u:Operand} {a:K} {v:Value} {b:V} (hM:Ob i w O (.map (some r)) x) (hv:Vb w (Fr 0 w O) v b) (hx:opv l m=some (.map (some r))) (hy:opv l y=some (MKey.enc a)) (hu:opv l u=some v)
    (h:∀ w',St (eT i) w O w' O→Ob i w' O (.map (some r)) (⟨mput x.l a b⟩:MapP K V)→owp P n ops Q rest l w'):owp P n ops Q (⟨none,.mapUpdate t m y u,ty,pos,aft,none⟩ :: rest) l w:=by
  obtain ⟨⟨r',es,ck,hv',hb,hM',hk,hva⟩,hi⟩:=hM
  injection hv' with hv'
  injection hv' with hv'
  subst hv'
  refine Nn hb hk hx hy hu fun w' ck' e1 e2 e3 e4 e5 e6=>?_
  have hS:St (eT i) w O w' O:=⟨e1,e2,e3,by omega,fun q hq hT=>⟨e6 q fun e=>hT (by rw [e];exact hM'.2),rfl⟩⟩
  have h0:¬ (eT i) 0:=fun e=>hi e.symm
  refine h w' hS ⟨⟨r,_,ck',rfl,e5,⟨by rw [e4];exact hM'.1,hM'.2⟩,LY ck a v b hk,?_⟩,hi⟩
  have:=hva.put (ck:=ck) hk hv (a:=a)
  exact fun j e p h1 h2=>((this j e p h1 h2).agree (hS.agree h0)).mono (hS.fr h0)
theorem Ov [Rp V] {t:TypeId} (i:Nat) (hi:i≠0) (O:Lab) (hd:Nat.blt d n=true) (h:∀ g w' O',St nT w O w' O'→Ob i w' O' (.map (some g)) (⟨[]⟩:MapP K V)→owp P n ops Q rest ((d,.map (some g)) :: l) w'):owp P n ops Q (⟨some d,.makeMap t none,ty,pos,aft,none⟩ :: rest) l w :=
  Mv hd fun w' hE hs hb=>h _ w' _ (hE.st O fun _=>i) ⟨⟨w.heap.size,[],0,rfl,hb,⟨by omega,En (Nat.le_refl _)⟩,rfl,fun j e p h1 _=>by simp at h1⟩,hi⟩
end
section
variable {P : Program} {n : Nat} {ops : Array Oper} {Q : Post} {rest : List Oper} {l : Env} {w : World} {d : Tmp} {ty : TypeId} {pos : String} {aft : Array Edge} {S : World → Prop} {rr : List (Nat × Bool)} {i' : Nat}
theorem Qh {K:Type} [MKey K] {t k e:TypeId} [TMap P t k e] [TKey P k K] {z:Value} {size bytes:Nat} [TInfo P e z size bytes] {x y:Operand} {r:Nat} {v:Value} {b:Bool} (a:K) (hv:LkV (MKey.desc K) z w r (MKey.enc a) v b) (hx:opv l x=some (.map (some r))) (hy:opv l y=some (MKey.enc a)) (hd:Nat.blt d n=true) (h:owp P n ops Q rest ((d,.tuple #[v,.bool b]) :: l) w):owp P n ops Q (⟨some d,.lookup t x y true,ty,pos,aft,none⟩ :: rest) l w:=Bp (PD hx hy hv) hd h
end
end
section
open Go Go.RowKit
attribute [local irreducible] ewp owp hwp hwq hws Ev Evg Fn retPost loud loudS Res1
attribute [local irreducible] hwx loudX
structure OEn where
  cost:Int
  number:Int
  node:Int
instance:Rp OEn where
  isAgg:=true
  size:=3
  R w F cs x:=cs=[.int .i64 x.cost,.int .i64 x.number,.int .i64 x.node]∧inI64 x.cost∧inI64 x.number∧inI64 x.node
  len:=by rintro w F cs x ⟨rfl,h0,h1,h2⟩;rfl
  one:=by rintro w F cs x ⟨rfl,h0,h1,h2⟩ u hu;simp at hu;rcases hu with rfl|rfl|rfl<;>first|rfl|exact Vb.one rfl (by assumption)
  agree:=by rintro w w' F cs x ⟨rfl,h0,h1,h2⟩ ha;exact ⟨rfl,h0,h1,h2⟩
  mono:=by rintro w F G cs x ⟨rfl,h0,h1,h2⟩ ha;exact ⟨rfl,h0,h1,h2⟩
instance : TMth Tryz.prog 76 "Len" 26 false := ⟨by kernel_rfl⟩
instance : TMth Tryz.prog 76 "Less" 155 false := ⟨by kernel_rfl⟩
instance : TMth Tryz.prog 76 "Pop" 157 true := ⟨by kernel_rfl⟩
instance : TMth Tryz.prog 76 "Push" 158 true := ⟨by kernel_rfl⟩
instance : TMth Tryz.prog 76 "Swap" 156 false := ⟨by kernel_rfl⟩
noncomputable def BO (x0:List OEn):Option Int :=
  some (x0.length:Int)
theorem ED {w:World} {A:Nat→Prop} (hA:∀ k,A k→k < w.heap.size) {vx0:Value} {x0:List OEn} (a0:Vb w A vx0 x0) {r:Int} (hm:BO x0=some r) :
    Fn Tryz.prog 26 [vx0] w fun v w'=>Ext w w'∧Vb w' (upA A w w') v r:=by
 obtain ⟨O,hB,b0⟩:=enter hA
 replace a0:=a0.mono b0
 obtain ⟨A2,c3,rfl⟩:=a0.form
 refine AQ Tryz.func26 rfl Tryz.ntmps26 rfl ?_
 unfold BO at hm
 refine Al (Aj (Ay rfl rfl (o_z ?_)))
 refine Al (Aj (Ar rfl rfl (Bj rfl rfl ?_)))
 have l5:x0.length≤9223372036854775807:=Nat.le_trans a0.len.2.1 a0.len.2.2
 have r4:inI64 (x0.length:Int):=rngNat l5
 refine Ay rfl rfl (o_z ?_)
 refine AR ?_
 obtain rfl:=sm hm
 exact ret1v rfl (AO rfl) ⟨hB.ext,(vInt r4)⟩
noncomputable def BR (x0:List OEn) (x1:Int) (x2:Int):Option Bool :=
  bnd (atI x0 x1) fun a6=>bnd (atI x0 x2) fun a20=>if a6.cost≠a20.cost then (bnd (bnd (atI x0 x1) fun a39=>bnd (atI x0 x2) fun a53=>if a39.cost < a53.cost then (some true) else (some false):Option Bool) fun y35=>some y35) else (bnd (bnd (atI x0 x1) fun a76=>bnd (atI x0 x2) fun a90=>if a76.number < a90.number then (some true) else (some false):Option Bool) fun y72=>some y72)
theorem Eq {w:World} {A:Nat→Prop} (hA:∀ k,A k→k < w.heap.size) {vx0:Value} {x0:List OEn} (c0:Vb w A vx0 x0) {x1:Int} (rx1:inI64 x1) {x2:Int} (rx2:inI64 x2) {r:Bool} (hm:BR x0 x1 x2=some r) :
    Fn Tryz.prog 155 [vx0,(.int .i64 x1),(.int .i64 x2)] w fun v w'=>Ext w w'∧Vb w' (upA A w w') v r:=by
 obtain ⟨O,hB,b1⟩:=enter hA
 replace c0:=c0.mono b1
 obtain ⟨A4,c5,rfl⟩:=c0.form
 refine AQ Tryz.func155 rfl Tryz.ntmps155 rfl ?_
 unfold BR at hm
 refine Al (Aj (Ay rfl rfl (o_z ?_)))
 refine Al (Al (Cu (·=w) [(0,true),(1,true),(2,true),(3,true),(4,true),(5,true),(6,true),(7,true),(8,true),(9,true),(10,true)] (by kernel_rfl) rfl (by kernel_rfl) rfl ?_))
 refine AW rfl rfl rfl (AW rfl rfl rfl ?_)
 obtain ⟨a6,e7,hm⟩:=bs hm
 obtain ⟨p9,x8⟩:=Ba e7
 obtain ⟨i2,j2,c1,f0,g0,h0,rfl,k2,l2,m2⟩:=c0.elem' x8
 refine BC (hA:=f0) (hj:=(Int.toNat_of_nonneg p9).symm) (hlt:=g0) rfl rfl rfl rfl ?_
 refine AJ rfl rfl rfl (CW (hc:=cat0 h0) rfl rfl rfl ?_)
 refine AW rfl rfl rfl (AW rfl rfl rfl ?_)
 obtain ⟨n2,d1,hm⟩:=bs hm
 obtain ⟨e1,f1⟩:=Ba d1
 obtain ⟨o2,p2,g1,i0,j0,k0,rfl,q2,r2,s2⟩:=c0.elem' f1
 refine BC (hA:=i0) (hj:=(Int.toNat_of_nonneg e1).symm) (hlt:=j0) rfl rfl rfl rfl ?_
 refine AJ rfl rfl rfl (CW (hc:=cat0 k0) rfl rfl rfl ?_)
 refine LS rfl rfl rfl rfl (fun l0=>?_) fun l0=>?_
 ·
  replace hm:=ip hm l0
  refine h_z ?_
  refine Ah rfl (Al ?_)
  obtain ⟨h1,a0,hm⟩:=bs hm
  refine AU (fun l' w'=>∃ (i1:Unit) (O':Lab),subs l' [(6,(.bool h1))]∧Bs w A w' O') ?_ ?_
  ·
   refine Cu (·=w) [(0,true),(1,true),(2,true),(3,true),(4,true),(5,true),(6,true),(7,true),(8,true),(9,true),(10,true),(11,true)] (by kernel_rfl) rfl (by kernel_rfl) rfl ?_
   refine AW rfl rfl rfl (AW rfl rfl rfl ?_)
   obtain ⟨t2,j1,a0⟩:=bs a0
   obtain ⟨k1,l1⟩:=Ba j1
   obtain ⟨u2,v2,m1,m0,n0,o0,rfl,w2,y2,z2⟩:=c0.elem' l1
   refine BC (hA:=m0) (hj:=(Int.toNat_of_nonneg k1).symm) (hlt:=n0) rfl rfl rfl rfl ?_
   refine AJ rfl rfl rfl (CW (hc:=cat0 o0) rfl rfl rfl ?_)
   refine AW rfl rfl rfl (AW rfl rfl rfl ?_)
   obtain ⟨a3,n1,a0⟩:=bs a0
   obtain ⟨o1,p1⟩:=Ba n1
   obtain ⟨b3,c3,q1,p0,q0,r0,rfl,d3,e3,f3⟩:=c0.elem' p1
   refine BC (hA:=p0) (hj:=(Int.toNat_of_nonneg o1).symm) (hlt:=q0) rfl rfl rfl rfl ?_
   refine AJ rfl rfl rfl (CW (hc:=cat0 r0) rfl rfl rfl ?_)
   refine FT rfl rfl rfl rfl (fun s0=>?_) fun s0=>?_
   ·
    replace a0:=ip a0 s0
    refine EC rfl rfl rfl (h_z ?_)
    obtain rfl:=sm a0
    exact ⟨(),_,⟨rfl,trivial⟩,hB⟩
   replace a0:=im a0 s0
   refine EC rfl rfl rfl (h_z ?_)
   obtain rfl:=sm a0
   exact ⟨(),_,⟨rfl,trivial⟩,hB⟩
  rintro g3 h3 ⟨i1,i3,t0,hB⟩
  refine Bc _ t0 ?_
  refine AR ?_
  obtain rfl:=sm hm
  exact ret1v rfl (AO rfl) ⟨hB.ext,vBool⟩
 replace hm:=im hm l0
 refine h_z ?_
 refine Ae rfl (AZ (Al ?_))
 obtain ⟨r1,b0,hm⟩:=bs hm
 refine AU (fun l' w'=>∃ (s1:Unit) (O':Lab),subs l' [(6,(.bool r1))]∧Bs w A w' O') ?_ ?_
 ·
  refine Cu (·=w) [(0,true),(1,true),(2,true),(3,true),(4,true),(5,true),(6,true),(7,true),(8,true),(9,true),(10,true),(11,true)] (by kernel_rfl) rfl (by kernel_rfl) rfl ?_
  refine AW rfl rfl rfl (AW rfl rfl rfl ?_)
  obtain ⟨j3,t1,b0⟩:=bs b0
  obtain ⟨u1,v1⟩:=Ba t1
  obtain ⟨k3,l3,w1,u0,v0,w0,rfl,m3,n3,o3⟩:=c0.elem' v1
  refine BC (hA:=u0) (hj:=(Int.toNat_of_nonneg u1).symm) (hlt:=v0) rfl rfl rfl rfl ?_
  refine AJ rfl rfl rfl (CW (hc:=cat1 w0) rfl rfl rfl ?_)
  refine AW rfl rfl rfl (AW rfl rfl rfl ?_)
  obtain ⟨p3,y1,b0⟩:=bs b0
  obtain ⟨z1,a2⟩:=Ba y1
  obtain ⟨q3,r3,b2,y0,z0,a1,rfl,c2,d2,e2⟩:=c0.elem' a2
  refine BC (hA:=y0) (hj:=(Int.toNat_of_nonneg z1).symm) (hlt:=z0) rfl rfl rfl rfl ?_
  refine AJ rfl rfl rfl (CW (hc:=cat1 a1) rfl rfl rfl ?_)
  refine FT rfl rfl rfl rfl (fun d0=>?_) fun d0=>?_
  ·
   replace b0:=ip b0 d0
   refine EC rfl rfl rfl (h_z ?_)
   obtain rfl:=sm b0
   exact ⟨(),_,⟨rfl,trivial⟩,hB⟩
  replace b0:=im b0 d0
  refine EC rfl rfl rfl (h_z ?_)
  obtain rfl:=sm b0
  exact ⟨(),_,⟨rfl,trivial⟩,hB⟩
 rintro f2 g2 ⟨s1,h2,e0,hB⟩
 refine Bc _ e0 ?_
 refine AR ?_
 obtain rfl:=sm hm
 exact ret1v rfl (AO rfl) ⟨hB.ext,vBool⟩
noncomputable def BG (x0:List OEn) (x1:Int) (x2:Int):Option (List OEn) :=
  bnd (atI x0 x2) fun a4=>bnd (atI x0 x1) fun a18=>bnd (atI x0 x1) fun a32=>bnd (atI (x0.set (x1:Int).toNat a4) x2) fun a48=>some ((x0.set (x1:Int).toNat a4).set (x2:Int).toNat a18)
theorem Er {w:World} {O:Lab} {A0:Option Addr} {m0 c0 i0:Nat} {x0:List OEn} (a0:Rw i0 w O 73 (.slice A0 m0 c0) x0) {x1:Int} (rx1:inI64 x1) {x2:Int} (rx2:inI64 x2) {r:(List OEn)} (hm:BG x0 x1 x2=some r) :
    Fn Tryz.prog 156 [(.slice A0 m0 c0),(.int .i64 x1),(.int .i64 x2)] w fun v w'=>∃ O',St (eT i0) w O w' O'∧Rw i0 w' O' 73 (.slice A0 m0 c0) r:=by
 obtain ⟨O0,hE,u0,v0⟩:=ent1 (w:=w) (O:=O) a0.2.2
 obtain rfl:m0=x0.length:=a0.len.1
 have a0':=Rw.leave a0 u0 v0 (j:=2) (by decide)
 have hB:Bm w O0 w O0:=Bm.refl
 refine AQ Tryz.func156 rfl Tryz.ntmps156 rfl ?_
 unfold BG at hm
 refine Bw [(13,[2])] O0 ?_
 refine AD (fuel:=5) [] [(0,true),(1,true),(4,true),(5,true),(6,true),(7,true),(8,true),(9,true),(10,true),(11,true),(12,true)] (by kernel_rfl) rfl ?_
 refine AW rfl rfl rfl (AW rfl rfl rfl (AW rfl rfl rfl (AW rfl rfl rfl ?_)))
 obtain ⟨a4,e5,hm⟩:=bs hm
 obtain ⟨p7,x6⟩:=Ba e5
 obtain ⟨b8,o9,w0,f0,g0,h0,j0,rfl,y0,z0,a1⟩:=a0'.elemF x6
 refine BC (hA:=f0) (hj:=(Int.toNat_of_nonneg p7).symm) (hlt:=h0) rfl rfl rfl rfl ?_
 refine Df (hl:=rfl) (hb:=fun w' ⟨O',hq⟩=>(Bg (hq.agree (i:=2) (by decide)) g0 j0)) rfl rfl rfl ?_
 refine AW rfl rfl rfl (AW rfl rfl rfl ?_)
 obtain ⟨b0,b1,hm⟩:=bs hm
 obtain ⟨c1,d1⟩:=Ba b1
 obtain ⟨t1,u1,e1,k0,l0,n0,o0,rfl,f1,g1,h1⟩:=a0'.elemF d1
 refine BC (hA:=k0) (hj:=(Int.toNat_of_nonneg c1).symm) (hlt:=n0) rfl rfl rfl rfl ?_
 refine Df (hl:=rfl) (hb:=fun w' ⟨O',hq⟩=>(Bg (hq.agree (i:=2) (by decide)) l0 o0)) rfl rfl rfl ?_
 obtain ⟨v1,i1,hm⟩:=bs hm
 obtain ⟨j1,r0⟩:=Ba i1
 obtain ⟨w1,y1,k1,d0,l1,p0,m1,rfl,z1,a2,b2⟩:=a0'.elemF r0
 refine BC (hA:=d0) (hj:=(Int.toNat_of_nonneg j1).symm) (hlt:=p0) rfl rfl rfl rfl ?_
 refine Au ?_
 refine AD (fuel:=3) [2] [(2,true),(3,true)] (by kernel_rfl) rfl ?_
 refine AW rfl rfl rfl (AW rfl rfl rfl (Au ?_))
 refine At (i:=13) (by kernel_rfl) rfl ?_
 refine CM rfl a0' (a:=a4) (Vb.ofAgg (cs:=[(.int .i64 a4.cost),(.int .i64 a4.number),(.int .i64 a4.node)]) (x:=a4) rfl ⟨rfl,y0,z0,a1⟩) d0 rfl rfl (AL r0) fun c2 s0 a0'=>?_
 have hZ:=s0.lst [2] (fun _ h=>by cases h;decide)
 refine Az [] hZ (by kernel_rfl) ?_
 refine AD (fuel:=1) [] [(14,true)] (by kernel_rfl) rfl ?_
 obtain ⟨d2,n1,hm⟩:=bs hm
 obtain ⟨o1,t0⟩:=Ba n1
 obtain ⟨e2,f2,p1,e0,q1,q0,r1,rfl,g2,h2,i2⟩:=a0'.elemF t0
 refine BC (hA:=e0) (hj:=(Int.toNat_of_nonneg o1).symm) (hlt:=q0) rfl rfl rfl rfl ?_
 refine Au ?_
 refine At (i:=15) (by kernel_rfl) rfl ?_
 refine CM rfl a0' (a:=b0) (Vb.ofAgg (cs:=[(.int .i64 b0.cost),(.int .i64 b0.number),(.int .i64 b0.node)]) (x:=b0) rfl ⟨rfl,f1,g1,h1⟩) e0 rfl rfl (AL t0) fun j2 s1 a0'=>?_
 refine Be (by kernel_rfl) ?_
 refine AY (by kernel_rfl) ?_
 obtain rfl:=sm hm
 replace hB:=(hB.st s0).st s1
 obtain ⟨O',hS',hz,hl⟩:=hE.leave (fun q=>if q=2 then i0 else 0) rfl hB
 exact ret0n rfl  ⟨O',hS',(Rw.leave a0' hz (hl 2 (by decide) (by decide)) a0.2.2)⟩
noncomputable def DD (x0:BxR 67 73 OEn) (x1:An 73 OEn):Option (BxR 67 73 OEn) :=
  bnd (appI 24 x0.l [x1.x]) fun u31=>some (⟨u31⟩:BxR 67 73 OEn)
theorem HO {w:World} {O:Lab} {cx:Cx} {p0 i0:Nat} {x0:BxR 67 73 OEn} (a0:Ob i0 w O (.pointer (some ⟨p0,cx.pre.length,none⟩)) (BxR.c cx x0)) {vx1:Value} {x1:An 73 OEn} (g0:Vb w (Fr 0 w O) vx1 x1) {r:(BxR 67 73 OEn)} (hm:DD x0 x1=some r) :
    Fn Tryz.prog 158 [(.pointer (some ⟨p0,cx.pre.length,none⟩)),vx1] w fun v w'=>∃ O',St (eT i0) w O w' O'∧Ob i0 w' O' (.pointer (some ⟨p0,cx.pre.length,none⟩)) (BxR.c cx r):=by
 obtain ⟨O0,hE,k0,s0⟩:=ent1 (w:=w) (O:=O) a0.2
 have a0':=Ob.leave a0 k0 s0 (j:=2) (by decide)
 have hB:Bm w O0 w O0:=Bm.refl
 replace g0:=g0.mono k0
 obtain ⟨v3,rfl,h4⟩:=g0.any
 obtain ⟨f1,rfl,rfl,r6,r7,r8⟩:=h4
 refine AQ Tryz.func158 rfl Tryz.ntmps158 rfl ?_
 unfold DD at hm
 refine Al (Aj (Ar rfl rfl (Oh rfl rfl ?_)))
 refine Ar rfl rfl (Cy rfl rfl rfl (Cy rfl rfl rfl (Bk 3 O0 rfl fun g9 g1 t0 m0 b0=>?_)))
 refine AA b0 rfl rfl rfl (AG rfl) (allOne rfl) fun u0 n0 b0=>?_
 replace b0:Lc 3 u0 t0 g9 73 [(.int .i64 x1.x.cost),(.int .i64 x1.x.number),(.int .i64 x1.x.node)]:=b0
 refine Ay rfl rfl (o_z ?_)
 refine Al (Aj (Ar rfl rfl (o_z ?_)))
 refine Ah rfl ?_
 replace a0':=(a0'.st m0).st n0
 obtain ⟨o0,h1,q0,v0,c0,d0⟩:=BxC.opn a0' 2 4 (by decide)
 obtain ⟨i1,j1,rfl⟩:=d0.form
 refine Bw [(6,[4])] o0 ?_
 refine AD (fuel:=5) [] [(1,true),(2,true),(3,true),(4,true)] (by kernel_rfl) rfl ?_
 refine AW rfl rfl rfl (Dd rfl rfl rfl (Bb (hc:=fun w' ⟨O',hq⟩=>cxcell ((c0.st hq (by decide)).1)) rfl rfl rfl ?_))
 replace b0:=b0.st q0
 refine Df (hl:=rfl) (hb:=fun w' ⟨O',hq⟩=>((b0.st hq (by decide)).1).cellsAt) rfl rfl rfl ?_
 refine Au ?_
 refine AD (fuel:=4) [4] [(0,true)] (by kernel_rfl) rfl ?_
 refine AW rfl rfl rfl (Au ?_)
 refine At (i:=5) (by kernel_rfl) rfl ?_
 refine AM 5 (by decide) o0 (xs:=([x1.x]:List OEn)) rfl rfl rfl rfl ⟨(Vb.ofAgg (cs:=[(.int .i64 x1.x.cost),(.int .i64 x1.x.number),(.int .i64 x1.x.node)]) (x:=x1.x) rfl ⟨rfl,r6,r7,r8⟩),trivial⟩ (by decide) (by decide) rfl fun k1 m1 n1 e0 w0=>?_
 have hZ:=e0.lst [] (fun _ h=>h.elim)
 refine Az [(6,[4])] hZ (by kernel_rfl) ?_
 refine At (i:=6) (by kernel_rfl) rfl ?_
 obtain ⟨y0,h0,hm⟩:=bs hm
 obtain ⟨h0,z0,a1⟩:=AB h0
 replace d0:=d0.st e0
 refine AF rfl d0 (w0.rd) rfl rfl (by decide) z0 a1 rfl fun o1 p1 q1 r1 j0 f0=>?_
 rw [← h0] at f0 ⊢
 have hZ:=j0.lst [4] (fun _ h=>by cases h;decide)
 refine Az [] hZ (by kernel_rfl) ?_
 refine AD (fuel:=1) [] [(7,true)] (by kernel_rfl) rfl ?_
 refine Dd rfl rfl rfl (Au ?_)
 refine At (i:=8) (by kernel_rfl) rfl ?_
 replace c0:=(c0.st e0).st j0
 refine Kw c0 rfl rfl rfl (allOne rfl) fun s1 r0 c0=>?_
 refine Be (by kernel_rfl) ?_
 refine AY (by kernel_rfl) ?_
 replace f0:=f0.st r0
 obtain ⟨t1,b1,c1,d1,e1⟩:=BxC.shut (x:=(⟨y0⟩:BxR 67 73 OEn)) (l0:=2) (l1:=4) (by decide) c0 f0
 obtain rfl:=sm hm
 replace hB:=((((((hB.st m0).st n0).st q0).st e0).st j0).st r0).st b1
 obtain ⟨O',hS',hz,hl⟩:=hE.leave (fun q=>if q=2 then i0 else 0) rfl hB
 exact ret0n rfl  ⟨O',hS',(Ob.leave e1 hz (hl 2 (by decide) (by decide)) a0.2)⟩
noncomputable def DW (x0:BxR 67 73 OEn):Option ((An 73 OEn)×(BxR 67 73 OEn)) :=
  bnd (chkI ((x0.l.length:Int) - 1)) fun n13=>bnd (atI x0.l n13) fun a16=>bnd (chkI ((x0.l.length:Int) - 1)) fun n39=>bnd (cutI x0.l 0 n39) fun u42=>some ((⟨a16⟩:An 73 OEn),(⟨u42⟩:BxR 67 73 OEn))
theorem Ik {w:World} {O:Lab} {cx:Cx} {p0 i0:Nat} {x0:BxR 67 73 OEn} (c0:Ob i0 w O (.pointer (some ⟨p0,cx.pre.length,none⟩)) (BxR.c cx x0)) {r:(An 73 OEn)×(BxR 67 73 OEn)} (hm:DW x0=some r) :
    Fn Tryz.prog 157 [(.pointer (some ⟨p0,cx.pre.length,none⟩))] w fun v w'=>∃ O',St (eT i0) w O w' O'∧Ob i0 w' O' (.pointer (some ⟨p0,cx.pre.length,none⟩)) (BxR.c cx r.2)∧Vb w' (Fr 0 w' O') v r.1:=by
 obtain ⟨O0,hE,o0,q0⟩:=ent1 (w:=w) (O:=O) c0.2
 have c0':=Ob.leave c0 o0 q0 (j:=2) (by decide)
 have hB:Bm w O0 w O0:=Bm.refl
 refine AQ Tryz.func157 rfl Tryz.ntmps157 rfl ?_
 unfold DW at hm
 refine Al (Aj (Ay rfl rfl (o_z ?_)))
 refine Al (Aj (Ar rfl rfl (Dc rfl rfl ?_)))
 obtain ⟨O2,v6,S3,m1,h4,h7⟩:=BxC.opn c0' 2 3 (by decide)
 obtain ⟨A8,c9,rfl⟩:=h7.form
 refine AP (hc:=cxcell (h4.1)) rfl rfl ?_
 refine Ay rfl rfl (o_z ?_)
 refine Al (Aj (Ar rfl rfl (Ar rfl rfl (Bj rfl rfl ?_))))
 have r0:x0.l.length≤9223372036854775807:=Nat.le_trans h7.len.2.1 h7.len.2.2
 have n1:inI64 (x0.l.length:Int):=rngNat r0
 obtain ⟨o1,m0,hm⟩:=bs hm
 have p1:=(BI m0)
 refine FY (he:=m0) rfl rfl rfl ?_
 obtain ⟨a0,s0,hm⟩:=bs hm
 obtain ⟨t0,u0⟩:=Ba s0
 obtain ⟨q1,r1,v0,d0,e0,f0,rfl,w0,y0,z0⟩:=h7.elem u0
 refine BB (hA:=d0) (hj:=(Int.toNat_of_nonneg t0).symm) (hlt:=e0) rfl rfl rfl ?_
 refine Br (hl:=rfl) (hc:=f0) rfl rfl ?_
 refine Bk 4 O2 rfl fun a1 s1 b1 g0 b0=>?_
 refine AA b0 rfl rfl rfl (AG rfl) (allOne rfl) fun c1 h0 b0=>?_
 replace b0:Lc 4 c1 b1 a1 73 [(.int .i64 a0.cost),(.int .i64 a0.number),(.int .i64 a0.node)]:=b0
 refine o_z ?_
 refine Al (Aj (Ar rfl rfl (Ar rfl rfl (Ar rfl rfl (Bj rfl rfl ?_)))))
 replace h7:=(h7.st g0).st h0
 have d1:x0.l.length≤9223372036854775807:=Nat.le_trans h7.len.2.1 h7.len.2.2
 have t1:inI64 (x0.l.length:Int):=rngNat d1
 obtain ⟨u1,n0,hm⟩:=bs hm
 have v1:=(BI n0)
 refine FY (he:=n0) rfl rfl rfl ?_
 obtain ⟨e1,f1,hm⟩:=bs hm
 obtain ⟨j0,g1⟩:=cutRw h7 f1
 refine Py (hc:=g1) rfl rfl rfl ?_
 refine Dc rfl rfl ?_
 replace h4:=(h4.st g0).st h0
 refine Kw h4 rfl rfl rfl (allOne rfl) fun w1 k0 h4=>?_
 refine o_z ?_
 refine Al (Aj ?_)
 replace b0:=b0.st k0
 refine Br (hl:=rfl) (hc:=(b0.1).cellsAt) rfl rfl ?_
 refine Of rfl rfl ?_
 refine Ay rfl rfl (o_z ?_)
 refine AR ?_
 replace j0:=j0.st k0
 obtain ⟨x1,h1,i1,j1,k1⟩:=BxC.shut (x:=(⟨e1⟩:BxR 67 73 OEn)) (l0:=2) (l1:=3) (by decide) h4 j0
 obtain rfl:=sm hm
 replace hB:=((((hB.st S3).st g0).st h0).st k0).st h1
 obtain ⟨O',hS',hz,hl⟩:=hE.leave (fun q=>if q=2 then i0 else 0) rfl hB
 exact ret1v rfl (AO rfl) ⟨O',hS',(Ob.leave k1 hz (hl 2 (by decide) (by decide)) c0.2),(vAny (Vb.ofAgg (cs:=[(.int .i64 a0.cost),(.int .i64 a0.number),(.int .i64 a0.node)]) (x:=a0) rfl ⟨rfl,w0,y0,z0⟩))⟩
noncomputable def CP (x0:BxR 67 73 OEn) (x1:Int):Option (BxR 67 73 OEn) :=
  bnd (lop (ρ:=(BxR 67 73 OEn)) (fun (s5:Int×(BxR 67 73 OEn))=>bnd (chkI (s5.1 - 1)) fun n22=>bnd (quoT n22 2) fun n25=>bnd (if n25=s5.1 then (some true) else (bnd (BR s5.2.l s5.1 n25) fun q42=>if q42=true then some false else some true):Option Bool) fun y28=>if y28=true then (some (.brk (s5.1,s5.2))) else (bnd (BG s5.2.l n25 s5.1) fun q73=>some (.next (n25,(⟨q73⟩:BxR 67 73 OEn))))) (x1,x0)) fun res3=>fin res3 fun (s90:Int×(BxR 67 73 OEn))=>some s90.2
theorem GY {w:World} {O:Lab} {cx:Cx} {p0 i0:Nat} {x0:BxR 67 73 OEn} (h0:Ob i0 w O (.pointer (some ⟨p0,cx.pre.length,none⟩)) (BxR.c cx x0)) {x1:Int} (rx1:inI64 x1) {r:(BxR 67 73 OEn)} (hm:CP x0 x1=some r) :
    Fn Tryz.prog 88 [(.iface 76 (.pointer (some ⟨p0,cx.pre.length,none⟩))),(.int .i64 x1)] w fun v w'=>∃ O',St (eT i0) w O w' O'∧Ob i0 w' O' (.pointer (some ⟨p0,cx.pre.length,none⟩)) (BxR.c cx r):=by
 obtain ⟨O0,hE,c1,d1⟩:=ent1 (w:=w) (O:=O) h0.2
 have h0':=Ob.leave h0 c1 d1 (j:=2) (by decide)
 have hB:Bm w O0 w O0:=Bm.refl
 refine AQ Tryz.func88 rfl Tryz.ntmps88 rfl ?_
 unfold CP at hm
 obtain ⟨m0,e1,hm⟩:=bs hm
 refine AU (aft m0 (fun (s5:Int×(BxR 67 73 OEn)) (x6:Unit)=>[]) (fun s5 x6 w'=>∃ O':Lab,Bm w O0 w' O'∧Ob 2 w' O' (.pointer (some ⟨p0,cx.pre.length,none⟩)) (BxR.c cx s5.2)∧inI64 s5.1)) ?_ ?_
 ·
  refine Bf (FE (σ:=Int×(BxR 67 73 OEn)) (X:=Unit) e1 (fun (s5:Int×(BxR 67 73 OEn)) (x6:Unit)=>[(0,(.iface 76 (.pointer (some ⟨p0,cx.pre.length,none⟩)))),(1,(.int .i64 s5.1))]) _ (fun s5 x6 w'=>∃ O':Lab,Bm w O0 w' O'∧Ob 2 w' O' (.pointer (some ⟨p0,cx.pre.length,none⟩)) (BxR.c cx s5.2)∧inI64 s5.1) _ () ⟨O0,hB,h0',rx1⟩ ⟨rfl,rfl,trivial⟩ ?_)
  rintro s5 x6 w9 f1 ⟨h2,hB,d0,j0⟩ a0 n0 e0
  refine Bf (Al (Aj (Ar rfl rfl ?_)))
  obtain ⟨i2,t0,a0⟩:=bs a0
  have u0:=(BI t0)
  refine FY (he:=t0) rfl rfl rfl ?_
  obtain ⟨g1,v0,a0⟩:=bs a0
  have o0:=Ly v0 u0
  refine Qg (he:=v0) (hr:=u0) rfl rfl rfl ?_
  refine Ay rfl rfl (o_z ?_)
  refine Al (Al ?_)
  obtain ⟨h1,b0,a0⟩:=bs a0
  refine AU (fun l' w'=>∃ (i1:Unit) (O':Lab),subs l' [(0,(.iface 76 (.pointer (some ⟨p0,cx.pre.length,none⟩)))),(1,(.int .i64 s5.1)),(4,(.int .i64 g1)),(17,(.bool h1))]∧Bm w O0 w' O'∧Ob 2 w' O' (.pointer (some ⟨p0,cx.pre.length,none⟩)) (BxR.c cx s5.2)) ?_ ?_
  ·
   refine Aj (Ar rfl rfl (Ar rfl rfl (Ei rfl rfl rfl (fun q0=>?_) fun q0=>?_)))
   ·
    replace b0:=ip b0 q0
    refine Ar rfl rfl (AC rfl rfl rfl rfl (AC rfl rfl rfl rfl (AC rfl rfl rfl rfl (AC rfl rfl rfl rfl (AC rfl rfl rfl rfl (BF rfl rfl rfl (o_z ?_)))))))
    obtain rfl:=sm b0
    exact ⟨(),_,⟨rfl,rfl,rfl,rfl,trivial⟩,hB,d0⟩
   replace b0:=im b0 q0
   refine Ar rfl rfl (AE rfl rfl (Ar rfl rfl (AE rfl rfl (Ar rfl rfl (AE rfl rfl (Ar rfl rfl (AE rfl rfl ?_)))))))
   obtain ⟨j1,j2,w0,k1,f0,c0⟩:=BxC.opn d0 2 3 (by decide)
   obtain ⟨k2,l2,rfl⟩:=c0.form
   obtain ⟨y0,m1,b0⟩:=bs b0
   refine Hm (O:=j1) (A:=All w9) (R:=fun w' F v=>Vb w' F v y0) (Eq (fun _ h=>h) (c0).all j0 o0 m1) (EK (cxcell f0.1)) rfl rfl rfl fun m2 n2 o2 g0 n1=>?_
   obtain rfl:=n1.bool
   cases y0
   case false =>
    replace b0:=iF b0
    refine AE rfl rfl (DL rfl rfl (BN rfl rfl rfl (o_z ?_)))
    replace f0:=f0.st g0
    replace c0:=c0.st g0
    obtain ⟨p2,o1,p1,q1,r1⟩:=BxC.shut (x:=s5.2) (l0:=2) (l1:=3) (by decide) f0 c0
    obtain rfl:=sm b0
    exact ⟨(),_,⟨rfl,rfl,rfl,rfl,trivial⟩,((hB.st w0).st g0).st o1,r1⟩
   replace b0:=iT b0
   refine AE rfl rfl (DK rfl rfl (BN rfl rfl rfl (o_z ?_)))
   replace f0:=f0.st g0
   replace c0:=c0.st g0
   obtain ⟨q2,s1,t1,u1,v1⟩:=BxC.shut (x:=s5.2) (l0:=2) (l1:=3) (by decide) f0 c0
   obtain rfl:=sm b0
   exact ⟨(),_,⟨rfl,rfl,rfl,rfl,trivial⟩,((hB.st w0).st g0).st s1,v1⟩
  rintro r2 s2 ⟨i1,t2,r0,hB,d0⟩
  refine Bc _ r0 ?_
  refine CC rfl (fun s0=>?_) (fun s0=>?_)
  ·
   replace a0:=ip a0 s0
   refine Dz ?_
   obtain rfl:=sm a0
   exact show Exists _ from ⟨_,(),e0 _ rfl,trivial,_,hB,d0,j0⟩
  replace a0:=im' a0 s0
  refine AZ (Al (Aj (Ar rfl rfl (Ar rfl rfl (Ar rfl rfl ?_)))))
  obtain ⟨w1,u2,y1,z1,k0,z0⟩:=BxC.opn d0 2 3 (by decide)
  obtain ⟨v2,w2,rfl⟩:=z0.form
  obtain ⟨a2,b2,a0⟩:=bs a0
  refine Hl (O:=w1) (Er z0 o0 j0 b2) (EK (cxcell k0.1)) rfl rfl rfl fun x2 y2 z2 a1 b1=>?_
  refine o_z ?_
  refine Aj (Ar rfl rfl (Ay rfl rfl (o_z ?_)))
  replace k0:=k0.st a1
  obtain ⟨a3,c2,d2,e2,f2⟩:=BxC.shut (x:=(⟨a2⟩:BxR 67 73 OEn)) (l0:=2) (l1:=3) (by decide) (by have q:=k0;rw [← b1.len.1.symm] at q;exact q) b1.relen
  obtain rfl:=sm a0
  exact show Exists _ from ⟨_,(),rfl,⟨rfl,rfl,trivial⟩,_,((hB.st y1).st a1).st c2,f2,o0⟩
 rintro b3 c3 ⟨d3,e3,rfl,g2,f3,hB,d0,j0⟩
 replace hm:=Bq hm
 obtain rfl:=sm hm
 obtain ⟨O',hS',hz,hl⟩:=hE.leave (fun q=>if q=2 then i0 else 0) rfl hB
 exact ret0n rfl  ⟨O',hS',(Ob.leave d0 hz (hl 2 (by decide) (by decide)) h0.2)⟩
noncomputable def CF (x0:BxR 67 73 OEn) (x1:Int) (x2:Int):Option (Bool×(BxR 67 73 OEn)) :=
  bnd (lop (ρ:=Bool×(BxR 67 73 OEn)) (fun (s6:Int×(BxR 67 73 OEn))=>bnd (chkI (2 * s6.1)) fun n23=>bnd (chkI (n23 + 1)) fun n26=>bnd (if x2≤n26 then (some true) else (if n26 < 0 then (some true) else (some false)):Option Bool) fun y29=>if y29=true then (some (.brk (s6.1,s6.2))) else (bnd (bnd (chkI (n26 + 1)) fun n45=>bnd (if n45 < x2 then (bnd (BR s6.2.l n45 n26) fun q62=>if q62=true then some true else some false) else (some false):Option Bool) fun y48=>if y48=true then (some n45) else (some n26):Option Int) fun y40=>bnd (BR s6.2.l y40 s6.1) fun q97=>if q97=true then bnd (BG s6.2.l s6.1 y40) fun q109=>some (.next (y40,(⟨q109⟩:BxR 67 73 OEn))) else some (.brk (s6.1,s6.2)))) (x1,x0)) fun res4=>fin res4 fun (s126:Int×(BxR 67 73 OEn))=>bnd (if x1 < s126.1 then (some true) else (some false):Option Bool) fun y128=>some (y128,s126.2)
theorem Gr {w:World} {O:Lab} {cx:Cx} {p0 i0:Nat} {x0:BxR 67 73 OEn} (r0:Ob i0 w O (.pointer (some ⟨p0,cx.pre.length,none⟩)) (BxR.c cx x0)) {x1:Int} (rx1:inI64 x1) {x2:Int} (rx2:inI64 x2) {r:Bool×(BxR 67 73 OEn)} (hm:CF x0 x1 x2=some r) :
    Fn Tryz.prog 60 [(.iface 76 (.pointer (some ⟨p0,cx.pre.length,none⟩))),(.int .i64 x1),(.int .i64 x2)] w fun v w'=>∃ O',St (eT i0) w O w' O'∧Ob i0 w' O' (.pointer (some ⟨p0,cx.pre.length,none⟩)) (BxR.c cx r.2)∧Vb w' (Fr 0 w' O') v r.1:=by
 obtain ⟨O0,hE,m2,n2⟩:=ent1 (w:=w) (O:=O) r0.2
 have r0':=Ob.leave r0 m2 n2 (j:=2) (by decide)
 have hB:Bm w O0 w O0:=Bm.refl
 refine AQ Tryz.func60 rfl Tryz.ntmps60 rfl ?_
 unfold CF at hm
 refine Al (Aj (Ay rfl rfl (o_z ?_)))
 refine Al (Aj (Ar rfl rfl (Ay rfl rfl (o_z ?_))))
 refine Al ?_
 obtain ⟨z0,o2,hm⟩:=bs hm
 refine AU (aft z0 (fun (s6:Int×(BxR 67 73 OEn)) (x7:Unit)=>[(1,(.int .i64 x1)),(7,(.int .i64 s6.1))]) (fun s6 x7 w'=>∃ O':Lab,Bm w O0 w' O'∧Ob 2 w' O' (.pointer (some ⟨p0,cx.pre.length,none⟩)) (BxR.c cx s6.2)∧inI64 s6.1)) ?_ ?_
 ·
  refine Bf (FE (σ:=Int×(BxR 67 73 OEn)) (X:=Unit) o2 (fun (s6:Int×(BxR 67 73 OEn)) (x7:Unit)=>[(0,(.iface 76 (.pointer (some ⟨p0,cx.pre.length,none⟩)))),(1,(.int .i64 x1)),(2,(.int .i64 x2)),(7,(.int .i64 s6.1))]) _ (fun s6 x7 w'=>∃ O':Lab,Bm w O0 w' O'∧Ob 2 w' O' (.pointer (some ⟨p0,cx.pre.length,none⟩)) (BxR.c cx s6.2)∧inI64 s6.1) _ () ⟨O0,hB,r0',rx1⟩ ⟨rfl,rfl,rfl,rfl,trivial⟩ ?_)
  rintro s6 x7 b4 p2 ⟨c4,hB,g0,s0⟩ a0 a1 h0
  refine Bf (Al (Aj (Ar rfl rfl ?_)))
  obtain ⟨d4,w1,a0⟩:=bs a0
  have e4:=(BI w1)
  refine Oe (he:=w1) rfl rfl rfl ?_
  obtain ⟨y1,z1,a0⟩:=bs a0
  have a2:=(BI z1)
  refine Fz (he:=z1) rfl rfl rfl ?_
  refine Ay rfl rfl (o_z ?_)
  refine Al (Al ?_)
  obtain ⟨q2,c0,a0⟩:=bs a0
  refine AU (fun l' w'=>∃ (r2:Unit) (O':Lab),subs l' [(0,(.iface 76 (.pointer (some ⟨p0,cx.pre.length,none⟩)))),(1,(.int .i64 x1)),(2,(.int .i64 x2)),(7,(.int .i64 s6.1)),(8,(.int .i64 y1)),(21,(.bool q2))]∧Bm w O0 w' O'∧Ob 2 w' O' (.pointer (some ⟨p0,cx.pre.length,none⟩)) (BxR.c cx s6.2)) ?_ ?_
  ·
   refine Aj (Ar rfl rfl (Ar rfl rfl (Fc rfl rfl rfl (fun b1=>?_) fun b1=>?_)))
   ·
    replace c0:=ip c0 b1
    refine Ar rfl rfl (AC rfl rfl rfl rfl (AC rfl rfl rfl rfl (BF rfl rfl rfl (o_z ?_))))
    obtain rfl:=sm c0
    exact ⟨(),_,⟨rfl,rfl,rfl,rfl,rfl,rfl,trivial⟩,hB,g0⟩
   replace c0:=im c0 b1
   refine Ar rfl rfl (AE rfl rfl (Ar rfl rfl (AE rfl rfl (EA rfl rfl rfl (fun c1=>?_) fun c1=>?_))))
   ·
    replace c0:=ip c0 c1
    refine BN rfl rfl rfl (o_z ?_)
    obtain rfl:=sm c0
    exact ⟨(),_,⟨rfl,rfl,rfl,rfl,rfl,rfl,trivial⟩,hB,g0⟩
   replace c0:=im c0 c1
   refine BN rfl rfl rfl (o_z ?_)
   obtain rfl:=sm c0
   exact ⟨(),_,⟨rfl,rfl,rfl,rfl,rfl,rfl,trivial⟩,hB,g0⟩
  rintro f4 s2 ⟨r2,g4,d1,hB,g0⟩
  refine Bc _ d1 ?_
  refine CC rfl (fun e1=>?_) (fun e1=>?_)
  ·
   replace a0:=ip a0 e1
   refine Dz ?_
   obtain rfl:=sm a0
   exact show Exists _ from ⟨_,(),h0 _ rfl,⟨rfl,rfl,trivial⟩,_,hB,g0,s0⟩
  replace a0:=im' a0 e1
  refine AZ (Al (Aj (Ar rfl rfl (Ay rfl rfl (o_z ?_)))))
  refine Al ?_
  obtain ⟨b2,d0,a0⟩:=bs a0
  refine AU (fun l' w'=>∃ (t2:Unit) (O':Lab),subs l' [(0,(.iface 76 (.pointer (some ⟨p0,cx.pre.length,none⟩)))),(1,(.int .i64 x1)),(2,(.int .i64 x2)),(7,(.int .i64 s6.1)),(9,(.int .i64 b2))]∧Bm w O0 w' O'∧Ob 2 w' O' (.pointer (some ⟨p0,cx.pre.length,none⟩)) (BxR.c cx s6.2)∧inI64 b2) ?_ ?_
  ·
   refine Al (Aj (Ar rfl rfl ?_))
   obtain ⟨u2,c2,d0⟩:=bs d0
   have d2:=(BI c2)
   refine Fz (he:=c2) rfl rfl rfl ?_
   refine Ay rfl rfl (o_z ?_)
   refine Al ?_
   obtain ⟨v2,b0,d0⟩:=bs d0
   refine AU (fun l' w'=>∃ (w2:Unit) (O':Lab),subs l' [(0,(.iface 76 (.pointer (some ⟨p0,cx.pre.length,none⟩)))),(1,(.int .i64 x1)),(2,(.int .i64 x2)),(7,(.int .i64 s6.1)),(9,(.int .i64 y1)),(10,(.int .i64 u2)),(33,(.bool v2))]∧Bm w O0 w' O'∧Ob 2 w' O' (.pointer (some ⟨p0,cx.pre.length,none⟩)) (BxR.c cx s6.2)) ?_ ?_
   ·
    refine Aj (Ar rfl rfl (Ar rfl rfl (EA rfl rfl rfl (fun f1=>?_) fun f1=>?_)))
    ·
     replace b0:=ip b0 f1
     refine Ar rfl rfl (AE rfl rfl (Ar rfl rfl (AE rfl rfl (Ar rfl rfl (AE rfl rfl (Ar rfl rfl (AE rfl rfl ?_)))))))
     obtain ⟨y2,h4,e2,z2,n0,k0⟩:=BxC.opn g0 2 3 (by decide)
     obtain ⟨i4,j4,rfl⟩:=k0.form
     obtain ⟨f2,a3,b0⟩:=bs b0
     refine Hm (O:=y2) (A:=All s2) (R:=fun w' F v=>Vb w' F v f2) (Eq (fun _ h=>h) (k0).all d2 a2 a3) (EK (cxcell n0.1)) rfl rfl rfl fun k4 l4 m4 q0 y0=>?_
     obtain rfl:=y0.bool
     cases f2
     case false =>
      replace b0:=iF b0
      refine BF rfl rfl rfl (o_z ?_)
      replace n0:=n0.st q0
      replace k0:=k0.st q0
      obtain ⟨n4,b3,c3,d3,e3⟩:=BxC.shut (x:=s6.2) (l0:=2) (l1:=3) (by decide) n0 k0
      obtain rfl:=sm b0
      exact ⟨(),_,⟨rfl,rfl,rfl,rfl,rfl,rfl,rfl,trivial⟩,((hB.st e2).st q0).st b3,e3⟩
     replace b0:=iT b0
     refine BF rfl rfl rfl (o_z ?_)
     replace n0:=n0.st q0
     replace k0:=k0.st q0
     obtain ⟨o4,f3,g3,h3,i3⟩:=BxC.shut (x:=s6.2) (l0:=2) (l1:=3) (by decide) n0 k0
     obtain rfl:=sm b0
     exact ⟨(),_,⟨rfl,rfl,rfl,rfl,rfl,rfl,rfl,trivial⟩,((hB.st e2).st q0).st f3,i3⟩
    replace b0:=im b0 f1
    refine Ar rfl rfl (AC rfl rfl rfl rfl (AC rfl rfl rfl rfl (AC rfl rfl rfl rfl (AC rfl rfl rfl rfl (BN rfl rfl rfl (o_z ?_))))))
    obtain rfl:=sm b0
    exact ⟨(),_,⟨rfl,rfl,rfl,rfl,rfl,rfl,rfl,trivial⟩,hB,g0⟩
   rintro p4 q4 ⟨w2,r4,g1,hB,y0⟩
   refine Bc _ g1 ?_
   refine CC rfl (fun h1=>?_) (fun h1=>?_)
   ·
    replace d0:=ip d0 h1
    refine Aj (Ar rfl rfl (Ay rfl rfl (o_z ?_)))
    obtain rfl:=sm d0
    exact ⟨(),_,⟨rfl,rfl,rfl,rfl,rfl,trivial⟩,hB,y0,d2⟩
   replace d0:=im' d0 h1
   refine AZ ?_
   obtain rfl:=sm d0
   exact ⟨(),_,⟨rfl,rfl,rfl,rfl,rfl,trivial⟩,hB,y0,a2⟩
  rintro s4 j3 ⟨t2,t4,i1,hB,k3,j1⟩
  refine Bc _ i1 ?_
  refine Al (Al (Aj (Ar rfl rfl (Ar rfl rfl (Ar rfl rfl ?_)))))
  obtain ⟨l3,u4,g2,m3,j0,m0⟩:=BxC.opn k3 2 3 (by decide)
  obtain ⟨v4,w4,rfl⟩:=m0.form
  obtain ⟨h2,n3,a0⟩:=bs a0
  refine Hm (O:=l3) (A:=All j3) (R:=fun w' F v=>Vb w' F v h2) (Eq (fun _ h=>h) (m0).all j1 s0 n3) (EK (cxcell j0.1)) rfl rfl rfl fun o3 x4 k1 f0 m1=>?_
  obtain rfl:=m1.bool
  cases h2
  case false =>
   replace a0:=iF a0
   refine DL rfl rfl (o_z ?_)
   refine Ah rfl (Dz ?_)
   replace j0:=j0.st f0
   replace m0:=m0.st f0
   obtain ⟨p3,n1,i2,j2,o1⟩:=BxC.shut (x:=s6.2) (l0:=2) (l1:=3) (by decide) j0 m0
   obtain rfl:=sm a0
   exact show Exists _ from ⟨_,(),h0 _ rfl,⟨rfl,rfl,trivial⟩,_,((hB.st g2).st f0).st n1,o1,s0⟩
  replace a0:=iT a0
  refine DK rfl rfl (o_z ?_)
  refine Ae rfl (AZ (Al (Aj (Ar rfl rfl (Ar rfl rfl (Ar rfl rfl ?_))))))
  obtain ⟨p1,q1,a0⟩:=bs a0
  replace j0:=j0.st f0
  replace m0:=m0.st f0
  refine Hl (O:=k1) (Er m0 s0 j1 q1) (EK (cxcell j0.1)) rfl rfl rfl fun q3 r3 s3 t0 u0=>?_
  refine o_z ?_
  refine Aj (Ar rfl rfl (Ay rfl rfl (o_z ?_)))
  replace j0:=j0.st t0
  obtain ⟨t3,r1,k2,l2,s1⟩:=BxC.shut (x:=(⟨p1⟩:BxR 67 73 OEn)) (l0:=2) (l1:=3) (by decide) (by have q:=j0;rw [← u0.len.1.symm] at q;exact q) u0.relen
  obtain rfl:=sm a0
  exact show Exists _ from ⟨_,(),rfl,⟨rfl,rfl,rfl,rfl,trivial⟩,_,(((hB.st g2).st f0).st t0).st r1,s1,j1⟩
 rintro u3 v3 ⟨t1,w3,rfl,v0,x3,hB,g0,s0⟩
 replace hm:=Bq hm
 refine Bc _ v0 ?_
 refine Al ?_
 obtain ⟨u1,e0,hm⟩:=bs hm
 refine AU (fun l' w'=>∃ (v1:Unit) (O':Lab),subs l' [(6,(.bool u1))]∧Bm w O0 w' O'∧Ob 2 w' O' (.pointer (some ⟨p0,cx.pre.length,none⟩)) (BxR.c cx t1.2)) ?_ ?_
 ·
  refine Aj (Ar rfl rfl (Ar rfl rfl (FS rfl rfl rfl (fun o0=>?_) fun o0=>?_)))
  ·
   replace e0:=ip e0 o0
   refine Ay rfl rfl (o_z ?_)
   obtain rfl:=sm e0
   exact ⟨(),_,⟨rfl,trivial⟩,hB,g0⟩
  replace e0:=im e0 o0
  refine Ay rfl rfl (o_z ?_)
  obtain rfl:=sm e0
  exact ⟨(),_,⟨rfl,trivial⟩,hB,g0⟩
 rintro y3 z3 ⟨v1,a4,w0,hB,g0⟩
 refine Bc _ w0 ?_
 refine AR ?_
 obtain rfl:=sm hm
 obtain ⟨O',hS',hz,hl⟩:=hE.leave (fun q=>if q=2 then i0 else 0) rfl hB
 exact ret1v rfl (AO rfl) ⟨O',hS',(Ob.leave g0 hz (hl 2 (by decide) (by decide)) r0.2),vBool⟩
noncomputable def Co (x0:BxR 67 73 OEn) (x1:An 73 OEn):Option (BxR 67 73 OEn) :=
  bnd (DD x0 (⟨x1.x⟩:An 73 OEn)) fun q9=>bnd (BO q9.l) fun q26=>bnd (chkI (q26 - 1)) fun n34=>bnd (CP q9 n34) fun q42=>some q42
theorem Gs {w:World} {O:Lab} {cx:Cx} {p0 i0:Nat} {x0:BxR 67 73 OEn} (a0:Ob i0 w O (.pointer (some ⟨p0,cx.pre.length,none⟩)) (BxR.c cx x0)) {vx1:Value} {x1:An 73 OEn} (d0:Vb w (Fr 0 w O) vx1 x1) {r:(BxR 67 73 OEn)} (hm:Co x0 x1=some r) :
    Fn Tryz.prog 59 [(.iface 76 (.pointer (some ⟨p0,cx.pre.length,none⟩))),vx1] w fun v w'=>∃ O',St (eT i0) w O w' O'∧Ob i0 w' O' (.pointer (some ⟨p0,cx.pre.length,none⟩)) (BxR.c cx r):=by
 obtain ⟨O0,hE,f0,h0⟩:=ent1 (w:=w) (O:=O) a0.2
 have a0':=Ob.leave a0 f0 h0 (j:=2) (by decide)
 have hB:Bm w O0 w O0:=Bm.refl
 replace d0:=d0.mono f0
 obtain ⟨v3,rfl,h4⟩:=d0.any
 obtain ⟨f1,rfl,rfl,r6,r7,r8⟩:=h4
 refine AQ Tryz.func59 rfl Tryz.ntmps59 rfl ?_
 unfold Co at hm
 refine Al (Aj (Ar rfl rfl (Ar rfl rfl ?_)))
 obtain ⟨q9,j0,hm⟩:=bs hm
 refine Hl (O:=O0) (HO a0' (vAny (Vb.ofAgg (cs:=[(.int .i64 x1.x.cost),(.int .i64 x1.x.number),(.int .i64 x1.x.node)]) (x:=x1.x) rfl ⟨rfl,r6,r7,r8⟩)) j0) Lw rfl rfl rfl fun g1 k0 h1 m0 n0=>?_
 refine o_z ?_
 refine Aj (Ar rfl rfl (Ar rfl rfl ?_))
 obtain ⟨o0,i1,q0,r0,c0,b0⟩:=BxC.opn n0 2 3 (by decide)
 obtain ⟨j1,k1,rfl⟩:=b0.form
 obtain ⟨s0,t0,hm⟩:=bs hm
 refine Hm (O:=o0) (A:=All k0) (R:=fun w' F v=>Vb w' F v s0) (ED (fun _ h=>h) (b0).all t0) (EK (cxcell c0.1)) rfl rfl rfl fun m1 n1 o1 e0 u0=>?_
 obtain ⟨rfl,p1⟩:=u0.int
 obtain ⟨q1,g0,hm⟩:=bs hm
 have v0:=(BI g0)
 refine FY (he:=g0) rfl rfl rfl ?_
 replace c0:=c0.st e0
 replace b0:=b0.st e0
 obtain ⟨w0,y0,z0,a1,b1⟩:=BxC.shut (x:=q9) (l0:=2) (l1:=3) (by decide) c0 b0
 obtain ⟨r1,c1,hm⟩:=bs hm
 refine EJ (O:=w0) (GY b1 v0 c1) rfl rfl fun s1 t1 u1 d1 e1=>?_
 refine o_z ?_
 obtain rfl:=sm hm
 replace hB:=((((hB.st m0).st q0).st e0).st y0).st d1
 obtain ⟨O',hS',hz,hl⟩:=hE.leave (fun q=>if q=2 then i0 else 0) rfl hB
 exact ret0n rfl  ⟨O',hS',(Ob.leave e1 hz (hl 2 (by decide) (by decide)) a0.2)⟩
noncomputable def Ct (x0:BxR 67 73 OEn):Option ((An 73 OEn)×(BxR 67 73 OEn)) :=
  bnd (BO x0.l) fun q11=>bnd (chkI (q11 - 1)) fun n19=>bnd (BG x0.l 0 n19) fun q22=>bnd (CF (⟨q22⟩:BxR 67 73 OEn) 0 n19) fun q35=>bnd (DW q35.2) fun q44=>some ((⟨q44.1.x⟩:An 73 OEn),q44.2)
theorem GD {w:World} {O:Lab} {cx:Cx} {p0 i0:Nat} {x0:BxR 67 73 OEn} (a0:Ob i0 w O (.pointer (some ⟨p0,cx.pre.length,none⟩)) (BxR.c cx x0)) {r:(An 73 OEn)×(BxR 67 73 OEn)} (hm:Ct x0=some r) :
    Fn Tryz.prog 27 [(.iface 76 (.pointer (some ⟨p0,cx.pre.length,none⟩)))] w fun v w'=>∃ O',St (eT i0) w O w' O'∧Ob i0 w' O' (.pointer (some ⟨p0,cx.pre.length,none⟩)) (BxR.c cx r.2)∧Vb w' (Fr 0 w' O') v r.1:=by
 obtain ⟨O0,hE,h0,j0⟩:=ent1 (w:=w) (O:=O) a0.2
 have a0':=Ob.leave a0 h0 j0 (j:=2) (by decide)
 have hB:Bm w O0 w O0:=Bm.refl
 refine AQ Tryz.func27 rfl Tryz.ntmps27 rfl ?_
 unfold Ct at hm
 refine Al (Aj (Ay rfl rfl (o_z ?_)))
 refine Al (Aj (Ar rfl rfl ?_))
 obtain ⟨O2,v6,S3,p1,h4,h7⟩:=BxC.opn a0' 2 3 (by decide)
 obtain ⟨A8,c9,rfl⟩:=h7.form
 obtain ⟨k0,m0,hm⟩:=bs hm
 refine Hm (O:=O2) (A:=All w) (R:=fun w' F v=>Vb w' F v k0) (ED (fun _ h=>h) (h7).all m0) (EK (cxcell h4.1)) rfl rfl rfl fun q1 r1 n0 c0 o0=>?_
 obtain ⟨rfl,s1⟩:=o0.int
 obtain ⟨t1,d0,hm⟩:=bs hm
 have e0:=(BI d0)
 refine FY (he:=d0) rfl rfl rfl ?_
 refine Ay rfl rfl (o_z ?_)
 refine Al (Aj (Ar rfl rfl (Ar rfl rfl ?_)))
 obtain ⟨q0,r0,hm⟩:=bs hm
 replace h4:=h4.st c0
 replace h7:=h7.st c0
 refine Hl (O:=n0) (Er h7 (show inI64 (0) from by decide) e0 r0) (EK (cxcell h4.1)) rfl rfl rfl fun u1 v1 w1 f0 g0=>?_
 refine o_z ?_
 refine Al (Aj (Ar rfl rfl (Ar rfl rfl ?_)))
 replace h4:=h4.st f0
 obtain ⟨s0,t0,u0,v0,w0⟩:=BxC.shut (x:=(⟨q0⟩:BxR 67 73 OEn)) (l0:=2) (l1:=3) (by decide) (by have q:=h4;rw [← g0.len.1.symm] at q;exact q) g0.relen
 obtain ⟨x1,y0,hm⟩:=bs hm
 refine EJ (O:=s0) (Gr w0 (show inI64 (0) from by decide) e0 y0) rfl rfl fun y1 z1 z0 a1 b1=>?_
 obtain ⟨c1,d1⟩:=b1
 obtain rfl:=d1.bool
 refine o_z ?_
 refine Al (Aj (Ar rfl rfl ?_))
 obtain ⟨b0,e1,hm⟩:=bs hm
 refine Hl (O:=z0) (Ik c1 e1) Lw rfl rfl rfl fun a2 b2 c2 f1 g1=>?_
 obtain ⟨h1,i1⟩:=g1
 obtain ⟨d2,rfl,j1⟩:=i1.any
 obtain ⟨k1,rfl,rfl,m1,n1,o1⟩:=j1
 refine Ay rfl rfl (o_z ?_)
 refine AR ?_
 obtain rfl:=sm hm
 replace hB:=(((((hB.st S3).st c0).st f0).st t0).st a1).st f1
 obtain ⟨O',hS',hz,hl⟩:=hE.leave (fun q=>if q=2 then i0 else 0) rfl hB
 exact ret1v rfl (AO rfl) ⟨O',hS',(Ob.leave h1 hz (hl 2 (by decide) (by decide)) a0.2),(vAny (Vb.ofAgg (cs:=[(.int .i64 b0.1.x.cost),(.int .i64 b0.1.x.number),(.int .i64 b0.1.x.node)]) (x:=b0.1.x) rfl ⟨rfl,m1,n1,o1⟩))⟩
end
section
open Go.Shelf
def Tryz.laysS_f96_ren:Go.Shelf.Ren:=⟨fun|6=>96|15=>105|14=>104|28=>116|29=>117|20=>108|21=>109|22=>110|23=>111|24=>112|25=>113|26=>114|27=>115|46=>127|47=>128|48=>129|49=>130|50=>131|57=>135|n=>n,fun|22=>23|24=>45|25=>159|3=>3|39=>166|0=>0|53=>176|55=>178|4=>4|46=>170|45=>169|50=>86|5=>5|9=>9|66=>184|70=>188|76=>192|77=>193|n=>n,fun|n=>n⟩
theorem Tryz.laysS_f96:Go.Proofs.SlLaysF0.n6 Tryz.prog Tryz.laysS_f96_ren:={
  mixed:=by kernel_rfl
  f6:=⟨Tryz.f96.name,by decide,Tryz.func96.trans (congrArg some (by kernel_rfl))⟩
  f14:=⟨Tryz.f104.name,by decide,Tryz.func104.trans (congrArg some (by kernel_rfl))⟩
  f15:=Tryz.func105.trans (congrArg some (by kernel_rfl))
  f20:=⟨Tryz.f108.name,by decide,Tryz.func108.trans (congrArg some (by kernel_rfl))⟩
  f21:=⟨Tryz.f109.name,by decide,Tryz.func109.trans (congrArg some (by kernel_rfl))⟩
  f22:=⟨Tryz.f110.name,by decide,Tryz.func110.trans (congrArg some (by kernel_rfl))⟩
  f23:=⟨Tryz.f111.name,by decide,Tryz.func111.trans (congrArg some (by kernel_rfl))⟩
  f24:=⟨Tryz.f112.name,by decide,Tryz.func112.trans (congrArg some (by kernel_rfl))⟩
  f25:=⟨Tryz.f113.name,by decide,Tryz.func113.trans (congrArg some (by kernel_rfl))⟩
  f26:=⟨Tryz.f114.name,by decide,Tryz.func114.trans (congrArg some (by kernel_rfl))⟩
  f27:=⟨Tryz.f115.name,by decide,Tryz.func115.trans (congrArg some (by kernel_rfl))⟩
  f28:=Tryz.func116.trans (congrArg some (by kernel_rfl))
  f29:=Tryz.func117.trans (congrArg some (by kernel_rfl))
  f46:=⟨Tryz.f127.name,by decide,Tryz.func127.trans (congrArg some (by kernel_rfl))⟩
  f47:=Tryz.func128.trans (congrArg some (by kernel_rfl))
  f48:=Tryz.func129.trans (congrArg some (by kernel_rfl))
  f49:=⟨Tryz.f130.name,by decide,Tryz.func130.trans (congrArg some (by kernel_rfl))⟩
  f50:=⟨Tryz.f131.name,by decide,Tryz.func131.trans (congrArg some (by kernel_rfl))⟩
  f57:=⟨Tryz.f135.name,by decide,Tryz.func135.trans (congrArg some (by kernel_rfl))⟩
  t0:=Tryz.underlying0
  a0:=Tryz.isAgg0
  z0:=Tryz.sizeOf0
  v0:=Tryz.zeroValue0
  t3:=Tryz.underlying3
  a3:=Tryz.isAgg3
  z3:=Tryz.sizeOf3
  v3:=Tryz.zeroValue3
  t4:=Tryz.underlying4
  a4:=Tryz.isAgg4
  z4:=Tryz.sizeOf4
  v4:=Tryz.zeroValue4
  t5:=Tryz.underlying5
  a5:=Tryz.isAgg5
  z5:=Tryz.sizeOf5
  v5:=Tryz.zeroValue5
  t9:=Tryz.underlying9
  a9:=Tryz.isAgg9
  z9:=Tryz.sizeOf9
  v9:=Tryz.zeroValue9
  t22:=Tryz.underlying23
  a22:=Tryz.isAgg23
  z22:=Tryz.sizeOf23
  v22:=Tryz.zeroValue23
  t25:=Tryz.underlying159
  a25:=Tryz.isAgg159
  z25:=Tryz.sizeOf159
  v25:=Tryz.zeroValue159
  t39:=Tryz.underlying166
  a39:=Tryz.isAgg166
  z39:=Tryz.sizeOf166
  v39:=Tryz.zeroValue166
  t45:=Tryz.underlying169
  a45:=Tryz.isAgg169
  z45:=Tryz.sizeOf169
  v45:=Tryz.zeroValue169
  t46:=Tryz.underlying170
  a46:=Tryz.isAgg170
  z46:=Tryz.sizeOf170
  v46:=Tryz.zeroValue170
  t50:=Tryz.underlying86
  a50:=Tryz.isAgg86
  z50:=Tryz.sizeOf86
  v50:=Tryz.zeroValue86
  t53:=Tryz.underlying176
  a53:=Tryz.isAgg176
  z53:=Tryz.sizeOf176
  v53:=Tryz.zeroValue176
  t55:=Tryz.underlying178
  a55:=Tryz.isAgg178
  z55:=Tryz.sizeOf178
  v55:=Tryz.zeroValue178
  t66:=Tryz.underlying184
  a66:=Tryz.isAgg184
  z66:=Tryz.sizeOf184
  v66:=Tryz.zeroValue184
  t70:=Tryz.underlying188
  a70:=Tryz.isAgg188
  z70:=Tryz.sizeOf188
  v70:=Tryz.zeroValue188
  t76:=Tryz.underlying192
  a76:=Tryz.isAgg192
  z76:=Tryz.sizeOf192
  v76:=Tryz.zeroValue192
  t77:=Tryz.underlying193
  a77:=Tryz.isAgg193
  z77:=Tryz.sizeOf193
  v77:=Tryz.zeroValue193 }
open Go.RowKit Go.Lib Go.Sort in
theorem Tryz.sortF_eq {α:Type} [Inhabited α] (k:Nat) (aE:∀ w,(isAgg 45).run Tryz.prog w=.ok true w) (zE:∀ w,(Go.sizeOf 45).run Tryz.prog w=.ok k w) (enc:α→List Value) (hk:∀ x,(enc x).length=k) (h1:∀ x,∀ v∈enc x,v.oneCell'=true) (cf:α→α→Int) (hO:SWO (ltOf cf)) (g:Nat) (cb:Array Value) (blk off cap:Nat) (d:Array α) (w:World) (eg:∀ args w,(callFunc g args).run Tryz.prog w=.ok (.enter g args) w) (hcmp:CmpLays Tryz.prog g cb enc k cf blk off d.size w) (hH:HoldsK enc k w blk off d) (hblk:blk < w.heap.size) (hsz:d.size < 4611686018427387904) :
    Calls Tryz.prog 96 #[.slice (some ⟨blk,off,none⟩) d.size cap,.func (.func g) #[] cb] w fun e w' =>
      e=.returned (.tuple #[])∧∃ n os,w'=sortWorldK enc k w blk off n (pdq (ltOf cf) d 0 d.size (Lib.bitLen d.size) true true) os:=AnyQ.slices_SortFunc_eq Tryz.laysS_f96 k aE zE enc hk h1 cf hO g cb blk off cap d w eg hcmp hH hblk hsz
open Go.RowKit Go.Lib Go.Sort in
theorem Tryz.sortF_none {α:Type} [Inhabited α] (p:Option Addr) (cap:Nat) (fv:Value) (w:World) :
    Calls Tryz.prog 96 #[.slice p 0 cap,fv] w fun e w'=>e=.returned (.tuple #[])∧w'=w:=AnyF.slices_SortFunc_none Tryz.laysS_f96 p cap fv w
end
section
open Go Go.RowKit Go.Lib Go.Sort
instance:Inhabited Fct:=⟨⟨0,0⟩⟩
def encF (x:Fct):List Value:=[.int .i64 x.var,.int .i64 x.val]
def cfF (x y:Fct):Int:=Lib.compareInt x.var y.var
theorem ltF (x y:Fct):ltOf cfF x y=decide (x.var < y.var):=by
  unfold ltOf cfF Lib.compareInt
  by_cases h:x.var < y.var
  · simp [h]
  · by_cases h2:y.var < x.var<;>simp [h,h2]
theorem swoF:SWO (ltOf cfF) where
  irrefl x:=by rw [ltF];simp
  trans x y z h1 h2:=by rw [ltF] at *;simp at *;omega
  ntrans x y z h1 h2:=by rw [ltF] at *;simp at *;omega
theorem compareI (a b:Int) (W:World):Calls Tryz.prog 98 #[.int .i64 a,.int .i64 b] W fun e w'=>e=.returned (.int .i64 (Lib.compareInt a b))∧w'=W:=by
  go_enter Tryz.func98,Tryz.ntmps98
  go_wp2
  · go_ret
    have h:a < b:=by assumption
    exact ⟨by simp [Lib.compareInt,h],rfl⟩
  · go_ret
    have h:b < a:=by assumption
    have h2:¬ a < b:=by omega
    exact ⟨by simp [Lib.compareInt,h,h2],rfl⟩
  · go_ret
    have h1:b≤a:=by assumption
    have h2:a≤b:=by assumption
    have h3:¬ a < b:=by omega
    have h4:¬ b < a:=by omega
    exact ⟨by simp [Lib.compareInt,h3,h4],rfl⟩
theorem closureF (x y:Fct) (W:World):Calls Tryz.prog 97 #[.agg #[.int .i64 x.var,.int .i64 x.val],.agg #[.int .i64 y.var,.int .i64 y.val]] W fun e w'=>e=.returned (.int .i64 (cfF x y))∧∃ q os',w'=grow (W.drewN q) os':=by
  have hcon:=fun W'=>compareI x.var y.var W'
  unfold cfF
  generalize Lib.compareInt x.var y.var=r at hcon ⊢
  go_enter Tryz.func97,Tryz.ntmps97
  go_wp2_with (go_at_call 98;refine (hcon _).mono ?_;rintro e w' ⟨rfl,rfl⟩)
  go_ret
  exact ⟨rfl,0,_,by rw [alloc_eq_grow,alloc_eq_grow,grow_grow];rfl⟩
theorem cmpLaysF (blk off size:Nat) (w:World):CmpLays Tryz.prog 97 #[] encF 2 cfF blk off size w:=fun _ _ _ _ x y=>closureF x y _
def Bd (xs:List Fct):List Fct:=(pdq (ltOf cfF) xs.toArray 0 xs.length (Lib.bitLen xs.length) true true).toList
theorem LA (xs:List Fct):PermIn 0 xs.toArray.size xs.toArray (Bd xs).toArray∧SortedIn (ltOf cfF) 0 xs.toArray.size (Bd xs).toArray:=by
  have:=pdq_sorts (ltOf cfF) swoF xs.toArray 0 xs.toArray.size (Lib.bitLen xs.length) true true (Nat.zero_le _) (Nat.le_refl _) (Or.inl rfl)
  simpa [Bd] using this
theorem Dv (xs:List Fct):(Bd xs).Perm xs:=by
  obtain ⟨⟨hsz,_,hperm⟩,_⟩:=LA xs
  have e1:(Bd xs).toArray.extract 0 xs.toArray.size=(Bd xs).toArray:=by rw [← hsz];exact Array.extract_size
  rw [e1,Array.extract_size] at hperm
  simpa using hperm
theorem CZ (xs:List Fct):(Bd xs).length=xs.length:=(Dv xs).length_eq
theorem Le (xs:List Fct):(Bd xs).Pairwise fun x y=>x.var≤y.var:=by
  obtain ⟨_,hs⟩:=LA xs
  have hl:=CZ xs
  rw [List.pairwise_iff_getElem]
  intro i j hi hj hij
  have:=hs i j (Nat.zero_le _) hij (by simp;omega)
  rw [getElem!_pos _ j (by simpa using hj),getElem!_pos _ i (by simpa using hi),ltF] at this
  simpa using this
theorem flatF:∀ (xs:List Fct),(flatK encF 2 xs.toArray).toList=xs.flatMap encF:=fun xs=>by
  apply List.ext_getElem?
  intro t
  have key:∀ (l:List Fct) (t:Nat),(l.flatMap encF)[t]?=(l[t / 2]?).bind fun x=>(encF x)[t % 2]?:=by
    intro l
    induction l with
    | nil=>intro t;simp
    | cons x l ih =>
      intro t
      rw [List.flatMap_cons]
      match t with
      | 0=>rfl
      | 1=>rfl
      | t + 2 =>
        rw [List.getElem?_append_right (by simp [encF]),show t + 2 - (encF x).length=t from by simp [encF],ih]
        rw [show (t + 2) / 2=t / 2 + 1 from by omega,show (t + 2) % 2=t % 2 from by omega]
        simp
  rw [key]
  by_cases ht:t < xs.length * 2
  · have h1:t / 2 < xs.length:=by omega
    have hsz:t < (flatK encF 2 xs.toArray).size:=by simpa using ht
    rw [Array.getElem?_toList,Array.getElem?_eq_getElem hsz,List.getElem?_eq_getElem h1,Option.bind_some]
    have:=get_flatK encF 2 xs.toArray t (by simpa using ht)
    rw [getElem!_pos (flatK encF 2 xs.toArray) t hsz,getElem!_pos xs.toArray (t / 2) (by simpa using h1)] at this
    rw [this]
    have h2:t % 2 < (encF xs[t / 2]).length:=by simp [encF];omega
    rw [List.getElem?_eq_getElem h2,List.getElem_toArray,getElem!_pos (encF xs[t / 2]) (t % 2) h2]
  · have h1:(flatK encF 2 xs.toArray).size≤t:=by rw [size_flatK];simpa using (by omega:xs.length * 2≤t)
    have h2:xs[t / 2]?=none:=List.getElem?_eq_none (by omega)
    rw [Array.getElem?_toList,Array.getElem?_eq_none h1,h2]
    rfl
theorem IP {w:World} {F:Nat→Prop}:∀ {xs:List Fct} {cells:List Value},Chunks w F cells xs→cells=xs.flatMap encF∧∀ x∈xs,inI64 x.var∧inI64 x.val
  | [],_,h=>⟨h,fun _ hx=>by simp at hx⟩
  | x :: xs,cells,⟨cs,rest,he,hr,hc⟩=>by
    obtain ⟨h1,h2⟩:=IP hc
    obtain ⟨h3,h4⟩:=hr
    refine ⟨by rw [he,h3,h1];rfl,fun y hy=>?_⟩
    rcases List.mem_cons.1 hy with rfl|hy
    · exact h4
    · exact h2 y hy
theorem IQ {w:World} {F:Nat→Prop}:∀ {xs:List Fct},(∀ x∈xs,inI64 x.var∧inI64 x.val)→Chunks w F (xs.flatMap encF) xs
  | [],_=>rfl
  | x :: xs,h=>⟨encF x,xs.flatMap encF,rfl,⟨rfl,h x (by simp)⟩,IQ fun y hy=>h y (by simp [hy])⟩
theorem DT (xs:List Fct):(xs.flatMap encF).length=xs.length * 2:=by rw [← flatF,Array.length_toList,size_flatK];simp
theorem GE {i:Nat} {w:World} {O:Lab} {v:Value} {xs:List Fct} (hR:Rw i w O 45 v xs) (hl:xs.length < 4611686018427387904) :
    Fn Tryz.prog 96 [v,.func (.func 97) #[] #[]] w fun _ w'=>∃ O',St (eT i) w O w' O'∧Rw i w' O' 45 v (Bd xs):=by
  intro d
  rcases Nat.eq_zero_or_pos xs.length with h0|h0
  · have hx:xs=[]:=List.eq_nil_of_length_eq_zero h0
    subst hx
    obtain ⟨p,c,rfl⟩:=hR.form
    have hs:Bd []=[]:=List.eq_nil_of_length_eq_zero (CZ [])
    exact (Tryz.sortF_none (α:=Fct) p c _ (dr w d)).mono fun e w' ⟨he,hw⟩=>⟨_,w,d,he,hw,O,St.refl _ _ _,by rw [hs];exact hR⟩
  · obtain ⟨g,cap,cells,sp,rfl,hg,hFg,hb,hc,hlen,hnc,hcm,htot⟩:=hR.1.open h0
    obtain ⟨rfl,hin⟩:=IP hc
    have hfl:=flatF xs
    have hH:HoldsK encF 2 (dr w d) g 0 xs.toArray:=fun j hj=>by
      have hj':j < xs.length * 2:=by simpa using hj
      refine ⟨?_,by rw [Nat.zero_add];exact hb.frozen j⟩
      rw [Nat.zero_add]
      refine hb.cell ?_
      rw [List.getElem?_append_left (by rw [DT];exact hj'),← hfl,Array.getElem?_toList,Array.getElem?_eq_getElem hj,getElem!_pos _ j hj]
      rfl
    have aE:∀ w,(isAgg 45).run Tryz.prog w=.ok true w:=fun w=>Fp w
    have zE:∀ w,(Go.sizeOf 45).run Tryz.prog w=.ok 2 w:=fun w=>Dr w
    have eg:∀ args w,(callFunc 97 args).run Tryz.prog w=.ok (.enter 97 args) w:=enters_of Tryz.func97 (by kernel_rfl) rfl
    have hcall:=Tryz.sortF_eq 2 aE zE encF (fun _=>rfl) (fun x v hv=>by simp [encF] at hv;rcases hv with rfl|rfl<;>rfl) cfF swoF 97 #[] g 0 cap xs.toArray (dr w d) eg (cmpLaysF g 0 _ _) hH hb.lt (by simpa using hl)
    have e1:xs.toArray.size=xs.length:=by simp
    rw [e1] at hcall
    refine hcall.mono fun e w' ⟨he,n,os,hw⟩=>⟨_,w',w'.drawn,he,rfl,upO O w.heap.size (fun _=>0),?_,?_⟩
    · subst hw
      refine ⟨rfl,rfl,rfl,?_,fun k hk hne=>⟨?_,Ed hk⟩⟩
      · show w.heap.size≤((w.heap.modify g _) ++ os).size
        simp
      · have hkg:g≠k:=fun e=>hne (by rw [← e];exact hR.2.1 g rfl)
        show ((w.heap.modify g _) ++ os)[k]?=_
        rw [Array.getElem?_append_left (by simpa using hk),Array.getElem?_modify,if_neg hkg]
    · have hpd:pdq (ltOf cfF) xs.toArray 0 xs.length (Lib.bitLen xs.length) true true=(Bd xs).toArray:=by simp [Bd]
      rw [hpd] at hw
      have hsl:=CZ xs
      have hf2:=flatF (Bd xs)
      have hblk:Blk w' g 45 ((Bd xs).flatMap encF ++ sp):=by
        subst hw
        unfold Blk at hb ⊢
        have hsz:g < w.heap.size:=Blk.lt hb
        show ((w.heap.modify g _) ++ os)[g]?=_
        rw [Array.getElem?_append_left (by simpa using hsz),Array.getElem?_modify,if_pos rfl,hb]
        simp only [Option.map_some,Go.Sort.onCells]
        congr 2
        apply Array.ext
        · simp only [Go.Sort.putCells,Array.size_mapIdx,List.size_toArray,List.length_append,DT,hsl]
        · intro i h1 h2
          simp only [Go.Sort.putCells,Array.getElem_mapIdx,Nat.zero_add,Nat.sub_zero,Nat.zero_le,true_and]
          have e2:(flatK encF 2 (Bd xs).toArray).size=xs.length * 2:=by rw [size_flatK];simp [hsl]
          by_cases hi:i < xs.length * 2
          · rw [if_pos (by rw [e2];exact hi)]
            simp only [List.getElem_toArray]
            rw [List.getElem_append_left (by rw [DT,hsl];exact hi)]
            rw [getElem!_pos _ _ (by rw [e2];exact hi)]
            have:=congrArg (·[i]?) hf2
            simp only [Array.getElem?_toList] at this
            rw [Array.getElem?_eq_getElem (by rw [e2];exact hi),List.getElem?_eq_getElem (by rw [DT,hsl];exact hi)] at this
            exact Option.some.inj this
          · rw [if_neg (by rw [e2];exact hi)]
            simp only [List.getElem_toArray]
            rw [List.getElem_append_right (by rw [DT];omega),List.getElem_append_right (by rw [DT,hsl];omega)]
            simp only [DT,hsl]
      have hS:∀ k,Fr 0 w O k→Fr 0 w' (upO O w.heap.size fun _=>0) k:=fun k hk=>⟨by subst hw;show k < ((w.heap.modify g _) ++ os).size;have:=hk.1;simp;omega,(Ed hk.1).trans hk.2⟩
      have:=Own.close (w:=w') (base:=0) (F:=Fr 0 w O) (cap:=cap) (Nat.zero_le _) hFg hblk (IQ (F:=Fr 0 w O) (w:=w') fun x hx=>hin x ((Dv xs).mem_iff.1 hx)) (by rw [hsl];exact hnc) hcm (by rw [List.length_append,DT] at htot ⊢;rw [hsl];exact htot)
      rw [hsl] at this
      exact this.rw hS (fun g' hg'=>by
        have:g=g':=by simpa [Value.ownBlock] using hg'
        subst this
        exact (Ed hb.lt).trans (hR.2.1 g rfl)) hR.2.2
end
section
open Go Go.RowKit
attribute [local irreducible] ewp owp hwp hwq hws Ev Evg Fn retPost loud loudS Res1
noncomputable def Cv (x0:Swp) (x1:List Fct):Option (List Fct) :=
  bnd (rng (ρ:=(List Fct)) (fun (k29:Nat) (a30:Fct) (s27:(List Fct))=>bnd (atI x0.vars a30.var) fun a60=>bnd (atI x0.vals a30.var) fun a72=>bnd (atI a72 a30.val) fun a87=>bnd (appI 16 s27 [(⟨a60,a87⟩:Fct)]) fun u105=>some (.next u105)) x1 0 ([]:List Fct)) fun res25=>fin res25 fun (s120:(List Fct))=>bnd (if s120.length < 4611686018427387904 then some (Bd s120) else none) fun u127=>some u127
theorem DE {w:World} {A:Nat→Prop} (hA:∀ k,A k→k < w.heap.size) {vx0:Value} {x0:Swp} (v0:Vb w A vx0 x0) {vx1:Value} {x1:List Fct} (d0:Vb w A vx1 x1) {r:(List Fct)} (hm:Cv x0 x1=some r) :
    Fn Tryz.prog 78 [vx0,vx1] w fun v w'=>Ext w w'∧Vb w' (upA A w w') v r:=by
 obtain ⟨O,hB,j2⟩:=enter hA
 replace v0:=v0.mono j2
 obtain ⟨w3,rfl,v4,v5,v6,rfl,h7,g0,j0⟩:=v0
 obtain ⟨A8,c9,rfl⟩:=h7.form
 obtain ⟨w0,y0,rfl⟩:=g0.form
 obtain ⟨z0,a1,rfl⟩:=j0.form
 replace d0:=d0.mono j2
 obtain ⟨k2,l2,rfl⟩:=d0.form
 refine AQ Tryz.func78 rfl Tryz.ntmps78 rfl ?_
 unfold Cv at hm
 refine Al (Aj (Cp 2 O rfl rfl fun b1 o2 m2 p0 h0=>?_))
 replace h0:Lc 2 o2 m2 b1 53 [(.slice A8 x0.vars.length c9),(.slice w0 x0.vals.length y0),(.slice z0 x0.ops.length a1)]:=h0
 refine Ay rfl rfl (o_z ?_)
 refine Al (Aj (Ay rfl rfl (o_z ?_)))
 refine Al (Al (Aj (Ar rfl rfl (Bj rfl rfl ?_))))
 replace d0:=d0.st p0
 have c1:x1.length≤9223372036854775807:=Nat.le_trans d0.len.2.1 d0.len.2.2
 have x3:inI64 (x1.length:Int):=rngNat c1
 refine Ar rfl rfl (o_z ?_)
 obtain ⟨q0,d1,hm⟩:=bs hm
 refine AU (aft q0 (fun (i0:(List Fct)) (e0:(Option Addr×Nat))=>[(5,(.slice e0.1 i0.length e0.2))]) (fun i0 e0 w'=>∃ O':Lab,Bs w A w' O'∧Rw 5 w' O' 45 (.slice e0.1 i0.length e0.2) i0)) ?_ ?_
 ·
  refine Bf ?_
  replace hB:=hB.st p0
  replace h7:=h7.st p0
  replace g0:=g0.st p0
  replace j0:=j0.st p0
  refine BS (σ:=(List Fct)) (X:=(Option Addr×Nat)) (x1.length) d1 rfl c1 (fun (i0:(List Fct)) (e0:(Option Addr×Nat))=>[(2,(.pointer (some ⟨b1,0,none⟩))),(5,(.slice e0.1 i0.length e0.2)),(8,(.slice k2 x1.length l2))]) _ (fun i0 e0 w'=>∃ O':Lab,Bs w A w' O'∧Lc 2 w' O' b1 53 [(.slice A8 x0.vars.length c9),(.slice w0 x0.vals.length y0),(.slice z0 x0.ops.length a1)]∧Vb w' (Fr 0 w' O') (.slice A8 x0.vars.length c9) x0.vars∧Vb w' (Fr 0 w' O') (.slice w0 x0.vals.length y0) x0.vals∧Vb w' (Fr 0 w' O') (.slice z0 x0.ops.length a1) x0.ops∧Rw 5 w' O' 45 (.slice e0.1 i0.length e0.2) i0∧Vb w' (Fr 0 w' O') (.slice k2 x1.length l2) x1) _ (none,0) ⟨m2,hB,h0,h7,g0,j0,(Rw.nil 5 (by decide)),d0⟩ ⟨rfl,rfl,rfl,rfl,rfl,trivial⟩ (fun _ _=>⟨rfl,rfl⟩) (fun _ _=>⟨rfl,trivial⟩) (fun _ _ _ ⟨O',hB,h0,h7,g0,j0,f0,d0⟩=>⟨O',hB,f0⟩) ⟨rfl,rfl,rfl⟩ ⟨rfl,rfl⟩ ?_
  rintro p2 n2 i0 e0 y3 q2 r0 ⟨r2,hB,h0,h7,g0,j0,f0,d0⟩ a0 e1 f1
  have rk29:inI64 (p2:Int):=rngK r0 c1
  refine Al (Aj ?_)
  obtain ⟨z3,a4,s2,g1,h1,i1,rfl,b4,c4⟩:=d0.elem' r0
  refine BB (hA:=g1) (hj:=rfl) (hlt:=h1) rfl rfl rfl ?_
  refine Br (hl:=rfl) (hc:=i1) rfl rfl ?_
  refine Bk 3 r2 rfl fun t2 d4 j1 k0 l0=>?_
  refine AA l0 rfl rfl rfl (AG rfl) (allOne rfl) fun u2 m0 l0=>?_
  replace l0:Lc 3 u2 j1 t2 45 [(.int .i64 n2.var),(.int .i64 n2.val)]:=l0
  refine o_z ?_
  refine Bw [(19,[5])] j1 ?_
  refine AD (fuel:=3) [] [(0,true),(1,true),(2,true),(3,true),(4,true),(5,true),(6,true),(7,true),(8,true),(9,true),(10,true),(11,true),(12,true),(13,true),(14,true),(15,true),(16,true),(17,true)] (by kernel_rfl) rfl ?_
  refine AW rfl rfl rfl (AJ rfl rfl rfl ?_)
  replace h0:=(h0.st k0).st m0
  refine Bb (hc:=fun w' ⟨O',hq⟩=>Blk.cell (i:=0) ((h0.st hq (by decide)).1) rfl) rfl rfl rfl ?_
  refine AJ rfl rfl rfl (Bb (hc:=fun w' ⟨O',hq⟩=>Blk.cell (i:=0) ((l0.st hq (by decide)).1) rfl) rfl rfl rfl ?_)
  obtain ⟨k1,v2,a0⟩:=bs a0
  obtain ⟨w2,x2⟩:=Ba v2
  replace h7:=(h7.st k0).st m0
  obtain ⟨e4,f4,y2,l1,m1,n1,o1,rfl,z2⟩:=h7.elem x2
  refine BC (hA:=l1) (hj:=(Int.toNat_of_nonneg w2).symm) (hlt:=n1) rfl rfl rfl rfl ?_
  refine Bb (hc:=fun w' ⟨O',hq⟩=>cat0 (Bg (hq.agree (i:=0) (by decide)) m1 o1)) rfl rfl rfl ?_
  refine AJ rfl rfl rfl (Bb (hc:=fun w' ⟨O',hq⟩=>Blk.cell (i:=1) ((h0.st hq (by decide)).1) rfl) rfl rfl rfl ?_)
  refine AJ rfl rfl rfl (Bb (hc:=fun w' ⟨O',hq⟩=>Blk.cell (i:=0) ((l0.st hq (by decide)).1) rfl) rfl rfl rfl ?_)
  obtain ⟨g4,a3,a0⟩:=bs a0
  obtain ⟨b3,c3⟩:=Ba a3
  replace g0:=(g0.st k0).st m0
  obtain ⟨h4,i4,d3,p1,q1,r1,s1,j4,rfl,u0⟩:=g0.elem c3
  replace u0:=Vb.of_slice u0
  obtain ⟨k4,l4,rfl⟩:=u0.form
  refine BC (hA:=p1) (hj:=(Int.toNat_of_nonneg b3).symm) (hlt:=r1) rfl rfl rfl rfl ?_
  refine Bb (hc:=fun w' ⟨O',hq⟩=>cat0 (Bg (hq.agree (i:=0) (by decide)) q1 s1)) rfl rfl rfl ?_
  refine AJ rfl rfl rfl (Bb (hc:=fun w' ⟨O',hq⟩=>Blk.cell (i:=1) ((l0.st hq (by decide)).1) rfl) rfl rfl rfl ?_)
  obtain ⟨t1,e3,a0⟩:=bs a0
  obtain ⟨f3,g3⟩:=Ba e3
  obtain ⟨m4,n4,h3,u1,v1,w1,y1,rfl,i3⟩:=u0.elem g3
  refine BC (hA:=u1) (hj:=(Int.toNat_of_nonneg f3).symm) (hlt:=w1) rfl rfl rfl rfl ?_
  refine Bb (hc:=fun w' ⟨O',hq⟩=>cat0 (Bg (hq.agree (i:=0) (by decide)) v1 y1)) rfl rfl rfl ?_
  refine De rfl rfl rfl rfl ?_
  refine Au ?_
  refine At (i:=18) (by kernel_rfl) rfl ?_
  refine AM 4 (by decide) j1 (xs:=([(⟨k1,t1⟩:Fct)]:List Fct)) rfl rfl rfl rfl ⟨(Vb.ofAgg (cs:=[(.int .i64 k1),(.int .i64 t1)]) (x:=(⟨k1,t1⟩:Fct)) rfl ⟨rfl,z2,i3⟩),trivial⟩ (by decide) (by decide) rfl fun o4 j3 k3 b0 z1=>?_
  have hZ:=b0.lst [] (fun _ h=>h.elim)
  refine Az [(19,[5])] hZ (by kernel_rfl) ?_
  refine At (i:=19) (by kernel_rfl) rfl ?_
  obtain ⟨l3,n0,a0⟩:=bs a0
  obtain ⟨n0,a2,b2⟩:=AB n0
  replace f0:=((f0.st k0).st m0).st b0
  refine AF rfl f0 (z1.rd) rfl rfl (by decide) a2 b2 rfl fun c2 d2 m3 n3 c0 s0=>?_
  rw [← n0] at s0 ⊢
  have hZ:=c0.lst [5] (fun _ h=>by cases h;decide)
  refine Az [] hZ (by kernel_rfl) ?_
  refine AD (fuel:=0) [] [(20,true)] (by kernel_rfl) rfl ?_
  refine EC rfl rfl rfl (Au ?_)
  refine AY (by kernel_rfl) ?_
  obtain rfl:=sm a0
  exact show Exists _ from ⟨_,(c2,d2),rfl,⟨rfl,rfl,rfl,rfl,rfl,trivial⟩,_,(((hB.st k0).st m0).st b0).st c0,(h0.st b0).st c0,(h7.st b0).st c0,(g0.st b0).st c0,(((j0.st k0).st m0).st b0).st c0,s0,(((d0.st k0).st m0).st b0).st c0⟩
 replace hB:=hB.st p0
 rintro o3 p3 ⟨q3,r3,rfl,t0,s3,hB,f0⟩
 replace hm:=Bq hm
 refine Bc _ t0 ?_
 refine Al (Aj (Ar rfl rfl ?_))
 obtain ⟨t3,o0,hm⟩:=bs hm
 obtain ⟨e2,o0⟩:=Ie o0
 refine Ms (GE f0 e2) rfl rfl fun u3 f2 v3 g2 f0=>?_
 rw [o0] at f0
 refine o_z ?_
 refine Al (Aj (Ar rfl rfl (Ay rfl rfl (o_z ?_))))
 refine AR ?_
 obtain ⟨h2,i2,f0⟩:=f0.freeze
 obtain rfl:=sm hm
 replace hB:=(hB.st g2).st i2
 exact ret1v rfl (AO rfl) ⟨hB.ext,(Vb.mono (F:=Fr 0 f2 h2) f0 hB.out)⟩
noncomputable def Dm (x0:Swp) (x1:Opr):Option Opr :=
  bnd (Cv x0 x1.pre) fun q42=>bnd (some q42:Option (List Fct)) fun y44=>bnd (rng (ρ:=Opr) (fun (k88:Nat) (a89:Eff) (s86:(List Eff))=>bnd (atI x0.vars a89.var) fun a123=>bnd (atI x0.vals a89.var) fun a135=>bnd (atI a135 a89.val) fun a150=>bnd (Cv x0 a89.cond) fun q162=>bnd (appI 40 s86 [(⟨q162,a123,a150⟩:Eff)]) fun u177=>some (.next u177)) x1.effs 0 ([]:List Eff)) fun res84=>fin res84 fun (s194:(List Eff))=>some (⟨(⟨#[]⟩:ByteArray),x1.cost,y44,s194⟩:Opr)
theorem Il {w:World} {A:Nat→Prop} (hA:∀ k,A k→k < w.heap.size) {vx0:Value} {x0:Swp} (b3:Vb w A vx0 x0) {vx1:Value} {x1:Opr} (c3:Vb w A vx1 x1) {r:Opr} (hm:Dm x0 x1=some r) :
    Fn Tryz.prog 80 [vx0,vx1] w fun v w'=>Ext w w'∧Vb w' (upA A w w') v r:=by
 obtain ⟨O,hB,o4⟩:=enter hA
 replace b3:=b3.mono o4
 obtain ⟨s6,rfl,v4,v5,v6,rfl,h7,j0,l0⟩:=b3
 obtain ⟨A8,c9,rfl⟩:=h7.form
 obtain ⟨l1,m1,rfl⟩:=j0.form
 obtain ⟨n1,o1,rfl⟩:=l0.form
 replace c3:=c3.mono o4
 obtain ⟨f5,rfl,t6,u6,rfl,v0,t0,g5,w6⟩:=c3
 obtain ⟨d3,e3,rfl⟩:=v0.form
 obtain ⟨y1,z1,rfl⟩:=t0.form
 refine AQ Tryz.func80 rfl Tryz.ntmps80 rfl ?_
 unfold Dm at hm
 refine Al (Aj (Cp 2 O rfl rfl fun a2 h5 p4 o0 m0=>?_))
 replace m0:Lc 2 h5 p4 a2 53 [(.slice A8 x0.vars.length c9),(.slice l1 x0.vals.length m1),(.slice n1 x0.ops.length o1)]:=m0
 refine Cp 3 p4 rfl rfl fun f3 i5 q4 k0 w0=>?_
 replace w0:Lc 3 i5 q4 f3 50 [(.string x1.name),(.int .i64 x1.cost),(.slice d3 x1.pre.length e3),(.slice y1 x1.effs.length z1)]:=w0
 refine Bk 4 q4 rfl fun p1 x6 g3 h0 q0=>?_
 refine o_z ?_
 refine Al ?_
 obtain ⟨a3,r4,hm⟩:=bs hm
 obtain ⟨s0,b2,hm⟩:=bs hm
 refine AU (fun l' w'=>∃ (a0:Nat×(Option Addr×Nat)) (O':Lab),subs l' [(2,(.pointer (some ⟨a2,0,none⟩))),(3,(.pointer (some ⟨f3,0,none⟩))),(4,(.pointer (some ⟨p1,0,none⟩))),(5,(.pointer (some ⟨a0.1,0,none⟩)))]∧Bs w A w' O'∧Lc 2 w' O' a2 53 [(.slice A8 x0.vars.length c9),(.slice l1 x0.vals.length m1),(.slice n1 x0.ops.length o1)]∧Vb w' (Fr 0 w' O') (.slice A8 x0.vars.length c9) x0.vars∧Vb w' (Fr 0 w' O') (.slice l1 x0.vals.length m1) x0.vals∧Vb w' (Fr 0 w' O') (.slice n1 x0.ops.length o1) x0.ops∧Lc 3 w' O' f3 50 [(.string x1.name),(.int .i64 x1.cost),(.slice d3 x1.pre.length e3),(.slice y1 x1.effs.length z1)]∧Vb w' (Fr 0 w' O') (.slice d3 x1.pre.length e3) x1.pre∧Vb w' (Fr 0 w' O') (.slice y1 x1.effs.length z1) x1.effs∧Lc 4 w' O' p1 50 [(.string (⟨#[]⟩:ByteArray)),(.int .i64 0),(.slice none 0 0),(.slice none 0 0)]∧Lc 5 w' O' a0.1 50 [(.string (⟨#[]⟩:ByteArray)),(.int .i64 x1.cost),(.slice a0.2.1 s0.length a0.2.2),(.slice none 0 0)]∧Vb w' (Fr 0 w' O') (.slice a0.2.1 s0.length a0.2.2) s0) ?_ ?_
 ·
  refine Bw [] g3 ?_
  refine AD (fuel:=4) [] [(0,true),(1,true),(2,true),(3,true),(4,true)] (by kernel_rfl) rfl ?_
  refine AJ rfl rfl rfl ?_
  replace w0:=w0.st h0
  refine Bb (hc:=fun w' ⟨O',hq⟩=>Blk.cell (i:=1) ((w0.st hq (by decide)).1) rfl) rfl rfl rfl ?_
  replace m0:=(m0.st k0).st h0
  refine Df (hl:=rfl) (hb:=fun w' ⟨O',hq⟩=>((m0.st hq (by decide)).1).cellsAt) rfl rfl rfl ?_
  refine AJ rfl rfl rfl (Bb (hc:=fun w' ⟨O',hq⟩=>Blk.cell (i:=2) ((w0.st hq (by decide)).1) rfl) rfl rfl rfl ?_)
  refine Au ?_
  refine Bz (i:=5) (j:=7) (by kernel_rfl) rfl rfl ?_ ?_
  ·
   replace h7:=((h7.st o0).st k0).st h0
   replace j0:=((j0.st o0).st k0).st h0
   replace l0:=((l0.st o0).st k0).st h0
   replace v0:=((v0.st o0).st k0).st h0
   refine Bt (O:=g3) (R:=fun w' F v=>Vb w' F v a3) (DE Fr.lt (Vb.ofAgg (cs:=[(.slice A8 x0.vars.length c9),(.slice l1 x0.vals.length m1),(.slice n1 x0.ops.length o1)]) (x:=x0) rfl ⟨_,_,_,rfl,h7,j0,l0⟩) v0 r4) rfl rfl fun y6 z6 j5 b1 s4=>?_
   obtain ⟨t4,u4,rfl⟩:=s4.form
   have hZ:=b1.lst [] (fun _ h=>h.elim)
   refine Az [] hZ (by kernel_rfl) ?_
   refine AD (fuel:=2) [] [(6,true)] (by kernel_rfl) rfl ?_
   refine De rfl rfl rfl rfl ?_
   refine Au ?_
   refine At (i:=7) (by kernel_rfl) rfl ?_
   refine Bk 5 j5 rfl fun w4 a7 k5 z0 c2=>?_
   have hZ:=z0.lst [] (fun _ h=>h.elim)
   refine Az [] hZ (by kernel_rfl) ?_
   refine At (i:=8) (by kernel_rfl) rfl ?_
   refine AA c2 rfl rfl rfl (AG rfl) (allOne rfl) fun l5 c1 c2=>?_
   replace c2:Lc 5 l5 k5 w4 50 [(.string (⟨#[]⟩:ByteArray)),(.int .i64 x1.cost),(.slice t4 a3.length u4),(.slice none 0 0)]:=c2
   refine Be (by kernel_rfl) ?_
   refine AY (by kernel_rfl) ?_
   obtain rfl:=sm b2
   exact ⟨(w4,(t4,u4)),_,⟨rfl,rfl,rfl,rfl,trivial⟩,(((((hB.st o0).st k0).st h0).st b1).st z0).st c1,((m0.st b1).st z0).st c1,((h7.st b1).st z0).st c1,((j0.st b1).st z0).st c1,((l0.st b1).st z0).st c1,((w0.st b1).st z0).st c1,((v0.st b1).st z0).st c1,(((((t0.st o0).st k0).st h0).st b1).st z0).st c1,((q0.st b1).st z0).st c1,c2,(s4.st z0).st c1⟩
  refine Bk 5 g3 rfl fun x4 b7 m5 d1 q1=>?_
  have hZ:=d1.lst [] (fun _ h=>h.elim)
  refine Az [] hZ (by kernel_rfl) ?_
  refine At (i:=5) (by kernel_rfl) rfl ?_
  replace h7:=(((h7.st o0).st k0).st h0).st d1
  replace j0:=(((j0.st o0).st k0).st h0).st d1
  replace l0:=(((l0.st o0).st k0).st h0).st d1
  replace v0:=(((v0.st o0).st k0).st h0).st d1
  refine Bt (O:=m5) (R:=fun w' F v=>Vb w' F v a3) (DE Fr.lt (Vb.ofAgg (cs:=[(.slice A8 x0.vars.length c9),(.slice l1 x0.vals.length m1),(.slice n1 x0.ops.length o1)]) (x:=x0) rfl ⟨_,_,_,rfl,h7,j0,l0⟩) v0 r4) rfl rfl fun c7 d7 n5 a1 y4=>?_
  obtain ⟨z4,a5,rfl⟩:=y4.form
  have hZ:=a1.lst [] (fun _ h=>h.elim)
  refine Az [] hZ (by kernel_rfl) ?_
  refine AD (fuel:=1) [] [(6,true)] (by kernel_rfl) rfl ?_
  refine De rfl rfl rfl rfl ?_
  refine Au ?_
  refine At (i:=8) (by kernel_rfl) rfl ?_
  replace q1:=q1.st a1
  refine AA q1 rfl rfl rfl (AG rfl) (allOne rfl) fun o5 e1 q1=>?_
  replace q1:Lc 5 o5 n5 x4 50 [(.string (⟨#[]⟩:ByteArray)),(.int .i64 x1.cost),(.slice z4 a3.length a5),(.slice none 0 0)]:=q1
  refine Be (by kernel_rfl) ?_
  refine AY (by kernel_rfl) ?_
  obtain rfl:=sm b2
  exact ⟨(x4,(z4,a5)),_,⟨rfl,rfl,rfl,rfl,trivial⟩,(((((hB.st o0).st k0).st h0).st d1).st a1).st e1,((m0.st d1).st a1).st e1,(h7.st a1).st e1,(j0.st a1).st e1,(l0.st a1).st e1,((w0.st d1).st a1).st e1,(v0.st a1).st e1,(((((t0.st o0).st k0).st h0).st d1).st a1).st e1,((q0.st d1).st a1).st e1,q1,y4.st e1⟩
 replace hB:=((hB.st o0).st k0).st h0
 replace h7:=((h7.st o0).st k0).st h0
 replace j0:=((j0.st o0).st k0).st h0
 replace l0:=((l0.st o0).st k0).st h0
 replace v0:=((v0.st o0).st k0).st h0
 replace t0:=((t0.st o0).st k0).st h0
 replace m0:=(m0.st k0).st h0
 replace w0:=w0.st h0
 rintro e7 f7 ⟨a0,p5,h3,hB,m0,h7,j0,l0,w0,v0,t0,q0,r0,g1⟩
 refine Bc _ h3 ?_
 refine Al (Al (Aj (AV rfl rfl (AP (hc:=Blk.cell (i:=3) (w0.1) rfl) rfl rfl ?_))))
 refine Bj rfl rfl ?_
 have i3:x1.effs.length≤9223372036854775807:=Nat.le_trans t0.len.2.1 t0.len.2.2
 have g7:inI64 (x1.effs.length:Int):=rngNat i3
 refine Ar rfl rfl (o_z ?_)
 obtain ⟨d2,j3,hm⟩:=bs hm
 refine AU (aft d2 (fun (f1:(List Eff)) (y0:(Option Addr×Nat))=>[(4,(.pointer (some ⟨p1,0,none⟩))),(5,(.pointer (some ⟨a0.1,0,none⟩)))]) (fun f1 y0 w'=>∃ O':Lab,Bs w A w' O'∧Lc 4 w' O' p1 50 [(.string (⟨#[]⟩:ByteArray)),(.int .i64 0),(.slice none 0 0),(.slice none 0 0)]∧Lc 5 w' O' a0.1 50 [(.string (⟨#[]⟩:ByteArray)),(.int .i64 x1.cost),(.slice a0.2.1 s0.length a0.2.2),(.slice y0.1 f1.length y0.2)]∧Vb w' (Fr 0 w' O') (.slice a0.2.1 s0.length a0.2.2) s0∧Rw 8 w' O' 47 (.slice y0.1 f1.length y0.2) f1)) ?_ ?_
 ·
  refine Bf (BS (σ:=(List Eff)) (X:=(Option Addr×Nat)) (x1.effs.length) j3 rfl i3 (fun (f1:(List Eff)) (y0:(Option Addr×Nat))=>[(2,(.pointer (some ⟨a2,0,none⟩))),(4,(.pointer (some ⟨p1,0,none⟩))),(5,(.pointer (some ⟨a0.1,0,none⟩))),(16,(.slice y1 x1.effs.length z1))]) _ (fun f1 y0 w'=>∃ O':Lab,Bs w A w' O'∧Lc 2 w' O' a2 53 [(.slice A8 x0.vars.length c9),(.slice l1 x0.vals.length m1),(.slice n1 x0.ops.length o1)]∧Vb w' (Fr 0 w' O') (.slice A8 x0.vars.length c9) x0.vars∧Vb w' (Fr 0 w' O') (.slice l1 x0.vals.length m1) x0.vals∧Vb w' (Fr 0 w' O') (.slice n1 x0.ops.length o1) x0.ops∧Lc 4 w' O' p1 50 [(.string (⟨#[]⟩:ByteArray)),(.int .i64 0),(.slice none 0 0),(.slice none 0 0)]∧Lc 5 w' O' a0.1 50 [(.string (⟨#[]⟩:ByteArray)),(.int .i64 x1.cost),(.slice a0.2.1 s0.length a0.2.2),(.slice y0.1 f1.length y0.2)]∧Vb w' (Fr 0 w' O') (.slice a0.2.1 s0.length a0.2.2) s0∧Rw 8 w' O' 47 (.slice y0.1 f1.length y0.2) f1∧Vb w' (Fr 0 w' O') (.slice y1 x1.effs.length z1) x1.effs) _ (none,0) ⟨p5,hB,m0,h7,j0,l0,q0,r0,g1,(Rw.nil 8 (by decide)),t0⟩ ⟨rfl,rfl,rfl,rfl,rfl,rfl,trivial⟩ (fun _ _=>⟨rfl,rfl⟩) (fun _ _=>⟨rfl,rfl,trivial⟩) (fun _ _ _ ⟨O',hB,m0,h7,j0,l0,q0,r0,g1,b0,t0⟩=>⟨O',hB,q0,r0,g1,b0⟩) ⟨rfl,rfl,rfl⟩ ⟨rfl,rfl⟩ ?_)
  rintro q5 k3 f1 y0 i7 r5 e2 ⟨s5,hB,m0,h7,j0,l0,q0,r0,g1,b0,t0⟩ c0 l3 m3
  have rk88:inI64 (q5:Int):=rngK e2 i3
  refine Al (Aj ?_)
  obtain ⟨t5,u5,b5,f2,g2,h2,w5,rfl,h1,x5,y5⟩:=t0.elem' e2
  obtain ⟨n3,o3,rfl⟩:=h1.form
  refine BB (hA:=f2) (hj:=rfl) (hlt:=g2) rfl rfl rfl ?_
  refine Br (hl:=rfl) (hc:=h2) rfl rfl ?_
  refine Bk 6 s5 rfl fun p3 z5 r1 d0 p0=>?_
  refine AA p0 rfl rfl rfl (AG rfl) (allOne rfl) fun q3 e0 p0=>?_
  replace p0:Lc 6 q3 r1 p3 47 [(.slice n3 k3.cond.length o3),(.int .i64 k3.var),(.int .i64 k3.val)]:=p0
  refine o_z ?_
  refine Bw [(24,[8])] r1 ?_
  refine AD (fuel:=6) [] [(0,true),(1,true),(2,true),(3,true),(4,true),(6,true),(7,true),(8,true),(9,true),(10,true),(11,true),(12,true),(13,true),(14,true),(15,true),(16,true),(17,true),(18,true),(19,true),(20,true),(21,true)] (by kernel_rfl) rfl ?_
  refine AJ rfl rfl rfl ?_
  replace r0:=(r0.st d0).st e0
  refine Bb (hc:=fun w' ⟨O',hq⟩=>Blk.cell (i:=3) ((r0.st hq (by decide)).1) rfl) rfl rfl rfl ?_
  replace m0:=(m0.st d0).st e0
  refine Df (hl:=rfl) (hb:=fun w' ⟨O',hq⟩=>((m0.st hq (by decide)).1).cellsAt) rfl rfl rfl ?_
  refine AJ rfl rfl rfl (Bb (hc:=fun w' ⟨O',hq⟩=>Blk.cell (i:=0) ((p0.st hq (by decide)).1) rfl) rfl rfl rfl ?_)
  refine AJ rfl rfl rfl (Bb (hc:=fun w' ⟨O',hq⟩=>Blk.cell (i:=0) ((m0.st hq (by decide)).1) rfl) rfl rfl rfl ?_)
  refine AJ rfl rfl rfl (Bb (hc:=fun w' ⟨O',hq⟩=>Blk.cell (i:=1) ((p0.st hq (by decide)).1) rfl) rfl rfl rfl ?_)
  obtain ⟨s1,r3,c0⟩:=bs c0
  obtain ⟨s3,t3⟩:=Ba r3
  replace h7:=(h7.st d0).st e0
  obtain ⟨a6,b6,c5,i2,j2,k2,l2,rfl,u3⟩:=h7.elem t3
  refine BC (hA:=i2) (hj:=(Int.toNat_of_nonneg s3).symm) (hlt:=k2) rfl rfl rfl rfl ?_
  refine Bb (hc:=fun w' ⟨O',hq⟩=>cat0 (Bg (hq.agree (i:=0) (by decide)) j2 l2)) rfl rfl rfl ?_
  refine AJ rfl rfl rfl (Bb (hc:=fun w' ⟨O',hq⟩=>Blk.cell (i:=1) ((m0.st hq (by decide)).1) rfl) rfl rfl rfl ?_)
  refine AJ rfl rfl rfl (Bb (hc:=fun w' ⟨O',hq⟩=>Blk.cell (i:=1) ((p0.st hq (by decide)).1) rfl) rfl rfl rfl ?_)
  obtain ⟨c6,v3,c0⟩:=bs c0
  obtain ⟨w3,x3⟩:=Ba v3
  replace j0:=(j0.st d0).st e0
  obtain ⟨d6,e6,d5,m2,n2,o2,p2,f6,rfl,i1⟩:=j0.elem x3
  replace i1:=Vb.of_slice i1
  obtain ⟨g6,h6,rfl⟩:=i1.form
  refine BC (hA:=m2) (hj:=(Int.toNat_of_nonneg w3).symm) (hlt:=o2) rfl rfl rfl rfl ?_
  refine Bb (hc:=fun w' ⟨O',hq⟩=>cat0 (Bg (hq.agree (i:=0) (by decide)) n2 p2)) rfl rfl rfl ?_
  refine AJ rfl rfl rfl (Bb (hc:=fun w' ⟨O',hq⟩=>Blk.cell (i:=2) ((p0.st hq (by decide)).1) rfl) rfl rfl rfl ?_)
  obtain ⟨t1,y3,c0⟩:=bs c0
  obtain ⟨z3,a4⟩:=Ba y3
  obtain ⟨i6,j6,e5,q2,r2,s2,t2,rfl,b4⟩:=i1.elem a4
  refine BC (hA:=q2) (hj:=(Int.toNat_of_nonneg z3).symm) (hlt:=s2) rfl rfl rfl rfl ?_
  refine Bb (hc:=fun w' ⟨O',hq⟩=>cat0 (Bg (hq.agree (i:=0) (by decide)) r2 t2)) rfl rfl rfl ?_
  refine Au ?_
  refine At (i:=5) (by kernel_rfl) rfl ?_
  obtain ⟨j1,c4,c0⟩:=bs c0
  replace l0:=(l0.st d0).st e0
  replace h1:=(h1.st d0).st e0
  refine Bt (O:=r1) (R:=fun w' F v=>Vb w' F v j1) (DE Fr.lt (Vb.ofAgg (cs:=[(.slice A8 x0.vars.length c9),(.slice l1 x0.vals.length m1),(.slice n1 x0.ops.length o1)]) (x:=x0) rfl ⟨_,_,_,rfl,h7,j0,l0⟩) h1 c4) rfl rfl fun k6 l6 d4 f0 u2=>?_
  obtain ⟨e4,f4,rfl⟩:=u2.form
  have hZ:=f0.lst [] (fun _ h=>h.elim)
  refine Az [(24,[8])] hZ (by kernel_rfl) ?_
  refine AD (fuel:=4) [] [(22,true)] (by kernel_rfl) rfl ?_
  refine De rfl rfl rfl rfl ?_
  refine Au ?_
  refine At (i:=23) (by kernel_rfl) rfl ?_
  refine AM 7 (by decide) d4 (xs:=([(⟨j1,s1,t1⟩:Eff)]:List Eff)) rfl rfl rfl rfl ⟨(Vb.ofAgg (cs:=[(.slice e4 j1.length f4),(.int .i64 s1),(.int .i64 t1)]) (x:=(⟨j1,s1,t1⟩:Eff)) rfl ⟨_,rfl,u2,u3,b4⟩),trivial⟩ (by decide) (by decide) rfl fun m6 n6 o6 g0 g4=>?_
  have hZ:=g0.lst [] (fun _ h=>h.elim)
  refine Az [(24,[8])] hZ (by kernel_rfl) ?_
  refine At (i:=24) (by kernel_rfl) rfl ?_
  obtain ⟨h4,u1,c0⟩:=bs c0
  obtain ⟨u1,i4,j4⟩:=AB u1
  replace b0:=(((b0.st d0).st e0).st f0).st g0
  refine AF rfl b0 (g4.rd) rfl rfl (by decide) i4 j4 rfl fun v2 w2 p6 k4 i0 x2=>?_
  rw [← u1] at x2 ⊢
  have hZ:=i0.lst [8] (fun _ h=>by cases h;decide)
  refine Az [] hZ (by kernel_rfl) ?_
  refine AD (fuel:=1) [] [(25,true)] (by kernel_rfl) rfl ?_
  refine AJ rfl rfl rfl (Au ?_)
  refine At (i:=26) (by kernel_rfl) rfl ?_
  replace r0:=((r0.st f0).st g0).st i0
  refine AA r0 rfl rfl rfl (AG rfl) (allOne rfl) fun l4 n0 r0=>?_
  replace r0:Lc 5 l4 k4 a0.1 50 [(.string (⟨#[]⟩:ByteArray)),(.int .i64 x1.cost),(.slice a0.2.1 s0.length a0.2.2),(.slice v2 h4.length w2)]:=r0
  refine Be (by kernel_rfl) ?_
  refine AY (by kernel_rfl) ?_
  obtain rfl:=sm c0
  exact show Exists _ from ⟨_,(v2,w2),rfl,⟨rfl,rfl,rfl,rfl,rfl,rfl,trivial⟩,_,(((((hB.st d0).st e0).st f0).st g0).st i0).st n0,(((m0.st f0).st g0).st i0).st n0,(((h7.st f0).st g0).st i0).st n0,(((j0.st f0).st g0).st i0).st n0,(((l0.st f0).st g0).st i0).st n0,(((((q0.st d0).st e0).st f0).st g0).st i0).st n0,r0,(((((g1.st d0).st e0).st f0).st g0).st i0).st n0,x2.st n0,(((((t0.st d0).st e0).st f0).st g0).st i0).st n0⟩
 rintro q6 r6 ⟨k1,u0,rfl,y2,m4,hB,q0,r0,g1,b0⟩
 replace hm:=Bq hm
 refine Bc _ y2 ?_
 refine Al (Aj (Br (hl:=rfl) (hc:=(r0.1).cellsAt) rfl rfl ?_))
 refine AA q0 rfl rfl rfl (AG rfl) (allOne rfl) fun z2 v1 q0=>?_
 replace q0:Lc 4 z2 m4 p1 50 [(.string (⟨#[]⟩:ByteArray)),(.int .i64 x1.cost),(.slice a0.2.1 s0.length a0.2.2),(.slice u0.1 k1.length u0.2)]:=q0
 refine o_z ?_
 refine AR ?_
 replace b0:=b0.st v1
 obtain ⟨n4,w1,b0⟩:=b0.freeze
 obtain rfl:=sm hm
 replace hB:=(hB.st v1).st w1
 replace q0:=q0.st w1
 replace g1:=(g1.st v1).st w1
 exact ret1v rfl (Cg (cs:=[(.string (⟨#[]⟩:ByteArray)),(.int .i64 x1.cost),(.slice a0.2.1 s0.length a0.2.2),(.slice u0.1 k1.length u0.2)]) rfl rfl q0.1.cellsAt) ⟨hB.ext,(Vb.mono (F:=Fr 0 z2 n4) (Vb.ofAgg (cs:=[(.string (⟨#[]⟩:ByteArray)),(.int .i64 x1.cost),(.slice a0.2.1 s0.length a0.2.2),(.slice u0.1 k1.length u0.2)]) (x:=(⟨(⟨#[]⟩:ByteArray),x1.cost,s0,k1⟩:Opr)) rfl ⟨_,_,rfl,g1,b0,g5,(show (⟨#[]⟩:ByteArray).size≤9223372036854775807 from by decide)⟩) hB.out)⟩
noncomputable def Da (x0:Tsk) (x1:Swp):Option Bool :=
  bnd (bnd (Dk x0 x1) fun q47=>if q47=true then bnd (BL x1.ops (x0.ops.length:Int)) fun q56=>if q56=true then bnd (Cv x1 x0.goal) fun q63=>bnd (Bv q63 x0.goal) fun q72=>if q72=true then some false else some true else some true else some true:Option Bool) fun y43=>if y43=true then (some false) else (bnd (rng (ρ:=Bool) (fun (k90:Nat) (a91:Opr) (s88:Unit)=>bnd (x1.ops[k90]?) fun a125=>bnd (atI x0.ops a125) fun a135=>bnd (Dm x1 a91) fun q156=>bnd (Dl q156 a135) fun q174=>if q174=true then some (.next ()) else some (.ret false)) x0.ops 0 ()) fun res86=>fin res86 fun (s185:Unit)=>some true)
theorem GS {w:World} {A:Nat→Prop} (hA:∀ k,A k→k < w.heap.size) {vx0:Value} {x0:Tsk} (w2:Vb w A vx0 x0) {vx1:Value} {x1:Swp} (x2:Vb w A vx1 x1) {r:Bool} (hm:Da x0 x1=some r) :
    Fn Tryz.prog 54 [vx0,vx1] w fun v w'=>Ext w w'∧Vb w' (upA A w w') v r:=by
 obtain ⟨O,hB,d4⟩:=enter hA
 replace w2:=w2.mono d4
 obtain ⟨i6,rfl,v4,v5,v6,v7,rfl,h8,t0,m0,h0⟩:=w2
 obtain ⟨A9,p1,rfl⟩:=h8.form
 obtain ⟨q1,r1,rfl⟩:=t0.form
 obtain ⟨s1,t1,rfl⟩:=m0.form
 obtain ⟨j1,k1,rfl⟩:=h0.form
 replace x2:=x2.mono d4
 obtain ⟨p4,rfl,j6,k6,l6,rfl,n0,o0,i0⟩:=x2
 obtain ⟨d1,e1,rfl⟩:=n0.form
 obtain ⟨f1,g1,rfl⟩:=o0.form
 obtain ⟨h1,i1,rfl⟩:=i0.form
 refine AQ Tryz.func54 rfl Tryz.ntmps54 rfl ?_
 unfold Da at hm
 refine Al (Aj (Cp 2 O rfl rfl fun u1 q4 e4 s0 e0=>?_))
 replace e0:Lc 2 q4 e4 u1 26 [(.slice A9 x0.vars.length p1),(.slice q1 x0.init.length r1),(.slice s1 x0.goal.length t1),(.slice j1 x0.ops.length k1)]:=e0
 refine Cp 3 e4 rfl rfl fun v1 t2 w1 p0 l0=>?_
 replace l0:Lc 3 t2 w1 v1 53 [(.slice d1 x1.vars.length e1),(.slice f1 x1.vals.length g1),(.slice h1 x1.ops.length i1)]:=l0
 refine Ay rfl rfl (o_z ?_)
 refine Al (Al ?_)
 obtain ⟨r4,a0,hm⟩:=bs hm
 refine AU (fun l' w'=>∃ (s4:Unit) (O':Lab),subs l' [(2,(.pointer (some ⟨u1,0,none⟩))),(3,(.pointer (some ⟨v1,0,none⟩))),(29,(.bool r4))]∧Bs w A w' O'∧Lc 2 w' O' u1 26 [(.slice A9 x0.vars.length p1),(.slice q1 x0.init.length r1),(.slice s1 x0.goal.length t1),(.slice j1 x0.ops.length k1)]∧Vb w' (Fr 0 w' O') (.slice A9 x0.vars.length p1) x0.vars∧Vb w' (Fr 0 w' O') (.slice q1 x0.init.length r1) x0.init∧Vb w' (Fr 0 w' O') (.slice s1 x0.goal.length t1) x0.goal∧Vb w' (Fr 0 w' O') (.slice j1 x0.ops.length k1) x0.ops∧Lc 3 w' O' v1 53 [(.slice d1 x1.vars.length e1),(.slice f1 x1.vals.length g1),(.slice h1 x1.ops.length i1)]∧Vb w' (Fr 0 w' O') (.slice d1 x1.vars.length e1) x1.vars∧Vb w' (Fr 0 w' O') (.slice f1 x1.vals.length g1) x1.vals∧Vb w' (Fr 0 w' O') (.slice h1 x1.ops.length i1) x1.ops) ?_ ?_
 ·
  refine Bw [] w1 ?_
  refine AD (fuel:=21) [] [(0,true),(1,true)] (by kernel_rfl) rfl ?_
  replace e0:=e0.st p0
  refine Df (hl:=rfl) (hb:=fun w' ⟨O',hq⟩=>((e0.st hq (by decide)).1).cellsAt) rfl rfl rfl ?_
  refine Df (hl:=rfl) (hb:=fun w' ⟨O',hq⟩=>((l0.st hq (by decide)).1).cellsAt) rfl rfl rfl ?_
  refine Au ?_
  refine At (i:=2) (by kernel_rfl) rfl ?_
  obtain ⟨f4,t4,a0⟩:=bs a0
  replace h8:=(h8.st s0).st p0
  replace t0:=(t0.st s0).st p0
  replace m0:=(m0.st s0).st p0
  replace h0:=(h0.st s0).st p0
  replace n0:=(n0.st s0).st p0
  replace o0:=(o0.st s0).st p0
  replace i0:=(i0.st s0).st p0
  refine By (O:=w1) (A:=All t2) (R:=fun w' F v=>Vb w' F v f4) (Ih (fun _ h=>h) (Vb.mono (F:=Fr 0 t2 w1) (Vb.ofAgg (cs:=[(.slice A9 x0.vars.length p1),(.slice q1 x0.init.length r1),(.slice s1 x0.goal.length t1),(.slice j1 x0.ops.length k1)]) (x:=x0) rfl ⟨_,_,_,_,rfl,h8,t0,m0,h0⟩) Fr.lt) (Vb.mono (F:=Fr 0 t2 w1) (Vb.ofAgg (cs:=[(.slice d1 x1.vars.length e1),(.slice f1 x1.vals.length g1),(.slice h1 x1.ops.length i1)]) (x:=x1) rfl ⟨_,_,_,rfl,n0,o0,i0⟩) Fr.lt) t4) rfl rfl fun m6 g4 h4 b0 u4=>?_
  obtain rfl:=u4.bool
  have hZ:=b0.lst [] (fun _ h=>h.elim)
  cases f4
  case false =>
   replace a0:=iF a0
   refine Az [] hZ (by kernel_rfl) ?_
   refine AD (fuel:=13) [] [(3,true),(4,true),(5,true),(6,true),(7,true),(8,true),(9,true)] (by kernel_rfl) rfl ?_
   refine Pp rfl rfl rfl (AW rfl rfl rfl (Ck rfl rfl rfl rfl rfl (Ck rfl rfl rfl rfl rfl (Ck rfl rfl rfl rfl rfl (Ck rfl rfl rfl rfl rfl (Ck rfl rfl rfl rfl rfl (Au ?_)))))))
   refine At (i:=10) (by kernel_rfl) rfl ?_
   refine AC rfl rfl rfl rfl (Az [] ((St.refl nT _ _).lst [] (fun _ h=>h.elim)) (by kernel_rfl) ?_)
   refine AD (fuel:=4) [] [(11,true),(12,true),(13,true),(14,true),(15,true),(16,true),(18,true),(19,true)] (by kernel_rfl) rfl ?_
   refine Ck rfl rfl rfl rfl rfl (Dp rfl rfl rfl rfl (AW rfl rfl rfl (Ck rfl rfl rfl rfl rfl (Ck rfl rfl rfl rfl rfl (Ck rfl rfl rfl rfl rfl (Ck rfl rfl rfl rfl rfl (Ck rfl rfl rfl rfl rfl (Au ?_))))))))
   refine At (i:=17) (by kernel_rfl) rfl ?_
   refine AC rfl rfl rfl rfl (Az [] ((St.refl nT _ _).lst [] (fun _ h=>h.elim)) (by kernel_rfl) ?_)
   refine At (i:=20) (by kernel_rfl) rfl ?_
   refine AC rfl rfl rfl rfl (Az [] ((St.refl nT _ _).lst [] (fun _ h=>h.elim)) (by kernel_rfl) ?_)
   refine AD (fuel:=0) [] [(21,true),(22,true)] (by kernel_rfl) rfl ?_
   refine Ck rfl rfl rfl rfl rfl (Dp rfl rfl rfl rfl (Au ?_))
   refine AY (by kernel_rfl) ?_
   obtain rfl:=sm a0
   exact ⟨(),_,⟨rfl,rfl,rfl,trivial⟩,((hB.st s0).st p0).st b0,e0.st b0,h8.st b0,t0.st b0,m0.st b0,h0.st b0,l0.st b0,n0.st b0,o0.st b0,i0.st b0⟩
  replace a0:=iT a0
  refine Az [] hZ (by kernel_rfl) ?_
  refine AD (fuel:=13) [] [(3,true),(4,true),(5,true),(6,true),(7,true),(8,true),(9,true)] (by kernel_rfl) rfl ?_
  refine Ni rfl rfl rfl (AW rfl rfl rfl (AK rfl (AH rfl rfl (Cz rfl rfl (AK rfl (AH rfl rfl ?_))))))
  replace l0:=l0.st b0
  refine HH (hc:=fun w' ⟨O',hq⟩=>Blk.cell (i:=2) ((l0.st hq (by decide)).1) rfl) rfl rfl ?_
  refine AK rfl (AH rfl rfl (Cz rfl rfl (AK rfl (AH rfl rfl ?_))))
  replace e0:=e0.st b0
  refine HH (hc:=fun w' ⟨O',hq⟩=>Blk.cell (i:=3) ((e0.st hq (by decide)).1) rfl) rfl rfl ?_
  refine AK rfl (AH rfl rfl (Id rfl rfl ?_))
  replace h0:=h0.st b0
  have w4:x0.ops.length≤9223372036854775807:=Nat.le_trans h0.len.2.1 h0.len.2.2
  have x4:inI64 (x0.ops.length:Int):=rngNat w4
  refine Au ?_
  refine At (i:=10) (by kernel_rfl) rfl ?_
  refine AE rfl rfl ?_
  obtain ⟨i4,y4,a0⟩:=bs a0
  replace i0:=i0.st b0
  refine By (O:=h4) (A:=All g4) (R:=fun w' F v=>Vb w' F v i4) (DB (fun _ h=>h) (Vb.mono (F:=Fr 0 g4 h4) i0 Fr.lt) x4 y4) rfl rfl fun n6 o6 z4 j0 a5=>?_
  obtain rfl:=a5.bool
  have hZ:=j0.lst [] (fun _ h=>h.elim)
  cases i4
  case false =>
   replace a0:=iF a0
   refine Az [] hZ (by kernel_rfl) ?_
   refine AD (fuel:=4) [] [(11,true),(12,true),(13,true),(14,true),(15,true),(16,true),(18,true),(19,true)] (by kernel_rfl) rfl ?_
   refine AK rfl (AH rfl rfl (Jh rfl rfl (CS rfl rfl rfl rfl (AW rfl rfl rfl (Ck rfl rfl rfl rfl rfl (Ck rfl rfl rfl rfl rfl (Ck rfl rfl rfl rfl rfl (Ck rfl rfl rfl rfl rfl (Ck rfl rfl rfl rfl rfl (Au ?_))))))))))
   refine At (i:=17) (by kernel_rfl) rfl ?_
   refine AC rfl rfl rfl rfl (Az [] ((St.refl nT _ _).lst [] (fun _ h=>h.elim)) (by kernel_rfl) ?_)
   refine At (i:=20) (by kernel_rfl) rfl ?_
   refine AC rfl rfl rfl rfl (Az [] ((St.refl nT _ _).lst [] (fun _ h=>h.elim)) (by kernel_rfl) ?_)
   refine AD (fuel:=0) [] [(21,true),(22,true)] (by kernel_rfl) rfl ?_
   refine Ck rfl rfl rfl rfl rfl (Dp rfl rfl rfl rfl (Au ?_))
   refine AY (by kernel_rfl) ?_
   obtain rfl:=sm a0
   exact ⟨(),_,⟨rfl,rfl,rfl,trivial⟩,(((hB.st s0).st p0).st b0).st j0,e0.st j0,(h8.st b0).st j0,(t0.st b0).st j0,(m0.st b0).st j0,h0.st j0,l0.st j0,(n0.st b0).st j0,(o0.st b0).st j0,i0.st j0⟩
  replace a0:=iT a0
  refine Az [] hZ (by kernel_rfl) ?_
  refine AD (fuel:=4) [] [(11,true),(12,true),(13,true),(14,true),(15,true),(16,true),(18,true),(19,true)] (by kernel_rfl) rfl ?_
  refine AK rfl (AH rfl rfl (Jg rfl rfl (CS rfl rfl rfl rfl (AW rfl rfl rfl (AK rfl (AH rfl rfl ?_))))))
  replace l0:=l0.st j0
  refine Qa (hl:=rfl) (hb:=fun w' ⟨O',hq⟩=>((l0.st hq (by decide)).1).cellsAt) rfl rfl ?_
  refine AK rfl (AH rfl rfl (Cz rfl rfl (AK rfl (AH rfl rfl ?_))))
  replace e0:=e0.st j0
  refine HH (hc:=fun w' ⟨O',hq⟩=>Blk.cell (i:=2) ((e0.st hq (by decide)).1) rfl) rfl rfl ?_
  refine AK rfl (AH rfl rfl (Cz rfl rfl (AK rfl (AH rfl rfl (HH (hc:=fun w' ⟨O',hq⟩=>Blk.cell (i:=2) ((e0.st hq (by decide)).1) rfl) rfl rfl ?_)))))
  refine Au ?_
  refine At (i:=17) (by kernel_rfl) rfl ?_
  refine AE rfl rfl ?_
  obtain ⟨b5,c5,a0⟩:=bs a0
  replace m0:=(m0.st b0).st j0
  replace n0:=(n0.st b0).st j0
  replace o0:=(o0.st b0).st j0
  replace i0:=i0.st j0
  refine Bt (O:=z4) (R:=fun w' F v=>Vb w' F v b5) (DE Fr.lt (Vb.ofAgg (cs:=[(.slice d1 x1.vars.length e1),(.slice f1 x1.vals.length g1),(.slice h1 x1.ops.length i1)]) (x:=x1) rfl ⟨_,_,_,rfl,n0,o0,i0⟩) m0 c5) rfl rfl fun p6 y2 z2 r0 j4=>?_
  obtain ⟨q6,r6,rfl⟩:=j4.form
  have hZ:=r0.lst [] (fun _ h=>h.elim)
  refine Az [] hZ (by kernel_rfl) ?_
  refine At (i:=20) (by kernel_rfl) rfl ?_
  refine AE rfl rfl ?_
  obtain ⟨k4,d5,a0⟩:=bs a0
  replace m0:=m0.st r0
  refine By (O:=z2) (A:=All y2) (R:=fun w' F v=>Vb w' F v k4) (CA (fun _ h=>h) (Vb.mono (F:=Fr 0 y2 z2) j4 Fr.lt) (Vb.mono (F:=Fr 0 y2 z2) m0 Fr.lt) d5) rfl rfl fun s6 t6 u6 q0 e5=>?_
  obtain rfl:=e5.bool
  have hZ:=q0.lst [] (fun _ h=>h.elim)
  cases k4
  case false =>
   replace a0:=iF a0
   refine Az [] hZ (by kernel_rfl) ?_
   refine AD (fuel:=0) [] [(21,true),(22,true)] (by kernel_rfl) rfl ?_
   refine AK rfl (AH rfl rfl (Jh rfl rfl (CS rfl rfl rfl rfl (Au ?_))))
   refine AY (by kernel_rfl) ?_
   obtain rfl:=sm a0
   exact ⟨(),_,⟨rfl,rfl,rfl,trivial⟩,(((((hB.st s0).st p0).st b0).st j0).st r0).st q0,(e0.st r0).st q0,(((h8.st b0).st j0).st r0).st q0,(((t0.st b0).st j0).st r0).st q0,m0.st q0,((h0.st j0).st r0).st q0,(l0.st r0).st q0,(n0.st r0).st q0,(o0.st r0).st q0,(i0.st r0).st q0⟩
  replace a0:=iT a0
  refine Az [] hZ (by kernel_rfl) ?_
  refine AD (fuel:=0) [] [(21,true),(22,true)] (by kernel_rfl) rfl ?_
  refine AK rfl (AH rfl rfl (Jg rfl rfl (CS rfl rfl rfl rfl (Au ?_))))
  refine AY (by kernel_rfl) ?_
  obtain rfl:=sm a0
  exact ⟨(),_,⟨rfl,rfl,rfl,trivial⟩,(((((hB.st s0).st p0).st b0).st j0).st r0).st q0,(e0.st r0).st q0,(((h8.st b0).st j0).st r0).st q0,(((t0.st b0).st j0).st r0).st q0,m0.st q0,((h0.st j0).st r0).st q0,(l0.st r0).st q0,(n0.st r0).st q0,(o0.st r0).st q0,(i0.st r0).st q0⟩
 replace hB:=(hB.st s0).st p0
 replace h8:=(h8.st s0).st p0
 replace t0:=(t0.st s0).st p0
 replace m0:=(m0.st s0).st p0
 replace h0:=(h0.st s0).st p0
 replace n0:=(n0.st s0).st p0
 replace o0:=(o0.st s0).st p0
 replace i0:=(i0.st s0).st p0
 replace e0:=e0.st p0
 rintro w6 x6 ⟨s4,f5,a3,hB,e0,h8,t0,m0,h0,l0,n0,o0,i0⟩
 refine Bc _ a3 ?_
 refine CC rfl (fun b3=>?_) (fun b3=>?_)
 ·
  replace hm:=ip hm b3
  refine Al (Aj (Ay rfl rfl (o_z ?_)))
  refine AR ?_
  obtain rfl:=sm hm
  exact ret1v rfl (AO rfl) ⟨hB.ext,vBool⟩
 replace hm:=im' hm b3
 refine AZ (Al (Al (Aj (AV rfl rfl (AP (hc:=Blk.cell (i:=3) (e0.1) rfl) rfl rfl ?_)))))
 refine Bj rfl rfl ?_
 have c3:x0.ops.length≤9223372036854775807:=Nat.le_trans h0.len.2.1 h0.len.2.2
 have y6:inI64 (x0.ops.length:Int):=rngNat c3
 refine Ar rfl rfl (o_z ?_)
 obtain ⟨y1,d3,hm⟩:=bs hm
 refine AU (aft y1 (fun (u2:Unit) (v2:Unit)=>[]) (fun u2 v2 w'=>∃ O':Lab,Bs w A w' O')) ?_ ?_
 ·
  refine Bf (BS (σ:=Unit) (X:=Unit) (x0.ops.length) d3 rfl c3 (fun (u2:Unit) (v2:Unit)=>[(2,(.pointer (some ⟨u1,0,none⟩))),(3,(.pointer (some ⟨v1,0,none⟩))),(31,(.slice j1 x0.ops.length k1))]) _ (fun u2 v2 w'=>∃ O':Lab,Bs w A w' O'∧Lc 2 w' O' u1 26 [(.slice A9 x0.vars.length p1),(.slice q1 x0.init.length r1),(.slice s1 x0.goal.length t1),(.slice j1 x0.ops.length k1)]∧Vb w' (Fr 0 w' O') (.slice A9 x0.vars.length p1) x0.vars∧Vb w' (Fr 0 w' O') (.slice q1 x0.init.length r1) x0.init∧Vb w' (Fr 0 w' O') (.slice s1 x0.goal.length t1) x0.goal∧Vb w' (Fr 0 w' O') (.slice j1 x0.ops.length k1) x0.ops∧Lc 3 w' O' v1 53 [(.slice d1 x1.vars.length e1),(.slice f1 x1.vals.length g1),(.slice h1 x1.ops.length i1)]∧Vb w' (Fr 0 w' O') (.slice d1 x1.vars.length e1) x1.vars∧Vb w' (Fr 0 w' O') (.slice f1 x1.vals.length g1) x1.vals∧Vb w' (Fr 0 w' O') (.slice h1 x1.ops.length i1) x1.ops) _ () ⟨f5,hB,e0,h8,t0,m0,h0,l0,n0,o0,i0⟩ ⟨rfl,rfl,rfl,rfl,rfl,trivial⟩ (fun _ _=>⟨rfl,rfl⟩) (fun _ _=>trivial) (fun _ _ _ ⟨O',hB,e0,h8,t0,m0,h0,l0,n0,o0,i0⟩=>⟨O',hB⟩) ⟨rfl,rfl,rfl⟩ ⟨rfl,rfl⟩ ?_)
  rintro g5 y0 u2 v2 z6 h5 z1 ⟨i5,hB,e0,h8,t0,m0,h0,l0,n0,o0,i0⟩ c0 l1 e3
  have rk90:inI64 (g5:Int):=rngK z1 c3
  refine Al (Aj (Ar rfl rfl ?_))
  obtain ⟨j5,k5,l4,a2,b2,c2,l5,m5,rfl,z0,a1,f3,g3⟩:=h0.elem' z1
  obtain ⟨d2,e2,rfl⟩:=z0.form
  obtain ⟨f2,g2,rfl⟩:=a1.form
  refine BB (hA:=a2) (hj:=rfl) (hlt:=b2) rfl rfl rfl ?_
  refine Br (hl:=rfl) (hc:=c2) rfl rfl ?_
  refine Bk 4 i5 rfl fun h3 n5 m1 f0 v0=>?_
  refine Ay rfl rfl (AA v0 rfl rfl rfl (AG rfl) (allOne rfl) fun i3 g0 v0=>?_)
  replace v0:Lc 4 i3 m1 h3 50 [(.string y0.name),(.int .i64 y0.cost),(.slice d2 y0.pre.length e2),(.slice f2 y0.effs.length g2)]:=v0
  refine o_z ?_
  refine Al (Bw [] m1 ?_)
  refine AD (fuel:=3) [] [(0,true),(1,true),(3,true),(4,true),(5,true),(6,true),(7,true),(8,true),(9,true),(10,true),(11,true)] (by kernel_rfl) rfl ?_
  replace l0:=(l0.st f0).st g0
  refine Df (hl:=rfl) (hb:=fun w' ⟨O',hq⟩=>((l0.st hq (by decide)).1).cellsAt) rfl rfl rfl ?_
  refine Df (hl:=rfl) (hb:=fun w' ⟨O',hq⟩=>((v0.st hq (by decide)).1).cellsAt) rfl rfl rfl ?_
  refine AJ rfl rfl rfl ?_
  replace e0:=(e0.st f0).st g0
  refine Bb (hc:=fun w' ⟨O',hq⟩=>Blk.cell (i:=3) ((e0.st hq (by decide)).1) rfl) rfl rfl rfl ?_
  refine AJ rfl rfl rfl (Bb (hc:=fun w' ⟨O',hq⟩=>Blk.cell (i:=2) ((l0.st hq (by decide)).1) rfl) rfl rfl rfl ?_)
  refine AW rfl rfl rfl ?_
  obtain ⟨o5,j3,c0⟩:=bs c0
  replace i0:=(i0.st f0).st g0
  obtain ⟨p5,q5,m4,h2,i2,j2,k2,rfl,r5⟩:=i0.elem j3
  refine BC (hA:=h2) (hj:=rfl) (hlt:=j2) rfl rfl rfl rfl ?_
  refine Bb (hc:=fun w' ⟨O',hq⟩=>cat0 (Bg (hq.agree (i:=0) (by decide)) i2 k2)) rfl rfl rfl ?_
  obtain ⟨w0,k3,c0⟩:=bs c0
  obtain ⟨l3,m3⟩:=Ba k3
  replace h0:=(h0.st f0).st g0
  obtain ⟨s5,t5,n4,l2,m2,n2,o2,u5,w5,rfl,b1,c1,n3,o3⟩:=h0.elem m3
  obtain ⟨p3,q3,rfl⟩:=b1.form
  obtain ⟨r3,s3,rfl⟩:=c1.form
  refine BC (hA:=l2) (hj:=(Int.toNat_of_nonneg l3).symm) (hlt:=n2) rfl rfl rfl rfl ?_
  refine Df (hl:=rfl) (hb:=fun w' ⟨O',hq⟩=>(Bg (hq.agree (i:=0) (by decide)) m2 o2)) rfl rfl rfl ?_
  refine Au ?_
  refine At (i:=2) (by kernel_rfl) rfl ?_
  obtain ⟨u0,t3,c0⟩:=bs c0
  replace n0:=(n0.st f0).st g0
  replace o0:=(o0.st f0).st g0
  replace z0:=(z0.st f0).st g0
  replace a1:=(a1.st f0).st g0
  refine Bt (O:=m1) (R:=fun w' F v=>Vb w' F v u0) (Il Fr.lt (Vb.ofAgg (cs:=[(.slice d1 x1.vars.length e1),(.slice f1 x1.vals.length g1),(.slice h1 x1.ops.length i1)]) (x:=x1) rfl ⟨_,_,_,rfl,n0,o0,i0⟩) (Vb.ofAgg (cs:=[(.string y0.name),(.int .i64 y0.cost),(.slice d2 y0.pre.length e2),(.slice f2 y0.effs.length g2)]) (x:=y0) rfl ⟨_,_,rfl,z0,a1,f3,g3⟩) t3) rfl rfl fun x5 n1 o1 d0 u3=>?_
  obtain ⟨o4,rfl,y5,z5,rfl,p2,q2,v3,w3⟩:=u3
  obtain ⟨x3,y3,rfl⟩:=p2.form
  obtain ⟨z3,a4,rfl⟩:=q2.form
  have hZ:=d0.lst [] (fun _ h=>h.elim)
  refine Az [] hZ (by kernel_rfl) ?_
  refine At (i:=12) (by kernel_rfl) rfl ?_
  obtain ⟨r2,b4,c0⟩:=bs c0
  replace b1:=b1.st d0
  replace c1:=c1.st d0
  refine By (O:=o1) (A:=All n1) (R:=fun w' F v=>Vb w' F v r2) (Ij (fun _ h=>h) (Vb.mono (F:=Fr 0 n1 o1) (Vb.ofAgg (cs:=[(.string u0.name),(.int .i64 u0.cost),(.slice x3 u0.pre.length y3),(.slice z3 u0.effs.length a4)]) (x:=u0) rfl ⟨_,_,rfl,p2,q2,v3,w3⟩) Fr.lt) (Vb.mono (F:=Fr 0 n1 o1) (Vb.ofAgg (cs:=[(.string w0.name),(.int .i64 w0.cost),(.slice p3 w0.pre.length q3),(.slice r3 w0.effs.length s3)]) (x:=w0) rfl ⟨_,_,rfl,b1,c1,n3,o3⟩) Fr.lt) b4) rfl rfl fun a6 b6 c6 k0 c4=>?_
  obtain rfl:=c4.bool
  have hZ:=k0.lst [] (fun _ h=>h.elim)
  cases r2
  case false =>
   replace c0:=iF c0
   refine Az [] hZ (by kernel_rfl) ?_
   refine AD (fuel:=0) [] [(13,true)] (by kernel_rfl) rfl ?_
   refine Pp rfl rfl rfl (Au ?_)
   refine AY (by kernel_rfl) ?_
   refine Ah rfl (Al (Aj (Ay rfl rfl (o_z ?_))))
   refine AR ?_
   obtain rfl:=sm c0
   obtain rfl:=l1 _ rfl
   obtain rfl:=sm (Cn hm)
   replace hB:=(((hB.st f0).st g0).st d0).st k0
   exact ret1v rfl (AO rfl) ⟨hB.ext,vBool⟩
  replace c0:=iT c0
  refine Az [] hZ (by kernel_rfl) ?_
  refine AD (fuel:=0) [] [(13,true)] (by kernel_rfl) rfl ?_
  refine Ni rfl rfl rfl (Au ?_)
  refine AY (by kernel_rfl) ?_
  refine Ae rfl (AZ ?_)
  obtain rfl:=sm c0
  exact show Exists _ from ⟨_,(),rfl,⟨rfl,rfl,rfl,rfl,rfl,trivial⟩,_,(((hB.st f0).st g0).st d0).st k0,(e0.st d0).st k0,(((h8.st f0).st g0).st d0).st k0,(((t0.st f0).st g0).st d0).st k0,(((m0.st f0).st g0).st d0).st k0,(h0.st d0).st k0,(l0.st d0).st k0,(n0.st d0).st k0,(o0.st d0).st k0,(i0.st d0).st k0⟩
 rintro d6 e6 ⟨f6,g6,rfl,s2,h6,hB⟩
 replace hm:=Bq hm
 refine Bc _ s2 ?_
 refine Al (Aj (Ay rfl rfl (o_z ?_)))
 refine AR ?_
 obtain rfl:=sm hm
 exact ret1v rfl (AO rfl) ⟨hB.ext,vBool⟩
noncomputable def Cr (x0:Tsk) (x1:Swp):Option Bool :=
  bnd (bnd (Cq x0) fun q47=>if q47.n=0 then (bnd (Da x0 x1) fun q56=>if q56=true then some true else some false) else (some false):Option Bool) fun y43=>some y43
theorem Im {w:World} {A:Nat→Prop} (hA:∀ k,A k→k < w.heap.size) {vx0:Value} {x0:Tsk} (m0:Vb w A vx0 x0) {vx1:Value} {x1:Swp} (n0:Vb w A vx1 x1) {r:Bool} (hm:Cr x0 x1=some r) :
    Fn Tryz.prog 23 [vx0,vx1] w fun v w'=>Ext w w'∧Vb w' (upA A w w') v r:=by
 obtain ⟨O,hB,c1⟩:=enter hA
 replace m0:=m0.mono c1
 obtain ⟨y1,rfl,v4,v5,v6,v7,rfl,h8,f0,g0,h0⟩:=m0
 obtain ⟨A9,o0,rfl⟩:=h8.form
 obtain ⟨p0,q0,rfl⟩:=f0.form
 obtain ⟨r0,s0,rfl⟩:=g0.form
 obtain ⟨t0,u0,rfl⟩:=h0.form
 replace n0:=n0.mono c1
 obtain ⟨m1,rfl,z1,a2,b2,rfl,j0,k0,l0⟩:=n0
 obtain ⟨d1,e1,rfl⟩:=j0.form
 obtain ⟨f1,g1,rfl⟩:=k0.form
 obtain ⟨h1,i1,rfl⟩:=l0.form
 refine AQ Tryz.func23 rfl Tryz.ntmps23 rfl ?_
 unfold Cr at hm
 refine Al (Aj (Cp 2 O rfl rfl fun n1 o1 j1 d0 e0=>?_))
 replace e0:Lc 2 o1 j1 n1 26 [(.slice A9 x0.vars.length o0),(.slice p0 x0.init.length q0),(.slice r0 x0.goal.length s0),(.slice t0 x0.ops.length u0)]:=e0
 refine Cp 3 j1 rfl rfl fun p1 v0 w0 b0 i0=>?_
 replace i0:Lc 3 v0 w0 p1 53 [(.slice d1 x1.vars.length e1),(.slice f1 x1.vals.length g1),(.slice h1 x1.ops.length i1)]:=i0
 refine Ay rfl rfl (o_z ?_)
 refine Al ?_
 obtain ⟨q1,a0,hm⟩:=bs hm
 refine AU (fun l' w'=>∃ (r1:Unit) (O':Lab),subs l' [(4,(.bool q1))]∧Bs w A w' O') ?_ ?_
 ·
  refine Aj ?_
  replace e0:=e0.st b0
  refine Br (hl:=rfl) (hc:=(e0.1).cellsAt) rfl rfl ?_
  obtain ⟨s1,t1,a0⟩:=bs a0
  replace h8:=(h8.st d0).st b0
  replace f0:=(f0.st d0).st b0
  replace g0:=(g0.st d0).st b0
  replace h0:=(h0.st d0).st b0
  refine By (O:=w0) (A:=All v0) (R:=fun w' F v=>Vb w' F v s1) (FO (fun _ h=>h) (Vb.mono (F:=Fr 0 v0 w0) (Vb.ofAgg (cs:=[(.slice A9 x0.vars.length o0),(.slice p0 x0.init.length q0),(.slice r0 x0.goal.length s0),(.slice t0 x0.ops.length u0)]) (x:=x0) rfl ⟨_,_,_,_,rfl,h8,f0,g0,h0⟩) Fr.lt) t1) rfl rfl fun c2 y0 z0 c0 u1=>?_
  obtain ⟨rfl,d2⟩:=u1.err
  refine LW rfl rfl (fun a1=>?_) fun a1=>?_
  ·
   replace a0:=ip a0 a1
   refine Ar rfl rfl (AE rfl rfl ?_)
   replace e0:=e0.st c0
   refine Br (hl:=rfl) (hc:=(e0.1).cellsAt) rfl rfl ?_
   refine AE rfl rfl ?_
   replace i0:=i0.st c0
   refine Br (hl:=rfl) (hc:=(i0.1).cellsAt) rfl rfl ?_
   refine AE rfl rfl ?_
   obtain ⟨k1,v1,a0⟩:=bs a0
   replace h8:=h8.st c0
   replace f0:=f0.st c0
   replace g0:=g0.st c0
   replace h0:=h0.st c0
   replace j0:=((j0.st d0).st b0).st c0
   replace k0:=((k0.st d0).st b0).st c0
   replace l0:=((l0.st d0).st b0).st c0
   refine By (O:=z0) (A:=All y0) (R:=fun w' F v=>Vb w' F v k1) (GS (fun _ h=>h) (Vb.mono (F:=Fr 0 y0 z0) (Vb.ofAgg (cs:=[(.slice A9 x0.vars.length o0),(.slice p0 x0.init.length q0),(.slice r0 x0.goal.length s0),(.slice t0 x0.ops.length u0)]) (x:=x0) rfl ⟨_,_,_,_,rfl,h8,f0,g0,h0⟩) Fr.lt) (Vb.mono (F:=Fr 0 y0 z0) (Vb.ofAgg (cs:=[(.slice d1 x1.vars.length e1),(.slice f1 x1.vals.length g1),(.slice h1 x1.ops.length i1)]) (x:=x1) rfl ⟨_,_,_,rfl,j0,k0,l0⟩) Fr.lt) v1) rfl rfl fun e2 f2 g2 l1 w1=>?_
   obtain rfl:=w1.bool
   cases k1
   case false =>
    replace a0:=iF a0
    refine BF rfl rfl rfl (Ay rfl rfl (o_z ?_))
    obtain rfl:=sm a0
    exact ⟨(),_,⟨rfl,trivial⟩,(((hB.st d0).st b0).st c0).st l1⟩
   replace a0:=iT a0
   refine BF rfl rfl rfl (Ay rfl rfl (o_z ?_))
   obtain rfl:=sm a0
   exact ⟨(),_,⟨rfl,trivial⟩,(((hB.st d0).st b0).st c0).st l1⟩
  replace a0:=im a0 a1
  refine Ar rfl rfl (AC rfl rfl rfl rfl (AC rfl rfl rfl rfl (AC rfl rfl rfl rfl (BN rfl rfl rfl (Ay rfl rfl (o_z ?_))))))
  obtain rfl:=sm a0
  exact ⟨(),_,⟨rfl,trivial⟩,((hB.st d0).st b0).st c0⟩
 replace hB:=(hB.st d0).st b0
 rintro h2 i2 ⟨r1,j2,b1,hB⟩
 refine Bc _ b1 ?_
 refine AR ?_
 obtain rfl:=sm hm
 exact ret1v rfl (AO rfl) ⟨hB.ext,vBool⟩
noncomputable def Bn (x0:Tsk) (x1:List Swp):Option Err :=
  bnd (Cq x0) fun q27=>if q27.n≠0 then (some (⟨q27.n⟩:Err)) else (bnd (rng (ρ:=Err) (fun (k42:Nat) (a43:Swp) (s40:Unit)=>bnd (Da x0 a43) fun q79=>if q79=true then some (.next ()) else some (.ret (⟨2⟩:Err))) x1 0 ()) fun res38=>fin res38 fun (s90:Unit)=>some (⟨0⟩:Err))
theorem DF {w:World} {A:Nat→Prop} (hA:∀ k,A k→k < w.heap.size) {vx0:Value} {x0:Tsk} (f1:Vb w A vx0 x0) {vx1:Value} {x1:List Swp} (e0:Vb w A vx1 x1) {r:Err} (hm:Bn x0 x1=some r) :
    Fn Tryz.prog 85 [vx0,vx1] w fun v w'=>Ext w w'∧Vb w' (upA A w w') v r:=by
 obtain ⟨O,hB,r1⟩:=enter hA
 replace f1:=f1.mono r1
 obtain ⟨o2,rfl,v4,v5,v6,v7,rfl,h8,b0,c0,d0⟩:=f1
 obtain ⟨A9,n0,rfl⟩:=h8.form
 obtain ⟨o0,p0,rfl⟩:=b0.form
 obtain ⟨q0,r0,rfl⟩:=c0.form
 obtain ⟨s0,t0,rfl⟩:=d0.form
 replace e0:=e0.mono r1
 obtain ⟨s1,t1,rfl⟩:=e0.form
 refine AQ Tryz.func85 rfl Tryz.ntmps85 rfl ?_
 unfold Bn at hm
 refine Al (Aj (Cp 2 O rfl rfl fun g1 h1 i1 j0 f0=>?_))
 replace f0:Lc 2 h1 i1 g1 26 [(.slice A9 x0.vars.length n0),(.slice o0 x0.init.length p0),(.slice q0 x0.goal.length r0),(.slice s0 x0.ops.length t0)]:=f0
 refine Ay rfl rfl (o_z ?_)
 refine Al (Al (Aj (Br (hl:=rfl) (hc:=(f0.1).cellsAt) rfl rfl ?_)))
 obtain ⟨c2,d2,hm⟩:=bs hm
 replace h8:=h8.st j0
 replace b0:=b0.st j0
 replace c0:=c0.st j0
 replace d0:=d0.st j0
 refine By (O:=i1) (A:=All h1) (R:=fun w' F v=>Vb w' F v c2) (FO (fun _ h=>h) (Vb.mono (F:=Fr 0 h1 i1) (Vb.ofAgg (cs:=[(.slice A9 x0.vars.length n0),(.slice o0 x0.init.length p0),(.slice q0 x0.goal.length r0),(.slice s0 x0.ops.length t0)]) (x:=x0) rfl ⟨_,_,_,_,rfl,h8,b0,c0,d0⟩) Fr.lt) d2) rfl rfl fun p2 q2 e2 i0 f2=>?_
 obtain ⟨rfl,g2⟩:=f2.err
 refine Ay rfl rfl (o_z ?_)
 refine Al (Aj (Ar rfl rfl (Ej rfl rfl (fun j1=>?_) fun j1=>?_)))
 ·
  replace hm:=ip hm j1
  refine o_z ?_
  refine Ah rfl (Al (Aj (Ar rfl rfl (Ay rfl rfl (o_z ?_)))))
  refine AR ?_
  obtain rfl:=sm hm
  replace hB:=(hB.st j0).st i0
  exact ret1v rfl (AO rfl) ⟨hB.ext,(vErr g2)⟩
 replace hm:=im hm j1
 refine o_z ?_
 refine Ae rfl (AZ (Al (Al (Aj (Ar rfl rfl (Bj rfl rfl ?_))))))
 replace e0:=(e0.st j0).st i0
 have k1:x1.length≤9223372036854775807:=Nat.le_trans e0.len.2.1 e0.len.2.2
 have r2:inI64 (x1.length:Int):=rngNat k1
 refine Ar rfl rfl (o_z ?_)
 obtain ⟨u0,l1,hm⟩:=bs hm
 refine AU (aft u0 (fun (y0:Unit) (z0:Unit)=>[]) (fun y0 z0 w'=>∃ O':Lab,Bs w A w' O')) ?_ ?_
 ·
  refine Bf ?_
  replace hB:=(hB.st j0).st i0
  replace h8:=h8.st i0
  replace b0:=b0.st i0
  replace c0:=c0.st i0
  replace d0:=d0.st i0
  replace f0:=f0.st i0
  refine BS (σ:=Unit) (X:=Unit) (x1.length) l1 rfl k1 (fun (y0:Unit) (z0:Unit)=>[(2,(.pointer (some ⟨g1,0,none⟩))),(13,(.slice s1 x1.length t1))]) _ (fun y0 z0 w'=>∃ O':Lab,Bs w A w' O'∧Lc 2 w' O' g1 26 [(.slice A9 x0.vars.length n0),(.slice o0 x0.init.length p0),(.slice q0 x0.goal.length r0),(.slice s0 x0.ops.length t0)]∧Vb w' (Fr 0 w' O') (.slice A9 x0.vars.length n0) x0.vars∧Vb w' (Fr 0 w' O') (.slice o0 x0.init.length p0) x0.init∧Vb w' (Fr 0 w' O') (.slice q0 x0.goal.length r0) x0.goal∧Vb w' (Fr 0 w' O') (.slice s0 x0.ops.length t0) x0.ops∧Vb w' (Fr 0 w' O') (.slice s1 x1.length t1) x1) _ () ⟨e2,hB,f0,h8,b0,c0,d0,e0⟩ ⟨rfl,rfl,rfl,rfl,trivial⟩ (fun _ _=>⟨rfl,rfl⟩) (fun _ _=>trivial) (fun _ _ _ ⟨O',hB,f0,h8,b0,c0,d0,e0⟩=>⟨O',hB⟩) ⟨rfl,rfl,rfl⟩ ⟨rfl,rfl⟩ ?_
  rintro h2 l0 y0 z0 s2 i2 v0 ⟨j2,hB,f0,h8,b0,c0,d0,e0⟩ a0 m0 m1
  have rk42:inI64 (h2:Int):=rngK v0 k1
  refine Al (Aj ?_)
  obtain ⟨t2,u2,k2,n1,o1,p1,v2,w2,x2,rfl,a1,b1,c1⟩:=e0.elem' v0
  obtain ⟨u1,v1,rfl⟩:=a1.form
  obtain ⟨w1,y1,rfl⟩:=b1.form
  obtain ⟨z1,a2,rfl⟩:=c1.form
  refine BB (hA:=n1) (hj:=rfl) (hlt:=o1) rfl rfl rfl ?_
  refine Br (hl:=rfl) (hc:=p1) rfl rfl ?_
  refine Bk 3 j2 rfl fun l2 y2 d1 g0 w0=>?_
  refine AA w0 rfl rfl rfl (AG rfl) (allOne rfl) fun e1 h0 w0=>?_
  replace w0:Lc 3 e1 d1 l2 53 [(.slice u1 l0.vars.length v1),(.slice w1 l0.vals.length y1),(.slice z1 l0.ops.length a2)]:=w0
  refine o_z ?_
  refine Al (Aj ?_)
  replace f0:=(f0.st g0).st h0
  refine Br (hl:=rfl) (hc:=(f0.1).cellsAt) rfl rfl ?_
  refine Br (hl:=rfl) (hc:=(w0.1).cellsAt) rfl rfl ?_
  obtain ⟨b2,m2,a0⟩:=bs a0
  replace h8:=(h8.st g0).st h0
  replace b0:=(b0.st g0).st h0
  replace c0:=(c0.st g0).st h0
  replace d0:=(d0.st g0).st h0
  replace a1:=(a1.st g0).st h0
  replace b1:=(b1.st g0).st h0
  replace c1:=(c1.st g0).st h0
  refine By (O:=d1) (A:=All e1) (R:=fun w' F v=>Vb w' F v b2) (GS (fun _ h=>h) (Vb.mono (F:=Fr 0 e1 d1) (Vb.ofAgg (cs:=[(.slice A9 x0.vars.length n0),(.slice o0 x0.init.length p0),(.slice q0 x0.goal.length r0),(.slice s0 x0.ops.length t0)]) (x:=x0) rfl ⟨_,_,_,_,rfl,h8,b0,c0,d0⟩) Fr.lt) (Vb.mono (F:=Fr 0 e1 d1) (Vb.ofAgg (cs:=[(.slice u1 l0.vars.length v1),(.slice w1 l0.vals.length y1),(.slice z1 l0.ops.length a2)]) (x:=l0) rfl ⟨_,_,_,rfl,a1,b1,c1⟩) Fr.lt) m2) rfl rfl fun z2 a3 b3 k0 n2=>?_
  obtain rfl:=n2.bool
  cases b2
  case false =>
   replace a0:=iF a0
   refine DL rfl rfl (o_z ?_)
   refine Ah rfl (Al (Aj (LV rfl rfl ?_)))
   refine Ay rfl rfl (o_z ?_)
   refine AR ?_
   obtain rfl:=sm a0
   obtain rfl:=m0 _ rfl
   obtain rfl:=sm (Cn hm)
   replace hB:=((hB.st g0).st h0).st k0
   exact ret1v rfl (AO rfl) ⟨hB.ext,(vErr (by decide))⟩
  replace a0:=iT a0
  refine DK rfl rfl (o_z ?_)
  refine Ae rfl (AZ ?_)
  obtain rfl:=sm a0
  exact show Exists _ from ⟨_,(),rfl,⟨rfl,rfl,rfl,rfl,trivial⟩,_,((hB.st g0).st h0).st k0,f0.st k0,h8.st k0,b0.st k0,c0.st k0,d0.st k0,((e0.st g0).st h0).st k0⟩
 replace hB:=(hB.st j0).st i0
 rintro c3 d3 ⟨e3,f3,rfl,q1,g3,hB⟩
 replace hm:=Bq hm
 refine Bc _ q1 ?_
 refine Al (Aj (Ay rfl rfl (o_z ?_)))
 refine AR ?_
 obtain rfl:=sm hm
 exact ret1v rfl (AO rfl) ⟨hB.ext,(vErr (show inI64 0 from by decide))⟩
end
section
open Go Go.RowKit
attribute [local irreducible] ewp owp hwp hwq hws Ev Evg Fn retPost loud loudS Res1
def exts (n:Nat) (s:List Int):List (List Int):=(List.range n).map fun x:Nat=>s ++ [(x:Int)]
def grows (out:List (List Int)) (k:Int):List (List Int):=out.flatMap (exts k.toNat)
def statesL (vars:List Int):List (List Int):=vars.foldl grows [[]]
theorem No (n:Nat) (s:List Int):(exts n s).length=n:=by simp [exts]
theorem JB (n:Nat):∀ l:List (List Int),(l.flatMap (exts n)).length=l.length * n
  | []=>by simp
  | s :: l=>by rw [List.flatMap_cons,List.length_append,No,JB n l,List.length_cons,Nat.add_mul];omega
end
section
open Go Go.RowKit
def prodV:List Int→Nat→Nat
  | [],n=>n
  | k :: r,n=>prodV r (n * k.toNat)
theorem FZ:∀ (vars:List Int) (out:List (List Int)),(vars.foldl grows out).length=prodV vars out.length
  | [],_=>rfl
  | k :: r,out=>by
    simp only [List.foldl_cons,prodV]
    rw [FZ r,grows,JB]
theorem Lf (vars:List Int):(statesL vars).length=prodV vars 1:=FZ vars [[]]
theorem JC {most:Nat}:∀ (vars:List Int) (n:Nat),(∀ x∈vars,1≤x)→1≤n→manyF most vars (n:Int)≤most→∀ k,prodV (vars.take k) n≤most
  | [],n,_,_,h,k=>by simp only [List.take_nil,prodV];simp only [manyF] at h;omega
  | x :: r,n,hx,hn,h,k=>by
    have h1:1≤x:=hx x List.mem_cons_self
    simp only [manyF] at h
    have hmax:max x 0=x:=by omega
    rw [hmax] at h
    obtain ⟨m,rfl⟩:∃ m:Nat,x=(m:Int):=⟨x.toNat,by omega⟩
    by_cases hm:(m:Int)≤most
    · rw [show min (m:Int) (most + 1)=(m:Int) from by omega,← Int.natCast_mul] at h
      have hnm:n≤n * m:=Nat.le_mul_of_pos_right n (by omega)
      by_cases hc:(most:Int) < ((n * m:Nat):Int)
      · rw [if_pos hc] at h;omega
      · rw [if_neg hc] at h
        cases k with
        | zero=>simp only [List.take_zero,prodV];omega
        | succ k =>
          simp only [List.take_succ_cons,prodV,Int.toNat_natCast]
          exact JC r (n * m) (fun y hy=>hx y (List.mem_cons_of_mem _ hy)) (by omega) h k
    · exfalso
      rw [show min (m:Int) (most + 1)=((most + 1:Nat):Int) from by omega,← Int.natCast_mul] at h
      have:most + 1≤n * (most + 1):=Nat.le_mul_of_pos_left _ hn
      rw [if_pos (by omega)] at h
      omega
theorem Hn {y x:Int} {vs s:List Int}:StateOk (y :: vs) (x :: s)↔(0≤x∧x < y)∧StateOk vs s:=by
  constructor
  · intro h
    exact ⟨h.2 0 x y rfl rfl,by have:=h.1;simpa using this,fun i a b ha hb=>h.2 (i + 1) a b (by simpa using ha) (by simpa using hb)⟩
  · rintro ⟨h1,h2,h3⟩
    refine ⟨by simpa using h2,fun i a b ha hb=>?_⟩
    cases i with
    | zero=>simp at ha hb;subst ha;subst hb;exact h1
    | succ i=>exact h3 i a b (by simpa using ha) (by simpa using hb)
theorem Lg:StateOk [] []:=⟨rfl,fun i a b ha=>by simp at ha⟩
theorem Kx {n:Nat} {s t:List Int}:t∈exts n s↔∃ x:Nat,x < n∧t=s ++ [(x:Int)]:=by
  unfold exts
  rw [List.mem_map]
  constructor
  · rintro ⟨x,hx,rfl⟩;exact ⟨x,List.mem_range.1 hx,rfl⟩
  · rintro ⟨x,hx,rfl⟩;exact ⟨x,List.mem_range.2 hx,rfl⟩
theorem Ga:∀ (vars:List Int) (out:List (List Int)) (s:List Int),s∈vars.foldl grows out↔∃ s0∈out,∃ r,s=s0 ++ r∧StateOk vars r
  | [],out,s=>by
    constructor
    · intro h;exact ⟨s,h,[],by simp,Lg⟩
    · rintro ⟨s0,h,r,rfl,hr⟩
      have:r=[]:=List.eq_nil_of_length_eq_zero hr.1
      subst this;simpa using h
  | k :: vs,out,s=>by
    simp only [List.foldl_cons]
    rw [Ga vs (grows out k) s]
    constructor
    · rintro ⟨s1,h1,r,rfl,hr⟩
      obtain ⟨s0,h0,h2⟩:=List.mem_flatMap.1 h1
      obtain ⟨x,hx,rfl⟩:=Kx.1 h2
      exact ⟨s0,h0,(x:Int) :: r,by simp,Hn.2 ⟨⟨by omega,by omega⟩,hr⟩⟩
    · rintro ⟨s0,h0,r,rfl,hr⟩
      cases r with
      | nil=>have:=hr.1;simp at this
      | cons x r =>
        obtain ⟨⟨h1,h2⟩,h3⟩:=Hn.1 hr
        exact ⟨s0 ++ [x],List.mem_flatMap.2 ⟨s0,h0,Kx.2 ⟨x.toNat,by omega,by rw [show ((x.toNat:Nat):Int)=x from by omega]⟩⟩,r,by simp,h3⟩
theorem Fd {vars s:List Int}:s∈statesL vars↔StateOk vars s:=by
  unfold statesL
  rw [Ga]
  constructor
  · rintro ⟨s0,h0,r,rfl,hr⟩
    have:s0=[]:=by simpa using h0
    subst this;exact hr
  · intro h;exact ⟨[],by simp,s,rfl,h⟩
theorem SmallOk.ok {t:Tsk} (h:SmallOk t):TaskOk t:=h.2.2.2.1
theorem SmallOk.states {t:Tsk} (h:SmallOk t):∀ k,(statesL (t.vars.take k)).length≤512:=fun k=>by
  rw [Lf]
  refine JC (most:=512) t.vars 1 (fun x hx=>?_) (Nat.le_refl _) h.2.2.2.2 k
  obtain ⟨i,hi,rfl⟩:=List.getElem_of_mem hx
  exact (h.ok.vars i _ (List.getElem?_eq_getElem hi)).1
theorem SmallOk.many {t:Tsk} (h:SmallOk t):(statesL t.vars).length≤512:=by
  have:=h.states t.vars.length
  rwa [List.take_length] at this
structure Mid (t:Tsk):Prop where
  ok:TaskOk t
  states:∀ k,(statesL (t.vars.take k)).length≤600
  ops:t.ops.length≤80
theorem SmallOk.mid {t:Tsk} (h:SmallOk t):Mid t:=⟨h.ok,fun k=>by have:=h.states k;omega,by have:=h.2.1;omega⟩
end
section
open Go Go.RowKit
attribute [local irreducible] ewp owp hwp hwq hws Ev Evg Fn retPost loud loudS Res1
noncomputable def CI (x0:Tsk) (x1:List Int) (x2:Int):Option ((List Int)×Bool) :=
  bnd (if x2 < 0 then (some true) else (if (x0.ops.length:Int)≤x2 then (some true) else (bnd (atI x0.ops x2) fun a36=>bnd (DM a36.pre x1) fun q57=>if q57=true then some false else some true)):Option Bool) fun y28=>if y28=true then (some (([]:List Int),false)) else (bnd (appI 8 ([]:List Int) x1) fun u75=>bnd (atI x0.ops x2) fun a86=>bnd (rng (ρ:=(List Int)×Bool) (fun (k113:Nat) (a114:Eff) (s111:(List Int))=>bnd (DM a114.cond x1) fun q148=>if q148=true then bnd (atI s111 a114.var) fun a155=>some (.next (s111.set (a114.var:Int).toNat a114.val)) else some (.next s111)) a86.effs 0 u75) fun res109=>fin res109 fun (s173:(List Int))=>some (s173,true))
theorem Ky {w:World} {A:Nat→Prop} (hA:∀ k,A k→k < w.heap.size) {vx0:Value} {x0:Tsk} (y1:Vb w A vx0 x0) {vx1:Value} {x1:List Int} (e0:Vb w A vx1 x1) {x2:Int} (rx2:inI64 x2) {r:(List Int)×Bool} (hm:CI x0 x1 x2=some r) :
    Fn Tryz.prog 37 [vx0,vx1,(.int .i64 x2)] w fun v w'=>Ext w w'∧T2 w' (upA A w w') v r:=by
 obtain ⟨O,hB,h3⟩:=enter hA
 replace y1:=y1.mono h3
 obtain ⟨h5,rfl,v5,v6,v7,v8,rfl,h9,t0,u0,k0⟩:=y1
 obtain ⟨z1,a2,rfl⟩:=h9.form
 obtain ⟨b2,c2,rfl⟩:=t0.form
 obtain ⟨d2,e2,rfl⟩:=u0.form
 obtain ⟨f2,g2,rfl⟩:=k0.form
 replace e0:=e0.mono h3
 obtain ⟨o1,p1,rfl⟩:=e0.form
 refine AQ Tryz.func37 rfl Tryz.ntmps37 rfl ?_
 unfold CI at hm
 refine Al (Aj (Cp 2 O rfl rfl fun h2 q1 r1 c0 n0=>?_))
 replace n0:Lc 2 q1 r1 h2 26 [(.slice z1 x0.vars.length a2),(.slice b2 x0.init.length c2),(.slice d2 x0.goal.length e2),(.slice f2 x0.ops.length g2)]:=n0
 refine Ay rfl rfl (Ay rfl rfl (o_z ?_))
 refine Al (Al ?_)
 obtain ⟨q3,a0,hm⟩:=bs hm
 refine AU (fun l' w'=>∃ (r3:Unit) (O':Lab),subs l' [(1,(.slice o1 x1.length p1)),(2,(.int .i64 x2)),(3,(.pointer (some ⟨h2,0,none⟩))),(30,(.bool q3))]∧Bs w A w' O'∧Vb w' (Fr 0 w' O') (.slice o1 x1.length p1) x1∧Lc 2 w' O' h2 26 [(.slice z1 x0.vars.length a2),(.slice b2 x0.init.length c2),(.slice d2 x0.goal.length e2),(.slice f2 x0.ops.length g2)]∧Vb w' (Fr 0 w' O') (.slice z1 x0.vars.length a2) x0.vars∧Vb w' (Fr 0 w' O') (.slice b2 x0.init.length c2) x0.init∧Vb w' (Fr 0 w' O') (.slice d2 x0.goal.length e2) x0.goal∧Vb w' (Fr 0 w' O') (.slice f2 x0.ops.length g2) x0.ops) ?_ ?_
 ·
  refine Aj (Ar rfl rfl (EA rfl rfl rfl (fun i2=>?_) fun i2=>?_))
  ·
   replace a0:=ip a0 i2
   refine Ar rfl rfl (AC rfl rfl rfl rfl (AC rfl rfl rfl rfl (AC rfl rfl rfl rfl (AC rfl rfl rfl rfl (AC rfl rfl rfl rfl (BF rfl rfl rfl (Ar rfl rfl (AC rfl rfl rfl rfl (AC rfl rfl rfl rfl (AC rfl rfl rfl rfl (AC rfl rfl rfl rfl (AC rfl rfl rfl rfl (AC rfl rfl rfl rfl (AC rfl rfl rfl rfl ?_))))))))))))))
   refine AC rfl rfl rfl rfl (AC rfl rfl rfl rfl (BF rfl rfl rfl (o_z ?_)))
   obtain rfl:=sm a0
   exact ⟨(),_,⟨rfl,rfl,rfl,rfl,trivial⟩,hB.st c0,e0.st c0,n0,h9.st c0,t0.st c0,u0.st c0,k0.st c0⟩
  replace a0:=im a0 i2
  refine Ar rfl rfl (AE rfl rfl (Ar rfl rfl (AE rfl rfl (AV rfl rfl (AE rfl rfl (AP (hc:=Blk.cell (i:=3) (n0.1) rfl) rfl rfl ?_))))))
  refine AE rfl rfl (Bj rfl rfl ?_)
  replace k0:=k0.st c0
  have s3:x0.ops.length≤9223372036854775807:=Nat.le_trans k0.len.2.1 k0.len.2.2
  have i5:inI64 (x0.ops.length:Int):=rngNat s3
  refine AE rfl rfl (Fc rfl rfl rfl (fun j2=>?_) fun j2=>?_)
  ·
   replace a0:=ip a0 j2
   refine BN rfl rfl rfl (Ar rfl rfl (AC rfl rfl rfl rfl (AC rfl rfl rfl rfl (AC rfl rfl rfl rfl (AC rfl rfl rfl rfl (AC rfl rfl rfl rfl (AC rfl rfl rfl rfl (AC rfl rfl rfl rfl (AC rfl rfl rfl rfl (AC rfl rfl rfl rfl (BF rfl rfl rfl (o_z ?_))))))))))))
   obtain rfl:=sm a0
   exact ⟨(),_,⟨rfl,rfl,rfl,rfl,trivial⟩,hB.st c0,e0.st c0,n0,h9.st c0,t0.st c0,u0.st c0,k0⟩
  replace a0:=im a0 j2
  refine BN rfl rfl rfl (Ar rfl rfl (AE rfl rfl (AV rfl rfl (AE rfl rfl (AP (hc:=Blk.cell (i:=3) (n0.1) rfl) rfl rfl ?_)))))
  refine AE rfl rfl (Ar rfl rfl (AE rfl rfl ?_))
  obtain ⟨j5,t3,a0⟩:=bs a0
  obtain ⟨u3,v3⟩:=Ba t3
  obtain ⟨k5,l5,w3,k2,l2,m2,m5,n5,rfl,i3,x3,o5,p5⟩:=k0.elem' v3
  obtain ⟨q5,r5,rfl⟩:=i3.form
  obtain ⟨s5,t5,rfl⟩:=x3.form
  refine BB (hA:=k2) (hj:=(Int.toNat_of_nonneg u3).symm) (hlt:=l2) rfl rfl rfl ?_
  refine AE rfl rfl (AV rfl rfl (AE rfl rfl (AP (hc:=cat2 m2) rfl rfl ?_)))
  refine AE rfl rfl (Ar rfl rfl (AE rfl rfl ?_))
  obtain ⟨j3,y3,a0⟩:=bs a0
  replace e0:=e0.st c0
  refine By (O:=r1) (A:=All q1) (R:=fun w' F v=>Vb w' F v j3) (FN (fun _ h=>h) (Vb.mono (F:=Fr 0 q1 r1) i3 Fr.lt) (Vb.mono (F:=Fr 0 q1 r1) e0 Fr.lt) y3) rfl rfl fun u5 w5 x5 l0 z3=>?_
  obtain rfl:=z3.bool
  cases j3
  case false =>
   replace a0:=iF a0
   refine AE rfl rfl (DL rfl rfl (BN rfl rfl rfl (o_z ?_)))
   obtain rfl:=sm a0
   exact ⟨(),_,⟨rfl,rfl,rfl,rfl,trivial⟩,(hB.st c0).st l0,e0.st l0,n0.st l0,(h9.st c0).st l0,(t0.st c0).st l0,(u0.st c0).st l0,k0.st l0⟩
  replace a0:=iT a0
  refine AE rfl rfl (DK rfl rfl (BN rfl rfl rfl (o_z ?_)))
  obtain rfl:=sm a0
  exact ⟨(),_,⟨rfl,rfl,rfl,rfl,trivial⟩,(hB.st c0).st l0,e0.st l0,n0.st l0,(h9.st c0).st l0,(t0.st c0).st l0,(u0.st c0).st l0,k0.st l0⟩
 replace hB:=hB.st c0
 replace e0:=e0.st c0
 replace h9:=h9.st c0
 replace t0:=t0.st c0
 replace u0:=u0.st c0
 replace k0:=k0.st c0
 rintro y5 a4 ⟨r3,k3,n2,hB,e0,n0,h9,t0,u0,k0⟩
 refine Bc _ n2 ?_
 refine CC rfl (fun o2=>?_) (fun o2=>?_)
 ·
  replace hm:=ip hm o2
  refine Al (Aj (Ay rfl rfl (Ay rfl rfl (o_z ?_))))
  refine AR ?_
  obtain rfl:=sm hm
  exact ret2 rfl (AO rfl) (AO rfl) ⟨hB.ext,_,_,rfl,(Vb.mono (F:=Fr 0 a4 k3) (Vb.nil _ _) hB.out),vBool⟩
 replace hm:=im' hm o2
 refine AZ (Al (Aj (AM 3 (by decide) k3 (xs:=(([]:List Int):List Int)) rfl rfl rfl rfl trivial (by decide) (by decide) rfl fun z5 a6 b6 c1 b4=>?_)))
 refine Ar rfl rfl ?_
 obtain ⟨s1,p2,hm⟩:=bs hm
 obtain ⟨p2,c4,d4⟩:=AB p2
 replace e0:=e0.st c1
 refine AF rfl b4 (e0.rd) rfl rfl (by decide) c4 d4 rfl fun t1 u1 c6 e4 d1 l3=>?_
 rw [← p2] at l3 ⊢
 refine Ay rfl rfl (o_z ?_)
 refine Al (Al (Aj (AV rfl rfl ?_)))
 replace n0:=(n0.st c1).st d1
 refine AP (hc:=Blk.cell (i:=3) (n0.1) rfl) rfl rfl ?_
 refine Ar rfl rfl ?_
 obtain ⟨b1,f4,hm⟩:=bs hm
 obtain ⟨g4,h4⟩:=Ba f4
 replace k0:=(k0.st c1).st d1
 obtain ⟨d6,e6,i4,q2,r2,s2,f6,g6,rfl,j4,f0,k4,l4⟩:=k0.elem' h4
 obtain ⟨m4,n4,rfl⟩:=j4.form
 obtain ⟨e1,f1,rfl⟩:=f0.form
 refine BB (hA:=q2) (hj:=(Int.toNat_of_nonneg g4).symm) (hlt:=r2) rfl rfl rfl ?_
 refine AV rfl rfl (AP (hc:=cat3 s2) rfl rfl ?_)
 refine Bj rfl rfl ?_
 have y0:b1.effs.length≤9223372036854775807:=Nat.le_trans f0.len.2.1 f0.len.2.2
 have o4:inI64 (b1.effs.length:Int):=rngNat y0
 refine Ar rfl rfl (o_z ?_)
 obtain ⟨z0,g1,hm⟩:=bs hm
 refine AU (aft z0 (fun (m0:(List Int)) (o0:Unit)=>[(8,(.slice t1 s1.length u1))]) (fun m0 o0 w'=>∃ O':Lab,Bs w A w' O'∧Rw 3 w' O' 3 (.slice t1 s1.length u1) m0)) ?_ ?_
 ·
  refine Bf ?_
  replace hB:=(hB.st c1).st d1
  replace e0:=e0.st d1
  refine BS (σ:=(List Int)) (X:=Unit) (b1.effs.length) g1 rfl y0 (fun (m0:(List Int)) (o0:Unit)=>[(1,(.slice o1 x1.length p1)),(8,(.slice t1 s1.length u1)),(39,(.slice e1 b1.effs.length f1))]) _ (fun m0 o0 w'=>∃ O':Lab,Bs w A w' O'∧Vb w' (Fr 0 w' O') (.slice o1 x1.length p1) x1∧Rw 3 w' O' 3 (.slice t1 s1.length u1) m0∧Vb w' (Fr 0 w' O') (.slice e1 b1.effs.length f1) b1.effs) _ () ⟨e4,hB,e0,l3,f0⟩ ⟨rfl,rfl,rfl,rfl,rfl,trivial⟩ (fun _ _=>⟨rfl,rfl⟩) (fun _ _=>⟨rfl,trivial⟩) (fun _ _ _ ⟨O',hB,e0,d0,f0⟩=>⟨O',hB,d0⟩) ⟨rfl,rfl,rfl⟩ ⟨rfl,rfl⟩ ?_
  rintro t2 p0 m0 o0 p4 m3 v0 ⟨u2,hB,e0,d0,f0⟩ b0 v1 w1
  have rk113:inI64 (t2:Int):=rngK v0 y0
  refine Al (Aj ?_)
  obtain ⟨q4,r4,n3,h1,i1,j1,s4,rfl,q0,t4,v2⟩:=f0.elem' v0
  obtain ⟨w2,y2,rfl⟩:=q0.form
  refine BB (hA:=h1) (hj:=rfl) (hlt:=i1) rfl rfl rfl ?_
  refine Br (hl:=rfl) (hc:=j1) rfl rfl ?_
  refine Bk 4 u2 rfl fun z2 u4 r0 i0 g0=>?_
  refine AA g0 rfl rfl rfl (AG rfl) (allOne rfl) fun s0 j0 g0=>?_
  replace g0:Lc 4 s0 r0 z2 47 [(.slice w2 p0.cond.length y2),(.int .i64 p0.var),(.int .i64 p0.val)]:=g0
  refine o_z ?_
  refine Al (Aj (AV rfl rfl (AP (hc:=Blk.cell (i:=0) (g0.1) rfl) rfl rfl ?_)))
  refine Ar rfl rfl ?_
  obtain ⟨k1,a3,b0⟩:=bs b0
  replace e0:=(e0.st i0).st j0
  replace q0:=(q0.st i0).st j0
  refine By (O:=r0) (A:=All s0) (R:=fun w' F v=>Vb w' F v k1) (FN (fun _ h=>h) (Vb.mono (F:=Fr 0 s0 r0) q0 Fr.lt) (Vb.mono (F:=Fr 0 s0 r0) e0 Fr.lt) a3) rfl rfl fun v4 w4 x4 h0 b3=>?_
  obtain rfl:=b3.bool
  cases k1
  case false =>
   replace b0:=iF b0
   refine o_z ?_
   refine Ae rfl (AZ ?_)
   obtain rfl:=sm b0
   exact show Exists _ from ⟨_,(),rfl,⟨rfl,rfl,rfl,rfl,rfl,trivial⟩,_,((hB.st i0).st j0).st h0,e0.st h0,((d0.st i0).st j0).st h0,((f0.st i0).st j0).st h0⟩
  replace b0:=iT b0
  refine o_z ?_
  refine Ah rfl (Aj (Ar rfl rfl (AV rfl rfl ?_)))
  replace g0:=g0.st h0
  refine AP (hc:=Blk.cell (i:=1) (g0.1) rfl) rfl rfl ?_
  refine AV rfl rfl (AP (hc:=Blk.cell (i:=2) (g0.1) rfl) rfl rfl ?_)
  obtain ⟨y4,c3,b0⟩:=bs b0
  obtain ⟨d3,l1⟩:=Ba c3
  replace d0:=((d0.st i0).st j0).st h0
  obtain ⟨z4,a5,o3,w0,m1,p3,rfl,b5⟩:=d0.elem l1
  refine BB (hA:=w0) (hj:=(Int.toNat_of_nonneg d3).symm) (hlt:=m1) rfl rfl rfl ?_
  refine CM rfl d0 (a:=p0.val) (vInt v2) w0 rfl rfl (AL l1) fun c5 a1 d0=>?_
  refine o_z ?_
  obtain rfl:=sm b0
  exact show Exists _ from ⟨_,(),rfl,⟨rfl,rfl,rfl,rfl,rfl,trivial⟩,_,(((hB.st i0).st j0).st h0).st a1,(e0.st h0).st a1,d0,(((f0.st i0).st j0).st h0).st a1⟩
 replace hB:=(hB.st c1).st d1
 rintro d5 e3 ⟨e5,f5,rfl,n1,g5,hB,d0⟩
 replace hm:=Bq hm
 refine Bc _ n1 ?_
 refine Al (Aj (Ar rfl rfl (Ay rfl rfl (Ay rfl rfl (o_z ?_)))))
 refine AR ?_
 obtain ⟨f3,g3,d0⟩:=d0.freeze
 obtain rfl:=sm hm
 replace hB:=hB.st g3
 exact ret2 rfl (AO rfl) (AO rfl) ⟨hB.ext,_,_,rfl,(Vb.mono (F:=Fr 0 e3 f3) d0 hB.out),vBool⟩
noncomputable def Ex (x0:Tsk) (x1:List Int) (x2:List Int):Option (Int×Bool) :=
  bnd (rng (ρ:=Int×Bool) (fun (k36:Nat) (a37:Int) (s34:(List Int)×Int)=>bnd (CI x0 s34.1 a37) fun q59=>if (!q59.2)=true then (some (.ret (0,false))) else (bnd (atI x0.ops a37) fun a73=>bnd (chkI (s34.2 + a73.cost)) fun n94=>some (.next (q59.1,n94)))) x2 0 (x1,0)) fun res32=>fin res32 fun (s101:(List Int)×Int)=>bnd (bnd (DM x0.goal s101.1) fun q107=>if q107=true then some true else some false:Option Bool) fun y103=>some (s101.2,y103)
theorem Lh {w:World} {A:Nat→Prop} (hA:∀ k,A k→k < w.heap.size) {vx0:Value} {x0:Tsk} (f1:Vb w A vx0 x0) {vx1:Value} {x1:List Int} (m0:Vb w A vx1 x1) {vx2:Value} {x2:List Int} (g0:Vb w A vx2 x2) {r:Int×Bool} (hm:Ex x0 x1 x2=some r) :
    Fn Tryz.prog 31 [vx0,vx1,vx2] w fun v w'=>Ext w w'∧T2 w' (upA A w w') v r:=by
 obtain ⟨O,hB,g1⟩:=enter hA
 replace f1:=f1.mono g1
 obtain ⟨h3,rfl,v5,v6,v7,v8,rfl,h9,h0,e0,c0⟩:=f1
 obtain ⟨n0,o0,rfl⟩:=h9.form
 obtain ⟨p0,q0,rfl⟩:=h0.form
 obtain ⟨r0,s0,rfl⟩:=e0.form
 obtain ⟨t0,u0,rfl⟩:=c0.form
 replace m0:=m0.mono g1
 obtain ⟨e2,f2,rfl⟩:=m0.form
 replace g0:=g0.mono g1
 obtain ⟨z1,a2,rfl⟩:=g0.form
 refine AQ Tryz.func31 rfl Tryz.ntmps31 rfl ?_
 unfold Ex at hm
 refine Al (Aj (Cp 2 O rfl rfl fun v0 g2 b2 i0 f0=>?_))
 replace f0:Lc 2 g2 b2 v0 26 [(.slice n0 x0.vars.length o0),(.slice p0 x0.init.length q0),(.slice r0 x0.goal.length s0),(.slice t0 x0.ops.length u0)]:=f0
 refine Ay rfl rfl (Ay rfl rfl (o_z ?_))
 refine Al (Aj (Ay rfl rfl (o_z ?_)))
 refine Al (Al (Aj (Ar rfl rfl (Bj rfl rfl ?_))))
 replace g0:=g0.st i0
 have h1:x2.length≤9223372036854775807:=Nat.le_trans g0.len.2.1 g0.len.2.2
 have i3:inI64 (x2.length:Int):=rngNat h1
 refine Ar rfl rfl (o_z ?_)
 obtain ⟨w0,i1,hm⟩:=bs hm
 refine AU (aft w0 (fun (d0:(List Int)×Int) (j0:(Option Addr×Nat))=>[(1,(.slice j0.1 d0.1.length j0.2)),(3,(.pointer (some ⟨v0,0,none⟩))),(8,(.int .i64 d0.2))]) (fun d0 j0 w'=>∃ O':Lab,Bs w A w' O'∧Vb w' (Fr 0 w' O') (.slice j0.1 d0.1.length j0.2) d0.1∧Lc 2 w' O' v0 26 [(.slice n0 x0.vars.length o0),(.slice p0 x0.init.length q0),(.slice r0 x0.goal.length s0),(.slice t0 x0.ops.length u0)]∧Vb w' (Fr 0 w' O') (.slice n0 x0.vars.length o0) x0.vars∧Vb w' (Fr 0 w' O') (.slice p0 x0.init.length q0) x0.init∧Vb w' (Fr 0 w' O') (.slice r0 x0.goal.length s0) x0.goal∧Vb w' (Fr 0 w' O') (.slice t0 x0.ops.length u0) x0.ops∧inI64 d0.2)) ?_ ?_
 ·
  refine Bf ?_
  replace hB:=hB.st i0
  replace m0:=m0.st i0
  replace h9:=h9.st i0
  replace h0:=h0.st i0
  replace e0:=e0.st i0
  replace c0:=c0.st i0
  refine BS (σ:=(List Int)×Int) (X:=(Option Addr×Nat)) (x2.length) i1 rfl h1 (fun (d0:(List Int)×Int) (j0:(Option Addr×Nat))=>[(1,(.slice j0.1 d0.1.length j0.2)),(3,(.pointer (some ⟨v0,0,none⟩))),(8,(.int .i64 d0.2)),(13,(.slice z1 x2.length a2))]) _ (fun d0 j0 w'=>∃ O':Lab,Bs w A w' O'∧Vb w' (Fr 0 w' O') (.slice j0.1 d0.1.length j0.2) d0.1∧Lc 2 w' O' v0 26 [(.slice n0 x0.vars.length o0),(.slice p0 x0.init.length q0),(.slice r0 x0.goal.length s0),(.slice t0 x0.ops.length u0)]∧Vb w' (Fr 0 w' O') (.slice n0 x0.vars.length o0) x0.vars∧Vb w' (Fr 0 w' O') (.slice p0 x0.init.length q0) x0.init∧Vb w' (Fr 0 w' O') (.slice r0 x0.goal.length s0) x0.goal∧Vb w' (Fr 0 w' O') (.slice t0 x0.ops.length u0) x0.ops∧Vb w' (Fr 0 w' O') (.slice z1 x2.length a2) x2∧inI64 d0.2) _ (e2,f2) ⟨b2,hB,m0,f0,h9,h0,e0,c0,g0,(show inI64 (0) from by decide)⟩ ⟨rfl,rfl,rfl,rfl,rfl,rfl,trivial⟩ (fun _ _=>⟨rfl,rfl⟩) (fun _ _=>⟨rfl,rfl,rfl,trivial⟩) (fun _ _ _ ⟨O',hB,y0,f0,h9,h0,e0,c0,g0,e1⟩=>⟨O',hB,y0,f0,h9,h0,e0,c0,e1⟩) ⟨rfl,rfl,rfl⟩ ⟨rfl,rfl⟩ ?_
  rintro h2 j3 d0 j0 k3 i2 z0 ⟨j2,hB,y0,f0,h9,h0,e0,c0,g0,e1⟩ b0 l0 j1
  have rk36:inI64 (h2:Int):=rngK z0 h1
  refine Al (Aj ?_)
  obtain ⟨l3,m3,k2,k1,l1,m1,rfl,l2⟩:=g0.elem' z0
  refine BB (hA:=k1) (hj:=rfl) (hlt:=l1) rfl rfl rfl ?_
  refine AP (hc:=cat0 m1) rfl rfl ?_
  refine Ay rfl rfl (o_z ?_)
  refine Al (Aj (Br (hl:=rfl) (hc:=(f0.1).cellsAt) rfl rfl ?_))
  refine Ar rfl rfl (Ar rfl rfl ?_)
  obtain ⟨m2,n2,b0⟩:=bs b0
  refine Bt (O:=j2) (R:=fun w' F v=>T2 w' F v m2) (Ky Fr.lt (Vb.ofAgg (cs:=[(.slice n0 x0.vars.length o0),(.slice p0 x0.init.length q0),(.slice r0 x0.goal.length s0),(.slice t0 x0.ops.length u0)]) (x:=x0) rfl ⟨_,_,_,_,rfl,h9,h0,e0,c0⟩) y0 l2 n2) rfl rfl fun n3 o3 p3 k0 o2=>?_
  obtain ⟨q3,r3,rfl,c2,p2⟩:=o2
  obtain ⟨q2,r2,rfl⟩:=c2.form
  obtain rfl:=p2.bool
  refine Ar rfl rfl (Cy rfl rfl rfl (Cy rfl rfl rfl (Ay rfl rfl (Ay rfl rfl (o_z ?_)))))
  refine Al (Al (Aj (Ar rfl rfl (Fs rfl rfl (o_z ?_)))))
  refine CC rfl (fun n1=>?_) (fun n1=>?_)
  ·
   replace b0:=ip b0 n1
   refine Al (Aj (Ay rfl rfl (Ay rfl rfl (o_z ?_))))
   refine AR ?_
   obtain rfl:=sm b0
   obtain rfl:=l0 _ rfl
   obtain rfl:=sm (Cn hm)
   replace hB:=hB.st k0
   exact ret2 rfl (AO rfl) (AO rfl) ⟨hB.ext,_,_,rfl,(vInt (show inI64 (0) from by decide)),vBool⟩
  replace b0:=im' b0 n1
  refine AZ (Al (Aj (Ar rfl rfl (Ay rfl rfl (o_z ?_)))))
  refine Aj (Ar rfl rfl (AV rfl rfl ?_))
  replace f0:=f0.st k0
  refine AP (hc:=Blk.cell (i:=3) (f0.1) rfl) rfl rfl ?_
  refine Ar rfl rfl ?_
  obtain ⟨s3,s2,b0⟩:=bs b0
  obtain ⟨t2,u2⟩:=Ba s2
  replace c0:=c0.st k0
  obtain ⟨t3,u3,v2,o1,p1,q1,v3,w3,rfl,w2,y2,x3,y3⟩:=c0.elem' u2
  obtain ⟨z3,a4,rfl⟩:=w2.form
  obtain ⟨b4,c4,rfl⟩:=y2.form
  refine BB (hA:=o1) (hj:=(Int.toNat_of_nonneg t2).symm) (hlt:=p1) rfl rfl rfl ?_
  refine AV rfl rfl (AP (hc:=cat1 q1) rfl rfl ?_)
  obtain ⟨d4,d2,b0⟩:=bs b0
  have z2:=(BI d2)
  refine Fz (he:=d2) rfl rfl rfl ?_
  refine Ay rfl rfl (o_z ?_)
  obtain rfl:=sm b0
  exact show Exists _ from ⟨_,(q2,r2),rfl,⟨rfl,rfl,rfl,rfl,rfl,rfl,trivial⟩,_,hB.st k0,c2,f0,h9.st k0,h0.st k0,e0.st k0,c0,g0.st k0,z2⟩
 replace hB:=hB.st i0
 replace h9:=h9.st i0
 replace h0:=h0.st i0
 replace e0:=e0.st i0
 replace c0:=c0.st i0
 rintro e4 r1 ⟨s1,a3,rfl,a1,t1,hB,y0,f0,h9,h0,e0,c0,e1⟩
 replace hm:=Bq hm
 refine Bc _ a1 ?_
 refine Al ?_
 obtain ⟨u1,a0,hm⟩:=bs hm
 refine AU (fun l' w'=>∃ (v1:Unit) (O':Lab),subs l' [(6,(.int .i64 s1.2)),(7,(.bool u1))]∧Bs w A w' O') ?_ ?_
 ·
  refine Aj (Ar rfl rfl (AV rfl rfl (AP (hc:=Blk.cell (i:=2) (f0.1) rfl) rfl rfl ?_)))
  refine Ar rfl rfl ?_
  obtain ⟨b1,w1,a0⟩:=bs a0
  refine By (O:=t1) (A:=All r1) (R:=fun w' F v=>Vb w' F v b1) (FN (fun _ h=>h) (Vb.mono (F:=Fr 0 r1 t1) e0 Fr.lt) (Vb.mono (F:=Fr 0 r1 t1) y0 Fr.lt) w1) rfl rfl fun b3 c3 d3 c1 y1=>?_
  obtain rfl:=y1.bool
  cases b1
  case false =>
   replace a0:=iF a0
   refine Ay rfl rfl (Ay rfl rfl (o_z ?_))
   obtain rfl:=sm a0
   exact ⟨(),_,⟨rfl,rfl,trivial⟩,hB.st c1⟩
  replace a0:=iT a0
  refine Ay rfl rfl (Ay rfl rfl (o_z ?_))
  obtain rfl:=sm a0
  exact ⟨(),_,⟨rfl,rfl,trivial⟩,hB.st c1⟩
 rintro e3 f3 ⟨v1,g3,d1,hB⟩
 refine Bc _ d1 ?_
 refine AR ?_
 obtain rfl:=sm hm
 exact ret2 rfl (AO rfl) (AO rfl) ⟨hB.ext,_,_,rfl,(vInt e1),vBool⟩
end
end Go.Proofs.YtecegaabajeolaaGreat

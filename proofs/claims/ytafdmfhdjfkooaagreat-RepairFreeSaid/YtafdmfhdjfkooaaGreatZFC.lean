/- Own text: what the proof of repairFree_holds uses, part 3: rules, models and their proofs, plain laws. -/
import Derived.Test.YtafdmfhdjfkooaaGreatZFB
set_option linter.unusedVariables false
set_option linter.unusedSimpArgs false
namespace Go.Proofs.YtafdmfhdjfkooaaGreat
open Go Go.RowKit
section
open Go Go.RowKit
attribute [local irreducible] ewp owp hwp hwq hws Ev Evg Fn retPost loud loudS Res1
def VarsOk (t:Tsk):Prop:=∀ (i:Nat) n,t.vars[i]?=some n→1≤n∧n≤64
def CostsOk (t:Tsk):Prop:=∀ (i:Nat) o,t.ops[i]?=some o→0≤o.cost∧o.cost≤1048576
def CondsOk (t:Tsk):Prop:=∀ (i:Nat) f,(conds t)[i]?=some f→FactsOk t.vars f
def EffsOk (t:Tsk):Prop:=∀ (i:Nat) o,t.ops[i]?=some o→∀ (j:Nat) e,o.effs[j]?=some e→FactOk t.vars ⟨e.var,e.val⟩
def NamesOk (t:Tsk):Prop:=∀ (i:Nat) o,t.ops[i]?=some o→NameOk o.name
noncomputable def checkN (t:Tsk):Int :=
  if bof (Large t)=true then 5 else if bof (VarsOk t∧CostsOk t)=false then 1 else if bof (StateOk t.vars t.init∧CondsOk t∧EffsOk t)=false then 2 else if bof (NamesOk t)=false then 8 else 0
theorem taskCheck {w:World} {tv:Value} {t:Tsk} (ht:V w tv t):Fn Tryz.prog 40 [tv] w fun v w'=>v=errV (checkN t)∧Ext w w':=by
  have ht0:=ht
  obtain ⟨cs,rfl,a,b,c,d,rfl,hvars,hinit,hgoal,hops⟩:=ht
  obtain ⟨Av,cv,rfl⟩:=hvars.form
  obtain ⟨Ai,ci,rfl⟩:=hinit.form
  obtain ⟨Ag,cg,rfl⟩:=hgoal.form
  obtain ⟨Ao,co,rfl⟩:=hops.form
  have hvl:=hvars.len
  have hol:=hops.len
  refine AL Tryz.func40 rfl Tryz.ntmps40 rfl ?_
  repeat (first|refine Ah ?_|refine Al ?_|refine Ae ?_|refine Am ?_|refine At ?_|refine Au ?_|refine Ar rfl ?_|refine Aj rfl ?_)
  refine CP rfl rfl fun w1 hN=>?_
  have hb1:=hN.blk
  have hE1:Ext w w1:=hN.ext
  (refine o_as rfl rfl ?_<;>(first|refine Ay ?_|refine Az ?_|refine Aw ?_|refine AB ?_))
  repeat (first|refine Ah ?_|refine Al ?_|refine Ae ?_|refine Am ?_|refine At ?_|refine Au ?_|refine Ar rfl ?_|refine Aj rfl ?_)
  (refine o_la rfl rfl ?_)
  refine Cp rfl rfl (taskLarge (ht0.ext hE1)) ?_ ?_
  case refine_1 =>
    intro w2 hP hE2
    ((first|refine Ay ?_|refine Az ?_|refine Aw ?_|refine AB ?_))
    repeat (first|refine Ah ?_|refine Al ?_|refine Ae ?_|refine Am ?_|refine At ?_|refine Au ?_|refine Ar rfl ?_|refine Aj rfl ?_)
    ((repeat (first|refine Ah ?_|refine Al ?_|refine Ae ?_|refine Am ?_|refine At ?_|refine Au ?_|refine Ar rfl ?_|refine Aj rfl ?_))<;>(refine o_mi rfl rfl ?_<;>refine o_as rfl rfl ?_<;>(first|refine Ay ?_|refine Az ?_|refine Aw ?_|refine AB ?_))<;>(repeat (first|refine Ah ?_|refine Al ?_|refine Ae ?_|refine Am ?_|refine At ?_|refine Au ?_|refine Ar rfl ?_|refine Aj rfl ?_)))
    refine ret1 rfl rfl ⟨?_,hE1.trans' hE2⟩
    rw [checkN,bof_t hP];rfl
  intro w2 hlarge hE2
  replace hb1:=hb1.ext hE2
  replace hE2:Ext w w2:=hE1.trans' hE2
  have hm:∀ (i:Nat) o,t.ops[i]?=some o→o.effs.length≤64:=fun i o ho=>Nat.le_of_not_lt fun h=>hlarge (.inr (.inr (.inl ⟨i,o,ho,h⟩)))
  have hn4:t.ops.length≤4096:=Nat.le_of_not_lt fun h=>hlarge (.inr (.inl h))
  have c1:checkN t=if bof (VarsOk t∧CostsOk t)=false then 1 else if bof (StateOk t.vars t.init∧CondsOk t∧EffsOk t)=false then 2 else if bof (NamesOk t)=false then 8 else 0:=by rw [checkN,bof_f hlarge];rfl
  ((first|refine Ay ?_|refine Az ?_|refine Aw ?_|refine AB ?_))
  repeat (first|refine Ah ?_|refine Al ?_|refine Ae ?_|refine Am ?_|refine At ?_|refine Au ?_|refine Ar rfl ?_|refine Aj rfl ?_)
  ((repeat (first|refine Ah ?_|refine Al ?_|refine Ae ?_|refine Am ?_|refine At ?_|refine Au ?_|refine Ar rfl ?_|refine Aj rfl ?_))<;>(refine o_fa rfl rfl ?_<;>refine o_ld rfl rfl ?_<;>refine o_ln rfl rfl ?_<;>refine o_mv rfl rfl ?_<;>(first|refine Ay ?_|refine Az ?_|refine Aw ?_|refine AB ?_))<;>(repeat (first|refine Ah ?_|refine Al ?_|refine Ae ?_|refine Am ?_|refine At ?_|refine Au ?_|refine Ar rfl ?_|refine Aj rfl ?_)))
  refine Bp t.vars.length (by omega) (fun _:Unit=>[(1,.pointer (some ⟨w.heap.size,0,none⟩)),(19,.slice Av t.vars.length cv)]) (fun k _ w'=>w'=w2∧∀ i,i < k→∀ n,t.vars[i]?=some n→1≤n∧n≤64) ()
    ⟨rfl,fun i hi=>by omega⟩ ⟨rfl,rfl,rfl,rfl,trivial⟩ (fun _=>⟨rfl,rfl⟩) ⟨rfl,rfl,rfl⟩ ⟨rfl,rfl⟩ ?_ ?_
  · rintro k _ _ hk ⟨rfl,hh⟩
    obtain ⟨n,hn⟩:=AH hk
    obtain ⟨b2,o2,ce,rfl,_,_,hd1,rfl,_⟩:=(hvars.ext hE2).elem hn
    ((repeat (first|refine Ah ?_|refine Al ?_|refine Ae ?_|refine Am ?_|refine At ?_|refine Au ?_|refine Ar rfl ?_|refine Aj rfl ?_))<;>(refine o_ia rfl rfl rfl ?_<;>refine o_ld rfl rfl ?_<;>refine o_as rfl rfl ?_<;>(first|refine Ay ?_|refine Az ?_|refine Aw ?_|refine AB ?_))<;>(repeat (first|refine Ah ?_|refine Al ?_|refine Ae ?_|refine Am ?_|refine At ?_|refine Au ?_|refine Ar rfl ?_|refine Aj rfl ?_))<;>(refine o_mv rfl rfl ?_<;>(first|refine o_ltT rfl rfl rfl ?_|refine o_ltF rfl rfl rfl ?_|refine o_ltS rfl rfl rfl (fun _=>?_) fun _=>?_)<;>refine o_mv rfl rfl ?_<;>(first|(refine AE rfl rfl ?_;refine o_mv rfl rfl ?_)|refine AC rfl rfl rfl rfl ?_)<;>(first|(refine AE rfl rfl ?_;(first|refine o_gtT rfl rfl rfl ?_|refine o_gtF rfl rfl rfl ?_|refine o_gtS rfl rfl rfl (fun _=>?_) fun _=>?_))|refine AC rfl rfl rfl rfl ?_)<;>(first|refine o_pt rfl rfl rfl ?_|refine o_pf rfl rfl rfl ?_)<;>(first|refine Ay ?_|refine Az ?_|refine Aw ?_|refine AB ?_))<;>(repeat (first|refine Ah ?_|refine Al ?_|refine Ae ?_|refine Am ?_|refine At ?_|refine Au ?_|refine Ar rfl ?_|refine Aj rfl ?_)))
    all_goals try (
      ((repeat (first|refine Ah ?_|refine Al ?_|refine Ae ?_|refine Am ?_|refine At ?_|refine Au ?_|refine Ar rfl ?_|refine Aj rfl ?_))<;>(refine o_mi rfl rfl ?_<;>refine o_as rfl rfl ?_<;>(first|refine Ay ?_|refine Az ?_|refine Aw ?_|refine AB ?_))<;>(repeat (first|refine Ah ?_|refine Al ?_|refine Ae ?_|refine Am ?_|refine At ?_|refine Au ?_|refine Ar rfl ?_|refine Aj rfl ?_)))
      refine ret1 rfl rfl ⟨?_,hE2⟩
      rw [c1,bof_f (fun h=>by have:=h.1 k n hn;omega)];rfl)
    exact ⟨(),⟨rfl,rfl,rfl,rfl,trivial⟩,rfl,Ck hh fun n' hn'=>by rw [hn] at hn';injection hn' with hn';omega⟩
  rintro _ _ ⟨rfl,hdom⟩
  replace hdom:VarsOk t:=fun i n hn=>hdom i (Bh hn) n hn
  repeat (first|refine Ah ?_|refine Al ?_|refine Ae ?_|refine Am ?_|refine At ?_|refine Au ?_|refine Ar rfl ?_|refine Aj rfl ?_)
  ((repeat (first|refine Ah ?_|refine Al ?_|refine Ae ?_|refine Am ?_|refine At ?_|refine Au ?_|refine Ar rfl ?_|refine Aj rfl ?_))<;>(refine o_fa rfl rfl ?_<;>refine o_ld rfl rfl ?_<;>refine o_ln rfl rfl ?_<;>refine o_mv rfl rfl ?_<;>(first|refine Ay ?_|refine Az ?_|refine Aw ?_|refine AB ?_))<;>(repeat (first|refine Ah ?_|refine Al ?_|refine Ae ?_|refine Am ?_|refine At ?_|refine Au ?_|refine Ar rfl ?_|refine Aj rfl ?_)))
  refine Bp t.ops.length (by omega) (fun _:Unit=>[(1,.pointer (some ⟨w.heap.size,0,none⟩)),(34,.slice Ao t.ops.length co)]) (fun k _ w'=>Ext w w'∧Blk w' w.heap.size 26 [.slice Av t.vars.length cv,.slice Ai t.init.length ci,.slice Ag t.goal.length cg,.slice Ao t.ops.length co]∧∀ i,i < k→∀ o,t.ops[i]?=some o→0≤o.cost∧o.cost≤1048576) ()
    ⟨hE2,hb1,fun i hi=>by omega⟩ ⟨rfl,rfl,rfl,rfl,trivial⟩ (fun _=>⟨rfl,rfl⟩) ⟨rfl,rfl,rfl⟩ ⟨rfl,rfl⟩ ?_ ?_
  · rintro k _ w4 hk ⟨hE4,hb1,hh⟩
    obtain ⟨o,ho⟩:=AH hk
    obtain ⟨b2,o2,ce,rfl,_,_,hd1,p,q,rfl,hp,hq,hc,hn⟩:=(hops.ext hE4).elem ho
    obtain ⟨Ap,cp,rfl⟩:=hp.form
    obtain ⟨Aq,cq,rfl⟩:=hq.form
    ((repeat (first|refine Ah ?_|refine Al ?_|refine Ae ?_|refine Am ?_|refine At ?_|refine Au ?_|refine Ar rfl ?_|refine Aj rfl ?_))<;>(refine o_ia rfl rfl rfl ?_<;>refine o_la rfl rfl ?_)<;>(repeat (first|refine Ah ?_|refine Al ?_|refine Ae ?_|refine Am ?_|refine At ?_|refine Au ?_|refine Ar rfl ?_|refine Aj rfl ?_)))
    refine BO rfl rfl rfl (by simp [Value.cells,Value.oneCell']) fun w5 hN5=>?_
    replace hb1:=hb1.ext hN5.ext
    have hb2:=hN5.blk
    have hE5:Ext w w5:=hE4.trans' hN5.ext
    ((first|refine Ay ?_|refine Az ?_|refine Aw ?_|refine AB ?_))
    repeat (first|refine Ah ?_|refine Al ?_|refine Ae ?_|refine Am ?_|refine At ?_|refine Au ?_|refine Ar rfl ?_|refine Aj rfl ?_)
    ((repeat (first|refine Ah ?_|refine Al ?_|refine Ae ?_|refine Am ?_|refine At ?_|refine Au ?_|refine Ar rfl ?_|refine Aj rfl ?_))<;>(refine o_fa rfl rfl ?_<;>refine o_ld rfl rfl ?_<;>(first|refine o_ltT rfl rfl rfl ?_|refine o_ltF rfl rfl rfl ?_|refine o_ltS rfl rfl rfl (fun _=>?_) fun _=>?_)<;>refine o_mv rfl rfl ?_<;>(first|(refine AE rfl rfl ?_;refine o_fa rfl rfl ?_)|refine AC rfl rfl rfl rfl ?_)<;>(first|(refine AE rfl rfl ?_;refine o_ld rfl rfl ?_)|refine AC rfl rfl rfl rfl ?_)<;>(first|(refine AE rfl rfl ?_;(first|refine o_gtT rfl rfl rfl ?_|refine o_gtF rfl rfl rfl ?_|refine o_gtS rfl rfl rfl (fun _=>?_) fun _=>?_))|refine AC rfl rfl rfl rfl ?_)<;>(first|refine o_pt rfl rfl rfl ?_|refine o_pf rfl rfl rfl ?_)<;>(first|refine Ay ?_|refine Az ?_|refine Aw ?_|refine AB ?_))<;>(repeat (first|refine Ah ?_|refine Al ?_|refine Ae ?_|refine Am ?_|refine At ?_|refine Au ?_|refine Ar rfl ?_|refine Aj rfl ?_)))
    all_goals try (
      ((repeat (first|refine Ah ?_|refine Al ?_|refine Ae ?_|refine Am ?_|refine At ?_|refine Au ?_|refine Ar rfl ?_|refine Aj rfl ?_))<;>(refine o_mi rfl rfl ?_<;>refine o_as rfl rfl ?_<;>(first|refine Ay ?_|refine Az ?_|refine Aw ?_|refine AB ?_))<;>(repeat (first|refine Ah ?_|refine Al ?_|refine Ae ?_|refine Am ?_|refine At ?_|refine Au ?_|refine Ar rfl ?_|refine Aj rfl ?_)))
      refine ret1 rfl rfl ⟨?_,hE5⟩
      rw [c1,bof_f (fun h=>by have:=h.2 k o ho;omega)];rfl)
    exact ⟨(),⟨rfl,rfl,rfl,rfl,trivial⟩,hE5,hb1,Ck hh fun o' ho'=>by rw [ho] at ho';injection ho' with ho';subst ho';omega⟩
  rintro _ w3 ⟨hE3,hb1,hcost⟩
  replace hcost:CostsOk t:=fun i o ho=>hcost i (Bh ho) o ho
  have c2:checkN t=if bof (StateOk t.vars t.init∧CondsOk t∧EffsOk t)=false then 2 else if bof (NamesOk t)=false then 8 else 0:=by rw [c1,bof_t ⟨hdom,hcost⟩];rfl
  repeat (first|refine Ah ?_|refine Al ?_|refine Ae ?_|refine Am ?_|refine At ?_|refine Au ?_|refine Ar rfl ?_|refine Aj rfl ?_)
  (refine o_fa rfl rfl ?_<;>refine o_ld rfl rfl ?_<;>refine o_fa rfl rfl ?_<;>refine o_ld rfl rfl ?_)
  refine Cp rfl rfl (taskProper (hvars.ext hE3) (hinit.ext hE3)) ?_ ?_
  case refine_2 =>
    intro w4 hP hE4
    ((first|refine o_nt rfl rfl ?_|refine o_nf rfl rfl ?_|refine o_nn rfl rfl ?_)<;>(first|refine Ay ?_|refine Az ?_|refine Aw ?_|refine AB ?_))
    repeat (first|refine Ah ?_|refine Al ?_|refine Ae ?_|refine Am ?_|refine At ?_|refine Au ?_|refine Ar rfl ?_|refine Aj rfl ?_)
    ((repeat (first|refine Ah ?_|refine Al ?_|refine Ae ?_|refine Am ?_|refine At ?_|refine Au ?_|refine Ar rfl ?_|refine Aj rfl ?_))<;>(refine o_mi rfl rfl ?_<;>refine o_as rfl rfl ?_<;>(first|refine Ay ?_|refine Az ?_|refine Aw ?_|refine AB ?_))<;>(repeat (first|refine Ah ?_|refine Al ?_|refine Ae ?_|refine Am ?_|refine At ?_|refine Au ?_|refine Ar rfl ?_|refine Aj rfl ?_)))
    refine ret1 rfl rfl ⟨?_,hE3.trans' hE4⟩
    rw [c2,bof_f (fun h=>hP h.1)];rfl
  intro w4 hst hE4
  replace hb1:=hb1.ext hE4
  replace hE4:Ext w w4:=hE3.trans' hE4
  ((first|refine o_nt rfl rfl ?_|refine o_nf rfl rfl ?_|refine o_nn rfl rfl ?_)<;>(first|refine Ay ?_|refine Az ?_|refine Aw ?_|refine AB ?_))
  repeat (first|refine Ah ?_|refine Al ?_|refine Ae ?_|refine Am ?_|refine At ?_|refine Au ?_|refine Ar rfl ?_|refine Aj rfl ?_)
  (refine o_la rfl rfl ?_)
  refine Bb rfl rfl (taskConditions (ht0.ext hE4) hn4 hm) ?_
  rintro v5 w5 ⟨hv5,hE5⟩
  obtain ⟨Ac,cc,rfl⟩:=hv5.form
  have hcl:=hv5.len
  replace hb1:=hb1.ext hE5
  replace hE5:Ext w w5:=hE4.trans' hE5
  (refine o_ln rfl rfl ?_<;>refine o_mv rfl rfl ?_<;>(first|refine Ay ?_|refine Az ?_|refine Aw ?_|refine AB ?_))
  repeat (first|refine Ah ?_|refine Al ?_|refine Ae ?_|refine Am ?_|refine At ?_|refine Au ?_|refine Ar rfl ?_|refine Aj rfl ?_)
  refine Bp (conds t).length (by omega) (fun _:Unit=>[(1,.pointer (some ⟨w.heap.size,0,none⟩)),(58,.slice Ac (conds t).length cc)]) (fun k _ w'=>Ext w5 w'∧∀ i,i < k→∀ f,(conds t)[i]?=some f→FactsOk t.vars f) ()
    ⟨Below.refl _ _,fun i hi=>by omega⟩ ⟨rfl,rfl,rfl,rfl,trivial⟩ (fun _=>⟨rfl,rfl⟩) ⟨rfl,rfl,rfl⟩ ⟨rfl,rfl⟩ ?_ ?_
  · rintro k _ w6 hk ⟨hE6,hh⟩
    obtain ⟨f,hf⟩:=AH hk
    have hb1:=hb1.ext hE6
    obtain ⟨b2,o2,ce,rfl,_,_,hd1,v,rfl,hR⟩:=(hv5.ext hE6).elem hf
    ((repeat (first|refine Ah ?_|refine Al ?_|refine Ae ?_|refine Am ?_|refine At ?_|refine Au ?_|refine Ar rfl ?_|refine Aj rfl ?_))<;>(refine o_ia rfl rfl rfl ?_<;>refine o_ld rfl rfl ?_<;>refine o_as rfl rfl ?_<;>(first|refine Ay ?_|refine Az ?_|refine Aw ?_|refine AB ?_))<;>(repeat (first|refine Ah ?_|refine Al ?_|refine Ae ?_|refine Am ?_|refine At ?_|refine Au ?_|refine Ar rfl ?_|refine Aj rfl ?_))<;>(refine o_fa rfl rfl ?_<;>refine o_ld rfl rfl ?_<;>refine o_mv rfl rfl ?_)<;>(repeat (first|refine Ah ?_|refine Al ?_|refine Ae ?_|refine Am ?_|refine At ?_|refine Au ?_|refine Ar rfl ?_|refine Aj rfl ?_)))
    refine Cp rfl rfl (taskFacts (hvars.ext (hE5.trans' hE6)) (Vb.of_slice hR)) ?_ ?_
    · intro w7 hP hE7
      ((first|refine o_nt rfl rfl ?_|refine o_nf rfl rfl ?_|refine o_nn rfl rfl ?_)<;>(first|refine Ay ?_|refine Az ?_|refine Aw ?_|refine AB ?_))
      repeat (first|refine Ah ?_|refine Al ?_|refine Ae ?_|refine Am ?_|refine At ?_|refine Au ?_|refine Ar rfl ?_|refine Aj rfl ?_)
      exact ⟨(),⟨rfl,rfl,rfl,rfl,trivial⟩,hE6.trans' hE7,Ck hh fun f' hf'=>by rw [hf] at hf';injection hf' with hf';exact hf' ▸ hP⟩
    · intro w7 hP hE7
      ((first|refine o_nt rfl rfl ?_|refine o_nf rfl rfl ?_|refine o_nn rfl rfl ?_)<;>(first|refine Ay ?_|refine Az ?_|refine Aw ?_|refine AB ?_))
      repeat (first|refine Ah ?_|refine Al ?_|refine Ae ?_|refine Am ?_|refine At ?_|refine Au ?_|refine Ar rfl ?_|refine Aj rfl ?_)
      ((repeat (first|refine Ah ?_|refine Al ?_|refine Ae ?_|refine Am ?_|refine At ?_|refine Au ?_|refine Ar rfl ?_|refine Aj rfl ?_))<;>(refine o_mi rfl rfl ?_<;>refine o_as rfl rfl ?_<;>(first|refine Ay ?_|refine Az ?_|refine Aw ?_|refine AB ?_))<;>(repeat (first|refine Ah ?_|refine Al ?_|refine Ae ?_|refine Am ?_|refine At ?_|refine Au ?_|refine Ar rfl ?_|refine Aj rfl ?_)))
      refine ret1 rfl rfl ⟨?_,hE5.trans' (hE6.trans' hE7)⟩
      rw [c2,bof_f (fun h=>hP (h.2.1 k f hf))];rfl
  rintro _ w6 ⟨hE6,hcond⟩
  replace hcond:CondsOk t:=fun i f hf=>hcond i (Bh hf) f hf
  replace hb1:=hb1.ext hE6
  replace hE6:Ext w w6:=hE5.trans' hE6
  repeat (first|refine Ah ?_|refine Al ?_|refine Ae ?_|refine Am ?_|refine At ?_|refine Au ?_|refine Ar rfl ?_|refine Aj rfl ?_)
  ((repeat (first|refine Ah ?_|refine Al ?_|refine Ae ?_|refine Am ?_|refine At ?_|refine Au ?_|refine Ar rfl ?_|refine Aj rfl ?_))<;>(refine o_fa rfl rfl ?_<;>refine o_ld rfl rfl ?_<;>refine o_ln rfl rfl ?_<;>refine o_mv rfl rfl ?_<;>(first|refine Ay ?_|refine Az ?_|refine Aw ?_|refine AB ?_))<;>(repeat (first|refine Ah ?_|refine Al ?_|refine Ae ?_|refine Am ?_|refine At ?_|refine Au ?_|refine Ar rfl ?_|refine Aj rfl ?_)))
  refine Bp t.ops.length (by omega) (fun _:Unit=>[(1,.pointer (some ⟨w.heap.size,0,none⟩)),(72,.slice Ao t.ops.length co)]) (fun k _ w'=>Ext w6 w'∧∀ i,i < k→∀ o,t.ops[i]?=some o→∀ (j:Nat) e,o.effs[j]?=some e→FactOk t.vars ⟨e.var,e.val⟩) ()
    ⟨Below.refl _ _,fun i hi=>by omega⟩ ⟨rfl,rfl,rfl,rfl,trivial⟩ (fun _=>⟨rfl,rfl⟩) ⟨rfl,rfl,rfl⟩ ⟨rfl,rfl⟩ ?_ ?_
  · rintro k _ w7 hk ⟨hE7,hh⟩
    obtain ⟨o,ho⟩:=AH hk
    have hb1:=hb1.ext hE7
    obtain ⟨b2,o2,ce,rfl,_,_,hd1,p,q,rfl,hp,hq,hc,hn⟩:=(hops.ext (hE6.trans' hE7)).elem ho
    obtain ⟨Ap,cp,rfl⟩:=hp.form
    obtain ⟨Aq,cq,rfl⟩:=hq.form
    have hql:=hq.len
    ((repeat (first|refine Ah ?_|refine Al ?_|refine Ae ?_|refine Am ?_|refine At ?_|refine Au ?_|refine Ar rfl ?_|refine Aj rfl ?_))<;>(refine o_ia rfl rfl rfl ?_<;>refine o_la rfl rfl ?_)<;>(repeat (first|refine Ah ?_|refine Al ?_|refine Ae ?_|refine Am ?_|refine At ?_|refine Au ?_|refine Ar rfl ?_|refine Aj rfl ?_)))
    refine BO rfl rfl rfl (by simp [Value.cells,Value.oneCell']) fun w8 hN8=>?_
    replace hb1:=hb1.ext hN8.ext
    have hb2:=hN8.blk
    have hE8:Ext w6 w8:=hE7.trans' hN8.ext
    replace hq:=hq.ext hN8.ext
    ((first|refine Ay ?_|refine Az ?_|refine Aw ?_|refine AB ?_))
    repeat (first|refine Ah ?_|refine Al ?_|refine Ae ?_|refine Am ?_|refine At ?_|refine Au ?_|refine Ar rfl ?_|refine Aj rfl ?_)
    ((repeat (first|refine Ah ?_|refine Al ?_|refine Ae ?_|refine Am ?_|refine At ?_|refine Au ?_|refine Ar rfl ?_|refine Aj rfl ?_))<;>(refine o_fa rfl rfl ?_<;>refine o_ld rfl rfl ?_<;>refine o_ln rfl rfl ?_<;>refine o_mv rfl rfl ?_<;>(first|refine Ay ?_|refine Az ?_|refine Aw ?_|refine AB ?_))<;>(repeat (first|refine Ah ?_|refine Al ?_|refine Ae ?_|refine Am ?_|refine At ?_|refine Au ?_|refine Ar rfl ?_|refine Aj rfl ?_)))
    refine Bp o.effs.length (by omega) (fun _:Unit=>[(1,.pointer (some ⟨w.heap.size,0,none⟩)),(72,.slice (some ⟨b2,o2,none⟩) t.ops.length co),(73,.int .i64 (t.ops.length:Int)),(74,.int .i64 (k:Int)),(79,.slice Aq o.effs.length cq)]) (fun j _ w'=>Ext w8 w'∧∀ i,i < j→∀ e,o.effs[i]?=some e→FactOk t.vars ⟨e.var,e.val⟩) ()
      ⟨Below.refl _ _,fun i hi=>by omega⟩ ⟨rfl,rfl,rfl,rfl,rfl,rfl,rfl,trivial⟩ (fun _=>⟨rfl,rfl⟩) ⟨rfl,rfl,rfl⟩ ⟨rfl,rfl⟩ ?_ ?_
    · rintro j _ w9 hj ⟨hE9,hh9⟩
      obtain ⟨e,he⟩:=AH hj
      have hb1:=hb1.ext hE9
      obtain ⟨b3,o3,ce,rfl,_,_,hd1,cv',rfl,hcn,hr1,hr2⟩:=(hq.ext hE9).elem he
      obtain ⟨Acn,ccn,rfl⟩:=hcn.form
      ((repeat (first|refine Ah ?_|refine Al ?_|refine Ae ?_|refine Am ?_|refine At ?_|refine Au ?_|refine Ar rfl ?_|refine Aj rfl ?_))<;>(refine o_ia rfl rfl rfl ?_<;>refine o_la rfl rfl ?_)<;>(repeat (first|refine Ah ?_|refine Al ?_|refine Ae ?_|refine Am ?_|refine At ?_|refine Au ?_|refine Ar rfl ?_|refine Aj rfl ?_)))
      refine BO rfl rfl rfl (by simp [Value.cells,Value.oneCell']) fun w10 hN10=>?_
      have hb3:=hN10.blk
      replace hb1:=hb1.ext hN10.ext
      have hE10:Ext w w10:=hE6.trans' (hE8.trans' (hE9.trans' hN10.ext))
      ((first|refine Ay ?_|refine Az ?_|refine Aw ?_|refine AB ?_))
      repeat (first|refine Ah ?_|refine Al ?_|refine Ae ?_|refine Am ?_|refine At ?_|refine Au ?_|refine Ar rfl ?_|refine Aj rfl ?_)
      (refine o_fa rfl rfl ?_<;>refine o_ld rfl rfl ?_<;>refine o_fa rfl rfl ?_<;>refine o_ld rfl rfl ?_<;>refine o_fa rfl rfl ?_<;>refine o_ld rfl rfl ?_<;>refine o_bd rfl rfl rfl ?_)
      refine CU rfl rfl rfl (by simp [Value.cells];rfl) (by decide) rfl fun w11 hN11=>?_
      have hE11:Ext w w11:=hE10.trans' hN11.ext
      have hone:V w11 (.slice (some ⟨w10.heap.size,0,none⟩) 1 1) [(⟨e.var,e.val⟩:Fct)]:=Vb.made hN11 (.single ⟨rfl,hr1,hr2⟩) rfl hN11.blk.lt (by decide)
      refine Cp rfl rfl (taskFacts (hvars.ext hE11) hone) ?_ ?_
      · intro w12 hP hE12
        ((first|refine o_nt rfl rfl ?_|refine o_nf rfl rfl ?_|refine o_nn rfl rfl ?_)<;>(first|refine Ay ?_|refine Az ?_|refine Aw ?_|refine AB ?_))
        repeat (first|refine Ah ?_|refine Al ?_|refine Ae ?_|refine Am ?_|refine At ?_|refine Au ?_|refine Ar rfl ?_|refine Aj rfl ?_)
        exact ⟨(),⟨rfl,rfl,rfl,rfl,rfl,rfl,rfl,trivial⟩,hE9.trans' (hN10.ext.trans' (hN11.ext.trans' hE12)),Ck hh9 fun e' he'=>by rw [he] at he';injection he' with he';subst he';exact Fb.1 hP⟩
      · intro w12 hP hE12
        ((first|refine o_nt rfl rfl ?_|refine o_nf rfl rfl ?_|refine o_nn rfl rfl ?_)<;>(first|refine Ay ?_|refine Az ?_|refine Aw ?_|refine AB ?_))
        repeat (first|refine Ah ?_|refine Al ?_|refine Ae ?_|refine Am ?_|refine At ?_|refine Au ?_|refine Ar rfl ?_|refine Aj rfl ?_)
        ((repeat (first|refine Ah ?_|refine Al ?_|refine Ae ?_|refine Am ?_|refine At ?_|refine Au ?_|refine Ar rfl ?_|refine Aj rfl ?_))<;>(refine o_mi rfl rfl ?_<;>refine o_as rfl rfl ?_<;>(first|refine Ay ?_|refine Az ?_|refine Aw ?_|refine AB ?_))<;>(repeat (first|refine Ah ?_|refine Al ?_|refine Ae ?_|refine Am ?_|refine At ?_|refine Au ?_|refine Ar rfl ?_|refine Aj rfl ?_)))
        refine ret1 rfl rfl ⟨?_,hE11.trans' hE12⟩
        rw [c2,bof_f (fun h=>hP (Fb.2 (h.2.2 k o ho j e he)))];rfl
    rintro _ w9 ⟨hE9,hh9⟩
    repeat (first|refine Ah ?_|refine Al ?_|refine Ae ?_|refine Am ?_|refine At ?_|refine Au ?_|refine Ar rfl ?_|refine Aj rfl ?_)
    exact ⟨(),⟨rfl,rfl,rfl,rfl,trivial⟩,hE8.trans' hE9,Ck hh fun o' ho' j e he=>by rw [ho] at ho';injection ho' with ho';subst ho';exact hh9 j (Bh he) e he⟩
  rintro _ w7 ⟨hE7,heff⟩
  replace heff:EffsOk t:=fun i o ho=>heff i (Bh ho) o ho
  have c3:checkN t=if bof (NamesOk t)=false then 8 else 0:=by rw [c2,bof_t ⟨hst,hcond,heff⟩];rfl
  replace hb1:=hb1.ext hE7
  replace hE7:Ext w w7:=hE6.trans' hE7
  repeat (first|refine Ah ?_|refine Al ?_|refine Ae ?_|refine Am ?_|refine At ?_|refine Au ?_|refine Ar rfl ?_|refine Aj rfl ?_)
  ((repeat (first|refine Ah ?_|refine Al ?_|refine Ae ?_|refine Am ?_|refine At ?_|refine Au ?_|refine Ar rfl ?_|refine Aj rfl ?_))<;>(refine o_fa rfl rfl ?_<;>refine o_ld rfl rfl ?_<;>refine o_ln rfl rfl ?_<;>refine o_mv rfl rfl ?_<;>(first|refine Ay ?_|refine Az ?_|refine Aw ?_|refine AB ?_))<;>(repeat (first|refine Ah ?_|refine Al ?_|refine Ae ?_|refine Am ?_|refine At ?_|refine Au ?_|refine Ar rfl ?_|refine Aj rfl ?_)))
  refine Bp t.ops.length (by omega) (fun _:Unit=>[(1,.pointer (some ⟨w.heap.size,0,none⟩)),(99,.slice Ao t.ops.length co)]) (fun k _ w'=>Ext w w'∧∀ i,i < k→∀ o,t.ops[i]?=some o→NameOk o.name) ()
    ⟨hE7,fun i hi=>by omega⟩ ⟨rfl,rfl,rfl,rfl,trivial⟩ (fun _=>⟨rfl,rfl⟩) ⟨rfl,rfl,rfl⟩ ⟨rfl,rfl⟩ ?_ ?_
  · rintro k _ w8 hk ⟨hE8,hh⟩
    obtain ⟨o,ho⟩:=AH hk
    obtain ⟨b2,o2,ce,rfl,_,_,hd1,p,q,rfl,hp,hq,hc,hn⟩:=(hops.ext hE8).elem ho
    obtain ⟨Ap,cp,rfl⟩:=hp.form
    obtain ⟨Aq,cq,rfl⟩:=hq.form
    ((repeat (first|refine Ah ?_|refine Al ?_|refine Ae ?_|refine Am ?_|refine At ?_|refine Au ?_|refine Ar rfl ?_|refine Aj rfl ?_))<;>(refine o_ia rfl rfl rfl ?_<;>refine o_la rfl rfl ?_)<;>(repeat (first|refine Ah ?_|refine Al ?_|refine Ae ?_|refine Am ?_|refine At ?_|refine Au ?_|refine Ar rfl ?_|refine Aj rfl ?_)))
    refine BO rfl rfl rfl (by simp [Value.cells,Value.oneCell']) fun w9 hN9=>?_
    have hb2:=hN9.blk
    have hE9:Ext w w9:=hE8.trans' hN9.ext
    ((first|refine Ay ?_|refine Az ?_|refine Aw ?_|refine AB ?_))
    repeat (first|refine Ah ?_|refine Al ?_|refine Ae ?_|refine Am ?_|refine At ?_|refine Au ?_|refine Ar rfl ?_|refine Aj rfl ?_)
    (refine o_fa rfl rfl ?_<;>refine o_ld rfl rfl ?_)
    refine Cp rfl rfl (taskNamed hn) ?_ ?_
    · intro w10 hP hE10
      ((first|refine o_nt rfl rfl ?_|refine o_nf rfl rfl ?_|refine o_nn rfl rfl ?_)<;>(first|refine Ay ?_|refine Az ?_|refine Aw ?_|refine AB ?_))
      repeat (first|refine Ah ?_|refine Al ?_|refine Ae ?_|refine Am ?_|refine At ?_|refine Au ?_|refine Ar rfl ?_|refine Aj rfl ?_)
      exact ⟨(),⟨rfl,rfl,rfl,rfl,trivial⟩,hE9.trans' hE10,Ck hh fun o' ho'=>by rw [ho] at ho';injection ho' with ho';exact ho' ▸ hP⟩
    · intro w10 hP hE10
      ((first|refine o_nt rfl rfl ?_|refine o_nf rfl rfl ?_|refine o_nn rfl rfl ?_)<;>(first|refine Ay ?_|refine Az ?_|refine Aw ?_|refine AB ?_))
      repeat (first|refine Ah ?_|refine Al ?_|refine Ae ?_|refine Am ?_|refine At ?_|refine Au ?_|refine Ar rfl ?_|refine Aj rfl ?_)
      ((repeat (first|refine Ah ?_|refine Al ?_|refine Ae ?_|refine Am ?_|refine At ?_|refine Au ?_|refine Ar rfl ?_|refine Aj rfl ?_))<;>(refine o_mi rfl rfl ?_<;>refine o_as rfl rfl ?_<;>(first|refine Ay ?_|refine Az ?_|refine Aw ?_|refine AB ?_))<;>(repeat (first|refine Ah ?_|refine Al ?_|refine Ae ?_|refine Am ?_|refine At ?_|refine Au ?_|refine Ar rfl ?_|refine Aj rfl ?_)))
      refine ret1 rfl rfl ⟨?_,hE9.trans' hE10⟩
      rw [c3,bof_f (fun h=>hP (h k o ho))];rfl
  rintro _ w8 ⟨hE8,hnames⟩
  repeat (first|refine Ah ?_|refine Al ?_|refine Ae ?_|refine Am ?_|refine At ?_|refine Au ?_|refine Ar rfl ?_|refine Aj rfl ?_)
  ((repeat (first|refine Ah ?_|refine Al ?_|refine Ae ?_|refine Am ?_|refine At ?_|refine Au ?_|refine Ar rfl ?_|refine Aj rfl ?_))<;>(refine o_as rfl rfl ?_<;>(first|refine Ay ?_|refine Az ?_|refine Aw ?_|refine AB ?_))<;>(repeat (first|refine Ah ?_|refine Al ?_|refine Ae ?_|refine Am ?_|refine At ?_|refine Au ?_|refine Ar rfl ?_|refine Aj rfl ?_)))
  refine ret1 rfl rfl ⟨?_,hE8⟩
  rw [c3,bof_t (show NamesOk t from fun i o ho=>hnames i (Bh ho) o ho)];rfl
end
section
theorem Ie {p:Prop}:bof p=true↔p:=⟨fun h=>Classical.byContradiction fun hn=>(by rw [bof_f hn] at h;exact Bool.noConfusion h),bof_t⟩
theorem DA {p:Prop}:bof p=false↔¬ p:=by
  rw [← Bool.not_eq_true,Ie]
theorem GO {vars:List Int} {f:List Fct} (h:FactsOk vars f):∀ (j i:Nat) (x y:Fct),i < j→f[i]?=some x→f[j]?=some y→x.var < y.var
  | 0,i,_,_,hij,_,_=>by omega
  | j + 1,i,x,y,hij,hx,hy=>by
    by_cases he:i=j
    · subst he;exact h.2 i x y hx hy
    · obtain ⟨z,hz⟩:=AH (l:=f) (k:=j) (by have:=Bh hy;omega)
      have h1:=GO h j i x z (by omega) hx hz
      have h2:=h.2 j z y hz hy
      omega
theorem Jd {vars:List Int} {f:List Fct} (h:FactsOk vars f):∀ (i:Nat) (x:Fct),f[i]?=some x→(i:Int)≤x.var
  | 0,x,hx=>(h.1 0 x hx).1
  | i + 1,x,hx=>by
    obtain ⟨z,hz⟩:=AH (l:=f) (k:=i) (by have:=Bh hx;omega)
    have h1:=Jd h i z hz
    have h2:=h.2 i z x hz hx
    omega
theorem Dp {vars:List Int} {f:List Fct} (h:FactsOk vars f):f.length≤vars.length:=by
  rcases Nat.eq_zero_or_pos f.length with h0|h0
  · omega
  · obtain ⟨x,hx⟩:=AH (l:=f) (k:=f.length - 1) (by omega)
    have h1:=Jd h _ x hx
    obtain ⟨h2,h3,y,hy,_⟩:=h.1 _ x hx
    have:=Bh hy
    omega
theorem Gd {t:Tsk} {f:List Fct}:f∈conds t↔f=t.goal∨∃ (i:Nat) (o:Opr),t.ops[i]?=some o∧(f=o.pre∨∃ (j:Nat) (e:Eff),o.effs[j]?=some e∧f=e.cond):=by
  unfold conds opConds
  rw [List.mem_cons,List.mem_flatMap]
  constructor
  · rintro (h|⟨o,ho,hf⟩)
    · exact .inl h
    · obtain ⟨i,hi⟩:=List.getElem?_of_mem ho
      refine .inr ⟨i,o,hi,?_⟩
      rcases List.mem_cons.1 hf with h|h
      · exact .inl h
      · obtain ⟨e,he,rfl⟩:=List.mem_map.1 h
        obtain ⟨j,hj⟩:=List.getElem?_of_mem he
        exact .inr ⟨j,e,hj,rfl⟩
  · rintro (h|⟨i,o,ho,h⟩)
    · exact .inl h
    · refine .inr ⟨o,List.mem_of_getElem? ho,?_⟩
      rcases h with rfl|⟨j,e,he,rfl⟩
      · exact List.mem_cons_self
      · exact List.mem_cons_of_mem _ (List.mem_map.2 ⟨e,List.mem_of_getElem? he,rfl⟩)
theorem DW {t:Tsk}:checkN t=0↔TaskOk t:=by
  unfold checkN
  constructor
  · intro h
    by_cases h1:Large t
    · rw [if_pos (Ie.2 h1)] at h;cases h
    rw [if_neg (fun hh=>h1 (Ie.1 hh))] at h
    by_cases h2:VarsOk t∧CostsOk t
    case neg=>rw [if_pos (DA.2 h2)] at h;cases h
    rw [if_neg (fun hh=>DA.1 hh h2)] at h
    by_cases h3:StateOk t.vars t.init∧CondsOk t∧EffsOk t
    case neg=>rw [if_pos (DA.2 h3)] at h;cases h
    rw [if_neg (fun hh=>DA.1 hh h3)] at h
    by_cases h4:NamesOk t
    case neg=>rw [if_pos (DA.2 h4)] at h;cases h
    have hc:∀ f∈conds t,FactsOk t.vars f:=fun f hf=>by
      obtain ⟨i,hi⟩:=List.getElem?_of_mem hf
      exact h3.2.1 i f hi
    have hl:t.vars.length≤64∧t.ops.length≤4096∧(∀ (i:Nat) (o:Opr),t.ops[i]?=some o→o.effs.length≤64):=by
      unfold Large at h1
      refine ⟨Nat.le_of_not_lt fun h=>h1 (.inl h),Nat.le_of_not_lt fun h=>h1 (.inr (.inl h)),fun i o ho=>Nat.le_of_not_lt fun h=>h1 (.inr (.inr (.inl ⟨i,o,ho,h⟩)))⟩
    exact ⟨hl.1,hl.2.1,h2.1,h3.1,hc _ (Gd.2 (.inl rfl)),fun i o ho=>⟨(h2.2 i o ho).1,(h2.2 i o ho).2,hl.2.2 i o ho,h4 i o ho,hc _ (Gd.2 (.inr ⟨i,o,ho,.inl rfl⟩)),fun j e he=>⟨hc _ (Gd.2 (.inr ⟨i,o,ho,.inr ⟨j,e,he,rfl⟩⟩)),h3.2.2 i o ho j e he⟩⟩⟩
  · rintro ⟨h1,h2,h3,h4,h5,h6⟩
    have hc:∀ f∈conds t,FactsOk t.vars f:=fun f hf=>by
      rcases Gd.1 hf with rfl|⟨i,o,ho,rfl|⟨j,e,he,rfl⟩⟩
      · exact h5
      · exact (h6 i o ho).2.2.2.2.1
      · exact ((h6 i o ho).2.2.2.2.2 j e he).1
    have hL:¬ Large t:=by
      rintro (h|h|⟨i,o,ho,h⟩|⟨f,hf,h⟩)
      · omega
      · omega
      · have:=(h6 i o ho).2.2.1;omega
      · have:=Dp (hc f hf);omega
    have hV:VarsOk t∧CostsOk t:=⟨h3,fun i o ho=>⟨(h6 i o ho).1,(h6 i o ho).2.1⟩⟩
    have hS:StateOk t.vars t.init∧CondsOk t∧EffsOk t:=⟨h4,fun i f hf=>hc f (List.mem_of_getElem? hf),fun i o ho j e he=>((h6 i o ho).2.2.2.2.2 j e he).2⟩
    have hN:NamesOk t:=fun i o ho=>(h6 i o ho).2.2.2.1
    rw [if_neg (fun hh=>hL (Ie.1 hh)),if_neg (fun hh=>DA.1 hh hV),if_neg (fun hh=>DA.1 hh hS),if_neg (fun hh=>DA.1 hh hN)]
theorem TaskOk.vars {t:Tsk} (h:TaskOk t):VarsOk t:=h.2.2.1
end
section
open Go Go.RowKit
attribute [local irreducible] ewp owp hwp hwq hws Ev Evg Fn retPost loud loudS Res1
section
variable {w : World} {A : Nat → Prop} (hA : ∀ k, A k → k < w.heap.size) {v0 v1 : Value}
include hA
omit hA in
def Da (f:List Fct) (s:List Int):Option Bool:=some (holdsB f s)
theorem FO {x0:List Fct} (h0:Vb w A v0 x0) {x1:List Int} (h1:Vb w A v1 x1) {r:Bool} (hm:Da x0 x1=some r):Fn Tryz.prog 37 [v0,v1] w fun v w'=>Ext w w'∧Vb w' (upA A w w') v r:=by
  obtain rfl:=sm hm
  refine (baseHolds (h0.mono hA) (h1.mono hA)).mono fun v w' h=>⟨h.2,?_⟩
  rw [h.1,bof_b];exact vBool
omit hA in
def CM (f:List Fct) (s:List Int):Option Bool:=some (holdsB f s)
theorem HC {x0:List Fct} (h0:Vb w A v0 x0) {x1:List Int} (h1:Vb w A v1 x1) {r:Bool} (hm:CM x0 x1=some r):Fn Tryz.prog 43 [v0,v1] w fun v w'=>Ext w w'∧Vb w' (upA A w w') v r:=by
  obtain rfl:=sm hm
  refine (taskHolds (h0.mono hA) (h1.mono hA)).mono fun v w' h=>⟨h.2,?_⟩
  rw [h.1,bof_b];exact vBool
omit hA in
noncomputable def Fc (x:List Int) (y:List Int):Option Bool:=some (bof (x=y))
theorem Lk {x0:List Int} (h0:Vb w A v0 x0) {x1:List Int} (h1:Vb w A v1 x1) {r:Bool} (hm:Fc x0 x1=some r):Fn Tryz.prog 26 [v0,v1] w fun v w'=>Ext w w'∧Vb w' (upA A w w') v r:=by
  obtain rfl:=sm hm
  refine (baseInts (h0.mono hA) (h1.mono hA)).mono fun v w' h=>⟨h.2,?_⟩
  rw [h.1];exact vBool
omit hA in
noncomputable def FP (t:Tsk):Option Bool:=some (bof (SmallOk t))
theorem Kx {x0:Tsk} (h0:Vb w A v0 x0) {r:Bool} (hm:FP x0=some r):Fn Tryz.prog 28 [v0] w fun v w'=>Ext w w'∧Vb w' (upA A w w') v r:=by
  obtain rfl:=sm hm
  refine (baseSmall (h0.mono hA)).mono fun v w' h=>⟨h.2,?_⟩
  rw [h.1];exact vBool
end
noncomputable def Dv (t:Tsk):Option Err:=some ⟨checkN t⟩
theorem Je (t:Tsk):inI64 (checkN t):=by unfold checkN;(repeat' split)<;>decide
theorem HD {w:World} {A:Nat→Prop} (hA:∀ k,A k→k < w.heap.size) {v0:Value} {x0:Tsk} (h0:Vb w A v0 x0) {r:Err} (hm:Dv x0=some r):Fn Tryz.prog 40 [v0] w fun v w'=>Ext w w'∧Vb w' (upA A w w') v r:=by
  obtain rfl:=sm hm
  refine (taskCheck (h0.mono hA)).mono fun v w' h=>⟨h.2,?_⟩
  rw [h.1]
  exact vErr (Je _)
def EM (x:Err):Option Int:=some x.n
theorem Jf {w:World} {A:Nat→Prop} (hA:∀ k,A k→k < w.heap.size) {x0:Err} (r0:inI64 x0.n) {r:Int} (hm:EM x0=some r):Fn Tryz.prog 13 [errV x0.n] w fun v w'=>Ext w w'∧Vb w' (upA A w w') v r:=by
  obtain rfl:=sm hm
  refine AL Tryz.func13 rfl Tryz.ntmps13 rfl ?_
  by_cases h:x0.n=0
  · rw [h,Fi]
    ((repeat (first|refine Ah ?_|refine Al ?_|refine Ae ?_|refine Am ?_|refine At ?_|refine Au ?_|refine Ar rfl ?_|refine Aj rfl ?_))<;>(refine o_as rfl rfl ?_<;>(first|refine Ay ?_|refine Az ?_|refine Aw ?_|refine AB ?_))<;>(repeat (first|refine Ah ?_|refine Al ?_|refine Ae ?_|refine Am ?_|refine At ?_|refine Au ?_|refine Ar rfl ?_|refine Aj rfl ?_))<;>(refine o_mv rfl rfl ?_<;>(first|refine o_en rfl rfl ?_|refine o_eo rfl rfl ?_)<;>(first|refine Ay ?_|refine Az ?_|refine Aw ?_|refine AB ?_))<;>(repeat (first|refine Ah ?_|refine Al ?_|refine Ae ?_|refine Am ?_|refine At ?_|refine Au ?_|refine Ar rfl ?_|refine Aj rfl ?_))<;>(refine o_as rfl rfl ?_<;>(first|refine Ay ?_|refine Az ?_|refine Aw ?_|refine AB ?_))<;>(repeat (first|refine Ah ?_|refine Al ?_|refine Ae ?_|refine Am ?_|refine At ?_|refine Au ?_|refine Ar rfl ?_|refine Aj rfl ?_)))
    exact ret1 rfl rfl ⟨Below.refl _ _,vInt (by decide)⟩
  · rw [FN h]
    have h2:-9223372036854775808≤x0.n∧x0.n≤9223372036854775807:=r0
    ((repeat (first|refine Ah ?_|refine Al ?_|refine Ae ?_|refine Am ?_|refine At ?_|refine Au ?_|refine Ar rfl ?_|refine Aj rfl ?_))<;>(refine o_as rfl rfl ?_<;>(first|refine Ay ?_|refine Az ?_|refine Aw ?_|refine AB ?_))<;>(repeat (first|refine Ah ?_|refine Al ?_|refine Ae ?_|refine Am ?_|refine At ?_|refine Au ?_|refine Ar rfl ?_|refine Aj rfl ?_))<;>(refine o_mv rfl rfl ?_<;>(first|refine o_en rfl rfl ?_|refine o_eo rfl rfl ?_)<;>(first|refine Ay ?_|refine Az ?_|refine Aw ?_|refine AB ?_))<;>(repeat (first|refine Ah ?_|refine Al ?_|refine Ae ?_|refine Am ?_|refine At ?_|refine Au ?_|refine Ar rfl ?_|refine Aj rfl ?_))<;>(refine o_mv rfl rfl ?_<;>refine o_ta rfl rfl ?_<;>refine o_mv rfl rfl ?_<;>refine o_ex rfl rfl rfl ?_<;>refine o_ex rfl rfl rfl ?_<;>refine o_as rfl rfl ?_<;>refine o_as rfl rfl ?_<;>(first|refine Ay ?_|refine Az ?_|refine Aw ?_|refine AB ?_))<;>(repeat (first|refine Ah ?_|refine Al ?_|refine Ae ?_|refine Am ?_|refine At ?_|refine Au ?_|refine Ar rfl ?_|refine Aj rfl ?_))<;>(refine o_mv rfl rfl ?_<;>(first|refine Ay ?_|refine Az ?_|refine Aw ?_|refine AB ?_))<;>(repeat (first|refine Ah ?_|refine Al ?_|refine Ae ?_|refine Am ?_|refine At ?_|refine Au ?_|refine Ar rfl ?_|refine Aj rfl ?_))<;>(refine o_mv rfl rfl ?_<;>refine o_as rfl rfl ?_<;>(first|refine Ay ?_|refine Az ?_|refine Aw ?_|refine AB ?_))<;>(repeat (first|refine Ah ?_|refine Al ?_|refine Ae ?_|refine Am ?_|refine At ?_|refine Au ?_|refine Ar rfl ?_|refine Aj rfl ?_)))
    exact ret1 rfl rfl ⟨Below.refl _ _,vInt r0⟩
def Br (xs:List Int):Option (List Int):=if xs.length * 8≤140737488355328∧xs.length≤9223372036854775807 then some xs else none
theorem Dh {w:World} {A:Nat→Prop} (hA:∀ k,A k→k < w.heap.size) {v0:Value} {x0:List Int} (h0:Vb w A v0 x0) {r:List Int} (hm:Br x0=some r) :
    Fn Tryz.prog 50 [v0] w fun v w'=>Ext w w'∧RowR w w' (upA A w w') 3 v r:=by
  obtain ⟨⟨hl,hl2⟩,rfl⟩:=DV hm
  obtain ⟨O,hB,hA0⟩:=enter hA
  replace h0:=h0.mono hA0
  obtain ⟨Ad,c,rfl⟩:=h0.form
  refine AL Tryz.func50 rfl Tryz.ntmps50 rfl ?_
  cases Ad with
  | none =>
    have hx:x0=[]:=by
      cases x0 with
      | nil=>rfl
      | cons x xs=>obtain ⟨_,_,_,h,_⟩:=h0.elem (k:=0) (x:=x) rfl;cases h
    subst hx
    ((repeat (first|refine Ah ?_|refine Al ?_|refine Ae ?_|refine Am ?_|refine At ?_|refine Au ?_|refine Ar rfl ?_|refine Aj rfl ?_))<;>(refine o_as rfl rfl ?_<;>(first|refine Ay ?_|refine Az ?_|refine Aw ?_|refine AB ?_))<;>(repeat (first|refine Ah ?_|refine Al ?_|refine Ae ?_|refine Am ?_|refine At ?_|refine Au ?_|refine Ar rfl ?_|refine Aj rfl ?_))<;>(refine o_mv rfl rfl ?_<;>refine o_sn rfl rfl ?_<;>(first|refine Ay ?_|refine Az ?_|refine Aw ?_|refine AB ?_))<;>(repeat (first|refine Ah ?_|refine Al ?_|refine Ae ?_|refine Am ?_|refine At ?_|refine Au ?_|refine Ar rfl ?_|refine Aj rfl ?_))<;>(refine o_as rfl rfl ?_<;>(first|refine Ay ?_|refine Az ?_|refine Aw ?_|refine AB ?_))<;>(repeat (first|refine Ah ?_|refine Al ?_|refine Ae ?_|refine Am ?_|refine At ?_|refine Au ?_|refine Ar rfl ?_|refine Aj rfl ?_)))
    exact ret1 rfl rfl ⟨Below.refl _ _,RowR.nil⟩
  | some ad =>
    ((repeat (first|refine Ah ?_|refine Al ?_|refine Ae ?_|refine Am ?_|refine At ?_|refine Au ?_|refine Ar rfl ?_|refine Aj rfl ?_))<;>(refine o_as rfl rfl ?_<;>(first|refine Ay ?_|refine Az ?_|refine Aw ?_|refine AB ?_))<;>(repeat (first|refine Ah ?_|refine Al ?_|refine Ae ?_|refine Am ?_|refine At ?_|refine Au ?_|refine Ar rfl ?_|refine Aj rfl ?_))<;>(refine o_mv rfl rfl ?_<;>refine o_sn rfl rfl ?_<;>(first|refine Ay ?_|refine Az ?_|refine Aw ?_|refine AB ?_))<;>(repeat (first|refine Ah ?_|refine Al ?_|refine Ae ?_|refine Am ?_|refine At ?_|refine Au ?_|refine Ar rfl ?_|refine Aj rfl ?_)))
    refine Bf 2 (by decide) O (xs:=([]:List Int)) rfl rfl rfl rfl trivial (by decide) (by decide) rfl fun g w1 O1 S1 h1=>?_
    replace hB:=hB.st S1 (fun h=>h) (fun h=>h)
    replace h0:=h0.st S1 (fun h=>h)
    (refine o_mv rfl rfl ?_)
    refine BF rfl h1 h0.rd rfl rfl (by decide) (by simpa using hl) (by simpa using hl2) rfl fun A2 c2 w2 O2 S2 h2=>?_
    replace hB:=hB.st S2 (by decide) (by decide)
    rw [List.nil_append] at h2 ⊢
    (refine o_as rfl rfl ?_<;>(first|refine Ay ?_|refine Az ?_|refine Aw ?_|refine AB ?_))
    repeat (first|refine Ah ?_|refine Al ?_|refine Ae ?_|refine Am ?_|refine At ?_|refine Au ?_|refine Ar rfl ?_|refine Aj rfl ?_)
    exact ret1 rfl rfl ⟨hB.ext,h2.out hB (by decide)⟩
end
section
open Go Go.RowKit
attribute [local irreducible] ewp owp hwp hwq hws Ev Evg Fn retPost loud loudS Res1
structure Rsl where
  verdict:Int
  plan:List Int
  cost:Int
  expanded:Int
instance:Rp Rsl where
  isAgg:=true
  size:=4
  R w F cs x:=∃ v0,cs=[.int .i64 x.verdict,v0,.int .i64 x.cost,.int .i64 x.expanded]∧Vb w F v0 x.plan∧inI64 x.verdict∧inI64 x.cost∧inI64 x.expanded
  len:=by rintro w F cs x ⟨v0,rfl,h0,h1,h2,h3⟩;rfl
  one:=by rintro w F cs x ⟨v0,rfl,h0,h1,h2,h3⟩ u hu;simp at hu;rcases hu with rfl|rfl|rfl|rfl<;>first|rfl|exact Vb.one rfl (by assumption)
  agree:=by rintro w w' F cs x ⟨v0,rfl,h0,h1,h2,h3⟩ ha;exact ⟨v0,rfl,h0.agree ha,h1,h2,h3⟩
  mono:=by rintro w F G cs x ⟨v0,rfl,h0,h1,h2,h3⟩ ha;exact ⟨v0,rfl,h0.mono ha,h1,h2,h3⟩
end
section
open Go Go.RowKit
attribute [local irreducible] ewp owp hwp hwq hws Ev Evg Fn retPost loud loudS Res1
attribute [local irreducible] hwx loudX hwz zNext
structure Prt where
  op:Int
instance:Rp Prt where
  isAgg:=true
  size:=1
  R w F cs x:=cs=[.int .i64 x.op]∧inI64 x.op
  len:=by rintro w F cs x ⟨rfl,h0⟩;rfl
  one:=by rintro w F cs x ⟨rfl,h0⟩ u hu;simp at hu;rcases hu with rfl<;>first|rfl|exact Vb.one rfl (by assumption)
  agree:=by rintro w w' F cs x ⟨rfl,h0⟩ ha;exact ⟨rfl,h0⟩
  mono:=by rintro w F G cs x ⟨rfl,h0⟩ ha;exact ⟨rfl,h0⟩
noncomputable def CB (x0:Opr) (x1:Int) (x2:Int):Option Opr :=
  bnd (AV x0.pre) fun q25=>bnd (appI 16 q25 [(⟨x1,x2⟩:Fct)]) fun u35=>bnd (Bc x0.effs) fun q49=>bnd (chkI (x2 + 1)) fun n59=>bnd (appI 40 q49 [(⟨([]:List Fct),x1,n59⟩:Eff)]) fun u62=>some (⟨x0.name,x0.cost,u35,u62⟩:Opr)
theorem Fp {w:World} {A:Nat→Prop} (hA:∀ k,A k→k < w.heap.size) {vx0:Value} {x0:Opr} (hx0:Vb w A vx0 x0) {x1:Int} (rx1:inI64 x1) {x2:Int} (rx2:inI64 x2) {r:Opr} (hm:CB x0 x1 x2=some r) :
    Fn Tryz.prog 53 [vx0,(.int .i64 x1),(.int .i64 x2)] w fun v w'=>Ext w w'∧OprS w w' (upA A w w') 64 v r:=by
 obtain ⟨O,hB,hA0⟩:=enter hA
 replace hx0:=hx0.mono hA0
 obtain ⟨cs4,rfl,v5,v6,rfl,h7,h10,r13,z14⟩:=hx0
 obtain ⟨A8,c9,rfl⟩:=h7.form
 obtain ⟨A11,c12,rfl⟩:=h10.form
 refine AL Tryz.func53 rfl Tryz.ntmps53 rfl ?_
 unfold CB at hm
 refine Ah (Ae (l_box 2 O rfl rfl fun g15 w16 O17 S18 h19=>?_))
 replace h19:Lc 2 w16 O17 g15 67 [(.string x0.name),(.int .i64 x0.cost),(.slice A8 x0.pre.length c9),(.slice A11 x0.effs.length c12)]:=h19
 refine BJ 3 O17 rfl fun g20 w21 O22 S23 h24=>?_
 refine o_z ?_
 refine Ah (Ae (o_fa rfl rfl ?_))
 replace h19:=h19.st S23
 refine o_ld (hc:=Blk.cell (i:=2) (h19.1) rfl) rfl rfl ?_
 obtain ⟨q25,e26,hm⟩:=bs hm
 replace h7:=(h7.st S18).st S23
 refine CL 4 (by decide) (O:=O22) (Cb Fr.lt h7 e26) rfl rfl fun A32 c33 w27 O28 S29 h30=>?_
 refine o_mv rfl rfl (o_mv rfl rfl (o_bd rfl rfl rfl ?_))
 obtain ⟨u35,e36,hm⟩:=bs hm
 obtain ⟨e36,e37,e38⟩:=AU e36
 refine Cu rfl (a:=(⟨x1,x2⟩:Fct)) h30 (Vb.ofAgg (cs:=[(.int .i64 x1),(.int .i64 x2)]) (x:=(⟨x1,x2⟩:Fct)) rfl ⟨rfl,rx1,rx2⟩) (fun _=>rfl) rfl (by decide) (by decide) e37 e38 ⟨rfl,rfl⟩ fun g39 A40 c41 w42 O43 S44 h45=>?_
 rw [← e36] at h45 ⊢
 refine o_fa rfl rfl ?_
 replace h19:=(h19.st S29).st S44
 refine AQ h19 rfl rfl rfl (Nat.le_of_ble_eq_true rfl) (by first|exact allOne rfl|simp [Value.cells,Value.oneCell',AM]) fun w47 S48 h19=>?_
 replace h19:Lc 2 w47 O43 g15 67 [(.string x0.name),(.int .i64 x0.cost),(.slice A40 u35.length c41),(.slice A11 x0.effs.length c12)]:=h19
 refine o_z ?_
 refine Ah (Ae (o_fa rfl rfl (o_ld (hc:=Blk.cell (i:=3) (h19.1) rfl) rfl rfl ?_)))
 obtain ⟨q49,e50,hm⟩:=bs hm
 replace h10:=((((h10.st S18).st S23).st S29).st S44).st S48
 refine CL 5 (by decide) (O:=O43) (CK Fr.lt h10 e50) rfl rfl fun A56 c57 w51 O52 S53 h54=>?_
 refine o_mv rfl rfl (o_mv rfl rfl ?_)
 obtain ⟨n59,e60,hm⟩:=bs hm
 have r61:=(AW e60)
 refine o_adE (he:=e60) rfl rfl rfl ?_
 refine o_bd rfl rfl rfl ?_
 obtain ⟨u62,e63,hm⟩:=bs hm
 obtain ⟨e63,e64,e65⟩:=AU e63
 refine Cu rfl (a:=(⟨([]:List Fct),x1,n59⟩:Eff)) h54 (Vb.ofAgg (cs:=[(.slice none 0 0),(.int .i64 x1),(.int .i64 n59)]) (x:=(⟨([]:List Fct),x1,n59⟩:Eff)) rfl ⟨_,rfl,(Vb.nil _ _),rx1,r61⟩) (fun _=>rfl) rfl (by decide) (by decide) e64 e65 ⟨rfl,rfl⟩ fun g66 A67 c68 w69 O70 S71 h72=>?_
 rw [← e63] at h72 ⊢
 refine o_fa rfl rfl ?_
 replace h19:=(h19.st S53).st S71
 refine AQ h19 rfl rfl rfl (Nat.le_of_ble_eq_true rfl) (by first|exact allOne rfl|simp [Value.cells,Value.oneCell',AM]) fun w74 S75 h19=>?_
 replace h19:Lc 2 w74 O70 g15 67 [(.string x0.name),(.int .i64 x0.cost),(.slice A40 u35.length c41),(.slice A67 u62.length c68)]:=h19
 refine o_z ?_
 refine Ah (Ae (o_la (hl:=rfl) (hc:=(h19.1).cellsAt) rfl rfl ?_))
 replace h24:=(((((h24.st S29).st S44).st S48).st S53).st S71).st S75
 refine AQ h24 rfl rfl rfl (Nat.le_of_ble_eq_true rfl) (by first|exact allOne rfl|simp [Value.cells,Value.oneCell',AM]) fun w76 S77 h24=>?_
 replace h24:Lc 3 w76 O70 g20 67 [(.string x0.name),(.int .i64 x0.cost),(.slice A40 u35.length c41),(.slice A67 u62.length c68)]:=h24
 refine o_z ?_
 refine Au ?_
 replace h45:=((((h45.st S48).st S53).st S71).st S75).st S77
 obtain ⟨O78,S79,h45⟩:=h45.freeze
 obtain rfl:=sm hm
 replace hB:=(((((((((hB.st S18).st S23).st S29).st S44).st S48).st S53).st S71).st S75).st S77).st S79
 replace h24:=h24.st S79
 replace h72:=((h72.st S75).st S77).st S79
 exact ret1v rfl (BK (cs:=[(.string x0.name),(.int .i64 x0.cost),(.slice A40 u35.length c41),(.slice A67 u62.length c68)]) rfl rfl h24.1.cellsAt) ⟨hB.ext,Fr 0 w76 O78,_,_,fun k hk=>⟨hB.out k hk,hk.1⟩,rfl,h45,r13,z14,h72.outO hB (by decide)⟩
noncomputable def Cs (x0:Tsk) (x1:List ByteArray) (x2:Int):Option (Tsk×(List Prt)×Err) :=
  bnd (Dv x0) fun q33=>if q33.n≠0 then (some ((⟨([]:List Int),([]:List Int),([]:List Fct),([]:List Opr)⟩:Tsk),([]:List Prt),(⟨q33.n⟩:Err))) else (bnd (if x2 < 0 then (some true) else (if 1000 < x2 then (some true) else (some false)):Option Bool) fun y44=>if y44=true then (some ((⟨([]:List Int),([]:List Int),([]:List Fct),([]:List Opr)⟩:Tsk),([]:List Prt),(⟨1⟩:Err))) else (if 63 < (x1.length:Int) then (some ((⟨([]:List Int),([]:List Int),([]:List Fct),([]:List Opr)⟩:Tsk),([]:List Prt),(⟨5⟩:Err))) else (bnd (chkI ((x1.length:Int) + 1)) fun n64=>bnd (Br x0.vars) fun q66=>bnd (appI 8 q66 ([n64]:List Int)) fun u68=>bnd (Br x0.init) fun q70=>bnd (appI 8 q70 ([0]:List Int)) fun u72=>bnd (AV x0.goal) fun q74=>bnd (appI 16 q74 ([(⟨(x0.vars.length:Int),(x1.length:Int)⟩:Fct)]:List Fct)) fun u76=>bnd (some (u68,u72,u76):Option ((List Int)×(List Int)×(List Fct))) fun y78=>bnd (rng (ρ:=Tsk×(List Prt)×Err) (fun (k214:Nat) (a215:Opr) (s212:(List Prt)×(List Opr))=>bnd (chkI (a215.cost + x2)) fun n257=>bnd (AV a215.pre) fun q262=>bnd (Bc a215.effs) fun q272=>bnd (appI 72 s212.2 [(⟨a215.name,n257,q262,q272⟩:Opr)]) fun u288=>bnd (appI 8 s212.1 [(⟨(k214:Int)⟩:Prt)]) fun u300=>some (.next (u300,u288))) x0.ops 0 (([]:List Prt),([]:List Opr))) fun res210=>fin res210 fun (s318:(List Prt)×(List Opr))=>bnd (rng (ρ:=Tsk×(List Prt)×Err) (fun (k326:Nat) (a327:ByteArray) (s324:(List Prt)×(List Opr))=>bnd (rng (ρ:=Ctl ((List Prt)×(List Opr)) (Tsk×(List Prt)×Err)) (fun (k359:Nat) (a360:Opr) (s357:(List Prt)×(List Opr))=>if a360.name=a327 then (bnd (CB a360 (x0.vars.length:Int) (k326:Int)) fun q403=>bnd (appI 72 s357.2 [q403]) fun u405=>bnd (appI 8 s357.1 [(⟨(k359:Int)⟩:Prt)]) fun u407=>some (.next (u407,u405))) else (some (.next (s357.1,s357.2)))) x0.ops 0 (s324.1,s324.2)) fun res355=>fin res355 fun (s563:(List Prt)×(List Opr))=>bnd (CB (⟨(⟨#[]⟩:ByteArray),x2,([]:List Fct),([]:List Eff)⟩:Opr) (x0.vars.length:Int) (k326:Int)) fun q565=>bnd (appI 72 s563.2 [q565]) fun u587=>bnd (appI 8 s563.1 [(⟨(-1)⟩:Prt)]) fun u600=>if 4096 < (u587.length:Int) then (some (.brk (u600,u587))) else (some (.next (u600,u587)))) x1 0 (s318.1,s318.2)) fun res322=>fin res322 fun (s619:(List Prt)×(List Opr))=>bnd (rngN (ρ:=Tsk×(List Prt)×Err) (fun (k627:Nat) (s625:(List Opr))=>bnd (s625[k627]?) fun a646=>bnd (Cg a646.effs) fun q663=>bnd (s625[k627]?) fun a671=>some (.next (s625.set k627 ({ a671 with effs:=q663 }:Opr)))) s619.2.length s619.2) fun res623=>fin res623 fun (s688:(List Opr))=>bnd (Dv (⟨y78.1,y78.2.1,y78.2.2,s688⟩:Tsk)) fun q698=>if q698.n≠0 then (some ((⟨([]:List Int),([]:List Int),([]:List Fct),([]:List Opr)⟩:Tsk),([]:List Prt),(⟨q698.n⟩:Err))) else (some ((⟨y78.1,y78.2.1,y78.2.2,s688⟩:Tsk),s619.1,(⟨0⟩:Err))))))
set_option maxHeartbeats 1000000 in
theorem IF {w:World} {A:Nat→Prop} (hA:∀ k,A k→k < w.heap.size) {vx0:Value} {x0:Tsk} (hx0:Vb w A vx0 x0) {vx1:Value} {x1:List ByteArray} (hx1:Vb w A vx1 x1) {x2:Int} (rx2:inI64 x2) {r:Tsk×(List Prt)×Err} (hm:Cs x0 x1 x2=some r) :
    Fn Tryz.prog 30 [vx0,vx1,(.int .i64 x2)] w fun v w'=>Ext w w'∧T3 w' (upA A w w') v r:=by
 obtain ⟨O,hB,hA0⟩:=enter hA
 replace hx0:=hx0.mono hA0
 obtain ⟨cs4,rfl,v5,v6,v7,v8,rfl,h9,h12,h15,h18⟩:=hx0
 obtain ⟨A10,c11,rfl⟩:=h9.form
 obtain ⟨A13,c14,rfl⟩:=h12.form
 obtain ⟨A16,c17,rfl⟩:=h15.form
 obtain ⟨A19,c20,rfl⟩:=h18.form
 replace hx1:=hx1.mono hA0
 obtain ⟨A21,c22,rfl⟩:=hx1.form
 refine AL Tryz.func30 rfl Tryz.ntmps30 rfl ?_
 unfold Cs at hm
 refine Ah (Ae (l_box 2 O rfl rfl fun g23 w24 O25 S26 h27=>?_))
 replace h27:Lc 2 w24 O25 g23 26 [(.slice A10 x0.vars.length c11),(.slice A13 x0.init.length c14),(.slice A16 x0.goal.length c17),(.slice A19 x0.ops.length c20)]:=h27
 refine BJ 3 O25 rfl fun g28 w29 O30 S31 h32=>?_
 refine o_as rfl rfl (o_as rfl rfl (o_z ?_))
 refine Ah (Ah (Ae ?_))
 replace h27:=h27.st S31
 refine o_la (hl:=rfl) (hc:=(h27.1).cellsAt) rfl rfl ?_
 obtain ⟨q33,e34,hm⟩:=bs hm
 replace h9:=(h9.st S26).st S31
 replace h12:=(h12.st S26).st S31
 replace h15:=(h15.st S26).st S31
 replace h18:=(h18.st S26).st S31
 refine BP (O:=O30) (A:=All w29) (R:=fun w' F v=>Vb w' F v q33) (HD (fun _ h=>h) (Vb.mono (F:=Fr 0 w29 O30) (Vb.ofAgg (cs:=[(.slice A10 x0.vars.length c11),(.slice A13 x0.init.length c14),(.slice A16 x0.goal.length c17),(.slice A19 x0.ops.length c20)]) (x:=x0) rfl ⟨_,_,_,_,rfl,h9,h12,h15,h18⟩) Fr.lt) e34) rfl rfl fun v39 w35 O36 S37 h38=>?_
 obtain ⟨rfl,r40⟩:=h38.err
 refine o_as rfl rfl (o_z ?_)
 refine Ah (Ae (o_mv rfl rfl (o_rnS rfl rfl (fun c41=>?_) fun c41=>?_)))
 ·
  replace hm:=ip hm c41
  refine o_z ?_
  refine Ar rfl (Ah (Ae (o_bd rfl rfl rfl ?_)))
  refine o_mv rfl rfl ?_
  replace h32:=h32.st S37
  refine AQ h32 rfl rfl rfl (Nat.le_of_ble_eq_true rfl) (by first|exact allOne rfl|simp [Value.cells,Value.oneCell',AM]) fun w42 S43 h32=>?_
  replace h32:Lc 3 w42 O36 g28 26 [(.slice none 0 0),(.slice none 0 0),(.slice none 0 0),(.slice none 0 0)]:=h32
  refine o_as rfl rfl (o_as rfl rfl (o_z ?_))
  refine Au ?_
  obtain rfl:=sm hm
  replace hB:=(((hB.st S26).st S31).st S37).st S43
  exact ret3 rfl (BK (cs:=[(.slice none 0 0),(.slice none 0 0),(.slice none 0 0),(.slice none 0 0)]) rfl rfl h32.1.cellsAt) (AG rfl) (AG rfl) ⟨hB.ext,_,_,_,rfl,(Vb.mono (F:=Fr 0 w42 O36) (Vb.ofAgg (cs:=[(.slice none 0 0),(.slice none 0 0),(.slice none 0 0),(.slice none 0 0)]) (x:=(⟨([]:List Int),([]:List Int),([]:List Fct),([]:List Opr)⟩:Tsk)) rfl ⟨_,_,_,_,rfl,(Vb.nil _ _),(Vb.nil _ _),(Vb.nil _ _),(Vb.nil _ _)⟩) hB.out),(Vb.mono (F:=Fr 0 w42 O36) (Vb.nil _ _) hB.out),(vErr r40)⟩
 ·
  replace hm:=im hm c41
  refine o_z ?_
  refine Aj rfl (Am (Ah (Ah ?_)))
  obtain ⟨y44,hy45,hm⟩:=bs hm
  refine AN (fun l' w'=>∃ (x47:Unit) (O':Lab),subs l' [(1,(.slice A21 x1.length c22)),(2,(.int .i64 x2)),(3,(.pointer (some ⟨g23,0,none⟩))),(6,(.pointer (some ⟨g28,0,none⟩))),(32,(.bool y44))]∧Bs w A w' O'∧Vb w' (Fr 0 w' O') (.slice A21 x1.length c22) x1∧Lc 2 w' O' g23 26 [(.slice A10 x0.vars.length c11),(.slice A13 x0.init.length c14),(.slice A16 x0.goal.length c17),(.slice A19 x0.ops.length c20)]∧Vb w' (Fr 0 w' O') (.slice A10 x0.vars.length c11) x0.vars∧Vb w' (Fr 0 w' O') (.slice A13 x0.init.length c14) x0.init∧Vb w' (Fr 0 w' O') (.slice A16 x0.goal.length c17) x0.goal∧Vb w' (Fr 0 w' O') (.slice A19 x0.ops.length c20) x0.ops∧Lc 3 w' O' g28 26 [(.slice none 0 0),(.slice none 0 0),(.slice none 0 0),(.slice none 0 0)]) ?_ ?_
  ·
   refine Ae (o_mv rfl rfl (o_ltS rfl rfl rfl (fun c48=>?_) fun c48=>?_))
   ·
    replace hy45:=ip hy45 c48
    refine o_mv rfl rfl (AC rfl rfl rfl rfl (AC rfl rfl rfl rfl (o_pt rfl rfl rfl (o_z ?_))))
    obtain rfl:=sm hy45
    replace hB:=((hB.st S26).st S31).st S37
    replace hx1:=((hx1.st S26).st S31).st S37
    replace h9:=h9.st S37
    replace h12:=h12.st S37
    replace h15:=h15.st S37
    replace h18:=h18.st S37
    replace h27:=h27.st S37
    replace h32:=h32.st S37
    exact ⟨(),_,⟨rfl,rfl,rfl,rfl,rfl,trivial⟩,hB,hx1,h27,h9,h12,h15,h18,h32⟩
   ·
    replace hy45:=im hy45 c48
    refine o_mv rfl rfl (AE rfl rfl (o_mv rfl rfl (AE rfl rfl (o_gtS rfl rfl rfl (fun c49=>?_) fun c49=>?_))))
    ·
     replace hy45:=ip hy45 c49
     refine o_pf rfl rfl rfl (o_z ?_)
     obtain rfl:=sm hy45
     replace hB:=((hB.st S26).st S31).st S37
     replace hx1:=((hx1.st S26).st S31).st S37
     replace h9:=h9.st S37
     replace h12:=h12.st S37
     replace h15:=h15.st S37
     replace h18:=h18.st S37
     replace h27:=h27.st S37
     replace h32:=h32.st S37
     exact ⟨(),_,⟨rfl,rfl,rfl,rfl,rfl,trivial⟩,hB,hx1,h27,h9,h12,h15,h18,h32⟩
    ·
     replace hy45:=im hy45 c49
     refine o_pf rfl rfl rfl (o_z ?_)
     obtain rfl:=sm hy45
     replace hB:=((hB.st S26).st S31).st S37
     replace hx1:=((hx1.st S26).st S31).st S37
     replace h9:=h9.st S37
     replace h12:=h12.st S37
     replace h15:=h15.st S37
     replace h18:=h18.st S37
     replace h27:=h27.st S37
     replace h32:=h32.st S37
     exact ⟨(),_,⟨rfl,rfl,rfl,rfl,rfl,trivial⟩,hB,hx1,h27,h9,h12,h15,h18,h32⟩
  replace hB:=((hB.st S26).st S31).st S37
  replace hx1:=((hx1.st S26).st S31).st S37
  replace h9:=h9.st S37
  replace h12:=h12.st S37
  replace h15:=h15.st S37
  replace h18:=h18.st S37
  replace h27:=h27.st S37
  replace h32:=h32.st S37
  rintro l50 w51 ⟨x47,O52,hs53,hB,hx1,h27,h9,h12,h15,h18,h32⟩
  refine AP _ hs53 ?_
  refine Cm rfl (fun c54=>?_) (fun c54=>?_)
  ·
   replace hm:=ip hm c54
   refine Ah (Ae (o_bd rfl rfl rfl ?_))
   refine o_miE rfl rfl ?_
   refine AQ h32 rfl rfl rfl (Nat.le_of_ble_eq_true rfl) (by first|exact allOne rfl|simp [Value.cells,Value.oneCell',AM]) fun w55 S56 h32=>?_
   replace h32:Lc 3 w55 O52 g28 26 [(.slice none 0 0),(.slice none 0 0),(.slice none 0 0),(.slice none 0 0)]:=h32
   refine o_as rfl rfl (o_as rfl rfl (o_z ?_))
   refine Au ?_
   obtain rfl:=sm hm
   replace hB:=hB.st S56
   exact ret3 rfl (BK (cs:=[(.slice none 0 0),(.slice none 0 0),(.slice none 0 0),(.slice none 0 0)]) rfl rfl h32.1.cellsAt) (AG rfl) (AG rfl) ⟨hB.ext,_,_,_,rfl,(Vb.mono (F:=Fr 0 w55 O52) (Vb.ofAgg (cs:=[(.slice none 0 0),(.slice none 0 0),(.slice none 0 0),(.slice none 0 0)]) (x:=(⟨([]:List Int),([]:List Int),([]:List Fct),([]:List Opr)⟩:Tsk)) rfl ⟨_,_,_,_,rfl,(Vb.nil _ _),(Vb.nil _ _),(Vb.nil _ _),(Vb.nil _ _)⟩) hB.out),(Vb.mono (F:=Fr 0 w55 O52) (Vb.nil _ _) hB.out),(vErr (by decide))⟩
  ·
   replace hm:=im' hm c54
   refine Am (Ah (Ah (Ae (o_mv rfl rfl (o_ln rfl rfl ?_)))))
   have l58:x1.length≤9223372036854775807:=Nat.le_trans hx1.len.2.1 hx1.len.2.2
   have r57:inI64 (x1.length:Int):=rngNat l58
   refine o_gtS rfl rfl rfl (fun c59=>?_) fun c59=>?_
   ·
    replace hm:=ip hm c59
    refine o_z ?_
    refine Ar rfl (Ah (Ae (o_bd rfl rfl rfl ?_)))
    refine o_miE rfl rfl ?_
    refine AQ h32 rfl rfl rfl (Nat.le_of_ble_eq_true rfl) (by first|exact allOne rfl|simp [Value.cells,Value.oneCell',AM]) fun w60 S61 h32=>?_
    replace h32:Lc 3 w60 O52 g28 26 [(.slice none 0 0),(.slice none 0 0),(.slice none 0 0),(.slice none 0 0)]:=h32
    refine o_as rfl rfl (o_as rfl rfl (o_z ?_))
    refine Au ?_
    obtain rfl:=sm hm
    replace hB:=hB.st S61
    exact ret3 rfl (BK (cs:=[(.slice none 0 0),(.slice none 0 0),(.slice none 0 0),(.slice none 0 0)]) rfl rfl h32.1.cellsAt) (AG rfl) (AG rfl) ⟨hB.ext,_,_,_,rfl,(Vb.mono (F:=Fr 0 w60 O52) (Vb.ofAgg (cs:=[(.slice none 0 0),(.slice none 0 0),(.slice none 0 0),(.slice none 0 0)]) (x:=(⟨([]:List Int),([]:List Int),([]:List Fct),([]:List Opr)⟩:Tsk)) rfl ⟨_,_,_,_,rfl,(Vb.nil _ _),(Vb.nil _ _),(Vb.nil _ _),(Vb.nil _ _)⟩) hB.out),(Vb.mono (F:=Fr 0 w60 O52) (Vb.nil _ _) hB.out),(vErr (by decide))⟩
   ·
    replace hm:=im hm c59
    refine o_z ?_
    refine Aj rfl (Am (Ah (Ae (o_fa rfl rfl (o_ld (hc:=Blk.cell (i:=0) (h27.1) rfl) rfl rfl ?_)))))
    refine o_ln rfl rfl ?_
    have l63:x0.vars.length≤9223372036854775807:=Nat.le_trans h9.len.2.1 h9.len.2.2
    have r62:inI64 (x0.vars.length:Int):=rngNat l63
    refine o_as rfl rfl (o_z ?_)
    refine Ah ?_
    obtain ⟨n64,e65,hm⟩:=bs hm
    obtain ⟨q66,e67,hm⟩:=bs hm
    obtain ⟨u68,e69,hm⟩:=bs hm
    obtain ⟨q70,e71,hm⟩:=bs hm
    obtain ⟨u72,e73,hm⟩:=bs hm
    obtain ⟨q74,e75,hm⟩:=bs hm
    obtain ⟨u76,e77,hm⟩:=bs hm
    obtain ⟨y78,hy79,hm⟩:=bs hm
    refine AN (fun l' w'=>∃ (x81:Nat×(Option Addr×Nat)×(Option Addr×Nat)×(Option Addr×Nat)) (O':Lab),subs l' [(1,(.slice A21 x1.length c22)),(2,(.int .i64 x2)),(3,(.pointer (some ⟨g23,0,none⟩))),(6,(.pointer (some ⟨g28,0,none⟩))),(10,(.int .i64 (x0.vars.length:Int))),(11,(.pointer (some ⟨x81.1,0,none⟩)))]∧Bs w A w' O'∧Vb w' (Fr 0 w' O') (.slice A21 x1.length c22) x1∧Lc 2 w' O' g23 26 [(.slice A10 x0.vars.length c11),(.slice A13 x0.init.length c14),(.slice A16 x0.goal.length c17),(.slice A19 x0.ops.length c20)]∧Vb w' (Fr 0 w' O') (.slice A10 x0.vars.length c11) x0.vars∧Vb w' (Fr 0 w' O') (.slice A13 x0.init.length c14) x0.init∧Vb w' (Fr 0 w' O') (.slice A16 x0.goal.length c17) x0.goal∧Vb w' (Fr 0 w' O') (.slice A19 x0.ops.length c20) x0.ops∧Lc 3 w' O' g28 26 [(.slice none 0 0),(.slice none 0 0),(.slice none 0 0),(.slice none 0 0)]∧Lc 7 w' O' x81.1 26 [(.slice x81.2.1.1 y78.1.length x81.2.1.2),(.slice x81.2.2.1.1 y78.2.1.length x81.2.2.1.2),(.slice x81.2.2.2.1 y78.2.2.length x81.2.2.2.2),(.slice none 0 0)]∧Rw 8 w' O' 3 (.slice x81.2.1.1 y78.1.length x81.2.1.2) y78.1∧Rw 9 w' O' 3 (.slice x81.2.2.1.1 y78.2.1.length x81.2.2.1.2) y78.2.1∧Rw 10 w' O' 62 (.slice x81.2.2.2.1 y78.2.2.length x81.2.2.2.2) y78.2.2) ?_ ?_
    ·
     refine Bt [(7,[8]),(12,[9]),(21,[10])] O52 ?_
     refine x_pre (fuel:=20) [] [(0,true),(1,true),(3,true),(4,true),(5,true)] (by kernel_rfl) rfl ?_
     refine h_fa rfl rfl rfl (h_ldC (hc:=fun w' ⟨O',hq⟩=>Blk.cell (i:=0) ((h27.st hq (by decide)).1) rfl) rfl rfl rfl ?_)
     refine h_mv rfl rfl rfl (h_ln rfl rfl rfl ?_)
     have l90:x1.length≤9223372036854775807:=Nat.le_trans hx1.len.2.1 hx1.len.2.2
     have r89:inI64 (x1.length:Int):=rngNat l90
     have r91:=(AW e65)
     refine h_adE (he:=e65) rfl rfl rfl rfl ?_
     refine AK ?_
     refine x_pre (fuel:=18) [8] [(8,true),(9,true)] (by kernel_rfl) rfl ?_
     refine h_fa rfl rfl rfl (h_ldC (hc:=fun w' ⟨O',hq⟩=>Blk.cell (i:=1) ((h27.st hq (by decide)).1) rfl) rfl rfl rfl ?_)
     refine AK ?_
     refine x_pre (fuel:=12) [8,9] [(13,true),(14,true),(16,true),(17,true),(18,true),(19,true)] (by kernel_rfl) rfl ?_
     refine h_fa rfl rfl rfl (h_ldC (hc:=fun w' ⟨O',hq⟩=>Blk.cell (i:=2) ((h27.st hq (by decide)).1) rfl) rfl rfl rfl ?_)
     refine h_mv rfl rfl rfl (h_mv rfl rfl rfl (h_ln rfl rfl rfl ?_))
     have l93:x1.length≤9223372036854775807:=Nat.le_trans hx1.len.2.1 hx1.len.2.2
     have r92:inI64 (x1.length:Int):=rngNat l93
     refine h_bd rfl rfl rfl rfl ?_
     refine AK ?_
     refine z_cut (z:=(zRow (α:=Int) 6 49 4 3 1 ([n64]:List Int))) [(48,(.int .i64 n64))] (IE (by decide) rfl rfl rfl rfl rfl (fun _ _=>⟨(vInt r91),trivial⟩) (by decide) (by decide) rfl) fun hz94=>?_
     refine z_cut (z:=(zRow (α:=Int) 11 54 5 3 1 ([0]:List Int))) [] (IE (by decide) rfl rfl rfl rfl rfl (fun _ _=>⟨(vInt (show inI64 (0) from by decide)),trivial⟩) (by decide) (by decide) rfl) fun hz95=>?_
     refine z_cut (z:=(zRow (α:=Fct) 20 63 6 62 1 ([(⟨(x0.vars.length:Int),(x1.length:Int)⟩:Fct)]:List Fct))) [(62,(.agg #[(.int .i64 (x0.vars.length:Int)),(.int .i64 (x1.length:Int))]))] (IE (by decide) rfl rfl rfl rfl rfl (fun _ _=>⟨(Vb.ofAgg (cs:=[(.int .i64 (x0.vars.length:Int)),(.int .i64 (x1.length:Int))]) (x:=(⟨(x0.vars.length:Int),(x1.length:Int)⟩:Fct)) rfl ⟨rfl,r62,r92⟩),trivial⟩) (by decide) (by decide) rfl) fun hz96=>?_
     refine z_cut (z:=(zVar 23 11 7 26 [(.slice none 0 0),(.slice none 0 0),(.slice none 0 0),(.slice none 0 0)])) [] (NX rfl rfl rfl) fun hz97=>?_
     refine NW (zs:=[(zRow (α:=Int) 6 49 4 3 1 ([n64]:List Int)),(zRow (α:=Int) 11 54 5 3 1 ([0]:List Int)),(zRow (α:=Fct) 20 63 6 62 1 ([(⟨(x0.vars.length:Int),(x1.length:Int)⟩:Fct)]:List Fct)),(zVar 23 11 7 26 [(.slice none 0 0),(.slice none 0 0),(.slice none 0 0),(.slice none 0 0)])]) (fuel:=8) [(1,(.slice A21 x1.length c22)),(2,(.int .i64 x2)),(3,(.pointer (some ⟨g23,0,none⟩))),(6,(.pointer (some ⟨g28,0,none⟩))),(10,(.int .i64 (x0.vars.length:Int))),(44,(.slice A10 x0.vars.length c11)),(48,(.int .i64 n64)),(52,(.slice A13 x0.init.length c14)),(57,(.slice A16 x0.goal.length c17)),(62,(.agg #[(.int .i64 (x0.vars.length:Int)),(.int .i64 (x1.length:Int))]))] ⟨rfl,rfl,rfl,rfl,rfl,rfl,rfl,rfl,rfl,rfl,trivial⟩ rfl (by kernel_rfl) ?_
     refine FC (m:=2) (by kernel_rfl) rfl (by kernel_rfl) (by kernel_rfl) ⟨⟨_,hz94,⟨rfl,trivial⟩⟩,⟨_,hz95,trivial⟩,⟨_,hz96,⟨rfl,trivial⟩⟩,⟨_,hz97,trivial⟩,trivial⟩ fun u98 w99 O100 S101 hF102=>?_
     refine FD [(1,(.slice A21 x1.length c22)),(2,(.int .i64 x2)),(3,(.pointer (some ⟨g23,0,none⟩))),(6,(.pointer (some ⟨g28,0,none⟩))),(10,(.int .i64 (x0.vars.length:Int))),(11,(u98 11)),(44,(.slice A10 x0.vars.length c11)),(48,(.int .i64 n64)),(49,(u98 49)),(52,(.slice A13 x0.init.length c14)),(54,(u98 54)),(57,(.slice A16 x0.goal.length c17)),(62,(.agg #[(.int .i64 (x0.vars.length:Int)),(.int .i64 (x1.length:Int))])),(63,(u98 63))] ⟨rfl,rfl,rfl,rfl,rfl,rfl,rfl,rfl,rfl,rfl,rfl,rfl,rfl,rfl,trivial⟩ ?_
     replace h9:=h9.st S101
     refine CL 8 (by decide) (O:=O100) (Dh Fr.lt h9 e67) rfl rfl fun A108 c109 w103 O104 S105 h106=>?_
     have hZ:=S105.lst [] (fun _ h=>h.elim)
     refine z_go (zs':=[(zRow (α:=Int) 6 49 4 3 1 ([n64]:List Int)),(zRow (α:=Int) 11 54 5 3 1 ([0]:List Int)),(zRow (α:=Fct) 20 63 6 62 1 ([(⟨(x0.vars.length:Int),(x1.length:Int)⟩:Fct)]:List Fct)),(zVar 23 11 7 26 [(.slice none 0 0),(.slice none 0 0),(.slice none 0 0),(.slice none 0 0)])]) [(7,[8]),(12,[9]),(21,[10])] [(1,(.slice A21 x1.length c22)),(2,(.int .i64 x2)),(3,(.pointer (some ⟨g23,0,none⟩))),(6,(.pointer (some ⟨g28,0,none⟩))),(10,(.int .i64 (x0.vars.length:Int))),(45,(.slice A108 q66.length c109)),(48,(.int .i64 n64)),(52,(.slice A13 x0.init.length c14)),(57,(.slice A16 x0.goal.length c17)),(62,(.agg #[(.int .i64 (x0.vars.length:Int)),(.int .i64 (x1.length:Int))]))] (by kernel_rfl) hZ (by kernel_rfl) ⟨rfl,rfl,rfl,rfl,trivial⟩ ⟨rfl,rfl,rfl,rfl,rfl,rfl,rfl,rfl,rfl,rfl,trivial⟩ ?_
     refine FC (m:=7) (by kernel_rfl) rfl (by kernel_rfl) (by kernel_rfl) ⟨⟨_,hz94,⟨rfl,trivial⟩⟩,⟨_,hz95,trivial⟩,⟨_,hz96,⟨rfl,trivial⟩⟩,⟨_,hz97,trivial⟩,trivial⟩ fun u111 w112 O113 S114 hF115=>?_
     obtain ⟨g117,e116,h118⟩:=hF115.1 (by kernel_rfl)
     refine FD [(1,(.slice A21 x1.length c22)),(2,(.int .i64 x2)),(3,(.pointer (some ⟨g23,0,none⟩))),(6,(.pointer (some ⟨g28,0,none⟩))),(10,(.int .i64 (x0.vars.length:Int))),(11,(u111 11)),(45,(.slice A108 q66.length c109)),(48,(.int .i64 n64)),(49,(.slice (some ⟨g117,0,none⟩) ([n64]:List Int).length 1)),(52,(.slice A13 x0.init.length c14)),(54,(u111 54)),(57,(.slice A16 x0.goal.length c17)),(62,(.agg #[(.int .i64 (x0.vars.length:Int)),(.int .i64 (x1.length:Int))])),(63,(u111 63))] ⟨rfl,rfl,rfl,rfl,rfl,rfl,rfl,rfl,(congrArg some e116),rfl,rfl,rfl,rfl,rfl,trivial⟩ ?_
     obtain ⟨e69,e120,e121⟩:=AU e69
     replace h106:=h106.st S114
     refine BF rfl h106 (h118.rd) rfl rfl (by decide) e120 e121 rfl fun A122 c123 w124 O125 S126 h127=>?_
     rw [← e69] at h127 ⊢
     have hZ:=S126.lst [8] (fun _ h=>by cases h;decide)
     refine z_go (zs':=[(zRow (α:=Int) 11 54 5 3 1 ([0]:List Int)),(zRow (α:=Fct) 20 63 6 62 1 ([(⟨(x0.vars.length:Int),(x1.length:Int)⟩:Fct)]:List Fct)),(zVar 23 11 7 26 [(.slice none 0 0),(.slice none 0 0),(.slice none 0 0),(.slice none 0 0)])]) [(12,[9]),(21,[10])] [(1,(.slice A21 x1.length c22)),(2,(.int .i64 x2)),(3,(.pointer (some ⟨g23,0,none⟩))),(6,(.pointer (some ⟨g28,0,none⟩))),(10,(.int .i64 (x0.vars.length:Int))),(50,(.slice A122 u68.length c123)),(52,(.slice A13 x0.init.length c14)),(57,(.slice A16 x0.goal.length c17)),(62,(.agg #[(.int .i64 (x0.vars.length:Int)),(.int .i64 (x1.length:Int))]))] (by kernel_rfl) hZ (by kernel_rfl) ⟨rfl,rfl,rfl,trivial⟩ ⟨rfl,rfl,rfl,rfl,rfl,rfl,rfl,rfl,rfl,trivial⟩ ?_
     refine FC (m:=10) (by kernel_rfl) rfl (by kernel_rfl) (by kernel_rfl) ⟨⟨_,hz95,trivial⟩,⟨_,hz96,⟨rfl,trivial⟩⟩,⟨_,hz97,trivial⟩,trivial⟩ fun u129 w130 O131 S132 hF133=>?_
     refine FD [(1,(.slice A21 x1.length c22)),(2,(.int .i64 x2)),(3,(.pointer (some ⟨g23,0,none⟩))),(6,(.pointer (some ⟨g28,0,none⟩))),(10,(.int .i64 (x0.vars.length:Int))),(11,(u129 11)),(50,(.slice A122 u68.length c123)),(52,(.slice A13 x0.init.length c14)),(54,(u129 54)),(57,(.slice A16 x0.goal.length c17)),(62,(.agg #[(.int .i64 (x0.vars.length:Int)),(.int .i64 (x1.length:Int))])),(63,(u129 63))] ⟨rfl,rfl,rfl,rfl,rfl,rfl,rfl,rfl,rfl,rfl,rfl,rfl,trivial⟩ ?_
     replace h12:=((((h12.st S101).st S105).st S114).st S126).st S132
     refine CL 9 (by decide) (O:=O131) (Dh Fr.lt h12 e71) rfl rfl fun A139 c140 w134 O135 S136 h137=>?_
     have hZ:=S136.lst [] (fun _ h=>h.elim)
     refine z_go (zs':=[(zRow (α:=Int) 11 54 5 3 1 ([0]:List Int)),(zRow (α:=Fct) 20 63 6 62 1 ([(⟨(x0.vars.length:Int),(x1.length:Int)⟩:Fct)]:List Fct)),(zVar 23 11 7 26 [(.slice none 0 0),(.slice none 0 0),(.slice none 0 0),(.slice none 0 0)])]) [(12,[9]),(21,[10])] [(1,(.slice A21 x1.length c22)),(2,(.int .i64 x2)),(3,(.pointer (some ⟨g23,0,none⟩))),(6,(.pointer (some ⟨g28,0,none⟩))),(10,(.int .i64 (x0.vars.length:Int))),(50,(.slice A122 u68.length c123)),(53,(.slice A139 q70.length c140)),(57,(.slice A16 x0.goal.length c17)),(62,(.agg #[(.int .i64 (x0.vars.length:Int)),(.int .i64 (x1.length:Int))]))] (by kernel_rfl) hZ (by kernel_rfl) ⟨rfl,rfl,rfl,trivial⟩ ⟨rfl,rfl,rfl,rfl,rfl,rfl,rfl,rfl,rfl,trivial⟩ ?_
     refine FC (m:=12) (by kernel_rfl) rfl (by kernel_rfl) (by kernel_rfl) ⟨⟨_,hz95,trivial⟩,⟨_,hz96,⟨rfl,trivial⟩⟩,⟨_,hz97,trivial⟩,trivial⟩ fun u142 w143 O144 S145 hF146=>?_
     obtain ⟨g148,e147,h149⟩:=hF146.1 (by kernel_rfl)
     refine FD [(1,(.slice A21 x1.length c22)),(2,(.int .i64 x2)),(3,(.pointer (some ⟨g23,0,none⟩))),(6,(.pointer (some ⟨g28,0,none⟩))),(10,(.int .i64 (x0.vars.length:Int))),(11,(u142 11)),(50,(.slice A122 u68.length c123)),(53,(.slice A139 q70.length c140)),(54,(.slice (some ⟨g148,0,none⟩) ([0]:List Int).length 1)),(57,(.slice A16 x0.goal.length c17)),(62,(.agg #[(.int .i64 (x0.vars.length:Int)),(.int .i64 (x1.length:Int))])),(63,(u142 63))] ⟨rfl,rfl,rfl,rfl,rfl,rfl,rfl,rfl,(congrArg some e147),rfl,rfl,rfl,trivial⟩ ?_
     obtain ⟨e73,e151,e152⟩:=AU e73
     replace h137:=h137.st S145
     refine BF rfl h137 (h149.rd) rfl rfl (by decide) e151 e152 rfl fun A153 c154 w155 O156 S157 h158=>?_
     rw [← e73] at h158 ⊢
     have hZ:=S157.lst [9] (fun _ h=>by cases h;decide)
     refine z_go (zs':=[(zRow (α:=Fct) 20 63 6 62 1 ([(⟨(x0.vars.length:Int),(x1.length:Int)⟩:Fct)]:List Fct)),(zVar 23 11 7 26 [(.slice none 0 0),(.slice none 0 0),(.slice none 0 0),(.slice none 0 0)])]) [(21,[10])] [(1,(.slice A21 x1.length c22)),(2,(.int .i64 x2)),(3,(.pointer (some ⟨g23,0,none⟩))),(6,(.pointer (some ⟨g28,0,none⟩))),(10,(.int .i64 (x0.vars.length:Int))),(50,(.slice A122 u68.length c123)),(55,(.slice A153 u72.length c154)),(57,(.slice A16 x0.goal.length c17)),(62,(.agg #[(.int .i64 (x0.vars.length:Int)),(.int .i64 (x1.length:Int))]))] (by kernel_rfl) hZ (by kernel_rfl) ⟨rfl,rfl,trivial⟩ ⟨rfl,rfl,rfl,rfl,rfl,rfl,rfl,rfl,rfl,trivial⟩ ?_
     refine FC (m:=15) (by kernel_rfl) rfl (by kernel_rfl) (by kernel_rfl) ⟨⟨_,hz96,⟨rfl,trivial⟩⟩,⟨_,hz97,trivial⟩,trivial⟩ fun u160 w161 O162 S163 hF164=>?_
     refine FD [(1,(.slice A21 x1.length c22)),(2,(.int .i64 x2)),(3,(.pointer (some ⟨g23,0,none⟩))),(6,(.pointer (some ⟨g28,0,none⟩))),(10,(.int .i64 (x0.vars.length:Int))),(11,(u160 11)),(50,(.slice A122 u68.length c123)),(55,(.slice A153 u72.length c154)),(57,(.slice A16 x0.goal.length c17)),(62,(.agg #[(.int .i64 (x0.vars.length:Int)),(.int .i64 (x1.length:Int))])),(63,(u160 63))] ⟨rfl,rfl,rfl,rfl,rfl,rfl,rfl,rfl,rfl,rfl,rfl,trivial⟩ ?_
     replace h15:=((((((((h15.st S101).st S105).st S114).st S126).st S132).st S136).st S145).st S157).st S163
     refine CL 10 (by decide) (O:=O162) (Cb Fr.lt h15 e75) rfl rfl fun A170 c171 w165 O166 S167 h168=>?_
     have hZ:=S167.lst [] (fun _ h=>h.elim)
     refine z_go (zs':=[(zRow (α:=Fct) 20 63 6 62 1 ([(⟨(x0.vars.length:Int),(x1.length:Int)⟩:Fct)]:List Fct)),(zVar 23 11 7 26 [(.slice none 0 0),(.slice none 0 0),(.slice none 0 0),(.slice none 0 0)])]) [(21,[10])] [(1,(.slice A21 x1.length c22)),(2,(.int .i64 x2)),(3,(.pointer (some ⟨g23,0,none⟩))),(6,(.pointer (some ⟨g28,0,none⟩))),(10,(.int .i64 (x0.vars.length:Int))),(50,(.slice A122 u68.length c123)),(55,(.slice A153 u72.length c154)),(58,(.slice A170 q74.length c171)),(62,(.agg #[(.int .i64 (x0.vars.length:Int)),(.int .i64 (x1.length:Int))]))] (by kernel_rfl) hZ (by kernel_rfl) ⟨rfl,rfl,trivial⟩ ⟨rfl,rfl,rfl,rfl,rfl,rfl,rfl,rfl,rfl,trivial⟩ ?_
     refine FC (m:=21) (by kernel_rfl) rfl (by kernel_rfl) (by kernel_rfl) ⟨⟨_,hz96,⟨rfl,trivial⟩⟩,⟨_,hz97,trivial⟩,trivial⟩ fun u173 w174 O175 S176 hF177=>?_
     obtain ⟨g179,e178,h180⟩:=hF177.1 (by kernel_rfl)
     refine FD [(1,(.slice A21 x1.length c22)),(2,(.int .i64 x2)),(3,(.pointer (some ⟨g23,0,none⟩))),(6,(.pointer (some ⟨g28,0,none⟩))),(10,(.int .i64 (x0.vars.length:Int))),(11,(u173 11)),(50,(.slice A122 u68.length c123)),(55,(.slice A153 u72.length c154)),(58,(.slice A170 q74.length c171)),(62,(.agg #[(.int .i64 (x0.vars.length:Int)),(.int .i64 (x1.length:Int))])),(63,(.slice (some ⟨g179,0,none⟩) ([(⟨(x0.vars.length:Int),(x1.length:Int)⟩:Fct)]:List Fct).length 1))] ⟨rfl,rfl,rfl,rfl,rfl,rfl,rfl,rfl,rfl,rfl,(congrArg some e178),trivial⟩ ?_
     obtain ⟨e77,e182,e183⟩:=AU e77
     replace h168:=h168.st S176
     refine BF rfl h168 (h180.rd) rfl rfl (by decide) e182 e183 rfl fun A184 c185 w186 O187 S188 h189=>?_
     rw [← e77] at h189 ⊢
     have hZ:=S188.lst [10] (fun _ h=>by cases h;decide)
     refine z_go (zs':=[(zVar 23 11 7 26 [(.slice none 0 0),(.slice none 0 0),(.slice none 0 0),(.slice none 0 0)])]) [] [(1,(.slice A21 x1.length c22)),(2,(.int .i64 x2)),(3,(.pointer (some ⟨g23,0,none⟩))),(6,(.pointer (some ⟨g28,0,none⟩))),(10,(.int .i64 (x0.vars.length:Int))),(50,(.slice A122 u68.length c123)),(55,(.slice A153 u72.length c154)),(64,(.slice A184 u76.length c185))] (by kernel_rfl) hZ (by kernel_rfl) ⟨rfl,trivial⟩ ⟨rfl,rfl,rfl,rfl,rfl,rfl,rfl,rfl,trivial⟩ ?_
     refine OV (by kernel_rfl) (fun v191 hv192=>?_) ?_
     ·
      obtain ⟨g193,rfl,h194⟩:=hv192
      refine ML ?_
      refine x_pre (fuel:=1) [] [(22,true)] (by kernel_rfl) rfl ?_
      refine h_bd rfl rfl rfl rfl ?_
      refine AK ?_
      refine x_one (i:=24) (by kernel_rfl) rfl ?_
      refine AQ h194 rfl rfl rfl (Nat.le_of_ble_eq_true rfl) (by first|exact allOne rfl|simp [Value.cells,Value.oneCell',AM]) fun w195 S196 h194=>?_
      replace h194:Lc 7 w195 O187 g193 26 [(.slice A122 u68.length c123),(.slice A153 u72.length c154),(.slice A184 u76.length c185),(.slice none 0 0)]:=h194
      refine x_end (by kernel_rfl) ?_
      refine x_nil (by kernel_rfl) ?_
      obtain rfl:=sm hy79
      replace hB:=((((((((((((hB.st S101).st S105).st S114).st S126).st S132).st S136).st S145).st S157).st S163).st S167).st S176).st S188).st S196
      replace hx1:=((((((((((((hx1.st S101).st S105).st S114).st S126).st S132).st S136).st S145).st S157).st S163).st S167).st S176).st S188).st S196
      replace h9:=(((((((((((h9.st S105).st S114).st S126).st S132).st S136).st S145).st S157).st S163).st S167).st S176).st S188).st S196
      replace h12:=(((((((h12.st S136).st S145).st S157).st S163).st S167).st S176).st S188).st S196
      replace h15:=(((h15.st S167).st S176).st S188).st S196
      replace h18:=((((((((((((h18.st S101).st S105).st S114).st S126).st S132).st S136).st S145).st S157).st S163).st S167).st S176).st S188).st S196
      replace h27:=((((((((((((h27.st S101).st S105).st S114).st S126).st S132).st S136).st S145).st S157).st S163).st S167).st S176).st S188).st S196
      replace h32:=((((((((((((h32.st S101).st S105).st S114).st S126).st S132).st S136).st S145).st S157).st S163).st S167).st S176).st S188).st S196
      replace h127:=((((((((h127.st S132).st S136).st S145).st S157).st S163).st S167).st S176).st S188).st S196
      replace h158:=((((h158.st S163).st S167).st S176).st S188).st S196
      replace h189:=h189.st S196
      exact ⟨(g193,(A122,c123),(A153,c154),(A184,c185)),_,⟨rfl,rfl,rfl,rfl,rfl,rfl,trivial⟩,hB,hx1,h27,h9,h12,h15,h18,h32,h194,h127,h158,h189⟩
     ·
      refine ML ?_
      refine x_pre (fuel:=2) [] [(22,true)] (by kernel_rfl) rfl ?_
      refine h_bd rfl rfl rfl rfl ?_
      refine AK ?_
      refine x_one (i:=23) (by kernel_rfl) rfl ?_
      refine BJ 7 O187 rfl fun g197 w198 O199 S200 h201=>?_
      have hZ:=S200.lst [] (fun _ h=>h.elim)
      refine x_go [] hZ (by kernel_rfl) ?_
      refine x_one (i:=24) (by kernel_rfl) rfl ?_
      refine AQ h201 rfl rfl rfl (Nat.le_of_ble_eq_true rfl) (by first|exact allOne rfl|simp [Value.cells,Value.oneCell',AM]) fun w202 S203 h201=>?_
      replace h201:Lc 7 w202 O199 g197 26 [(.slice A122 u68.length c123),(.slice A153 u72.length c154),(.slice A184 u76.length c185),(.slice none 0 0)]:=h201
      refine x_end (by kernel_rfl) ?_
      refine x_nil (by kernel_rfl) ?_
      obtain rfl:=sm hy79
      replace hB:=(((((((((((((hB.st S101).st S105).st S114).st S126).st S132).st S136).st S145).st S157).st S163).st S167).st S176).st S188).st S200).st S203
      replace hx1:=(((((((((((((hx1.st S101).st S105).st S114).st S126).st S132).st S136).st S145).st S157).st S163).st S167).st S176).st S188).st S200).st S203
      replace h9:=((((((((((((h9.st S105).st S114).st S126).st S132).st S136).st S145).st S157).st S163).st S167).st S176).st S188).st S200).st S203
      replace h12:=((((((((h12.st S136).st S145).st S157).st S163).st S167).st S176).st S188).st S200).st S203
      replace h15:=((((h15.st S167).st S176).st S188).st S200).st S203
      replace h18:=(((((((((((((h18.st S101).st S105).st S114).st S126).st S132).st S136).st S145).st S157).st S163).st S167).st S176).st S188).st S200).st S203
      replace h27:=(((((((((((((h27.st S101).st S105).st S114).st S126).st S132).st S136).st S145).st S157).st S163).st S167).st S176).st S188).st S200).st S203
      replace h32:=(((((((((((((h32.st S101).st S105).st S114).st S126).st S132).st S136).st S145).st S157).st S163).st S167).st S176).st S188).st S200).st S203
      replace h127:=(((((((((h127.st S132).st S136).st S145).st S157).st S163).st S167).st S176).st S188).st S200).st S203
      replace h158:=(((((h158.st S163).st S167).st S176).st S188).st S200).st S203
      replace h189:=(h189.st S200).st S203
      exact ⟨(g197,(A122,c123),(A153,c154),(A184,c185)),_,⟨rfl,rfl,rfl,rfl,rfl,rfl,trivial⟩,hB,hx1,h27,h9,h12,h15,h18,h32,h201,h127,h158,h189⟩
    rintro l204 w205 ⟨x81,O206,hs207,hB,hx1,h27,h9,h12,h15,h18,h32,h82,h83,h85,h87⟩
    refine AP _ hs207 ?_
    refine Ah (Ae (o_as rfl rfl (o_z ?_)))
    refine Ah (Ah (Ae (o_fa rfl rfl (o_ld (hc:=Blk.cell (i:=3) (h27.1) rfl) rfl rfl ?_))))
    refine o_ln rfl rfl ?_
    have l209:x0.ops.length≤9223372036854775807:=Nat.le_trans h18.len.2.1 h18.len.2.2
    have r208:inI64 (x0.ops.length:Int):=rngNat l209
    refine o_mv rfl rfl (o_z ?_)
    obtain ⟨res210,hL211,hm⟩:=bs hm
    refine AN (aft res210 (fun (s212:(List Prt)×(List Opr)) (x213:(Option Addr×Nat)×(Option Addr×Nat))=>[(1,(.slice A21 x1.length c22)),(2,(.int .i64 x2)),(3,(.pointer (some ⟨g23,0,none⟩))),(6,(.pointer (some ⟨g28,0,none⟩))),(10,(.int .i64 (x0.vars.length:Int))),(11,(.pointer (some ⟨x81.1,0,none⟩))),(12,(.slice x213.1.1 s212.1.length x213.1.2))]) (fun s212 x213 w'=>∃ O':Lab,Bs w A w' O'∧Vb w' (Fr 0 w' O') (.slice A21 x1.length c22) x1∧Lc 2 w' O' g23 26 [(.slice A10 x0.vars.length c11),(.slice A13 x0.init.length c14),(.slice A16 x0.goal.length c17),(.slice A19 x0.ops.length c20)]∧Vb w' (Fr 0 w' O') (.slice A10 x0.vars.length c11) x0.vars∧Vb w' (Fr 0 w' O') (.slice A13 x0.init.length c14) x0.init∧Vb w' (Fr 0 w' O') (.slice A16 x0.goal.length c17) x0.goal∧Vb w' (Fr 0 w' O') (.slice A19 x0.ops.length c20) x0.ops∧Lc 3 w' O' g28 26 [(.slice none 0 0),(.slice none 0 0),(.slice none 0 0),(.slice none 0 0)]∧Lc 7 w' O' x81.1 26 [(.slice x81.2.1.1 y78.1.length x81.2.1.2),(.slice x81.2.2.1.1 y78.2.1.length x81.2.2.1.2),(.slice x81.2.2.2.1 y78.2.2.length x81.2.2.2.2),(.slice x213.2.1 s212.2.length x213.2.2)]∧Rw 8 w' O' 3 (.slice x81.2.1.1 y78.1.length x81.2.1.2) y78.1∧Rw 9 w' O' 3 (.slice x81.2.2.1.1 y78.2.1.length x81.2.2.1.2) y78.2.1∧Rw 10 w' O' 62 (.slice x81.2.2.2.1 y78.2.2.length x81.2.2.2.2) y78.2.2∧NR Eff 14 w' O' 67 64 (.slice x213.2.1 s212.2.length x213.2.2) s212.2 none∧Rw 15 w' O' 74 (.slice x213.1.1 s212.1.length x213.1.2) s212.1)) ?_ ?_
    ·
     refine Al (BD (σ:=(List Prt)×(List Opr)) (X:=(Option Addr×Nat)×(Option Addr×Nat)) (x0.ops.length) hL211 rfl l209 (fun (s212:(List Prt)×(List Opr)) (x213:(Option Addr×Nat)×(Option Addr×Nat))=>[(1,(.slice A21 x1.length c22)),(2,(.int .i64 x2)),(3,(.pointer (some ⟨g23,0,none⟩))),(6,(.pointer (some ⟨g28,0,none⟩))),(10,(.int .i64 (x0.vars.length:Int))),(11,(.pointer (some ⟨x81.1,0,none⟩))),(12,(.slice x213.1.1 s212.1.length x213.1.2)),(67,(.slice A19 x0.ops.length c20))]) _ (fun s212 x213 w'=>∃ O':Lab,Bs w A w' O'∧Vb w' (Fr 0 w' O') (.slice A21 x1.length c22) x1∧Lc 2 w' O' g23 26 [(.slice A10 x0.vars.length c11),(.slice A13 x0.init.length c14),(.slice A16 x0.goal.length c17),(.slice A19 x0.ops.length c20)]∧Vb w' (Fr 0 w' O') (.slice A10 x0.vars.length c11) x0.vars∧Vb w' (Fr 0 w' O') (.slice A13 x0.init.length c14) x0.init∧Vb w' (Fr 0 w' O') (.slice A16 x0.goal.length c17) x0.goal∧Vb w' (Fr 0 w' O') (.slice A19 x0.ops.length c20) x0.ops∧Lc 3 w' O' g28 26 [(.slice none 0 0),(.slice none 0 0),(.slice none 0 0),(.slice none 0 0)]∧Lc 7 w' O' x81.1 26 [(.slice x81.2.1.1 y78.1.length x81.2.1.2),(.slice x81.2.2.1.1 y78.2.1.length x81.2.2.1.2),(.slice x81.2.2.2.1 y78.2.2.length x81.2.2.2.2),(.slice x213.2.1 s212.2.length x213.2.2)]∧Rw 8 w' O' 3 (.slice x81.2.1.1 y78.1.length x81.2.1.2) y78.1∧Rw 9 w' O' 3 (.slice x81.2.2.1.1 y78.2.1.length x81.2.2.1.2) y78.2.1∧Rw 10 w' O' 62 (.slice x81.2.2.2.1 y78.2.2.length x81.2.2.2.2) y78.2.2∧NR Eff 14 w' O' 67 64 (.slice x213.2.1 s212.2.length x213.2.2) s212.2 none∧Rw 15 w' O' 74 (.slice x213.1.1 s212.1.length x213.1.2) s212.1) _ ((none,0),(none,0)) ⟨O206,hB,hx1,h27,h9,h12,h15,h18,h32,h82,h83,h85,h87,(NR.nil 14 (by decide)),(Rw.nil 15 (by decide))⟩ ⟨rfl,rfl,rfl,rfl,rfl,rfl,rfl,rfl,rfl,rfl,trivial⟩ (fun _ _=>⟨rfl,rfl⟩) (fun _ _=>⟨rfl,rfl,rfl,rfl,rfl,rfl,rfl,trivial⟩) (fun _ _ _ ⟨O',hB,hx1,h27,h9,h12,h15,h18,h32,h82,h83,h85,h87,h231,h229⟩=>⟨O',hB,hx1,h27,h9,h12,h15,h18,h32,h82,h83,h85,h87,h231,h229⟩) ⟨rfl,rfl,rfl⟩ ⟨rfl,rfl⟩ ?_)
     rintro k214 a215 s212 x213 w216 cc218 hx219 ⟨O217,hB,hx1,h27,h9,h12,h15,h18,h32,h82,h83,h85,h87,h231,h229⟩ hf220 hret221 hbrk222
     have rk214:inI64 (k214:Int):=rngK hx219 l209
     refine Ah (Ae (o_mv rfl rfl ?_))
     obtain ⟨b233,o234,ce235,hA236,hl237,hd238,v240,v241,rfl,h242,h245,r248,z249⟩:=h18.elem' hx219
     obtain ⟨A243,c244,rfl⟩:=h242.form
     obtain ⟨A246,c247,rfl⟩:=h245.form
     refine o_iaE (hA:=hA236) (hj:=rfl) (hlt:=hl237) rfl rfl rfl ?_
     refine o_la (hl:=rfl) (hc:=hd238) rfl rfl ?_
     refine BJ 11 O217 rfl fun g250 w251 O252 S253 h254=>?_
     refine o_as rfl rfl (AQ h254 rfl rfl rfl (Nat.le_of_ble_eq_true rfl) (by first|exact allOne rfl|simp [Value.cells,Value.oneCell',AM]) fun w255 S256 h254=>?_)
     replace h254:Lc 11 w255 O252 g250 67 [(.string a215.name),(.int .i64 a215.cost),(.slice A243 a215.pre.length c244),(.slice A246 a215.effs.length c247)]:=h254
     refine o_z ?_
     refine Ah (Ae (o_fa rfl rfl (o_ld (hc:=Blk.cell (i:=1) (h254.1) rfl) rfl rfl ?_)))
     refine o_mv rfl rfl ?_
     obtain ⟨n257,e258,hf220⟩:=bs hf220
     have r259:=(AW e258)
     refine o_adE (he:=e258) rfl rfl rfl ?_
     refine o_fa rfl rfl (AQ h254 rfl rfl rfl (Nat.le_of_ble_eq_true rfl) (by first|exact allOne rfl|simp [Value.cells,Value.oneCell',AM]) fun w260 S261 h254=>?_)
     replace h254:Lc 11 w260 O252 g250 67 [(.string a215.name),(.int .i64 n257),(.slice A243 a215.pre.length c244),(.slice A246 a215.effs.length c247)]:=h254
     refine o_z ?_
     refine Ah (Bt [(7,[11])] O252 ?_)
     refine x_pre (fuel:=6) [] [(0,true),(1,true),(3,true),(4,true)] (by kernel_rfl) rfl ?_
     refine h_fa rfl rfl rfl (h_ldC (hc:=fun w' ⟨O',hq⟩=>Blk.cell (i:=2) ((h254.st hq (by decide)).1) rfl) rfl rfl rfl ?_)
     refine h_fa rfl rfl rfl (h_ldC (hc:=fun w' ⟨O',hq⟩=>Blk.cell (i:=3) ((h254.st hq (by decide)).1) rfl) rfl rfl rfl ?_)
     refine AK ?_
     refine x_one (i:=2) (by kernel_rfl) rfl ?_
     obtain ⟨q262,e263,hf220⟩:=bs hf220
     replace h242:=((h242.st S253).st S256).st S261
     refine CL 12 (by decide) (O:=O252) (Cb Fr.lt h242 e263) rfl rfl fun A269 c270 w264 O265 S266 h267=>?_
     have hZ:=S266.lst [] (fun _ h=>h.elim)
     refine x_go [(7,[11])] hZ (by kernel_rfl) ?_
     refine x_pre (fuel:=4) [] [(6,true)] (by kernel_rfl) rfl ?_
     refine h_fa rfl rfl rfl (AK ?_)
     refine x_one (i:=5) (by kernel_rfl) rfl ?_
     obtain ⟨q272,e273,hf220⟩:=bs hf220
     replace h245:=(((h245.st S253).st S256).st S261).st S266
     refine CL 13 (by decide) (O:=O265) (CK Fr.lt h245 e273) rfl rfl fun A279 c280 w274 O275 S276 h277=>?_
     have hZ:=S276.lst [] (fun _ h=>h.elim)
     refine x_go [(7,[11])] hZ (by kernel_rfl) ?_
     refine x_one (i:=7) (by kernel_rfl) rfl ?_
     replace h254:=(h254.st S266).st S276
     refine AQ h254 rfl rfl rfl (Nat.le_of_ble_eq_true rfl) (by first|exact allOne rfl|simp [Value.cells,Value.oneCell',AM]) fun w282 S283 h254=>?_
     replace h254:Lc 11 w282 O275 g250 67 [(.string a215.name),(.int .i64 n257),(.slice A269 q262.length c270),(.slice A246 a215.effs.length c247)]:=h254
     have hZ:=S283.lst [11] (fun _ h=>by cases h;decide)
     refine x_go [] hZ (by kernel_rfl) ?_
     refine x_pre (fuel:=1) [] [(8,true)] (by kernel_rfl) rfl ?_
     refine h_fa rfl rfl rfl (AK ?_)
     refine x_one (i:=9) (by kernel_rfl) rfl ?_
     refine AQ h254 rfl rfl rfl (Nat.le_of_ble_eq_true rfl) (by first|exact allOne rfl|simp [Value.cells,Value.oneCell',AM]) fun w284 S285 h254=>?_
     replace h254:Lc 11 w284 O275 g250 67 [(.string a215.name),(.int .i64 n257),(.slice A269 q262.length c270),(.slice A279 q272.length c280)]:=h254
     refine x_end (by kernel_rfl) ?_
     refine x_nil (by kernel_rfl) ?_
     refine Ae (o_fa rfl rfl ?_)
     replace h82:=((((((h82.st S253).st S256).st S261).st S266).st S276).st S283).st S285
     refine o_ld (hc:=Blk.cell (i:=3) (h82.1) rfl) rfl rfl ?_
     refine o_la (hl:=rfl) (hc:=(h254.1).cellsAt) rfl rfl ?_
     replace h267:=((h267.st S276).st S283).st S285
     obtain ⟨O286,S287,h267⟩:=h267.freeze
     obtain ⟨u288,e289,hf220⟩:=bs hf220
     obtain ⟨e289,e290,e291⟩:=AU e289
     replace h231:=(((((((h231.st S253).st S256).st S261).st S266).st S276).st S283).st S285).st S287
     replace h277:=((h277.st S283).st S285).st S287
     refine MK (β:=Eff) (j:=13) (cs:=[(.string a215.name),(.int .i64 n257),(.slice A269 q262.length c270),(.slice A279 q272.length c280)]) (a:=(⟨a215.name,n257,q262,q272⟩:Opr)) rfl rfl h231 rfl rfl (by first|exact allOne rfl|simp [Value.oneCell',AM]) ⟨_,_,rfl,h267,(Vb.nil _ _),r259,z249⟩ rfl h277 (by decide) (fun _=>rfl) rfl (by decide) (by decide) e290 e291 ⟨rfl,rfl⟩ fun g292 A293 c294 w295 O296 S297 h298=>?_
     rw [← e289] at h298 ⊢
     refine o_mv rfl rfl (o_mv rfl rfl (o_bd rfl rfl rfl ?_))
     obtain ⟨u300,e301,hf220⟩:=bs hf220
     obtain ⟨e301,e302,e303⟩:=AU e301
     replace h229:=((((((((h229.st S253).st S256).st S261).st S266).st S276).st S283).st S285).st S287).st S297
     refine Cu rfl (a:=(⟨(k214:Int)⟩:Prt)) h229 (Vb.ofAgg (cs:=[(.int .i64 (k214:Int))]) (x:=(⟨(k214:Int)⟩:Prt)) rfl ⟨rfl,rk214⟩) (fun _=>rfl) rfl (by decide) (by decide) e302 e303 ⟨rfl,rfl⟩ fun g304 A305 c306 w307 O308 S309 h310=>?_
     rw [← e301] at h310 ⊢
     refine o_fa rfl rfl ?_
     replace h82:=((h82.st S287).st S297).st S309
     refine AQ h82 rfl rfl rfl (Nat.le_of_ble_eq_true rfl) (by first|exact allOne rfl|simp [Value.cells,Value.oneCell',AM]) fun w312 S313 h82=>?_
     replace h82:Lc 7 w312 O308 x81.1 26 [(.slice x81.2.1.1 y78.1.length x81.2.1.2),(.slice x81.2.2.1.1 y78.2.1.length x81.2.2.1.2),(.slice x81.2.2.2.1 y78.2.2.length x81.2.2.2.2),(.slice A293 u288.length c294)]:=h82
     refine o_as rfl rfl (o_z ?_)
     obtain rfl:=sm hf220
     refine (?_:Exists _)
     replace hB:=((((((((((hB.st S253).st S256).st S261).st S266).st S276).st S283).st S285).st S287).st S297).st S309).st S313
     replace hx1:=((((((((((hx1.st S253).st S256).st S261).st S266).st S276).st S283).st S285).st S287).st S297).st S309).st S313
     replace h9:=((((((((((h9.st S253).st S256).st S261).st S266).st S276).st S283).st S285).st S287).st S297).st S309).st S313
     replace h12:=((((((((((h12.st S253).st S256).st S261).st S266).st S276).st S283).st S285).st S287).st S297).st S309).st S313
     replace h15:=((((((((((h15.st S253).st S256).st S261).st S266).st S276).st S283).st S285).st S287).st S297).st S309).st S313
     replace h18:=((((((((((h18.st S253).st S256).st S261).st S266).st S276).st S283).st S285).st S287).st S297).st S309).st S313
     replace h27:=((((((((((h27.st S253).st S256).st S261).st S266).st S276).st S283).st S285).st S287).st S297).st S309).st S313
     replace h32:=((((((((((h32.st S253).st S256).st S261).st S266).st S276).st S283).st S285).st S287).st S297).st S309).st S313
     replace h83:=((((((((((h83.st S253).st S256).st S261).st S266).st S276).st S283).st S285).st S287).st S297).st S309).st S313
     replace h85:=((((((((((h85.st S253).st S256).st S261).st S266).st S276).st S283).st S285).st S287).st S297).st S309).st S313
     replace h87:=((((((((((h87.st S253).st S256).st S261).st S266).st S276).st S283).st S285).st S287).st S297).st S309).st S313
     replace h298:=(h298.st S309).st S313
     replace h310:=h310.st S313
     exact ⟨_,((A305,c306),(A293,c294)),rfl,⟨rfl,rfl,rfl,rfl,rfl,rfl,rfl,rfl,rfl,rfl,trivial⟩,_,hB,hx1,h27,h9,h12,h15,h18,h32,h82,h83,h85,h87,h298,h310⟩
    rintro l314 w315 ⟨s318,x319,rfl,hs317,O316,hB,hx1,h27,h9,h12,h15,h18,h32,h82,h83,h85,h87,h231,h229⟩
    replace hm:=AY hm
    refine AP _ hs317 ?_
    refine Ah (Ah (Ae (o_mv rfl rfl (o_ln rfl rfl ?_))))
    have l321:x1.length≤9223372036854775807:=Nat.le_trans hx1.len.2.1 hx1.len.2.2
    have r320:inI64 (x1.length:Int):=rngNat l321
    refine o_mv rfl rfl (o_z ?_)
    obtain ⟨res322,hL323,hm⟩:=bs hm
    refine AN (aft res322 (fun (s324:(List Prt)×(List Opr)) (x325:(Option Addr×Nat)×(Option Addr×Nat))=>[(6,(.pointer (some ⟨g28,0,none⟩))),(11,(.pointer (some ⟨x81.1,0,none⟩))),(12,(.slice x325.1.1 s324.1.length x325.1.2))]) (fun s324 x325 w'=>∃ O':Lab,Bs w A w' O'∧Lc 3 w' O' g28 26 [(.slice none 0 0),(.slice none 0 0),(.slice none 0 0),(.slice none 0 0)]∧Lc 7 w' O' x81.1 26 [(.slice x81.2.1.1 y78.1.length x81.2.1.2),(.slice x81.2.2.1.1 y78.2.1.length x81.2.2.1.2),(.slice x81.2.2.2.1 y78.2.2.length x81.2.2.2.2),(.slice x325.2.1 s324.2.length x325.2.2)]∧Rw 8 w' O' 3 (.slice x81.2.1.1 y78.1.length x81.2.1.2) y78.1∧Rw 9 w' O' 3 (.slice x81.2.2.1.1 y78.2.1.length x81.2.2.1.2) y78.2.1∧Rw 10 w' O' 62 (.slice x81.2.2.2.1 y78.2.2.length x81.2.2.2.2) y78.2.2∧NR Eff 14 w' O' 67 64 (.slice x325.2.1 s324.2.length x325.2.2) s324.2 none∧Rw 15 w' O' 74 (.slice x325.1.1 s324.1.length x325.1.2) s324.1)) ?_ ?_
    ·
     refine Al (BD (σ:=(List Prt)×(List Opr)) (X:=(Option Addr×Nat)×(Option Addr×Nat)) (x1.length) hL323 rfl l321 (fun (s324:(List Prt)×(List Opr)) (x325:(Option Addr×Nat)×(Option Addr×Nat))=>[(2,(.int .i64 x2)),(3,(.pointer (some ⟨g23,0,none⟩))),(6,(.pointer (some ⟨g28,0,none⟩))),(10,(.int .i64 (x0.vars.length:Int))),(11,(.pointer (some ⟨x81.1,0,none⟩))),(12,(.slice x325.1.1 s324.1.length x325.1.2)),(99,(.slice A21 x1.length c22))]) _ (fun s324 x325 w'=>∃ O':Lab,Bs w A w' O'∧Lc 2 w' O' g23 26 [(.slice A10 x0.vars.length c11),(.slice A13 x0.init.length c14),(.slice A16 x0.goal.length c17),(.slice A19 x0.ops.length c20)]∧Vb w' (Fr 0 w' O') (.slice A10 x0.vars.length c11) x0.vars∧Vb w' (Fr 0 w' O') (.slice A13 x0.init.length c14) x0.init∧Vb w' (Fr 0 w' O') (.slice A16 x0.goal.length c17) x0.goal∧Vb w' (Fr 0 w' O') (.slice A19 x0.ops.length c20) x0.ops∧Lc 3 w' O' g28 26 [(.slice none 0 0),(.slice none 0 0),(.slice none 0 0),(.slice none 0 0)]∧Lc 7 w' O' x81.1 26 [(.slice x81.2.1.1 y78.1.length x81.2.1.2),(.slice x81.2.2.1.1 y78.2.1.length x81.2.2.1.2),(.slice x81.2.2.2.1 y78.2.2.length x81.2.2.2.2),(.slice x325.2.1 s324.2.length x325.2.2)]∧Rw 8 w' O' 3 (.slice x81.2.1.1 y78.1.length x81.2.1.2) y78.1∧Rw 9 w' O' 3 (.slice x81.2.2.1.1 y78.2.1.length x81.2.2.1.2) y78.2.1∧Rw 10 w' O' 62 (.slice x81.2.2.2.1 y78.2.2.length x81.2.2.2.2) y78.2.2∧NR Eff 14 w' O' 67 64 (.slice x325.2.1 s324.2.length x325.2.2) s324.2 none∧Rw 15 w' O' 74 (.slice x325.1.1 s324.1.length x325.1.2) s324.1∧Vb w' (Fr 0 w' O') (.slice A21 x1.length c22) x1) _ ((x319.1.1,x319.1.2),(x319.2.1,x319.2.2)) ⟨O316,hB,h27,h9,h12,h15,h18,h32,h82,h83,h85,h87,h231,h229,hx1⟩ ⟨rfl,rfl,rfl,rfl,rfl,rfl,rfl,rfl,rfl,trivial⟩ (fun _ _=>⟨rfl,rfl⟩) (fun _ _=>⟨rfl,rfl,rfl,trivial⟩) (fun _ _ _ ⟨O',hB,h27,h9,h12,h15,h18,h32,h82,h83,h85,h87,h343,h341,hx1⟩=>⟨O',hB,h32,h82,h83,h85,h87,h343,h341⟩) ⟨rfl,rfl,rfl⟩ ⟨rfl,rfl⟩ ?_)
     rintro k326 a327 s324 x325 w328 cc330 hx331 ⟨O329,hB,h27,h9,h12,h15,h18,h32,h82,h83,h85,h87,h343,h341,hx1⟩ hf332 hret333 hbrk334
     have rk326:inI64 (k326:Int):=rngK hx331 l321
     refine Ah (Ae (o_mv rfl rfl ?_))
     obtain ⟨b345,o346,ce347,hA348,hl349,hd350,rfl,z352⟩:=hx1.elem' hx331
     refine o_iaE (hA:=hA348) (hj:=rfl) (hlt:=hl349) rfl rfl rfl ?_
     refine o_ld (hc:=cat0 hd350) rfl rfl ?_
     refine o_as rfl rfl (o_as rfl rfl (o_z ?_))
     refine Ah (Ah (Ae (o_fa rfl rfl (o_ld (hc:=Blk.cell (i:=3) (h27.1) rfl) rfl rfl ?_))))
     refine o_ln rfl rfl ?_
     have l354:x0.ops.length≤9223372036854775807:=Nat.le_trans h18.len.2.1 h18.len.2.2
     have r353:inI64 (x0.ops.length:Int):=rngNat l354
     refine o_mv rfl rfl (o_z ?_)
     obtain ⟨res355,hL356,hf332⟩:=bs hf332
     refine AN (aft res355 (fun (s357:(List Prt)×(List Opr)) (x358:(Option Addr×Nat)×(Option Addr×Nat))=>[(2,(.int .i64 x2)),(3,(.pointer (some ⟨g23,0,none⟩))),(6,(.pointer (some ⟨g28,0,none⟩))),(10,(.int .i64 (x0.vars.length:Int))),(11,(.pointer (some ⟨x81.1,0,none⟩))),(12,(.slice x358.1.1 s357.1.length x358.1.2)),(15,(.int .i64 (k326:Int))),(99,(.slice A21 x1.length c22)),(100,(.int .i64 (x1.length:Int))),(101,(.int .i64 (k326:Int)))]) (fun s357 x358 w'=>∃ O':Lab,Bs w A w' O'∧Lc 2 w' O' g23 26 [(.slice A10 x0.vars.length c11),(.slice A13 x0.init.length c14),(.slice A16 x0.goal.length c17),(.slice A19 x0.ops.length c20)]∧Vb w' (Fr 0 w' O') (.slice A10 x0.vars.length c11) x0.vars∧Vb w' (Fr 0 w' O') (.slice A13 x0.init.length c14) x0.init∧Vb w' (Fr 0 w' O') (.slice A16 x0.goal.length c17) x0.goal∧Vb w' (Fr 0 w' O') (.slice A19 x0.ops.length c20) x0.ops∧Lc 3 w' O' g28 26 [(.slice none 0 0),(.slice none 0 0),(.slice none 0 0),(.slice none 0 0)]∧Lc 7 w' O' x81.1 26 [(.slice x81.2.1.1 y78.1.length x81.2.1.2),(.slice x81.2.2.1.1 y78.2.1.length x81.2.2.1.2),(.slice x81.2.2.2.1 y78.2.2.length x81.2.2.2.2),(.slice x358.2.1 s357.2.length x358.2.2)]∧Rw 8 w' O' 3 (.slice x81.2.1.1 y78.1.length x81.2.1.2) y78.1∧Rw 9 w' O' 3 (.slice x81.2.2.1.1 y78.2.1.length x81.2.2.1.2) y78.2.1∧Rw 10 w' O' 62 (.slice x81.2.2.2.1 y78.2.2.length x81.2.2.2.2) y78.2.2∧NR Eff 14 w' O' 67 64 (.slice x358.2.1 s357.2.length x358.2.2) s357.2 none∧Rw 15 w' O' 74 (.slice x358.1.1 s357.1.length x358.1.2) s357.1∧Vb w' (Fr 0 w' O') (.slice A21 x1.length c22) x1)) ?_ ?_
     ·
      refine Al (BD (σ:=(List Prt)×(List Opr)) (X:=(Option Addr×Nat)×(Option Addr×Nat)) (x0.ops.length) hL356 rfl l354 (fun (s357:(List Prt)×(List Opr)) (x358:(Option Addr×Nat)×(Option Addr×Nat))=>[(2,(.int .i64 x2)),(3,(.pointer (some ⟨g23,0,none⟩))),(6,(.pointer (some ⟨g28,0,none⟩))),(10,(.int .i64 (x0.vars.length:Int))),(11,(.pointer (some ⟨x81.1,0,none⟩))),(12,(.slice x358.1.1 s357.1.length x358.1.2)),(15,(.int .i64 (k326:Int))),(16,(.string a327)),(99,(.slice A21 x1.length c22)),(100,(.int .i64 (x1.length:Int))),(101,(.int .i64 (k326:Int))),(107,(.slice A19 x0.ops.length c20))]) _ (fun s357 x358 w'=>∃ O':Lab,Bs w A w' O'∧Lc 2 w' O' g23 26 [(.slice A10 x0.vars.length c11),(.slice A13 x0.init.length c14),(.slice A16 x0.goal.length c17),(.slice A19 x0.ops.length c20)]∧Vb w' (Fr 0 w' O') (.slice A10 x0.vars.length c11) x0.vars∧Vb w' (Fr 0 w' O') (.slice A13 x0.init.length c14) x0.init∧Vb w' (Fr 0 w' O') (.slice A16 x0.goal.length c17) x0.goal∧Vb w' (Fr 0 w' O') (.slice A19 x0.ops.length c20) x0.ops∧Lc 3 w' O' g28 26 [(.slice none 0 0),(.slice none 0 0),(.slice none 0 0),(.slice none 0 0)]∧Lc 7 w' O' x81.1 26 [(.slice x81.2.1.1 y78.1.length x81.2.1.2),(.slice x81.2.2.1.1 y78.2.1.length x81.2.2.1.2),(.slice x81.2.2.2.1 y78.2.2.length x81.2.2.2.2),(.slice x358.2.1 s357.2.length x358.2.2)]∧Rw 8 w' O' 3 (.slice x81.2.1.1 y78.1.length x81.2.1.2) y78.1∧Rw 9 w' O' 3 (.slice x81.2.2.1.1 y78.2.1.length x81.2.2.1.2) y78.2.1∧Rw 10 w' O' 62 (.slice x81.2.2.2.1 y78.2.2.length x81.2.2.2.2) y78.2.2∧NR Eff 14 w' O' 67 64 (.slice x358.2.1 s357.2.length x358.2.2) s357.2 none∧Rw 15 w' O' 74 (.slice x358.1.1 s357.1.length x358.1.2) s357.1∧Vb w' (Fr 0 w' O') (.slice A21 x1.length c22) x1) _ ((x325.1.1,x325.1.2),(x325.2.1,x325.2.2)) ⟨O329,hB,h27,h9,h12,h15,h18,h32,h82,h83,h85,h87,h343,h341,hx1⟩ ⟨rfl,rfl,rfl,rfl,rfl,rfl,rfl,rfl,rfl,rfl,rfl,rfl,rfl,rfl,trivial⟩ (fun _ _=>⟨rfl,rfl⟩) (fun _ _=>⟨rfl,rfl,rfl,rfl,rfl,rfl,rfl,rfl,rfl,rfl,trivial⟩) (fun _ _ _ ⟨O',hB,h27,h9,h12,h15,h18,h32,h82,h83,h85,h87,h376,h374,hx1⟩=>⟨O',hB,h27,h9,h12,h15,h18,h32,h82,h83,h85,h87,h376,h374,hx1⟩) ⟨rfl,rfl,rfl⟩ ⟨rfl,rfl⟩ ?_)
      rintro k359 a360 s357 x358 w361 cc363 hx364 ⟨O362,hB,h27,h9,h12,h15,h18,h32,h82,h83,h85,h87,h376,h374,hx1⟩ hf365 hret366 hbrk367
      have rk359:inI64 (k359:Int):=rngK hx364 l354
      refine Ah (Ae (o_mv rfl rfl ?_))
      obtain ⟨b378,o379,ce380,hA381,hl382,hd383,v385,v386,rfl,h387,h390,r393,z394⟩:=h18.elem' hx364
      obtain ⟨A388,c389,rfl⟩:=h387.form
      obtain ⟨A391,c392,rfl⟩:=h390.form
      refine o_iaE (hA:=hA381) (hj:=rfl) (hlt:=hl382) rfl rfl rfl ?_
      refine o_la (hl:=rfl) (hc:=hd383) rfl rfl ?_
      refine BJ 16 O362 rfl fun g395 w396 O397 S398 h399=>?_
      refine o_as rfl rfl (AQ h399 rfl rfl rfl (Nat.le_of_ble_eq_true rfl) (by first|exact allOne rfl|simp [Value.cells,Value.oneCell',AM]) fun w400 S401 h399=>?_)
      replace h399:Lc 16 w400 O397 g395 67 [(.string a360.name),(.int .i64 a360.cost),(.slice A388 a360.pre.length c389),(.slice A391 a360.effs.length c392)]:=h399
      refine o_z ?_
      refine Ah (Ae (o_fa rfl rfl (o_ld (hc:=Blk.cell (i:=0) (h399.1) rfl) rfl rfl ?_)))
      refine o_mv rfl rfl (o_teS rfl rfl rfl (fun c402=>?_) fun c402=>?_)
      ·
       replace hf365:=ip hf365 c402
       refine o_z ?_
       refine Ar rfl ?_
       obtain ⟨q403,e404,hf365⟩:=bs hf365
       obtain ⟨u405,e406,hf365⟩:=bs hf365
       obtain ⟨u407,e408,hf365⟩:=bs hf365
       refine Bt [(6,[17]),(7,[14,18]),(12,[15]),(14,[7])] O397 ?_
       refine x_pre (fuel:=13) [] [(2,true),(3,true),(4,true)] (by kernel_rfl) rfl ?_
       refine h_laB (hl:=rfl) (hb:=fun w' ⟨O',hq⟩=>((h399.st hq (by decide)).1).cellsAt) rfl rfl rfl ?_
       refine h_mv rfl rfl rfl (h_mv rfl rfl rfl (AK ?_))
       refine x_pre (fuel:=11) [17] [(0,true),(1,true)] (by kernel_rfl) rfl ?_
       refine h_fa rfl rfl rfl ?_
       replace h82:=(h82.st S398).st S401
       refine h_ldC (hc:=fun w' ⟨O',hq⟩=>Blk.cell (i:=3) ((h82.st hq (by decide)).1) rfl) rfl rfl rfl ?_
       refine AK ?_
       refine x_pre (fuel:=8) [14,17,18] [(8,true),(9,true),(10,true)] (by kernel_rfl) rfl ?_
       refine h_mv rfl rfl rfl (h_mv rfl rfl rfl (h_bd rfl rfl rfl rfl ?_))
       refine AK ?_
       refine x_two (i:=5) (j:=11) (by kernel_rfl) rfl rfl ?_ ?_
       ·
        replace h387:=(h387.st S398).st S401
        replace h390:=(h390.st S398).st S401
        refine GM 17 (by decide) (O:=O397) (Fp Fr.lt (Vb.ofAgg (cs:=[(.string a360.name),(.int .i64 a360.cost),(.slice A388 a360.pre.length c389),(.slice A391 a360.effs.length c392)]) (x:=a360) rfl ⟨_,_,rfl,h387,h390,r393,z394⟩) r62 rk326 e404) rfl rfl fun A414 c415 A416 c417 w409 O410 S411 h418 r419 z420 h421=>?_
        have hZ:=S411.lst [] (fun _ h=>h.elim)
        refine x_go [(6,[17]),(7,[14,18]),(12,[15]),(14,[7])] hZ (by kernel_rfl) ?_
        refine x_two (i:=6) (j:=11) (by kernel_rfl) rfl rfl ?_ ?_
        ·
         refine Gb (β:=Eff) 18 (by decide) (j:=17) (cs:=[(.string q403.name),(.int .i64 q403.cost),(.slice A414 q403.pre.length c415),(.slice A416 q403.effs.length c417)]) (a:=q403) rfl rfl rfl rfl (by first|exact allOne rfl|simp [Value.oneCell',AM]) ⟨_,_,rfl,h418,(Vb.nil _ _),r419,z420⟩ rfl h421 (by decide) rfl (by decide) rfl fun g423 w424 O425 S426 h427=>?_
         have hZ:=S426.lst [17] (fun _ h=>by cases h;decide)
         refine x_go [(7,[14,18]),(12,[15]),(14,[7])] hZ (by kernel_rfl) ?_
         refine x_two (i:=7) (j:=11) (by kernel_rfl) rfl rfl ?_ ?_
         ·
          obtain ⟨e406,e429,e430⟩:=AU e406
          replace h376:=(((h376.st S398).st S401).st S411).st S426
          refine EL rfl h376 h427 (by decide) rfl rfl (by decide) e429 e430 rfl fun A431 c432 w433 O434 S435 h436=>?_
          rw [← e406] at h436 ⊢
          have hZ:=S435.lst [14,18] (by rintro _ (h|h)<;>cases h<;>decide)
          refine x_go [(12,[15]),(14,[7])] hZ (by kernel_rfl) ?_
          refine x_pre (fuel:=4) [15] [(13,true)] (by kernel_rfl) rfl ?_
          refine h_fa rfl rfl rfl (AK ?_)
          refine x_one (i:=11) (by kernel_rfl) rfl ?_
          refine Bf 19 (by decide) O434 (xs:=([(⟨(k359:Int)⟩:Prt)]:List Prt)) rfl rfl rfl rfl ⟨(Vb.ofAgg (cs:=[(.int .i64 (k359:Int))]) (x:=(⟨(k359:Int)⟩:Prt)) rfl ⟨rfl,rk359⟩),trivial⟩ (by decide) (by decide) rfl fun g438 w439 O440 S441 h442=>?_
          have hZ:=S441.lst [] (fun _ h=>h.elim)
          refine x_go [(12,[15]),(14,[7])] hZ (by kernel_rfl) ?_
          refine x_one (i:=12) (by kernel_rfl) rfl ?_
          obtain ⟨e408,e444,e445⟩:=AU e408
          replace h374:=(((((h374.st S398).st S401).st S411).st S426).st S435).st S441
          refine BF rfl h374 (h442.rd) rfl rfl (by decide) e444 e445 rfl fun A446 c447 w448 O449 S450 h451=>?_
          rw [← e408] at h451 ⊢
          have hZ:=S450.lst [15] (fun _ h=>by cases h;decide)
          refine x_go [(14,[7])] hZ (by kernel_rfl) ?_
          refine x_one (i:=14) (by kernel_rfl) rfl ?_
          replace h82:=((((h82.st S411).st S426).st S435).st S441).st S450
          refine AQ h82 rfl rfl rfl (Nat.le_of_ble_eq_true rfl) (by first|exact allOne rfl|simp [Value.cells,Value.oneCell',AM]) fun w453 S454 h82=>?_
          replace h82:Lc 7 w453 O449 x81.1 26 [(.slice x81.2.1.1 y78.1.length x81.2.1.2),(.slice x81.2.2.1.1 y78.2.1.length x81.2.2.1.2),(.slice x81.2.2.2.1 y78.2.2.length x81.2.2.2.2),(.slice A431 u405.length c432)]:=h82
          have hZ:=S454.lst [7] (fun _ h=>by cases h;decide)
          refine x_go [] hZ (by kernel_rfl) ?_
          refine x_pre (fuel:=0) [] [(15,true)] (by kernel_rfl) rfl ?_
          refine h_as rfl rfl rfl (AK ?_)
          refine x_nil (by kernel_rfl) ?_
          obtain rfl:=sm hf365
          refine (?_:Exists _)
          replace hB:=(((((((hB.st S398).st S401).st S411).st S426).st S435).st S441).st S450).st S454
          replace hx1:=(((((((hx1.st S398).st S401).st S411).st S426).st S435).st S441).st S450).st S454
          replace h9:=(((((((h9.st S398).st S401).st S411).st S426).st S435).st S441).st S450).st S454
          replace h12:=(((((((h12.st S398).st S401).st S411).st S426).st S435).st S441).st S450).st S454
          replace h15:=(((((((h15.st S398).st S401).st S411).st S426).st S435).st S441).st S450).st S454
          replace h18:=(((((((h18.st S398).st S401).st S411).st S426).st S435).st S441).st S450).st S454
          replace h27:=(((((((h27.st S398).st S401).st S411).st S426).st S435).st S441).st S450).st S454
          replace h32:=(((((((h32.st S398).st S401).st S411).st S426).st S435).st S441).st S450).st S454
          replace h83:=(((((((h83.st S398).st S401).st S411).st S426).st S435).st S441).st S450).st S454
          replace h85:=(((((((h85.st S398).st S401).st S411).st S426).st S435).st S441).st S450).st S454
          replace h87:=(((((((h87.st S398).st S401).st S411).st S426).st S435).st S441).st S450).st S454
          replace h436:=((h436.st S441).st S450).st S454
          replace h451:=h451.st S454
          exact ⟨_,((A446,c447),(A431,c432)),rfl,⟨rfl,rfl,rfl,rfl,rfl,rfl,rfl,rfl,rfl,rfl,rfl,rfl,rfl,rfl,trivial⟩,_,hB,h27,h9,h12,h15,h18,h32,h82,h83,h85,h87,h436,h451,hx1⟩
         ·
          refine Bf 19 (by decide) O425 (xs:=([(⟨(k359:Int)⟩:Prt)]:List Prt)) rfl rfl rfl rfl ⟨(Vb.ofAgg (cs:=[(.int .i64 (k359:Int))]) (x:=(⟨(k359:Int)⟩:Prt)) rfl ⟨rfl,rk359⟩),trivial⟩ (by decide) (by decide) rfl fun g455 w456 O457 S458 h459=>?_
          have hZ:=S458.lst [] (fun _ h=>h.elim)
          refine x_go [(7,[14,18]),(12,[15]),(14,[7])] hZ (by kernel_rfl) ?_
          refine x_one (i:=7) (by kernel_rfl) rfl ?_
          obtain ⟨e406,e461,e462⟩:=AU e406
          replace h376:=((((h376.st S398).st S401).st S411).st S426).st S458
          replace h427:=h427.st S458
          refine EL rfl h376 h427 (by decide) rfl rfl (by decide) e461 e462 rfl fun A463 c464 w465 O466 S467 h468=>?_
          rw [← e406] at h468 ⊢
          have hZ:=S467.lst [14,18] (by rintro _ (h|h)<;>cases h<;>decide)
          refine x_go [(12,[15]),(14,[7])] hZ (by kernel_rfl) ?_
          refine x_pre (fuel:=3) [15] [(13,true)] (by kernel_rfl) rfl ?_
          refine h_fa rfl rfl rfl (AK ?_)
          refine x_one (i:=12) (by kernel_rfl) rfl ?_
          obtain ⟨e408,e470,e471⟩:=AU e408
          replace h374:=(((((h374.st S398).st S401).st S411).st S426).st S458).st S467
          replace h459:=h459.st S467
          refine BF rfl h374 (h459.rd) rfl rfl (by decide) e470 e471 rfl fun A472 c473 w474 O475 S476 h477=>?_
          rw [← e408] at h477 ⊢
          have hZ:=S476.lst [15] (fun _ h=>by cases h;decide)
          refine x_go [(14,[7])] hZ (by kernel_rfl) ?_
          refine x_one (i:=14) (by kernel_rfl) rfl ?_
          replace h82:=((((h82.st S411).st S426).st S458).st S467).st S476
          refine AQ h82 rfl rfl rfl (Nat.le_of_ble_eq_true rfl) (by first|exact allOne rfl|simp [Value.cells,Value.oneCell',AM]) fun w479 S480 h82=>?_
          replace h82:Lc 7 w479 O475 x81.1 26 [(.slice x81.2.1.1 y78.1.length x81.2.1.2),(.slice x81.2.2.1.1 y78.2.1.length x81.2.2.1.2),(.slice x81.2.2.2.1 y78.2.2.length x81.2.2.2.2),(.slice A463 u405.length c464)]:=h82
          have hZ:=S480.lst [7] (fun _ h=>by cases h;decide)
          refine x_go [] hZ (by kernel_rfl) ?_
          refine x_pre (fuel:=0) [] [(15,true)] (by kernel_rfl) rfl ?_
          refine h_as rfl rfl rfl (AK ?_)
          refine x_nil (by kernel_rfl) ?_
          obtain rfl:=sm hf365
          refine (?_:Exists _)
          replace hB:=(((((((hB.st S398).st S401).st S411).st S426).st S458).st S467).st S476).st S480
          replace hx1:=(((((((hx1.st S398).st S401).st S411).st S426).st S458).st S467).st S476).st S480
          replace h9:=(((((((h9.st S398).st S401).st S411).st S426).st S458).st S467).st S476).st S480
          replace h12:=(((((((h12.st S398).st S401).st S411).st S426).st S458).st S467).st S476).st S480
          replace h15:=(((((((h15.st S398).st S401).st S411).st S426).st S458).st S467).st S476).st S480
          replace h18:=(((((((h18.st S398).st S401).st S411).st S426).st S458).st S467).st S476).st S480
          replace h27:=(((((((h27.st S398).st S401).st S411).st S426).st S458).st S467).st S476).st S480
          replace h32:=(((((((h32.st S398).st S401).st S411).st S426).st S458).st S467).st S476).st S480
          replace h83:=(((((((h83.st S398).st S401).st S411).st S426).st S458).st S467).st S476).st S480
          replace h85:=(((((((h85.st S398).st S401).st S411).st S426).st S458).st S467).st S476).st S480
          replace h87:=(((((((h87.st S398).st S401).st S411).st S426).st S458).st S467).st S476).st S480
          replace h468:=(h468.st S476).st S480
          replace h477:=h477.st S480
          exact ⟨_,((A472,c473),(A463,c464)),rfl,⟨rfl,rfl,rfl,rfl,rfl,rfl,rfl,rfl,rfl,rfl,rfl,rfl,rfl,rfl,trivial⟩,_,hB,h27,h9,h12,h15,h18,h32,h82,h83,h85,h87,h468,h477,hx1⟩
        ·
         refine Bf 19 (by decide) O410 (xs:=([(⟨(k359:Int)⟩:Prt)]:List Prt)) rfl rfl rfl rfl ⟨(Vb.ofAgg (cs:=[(.int .i64 (k359:Int))]) (x:=(⟨(k359:Int)⟩:Prt)) rfl ⟨rfl,rk359⟩),trivial⟩ (by decide) (by decide) rfl fun g481 w482 O483 S484 h485=>?_
         have hZ:=S484.lst [] (fun _ h=>h.elim)
         refine x_go [(6,[17]),(7,[14,18]),(12,[15]),(14,[7])] hZ (by kernel_rfl) ?_
         refine x_one (i:=6) (by kernel_rfl) rfl ?_
         replace h418:=h418.st S484
         replace h421:=h421.st S484
         refine Gb (β:=Eff) 18 (by decide) (j:=17) (cs:=[(.string q403.name),(.int .i64 q403.cost),(.slice A414 q403.pre.length c415),(.slice A416 q403.effs.length c417)]) (a:=q403) rfl rfl rfl rfl (by first|exact allOne rfl|simp [Value.oneCell',AM]) ⟨_,_,rfl,h418,(Vb.nil _ _),r419,z420⟩ rfl h421 (by decide) rfl (by decide) rfl fun g487 w488 O489 S490 h491=>?_
         have hZ:=S490.lst [17] (fun _ h=>by cases h;decide)
         refine x_go [(7,[14,18]),(12,[15]),(14,[7])] hZ (by kernel_rfl) ?_
         refine x_one (i:=7) (by kernel_rfl) rfl ?_
         obtain ⟨e406,e493,e494⟩:=AU e406
         replace h376:=((((h376.st S398).st S401).st S411).st S484).st S490
         refine EL rfl h376 h491 (by decide) rfl rfl (by decide) e493 e494 rfl fun A495 c496 w497 O498 S499 h500=>?_
         rw [← e406] at h500 ⊢
         have hZ:=S499.lst [14,18] (by rintro _ (h|h)<;>cases h<;>decide)
         refine x_go [(12,[15]),(14,[7])] hZ (by kernel_rfl) ?_
         refine x_pre (fuel:=3) [15] [(13,true)] (by kernel_rfl) rfl ?_
         refine h_fa rfl rfl rfl (AK ?_)
         refine x_one (i:=12) (by kernel_rfl) rfl ?_
         obtain ⟨e408,e502,e503⟩:=AU e408
         replace h374:=(((((h374.st S398).st S401).st S411).st S484).st S490).st S499
         replace h485:=(h485.st S490).st S499
         refine BF rfl h374 (h485.rd) rfl rfl (by decide) e502 e503 rfl fun A504 c505 w506 O507 S508 h509=>?_
         rw [← e408] at h509 ⊢
         have hZ:=S508.lst [15] (fun _ h=>by cases h;decide)
         refine x_go [(14,[7])] hZ (by kernel_rfl) ?_
         refine x_one (i:=14) (by kernel_rfl) rfl ?_
         replace h82:=((((h82.st S411).st S484).st S490).st S499).st S508
         refine AQ h82 rfl rfl rfl (Nat.le_of_ble_eq_true rfl) (by first|exact allOne rfl|simp [Value.cells,Value.oneCell',AM]) fun w511 S512 h82=>?_
         replace h82:Lc 7 w511 O507 x81.1 26 [(.slice x81.2.1.1 y78.1.length x81.2.1.2),(.slice x81.2.2.1.1 y78.2.1.length x81.2.2.1.2),(.slice x81.2.2.2.1 y78.2.2.length x81.2.2.2.2),(.slice A495 u405.length c496)]:=h82
         have hZ:=S512.lst [7] (fun _ h=>by cases h;decide)
         refine x_go [] hZ (by kernel_rfl) ?_
         refine x_pre (fuel:=0) [] [(15,true)] (by kernel_rfl) rfl ?_
         refine h_as rfl rfl rfl (AK ?_)
         refine x_nil (by kernel_rfl) ?_
         obtain rfl:=sm hf365
         refine (?_:Exists _)
         replace hB:=(((((((hB.st S398).st S401).st S411).st S484).st S490).st S499).st S508).st S512
         replace hx1:=(((((((hx1.st S398).st S401).st S411).st S484).st S490).st S499).st S508).st S512
         replace h9:=(((((((h9.st S398).st S401).st S411).st S484).st S490).st S499).st S508).st S512
         replace h12:=(((((((h12.st S398).st S401).st S411).st S484).st S490).st S499).st S508).st S512
         replace h15:=(((((((h15.st S398).st S401).st S411).st S484).st S490).st S499).st S508).st S512
         replace h18:=(((((((h18.st S398).st S401).st S411).st S484).st S490).st S499).st S508).st S512
         replace h27:=(((((((h27.st S398).st S401).st S411).st S484).st S490).st S499).st S508).st S512
         replace h32:=(((((((h32.st S398).st S401).st S411).st S484).st S490).st S499).st S508).st S512
         replace h83:=(((((((h83.st S398).st S401).st S411).st S484).st S490).st S499).st S508).st S512
         replace h85:=(((((((h85.st S398).st S401).st S411).st S484).st S490).st S499).st S508).st S512
         replace h87:=(((((((h87.st S398).st S401).st S411).st S484).st S490).st S499).st S508).st S512
         replace h500:=(h500.st S508).st S512
         replace h509:=h509.st S512
         exact ⟨_,((A504,c505),(A495,c496)),rfl,⟨rfl,rfl,rfl,rfl,rfl,rfl,rfl,rfl,rfl,rfl,rfl,rfl,rfl,rfl,trivial⟩,_,hB,h27,h9,h12,h15,h18,h32,h82,h83,h85,h87,h500,h509,hx1⟩
       ·
        refine Bf 19 (by decide) O397 (xs:=([(⟨(k359:Int)⟩:Prt)]:List Prt)) rfl rfl rfl rfl ⟨(Vb.ofAgg (cs:=[(.int .i64 (k359:Int))]) (x:=(⟨(k359:Int)⟩:Prt)) rfl ⟨rfl,rk359⟩),trivial⟩ (by decide) (by decide) rfl fun g513 w514 O515 S516 h517=>?_
        have hZ:=S516.lst [] (fun _ h=>h.elim)
        refine x_go [(6,[17]),(7,[14,18]),(12,[15]),(14,[7])] hZ (by kernel_rfl) ?_
        refine x_one (i:=5) (by kernel_rfl) rfl ?_
        replace h387:=((h387.st S398).st S401).st S516
        replace h390:=((h390.st S398).st S401).st S516
        refine GM 17 (by decide) (O:=O515) (Fp Fr.lt (Vb.ofAgg (cs:=[(.string a360.name),(.int .i64 a360.cost),(.slice A388 a360.pre.length c389),(.slice A391 a360.effs.length c392)]) (x:=a360) rfl ⟨_,_,rfl,h387,h390,r393,z394⟩) r62 rk326 e404) rfl rfl fun A524 c525 A526 c527 w519 O520 S521 h528 r529 z530 h531=>?_
        have hZ:=S521.lst [] (fun _ h=>h.elim)
        refine x_go [(6,[17]),(7,[14,18]),(12,[15]),(14,[7])] hZ (by kernel_rfl) ?_
        refine x_one (i:=6) (by kernel_rfl) rfl ?_
        refine Gb (β:=Eff) 18 (by decide) (j:=17) (cs:=[(.string q403.name),(.int .i64 q403.cost),(.slice A524 q403.pre.length c525),(.slice A526 q403.effs.length c527)]) (a:=q403) rfl rfl rfl rfl (by first|exact allOne rfl|simp [Value.oneCell',AM]) ⟨_,_,rfl,h528,(Vb.nil _ _),r529,z530⟩ rfl h531 (by decide) rfl (by decide) rfl fun g533 w534 O535 S536 h537=>?_
        have hZ:=S536.lst [17] (fun _ h=>by cases h;decide)
        refine x_go [(7,[14,18]),(12,[15]),(14,[7])] hZ (by kernel_rfl) ?_
        refine x_one (i:=7) (by kernel_rfl) rfl ?_
        obtain ⟨e406,e539,e540⟩:=AU e406
        replace h376:=((((h376.st S398).st S401).st S516).st S521).st S536
        refine EL rfl h376 h537 (by decide) rfl rfl (by decide) e539 e540 rfl fun A541 c542 w543 O544 S545 h546=>?_
        rw [← e406] at h546 ⊢
        have hZ:=S545.lst [14,18] (by rintro _ (h|h)<;>cases h<;>decide)
        refine x_go [(12,[15]),(14,[7])] hZ (by kernel_rfl) ?_
        refine x_pre (fuel:=3) [15] [(13,true)] (by kernel_rfl) rfl ?_
        refine h_fa rfl rfl rfl (AK ?_)
        refine x_one (i:=12) (by kernel_rfl) rfl ?_
        obtain ⟨e408,e548,e549⟩:=AU e408
        replace h374:=(((((h374.st S398).st S401).st S516).st S521).st S536).st S545
        replace h517:=((h517.st S521).st S536).st S545
        refine BF rfl h374 (h517.rd) rfl rfl (by decide) e548 e549 rfl fun A550 c551 w552 O553 S554 h555=>?_
        rw [← e408] at h555 ⊢
        have hZ:=S554.lst [15] (fun _ h=>by cases h;decide)
        refine x_go [(14,[7])] hZ (by kernel_rfl) ?_
        refine x_one (i:=14) (by kernel_rfl) rfl ?_
        replace h82:=((((h82.st S516).st S521).st S536).st S545).st S554
        refine AQ h82 rfl rfl rfl (Nat.le_of_ble_eq_true rfl) (by first|exact allOne rfl|simp [Value.cells,Value.oneCell',AM]) fun w557 S558 h82=>?_
        replace h82:Lc 7 w557 O553 x81.1 26 [(.slice x81.2.1.1 y78.1.length x81.2.1.2),(.slice x81.2.2.1.1 y78.2.1.length x81.2.2.1.2),(.slice x81.2.2.2.1 y78.2.2.length x81.2.2.2.2),(.slice A541 u405.length c542)]:=h82
        have hZ:=S558.lst [7] (fun _ h=>by cases h;decide)
        refine x_go [] hZ (by kernel_rfl) ?_
        refine x_pre (fuel:=0) [] [(15,true)] (by kernel_rfl) rfl ?_
        refine h_as rfl rfl rfl (AK ?_)
        refine x_nil (by kernel_rfl) ?_
        obtain rfl:=sm hf365
        refine (?_:Exists _)
        replace hB:=(((((((hB.st S398).st S401).st S516).st S521).st S536).st S545).st S554).st S558
        replace hx1:=(((((((hx1.st S398).st S401).st S516).st S521).st S536).st S545).st S554).st S558
        replace h9:=(((((((h9.st S398).st S401).st S516).st S521).st S536).st S545).st S554).st S558
        replace h12:=(((((((h12.st S398).st S401).st S516).st S521).st S536).st S545).st S554).st S558
        replace h15:=(((((((h15.st S398).st S401).st S516).st S521).st S536).st S545).st S554).st S558
        replace h18:=(((((((h18.st S398).st S401).st S516).st S521).st S536).st S545).st S554).st S558
        replace h27:=(((((((h27.st S398).st S401).st S516).st S521).st S536).st S545).st S554).st S558
        replace h32:=(((((((h32.st S398).st S401).st S516).st S521).st S536).st S545).st S554).st S558
        replace h83:=(((((((h83.st S398).st S401).st S516).st S521).st S536).st S545).st S554).st S558
        replace h85:=(((((((h85.st S398).st S401).st S516).st S521).st S536).st S545).st S554).st S558
        replace h87:=(((((((h87.st S398).st S401).st S516).st S521).st S536).st S545).st S554).st S558
        replace h546:=(h546.st S554).st S558
        replace h555:=h555.st S558
        exact ⟨_,((A550,c551),(A541,c542)),rfl,⟨rfl,rfl,rfl,rfl,rfl,rfl,rfl,rfl,rfl,rfl,rfl,rfl,rfl,rfl,trivial⟩,_,hB,h27,h9,h12,h15,h18,h32,h82,h83,h85,h87,h546,h555,hx1⟩
      ·
       replace hf365:=im hf365 c402
       refine o_z ?_
       refine Aj rfl (Am ?_)
       obtain rfl:=sm hf365
       refine (?_:Exists _)
       replace hB:=(hB.st S398).st S401
       replace hx1:=(hx1.st S398).st S401
       replace h9:=(h9.st S398).st S401
       replace h12:=(h12.st S398).st S401
       replace h15:=(h15.st S398).st S401
       replace h18:=(h18.st S398).st S401
       replace h27:=(h27.st S398).st S401
       replace h32:=(h32.st S398).st S401
       replace h82:=(h82.st S398).st S401
       replace h83:=(h83.st S398).st S401
       replace h85:=(h85.st S398).st S401
       replace h87:=(h87.st S398).st S401
       replace h374:=(h374.st S398).st S401
       replace h376:=(h376.st S398).st S401
       exact ⟨_,((x358.1.1,x358.1.2),(x358.2.1,x358.2.2)),rfl,⟨rfl,rfl,rfl,rfl,rfl,rfl,rfl,rfl,rfl,rfl,rfl,rfl,rfl,rfl,trivial⟩,_,hB,h27,h9,h12,h15,h18,h32,h82,h83,h85,h87,h376,h374,hx1⟩
     rintro l559 w560 ⟨s563,x564,rfl,hs562,O561,hB,h27,h9,h12,h15,h18,h32,h82,h83,h85,h87,h376,h374,hx1⟩
     replace hf332:=AY hf332
     refine AP _ hs562 ?_
     refine Ah (Bt [(7,[20]),(8,[14,21])] O561 ?_)
     refine x_pre (fuel:=7) [] [(2,true),(3,true),(4,true),(5,true)] (by kernel_rfl) rfl ?_
     refine h_mv rfl rfl rfl (h_bd rfl rfl rfl rfl ?_)
     refine h_mv rfl rfl rfl (h_mv rfl rfl rfl (AK ?_))
     refine x_pre (fuel:=5) [20] [(0,true),(1,true)] (by kernel_rfl) rfl ?_
     refine h_fa rfl rfl rfl (h_ldC (hc:=fun w' ⟨O',hq⟩=>Blk.cell (i:=3) ((h82.st hq (by decide)).1) rfl) rfl rfl rfl ?_)
     refine AK ?_
     refine x_one (i:=6) (by kernel_rfl) rfl ?_
     obtain ⟨q565,e566,hf332⟩:=bs hf332
     refine GM 20 (by decide) (O:=O561) (Fp Fr.lt (Vb.ofAgg (cs:=[(.string (⟨#[]⟩:ByteArray)),(.int .i64 x2),(.slice none 0 0),(.slice none 0 0)]) (x:=(⟨(⟨#[]⟩:ByteArray),x2,([]:List Fct),([]:List Eff)⟩:Opr)) rfl ⟨_,_,rfl,(Vb.nil _ _),(Vb.nil _ _),rx2,(show (⟨#[]⟩:ByteArray).size≤9223372036854775807 from by decide)⟩) r62 rk326 e566) rfl rfl fun A572 c573 A574 c575 w567 O568 S569 h576 r577 z578 h579=>?_
     have hZ:=S569.lst [] (fun _ h=>h.elim)
     refine x_go [(7,[20]),(8,[14,21])] hZ (by kernel_rfl) ?_
     refine x_one (i:=7) (by kernel_rfl) rfl ?_
     refine Gb (β:=Eff) 21 (by decide) (j:=20) (cs:=[(.string q565.name),(.int .i64 q565.cost),(.slice A572 q565.pre.length c573),(.slice A574 q565.effs.length c575)]) (a:=q565) rfl rfl rfl rfl (by first|exact allOne rfl|simp [Value.oneCell',AM]) ⟨_,_,rfl,h576,(Vb.nil _ _),r577,z578⟩ rfl h579 (by decide) rfl (by decide) rfl fun g581 w582 O583 S584 h585=>?_
     have hZ:=S584.lst [20] (fun _ h=>by cases h;decide)
     refine x_go [(8,[14,21])] hZ (by kernel_rfl) ?_
     refine x_one (i:=8) (by kernel_rfl) rfl ?_
     obtain ⟨u587,e588,hf332⟩:=bs hf332
     obtain ⟨e588,e589,e590⟩:=AU e588
     replace h376:=(h376.st S569).st S584
     refine EL rfl h376 h585 (by decide) rfl rfl (by decide) e589 e590 rfl fun A591 c592 w593 O594 S595 h596=>?_
     rw [← e588] at h596 ⊢
     have hZ:=S595.lst [14,21] (by rintro _ (h|h)<;>cases h<;>decide)
     refine x_go [] hZ (by kernel_rfl) ?_
     refine x_pre (fuel:=1) [] [(9,true)] (by kernel_rfl) rfl ?_
     refine h_fa rfl rfl rfl (AK ?_)
     refine x_one (i:=10) (by kernel_rfl) rfl ?_
     replace h82:=((h82.st S569).st S584).st S595
     refine AQ h82 rfl rfl rfl (Nat.le_of_ble_eq_true rfl) (by first|exact allOne rfl|simp [Value.cells,Value.oneCell',AM]) fun w598 S599 h82=>?_
     replace h82:Lc 7 w598 O594 x81.1 26 [(.slice x81.2.1.1 y78.1.length x81.2.1.2),(.slice x81.2.2.1.1 y78.2.1.length x81.2.2.1.2),(.slice x81.2.2.2.1 y78.2.2.length x81.2.2.2.2),(.slice A591 u587.length c592)]:=h82
     refine x_end (by kernel_rfl) ?_
     refine x_nil (by kernel_rfl) ?_
     refine Ah (Ae (o_mv rfl rfl (o_bd rfl rfl rfl ?_)))
     obtain ⟨u600,e601,hf332⟩:=bs hf332
     obtain ⟨e601,e602,e603⟩:=AU e601
     replace h374:=(((h374.st S569).st S584).st S595).st S599
     refine Cu rfl (a:=(⟨(-1)⟩:Prt)) h374 (Vb.ofAgg (cs:=[(.int .i64 (-1))]) (x:=(⟨(-1)⟩:Prt)) rfl ⟨rfl,(show inI64 (-1) from by decide)⟩) (fun _=>rfl) rfl (by decide) (by decide) e602 e603 ⟨rfl,rfl⟩ fun g604 A605 c606 w607 O608 S609 h610=>?_
     rw [← e601] at h610 ⊢
     refine o_as rfl rfl (o_z ?_)
     refine Ah (Ae (o_fa rfl rfl ?_))
     replace h82:=h82.st S609
     refine o_ld (hc:=Blk.cell (i:=3) (h82.1) rfl) rfl rfl ?_
     refine o_ln rfl rfl ?_
     replace h596:=(h596.st S599).st S609
     have l613:u587.length≤9223372036854775807:=Nat.le_trans h596.len.2.1 h596.len.2.2
     have r612:inI64 (u587.length:Int):=rngNat l613
     refine o_gtS rfl rfl rfl (fun c614=>?_) fun c614=>?_
     ·
      replace hf332:=ip hf332 c614
      refine o_z ?_
      refine Ar rfl (At ?_)
      obtain rfl:=sm hf332
      refine (?_:Exists _)
      replace hB:=((((hB.st S569).st S584).st S595).st S599).st S609
      replace h32:=((((h32.st S569).st S584).st S595).st S599).st S609
      replace h83:=((((h83.st S569).st S584).st S595).st S599).st S609
      replace h85:=((((h85.st S569).st S584).st S595).st S599).st S609
      replace h87:=((((h87.st S569).st S584).st S595).st S599).st S609
      exact ⟨_,((A605,c606),(A591,c592)),hbrk334 _ rfl,⟨rfl,rfl,rfl,trivial⟩,_,hB,h32,h82,h83,h85,h87,h596,h610⟩
     ·
      replace hf332:=im hf332 c614
      refine o_z ?_
      refine Aj rfl (Am ?_)
      obtain rfl:=sm hf332
      refine (?_:Exists _)
      replace hB:=((((hB.st S569).st S584).st S595).st S599).st S609
      replace hx1:=((((hx1.st S569).st S584).st S595).st S599).st S609
      replace h9:=((((h9.st S569).st S584).st S595).st S599).st S609
      replace h12:=((((h12.st S569).st S584).st S595).st S599).st S609
      replace h15:=((((h15.st S569).st S584).st S595).st S599).st S609
      replace h18:=((((h18.st S569).st S584).st S595).st S599).st S609
      replace h27:=((((h27.st S569).st S584).st S595).st S599).st S609
      replace h32:=((((h32.st S569).st S584).st S595).st S599).st S609
      replace h83:=((((h83.st S569).st S584).st S595).st S599).st S609
      replace h85:=((((h85.st S569).st S584).st S595).st S599).st S609
      replace h87:=((((h87.st S569).st S584).st S595).st S599).st S609
      exact ⟨_,((A605,c606),(A591,c592)),rfl,⟨rfl,rfl,rfl,rfl,rfl,rfl,rfl,rfl,rfl,trivial⟩,_,hB,h27,h9,h12,h15,h18,h32,h82,h83,h85,h87,h596,h610,hx1⟩
    rintro l615 w616 ⟨s619,x620,rfl,hs618,O617,hB,h32,h82,h83,h85,h87,h343,h341⟩
    replace hm:=AY hm
    refine AP _ hs618 ?_
    refine Ah (Ah (Ae (o_fa rfl rfl (o_ld (hc:=Blk.cell (i:=3) (h82.1) rfl) rfl rfl ?_))))
    refine o_ln rfl rfl ?_
    have l622:s619.2.length≤9223372036854775807:=Nat.le_trans h343.len.2.1 h343.len.2.2
    have r621:inI64 (s619.2.length:Int):=rngNat l622
    refine o_mv rfl rfl (o_z ?_)
    obtain ⟨res623,hL624,hm⟩:=bs hm
    refine AN (aft res623 (fun (s625:(List Opr)) (x626:Unit)=>[(6,(.pointer (some ⟨g28,0,none⟩))),(11,(.pointer (some ⟨x81.1,0,none⟩))),(12,(.slice x620.1.1 s619.1.length x620.1.2))]) (fun s625 x626 w'=>∃ O':Lab,Bs w A w' O'∧Lc 3 w' O' g28 26 [(.slice none 0 0),(.slice none 0 0),(.slice none 0 0),(.slice none 0 0)]∧Lc 7 w' O' x81.1 26 [(.slice x81.2.1.1 y78.1.length x81.2.1.2),(.slice x81.2.2.1.1 y78.2.1.length x81.2.2.1.2),(.slice x81.2.2.2.1 y78.2.2.length x81.2.2.2.2),(.slice x620.2.1 s619.2.length x620.2.2)]∧Rw 8 w' O' 3 (.slice x81.2.1.1 y78.1.length x81.2.1.2) y78.1∧Rw 9 w' O' 3 (.slice x81.2.2.1.1 y78.2.1.length x81.2.2.1.2) y78.2.1∧Rw 10 w' O' 62 (.slice x81.2.2.2.1 y78.2.2.length x81.2.2.2.2) y78.2.2∧NR Eff 14 w' O' 67 64 (.slice x620.2.1 s619.2.length x620.2.2) s625 none∧Rw 15 w' O' 74 (.slice x620.1.1 s619.1.length x620.1.2) s619.1)) ?_ ?_
    ·
     refine Al (GI (σ:=(List Opr)) (X:=Unit) (s619.2.length) hL624 l622 (fun (s625:(List Opr)) (x626:Unit)=>[(6,(.pointer (some ⟨g28,0,none⟩))),(11,(.pointer (some ⟨x81.1,0,none⟩))),(12,(.slice x620.1.1 s619.1.length x620.1.2))]) _ (fun s625 x626 w'=>∃ O':Lab,Bs w A w' O'∧Lc 3 w' O' g28 26 [(.slice none 0 0),(.slice none 0 0),(.slice none 0 0),(.slice none 0 0)]∧Lc 7 w' O' x81.1 26 [(.slice x81.2.1.1 y78.1.length x81.2.1.2),(.slice x81.2.2.1.1 y78.2.1.length x81.2.2.1.2),(.slice x81.2.2.2.1 y78.2.2.length x81.2.2.2.2),(.slice x620.2.1 s619.2.length x620.2.2)]∧Rw 8 w' O' 3 (.slice x81.2.1.1 y78.1.length x81.2.1.2) y78.1∧Rw 9 w' O' 3 (.slice x81.2.2.1.1 y78.2.1.length x81.2.2.1.2) y78.2.1∧Rw 10 w' O' 62 (.slice x81.2.2.2.1 y78.2.2.length x81.2.2.2.2) y78.2.2∧NR Eff 14 w' O' 67 64 (.slice x620.2.1 s619.2.length x620.2.2) s625 none∧Rw 15 w' O' 74 (.slice x620.1.1 s619.1.length x620.1.2) s619.1) _ () ⟨O617,hB,h32,h82,h83,h85,h87,h343,h341⟩ ⟨rfl,rfl,rfl,rfl,rfl,trivial⟩ (fun _ _=>⟨rfl,rfl⟩) (fun _ _=>⟨rfl,rfl,rfl,trivial⟩) (fun _ _ _ ⟨O',hB,h32,h82,h83,h85,h87,h644,h341⟩=>⟨O',hB,h32,h82,h83,h85,h87,h644,h341⟩) ⟨rfl,rfl,rfl⟩ ⟨rfl,rfl⟩ ?_)
     rintro k627 s625 x626 w629 cc631 hx632 ⟨O630,hB,h32,h82,h83,h85,h87,h644,h341⟩ hf633 hret634 hbrk635
     have rk627:inI64 (k627:Int):=rngKN hx632 l622
     refine Ah (Ae (o_mv rfl rfl (o_as rfl rfl (o_z ?_))))
     refine Bt [(9,[14,25])] O630 ?_
     refine x_pre (fuel:=7) [] [(3,true),(4,true),(5,true),(6,true),(7,true),(8,true)] (by kernel_rfl) rfl ?_
     refine h_fa rfl rfl rfl (h_ldC (hc:=fun w' ⟨O',hq⟩=>Blk.cell (i:=3) ((h82.st hq (by decide)).1) rfl) rfl rfl rfl ?_)
     refine h_mv rfl rfl rfl ?_
     obtain ⟨a646,e647,hf633⟩:=bs hf633
     obtain ⟨b648,o649,hA651,hl652⟩:=h644.at e647
     refine h_iaE (hA:=hA651) (hj:=rfl) (hlt:=hl652) rfl rfl rfl rfl ?_
     refine h_fa rfl rfl rfl ?_
     obtain ⟨A655,c656,hc657,h658⟩:=NR.peek h644 hA651 e647
     replace h658:Vb w629 (FrS [14] w629 O630) (.slice A655 a646.effs.length c656) a646.effs:=h658
     refine h_ldC (hc:=fun w' ⟨O',hq⟩=>NR.stay h644 hA651 hq (by decide) hc657) rfl rfl rfl ?_
     refine AK ?_
     refine x_pre (fuel:=4) [14,25] [(0,true),(1,true),(2,true)] (by kernel_rfl) rfl ?_
     refine h_fa rfl rfl rfl (h_ldC (hc:=fun w' ⟨O',hq⟩=>Blk.cell (i:=3) ((h82.st hq (by decide)).1) rfl) rfl rfl rfl ?_)
     refine h_mv rfl rfl rfl (AK ?_)
     refine x_one (i:=9) (by kernel_rfl) rfl ?_
     obtain ⟨O659,S660,h644,h661⟩:=NR.take' h644 hA651 e647 hc657 25 (by decide) (by decide)
     replace h661:Rw 25 w629 O659 64 (.slice A655 a646.effs.length c656) a646.effs:=h661
     have hZ:=S660.lst [14] (fun _ h=>by cases h;decide)
     obtain ⟨q663,e664,hf633⟩:=bs hf633
     refine BZ (O:=O659) (Ho h661 e664) rfl rfl fun v669 w665 O666 S667 h668=>?_
     obtain ⟨h670,rfl⟩:=h668
     replace hZ:=hZ.cmp S667 [14,25] (fun _ h=>by cases h;decide) rfl
     refine x_go [] hZ (by kernel_rfl) ?_
     refine x_pre (fuel:=1) [] [(10,true),(11,true)] (by kernel_rfl) rfl ?_
     obtain ⟨a671,e672,hf633⟩:=bs hf633
     replace h644:=h644.st S667
     obtain ⟨b673,o674,hA676,hl677⟩:=h644.at e672
     refine h_iaE (hA:=hA676) (hj:=rfl) (hlt:=hl677) rfl rfl rfl rfl ?_
     refine h_fa rfl rfl rfl (AK ?_)
     refine x_one (i:=12) (by kernel_rfl) rfl ?_
     refine OU (a:=a671) (off:=3) h644 h670 (by decide) hA676 e672 rfl rfl rfl rfl (by decide) fun w680 O681 S682 h683=>?_
     replace h683:NR Eff 14 w680 O681 67 64 (.slice x620.2.1 s619.2.length x620.2.2) (s625.set k627 ({ a671 with effs:=q663 }:Opr)) none:=h683
     refine x_end (by kernel_rfl) ?_
     refine x_nil (by kernel_rfl) ?_
     obtain rfl:=sm hf633
     refine (?_:Exists _)
     replace hB:=((hB.st S660).st S667).st S682
     replace h32:=((h32.st S660).st S667).st S682
     replace h82:=((h82.st S660).st S667).st S682
     replace h83:=((h83.st S660).st S667).st S682
     replace h85:=((h85.st S660).st S667).st S682
     replace h87:=((h87.st S660).st S667).st S682
     replace h341:=((h341.st S660).st S667).st S682
     exact ⟨_,(),rfl,⟨rfl,rfl,rfl,rfl,rfl,trivial⟩,_,hB,h32,h82,h83,h85,h87,h683,h341⟩
    rintro l684 w685 ⟨s688,x689,rfl,hs687,O686,hB,h32,h82,h83,h85,h87,h644,h341⟩
    replace hm:=AY hm
    refine AP _ hs687 ?_
    refine Ah (Ah (Ae (o_la (hl:=rfl) (hc:=(h82.1).cellsAt) rfl rfl ?_)))
    obtain ⟨O690,S691,h83⟩:=h83.freeze
    replace h85:=h85.st S691
    obtain ⟨O692,S693,h85⟩:=h85.freeze
    replace h87:=(h87.st S691).st S693
    obtain ⟨O694,S695,h87⟩:=h87.freeze
    replace h644:=((h644.st S691).st S693).st S695
    obtain ⟨O696,S697,h644⟩:=h644.freeze
    obtain ⟨q698,e699,hm⟩:=bs hm
    replace h83:=((h83.st S693).st S695).st S697
    replace h85:=(h85.st S695).st S697
    replace h87:=h87.st S697
    refine BP (O:=O696) (A:=All w685) (R:=fun w' F v=>Vb w' F v q698) (HD (fun _ h=>h) (Vb.mono (F:=Fr 0 w685 O696) (Vb.ofAgg (cs:=[(.slice x81.2.1.1 y78.1.length x81.2.1.2),(.slice x81.2.2.1.1 y78.2.1.length x81.2.2.1.2),(.slice x81.2.2.2.1 y78.2.2.length x81.2.2.2.2),(.slice x620.2.1 s619.2.length x620.2.2)]) (x:=(⟨y78.1,y78.2.1,y78.2.2,s688⟩:Tsk)) rfl ⟨_,_,_,_,rfl,h83,h85,h87,h644⟩) Fr.lt) e699) rfl rfl fun v704 w700 O701 S702 h703=>?_
    obtain ⟨rfl,r705⟩:=h703.err
    refine o_as rfl rfl (o_z ?_)
    refine Ah (Ae (o_mv rfl rfl (o_rnS rfl rfl (fun c706=>?_) fun c706=>?_)))
    ·
     replace hm:=ip hm c706
     refine o_z ?_
     refine Ar rfl (Ah (Ae (o_bd rfl rfl rfl ?_)))
     refine o_mv rfl rfl ?_
     replace h32:=((((h32.st S691).st S693).st S695).st S697).st S702
     refine AQ h32 rfl rfl rfl (Nat.le_of_ble_eq_true rfl) (by first|exact allOne rfl|simp [Value.cells,Value.oneCell',AM]) fun w707 S708 h32=>?_
     replace h32:Lc 3 w707 O701 g28 26 [(.slice none 0 0),(.slice none 0 0),(.slice none 0 0),(.slice none 0 0)]:=h32
     refine o_as rfl rfl (o_as rfl rfl (o_z ?_))
     refine Au ?_
     obtain rfl:=sm hm
     replace hB:=(((((hB.st S691).st S693).st S695).st S697).st S702).st S708
     exact ret3 rfl (BK (cs:=[(.slice none 0 0),(.slice none 0 0),(.slice none 0 0),(.slice none 0 0)]) rfl rfl h32.1.cellsAt) (AG rfl) (AG rfl) ⟨hB.ext,_,_,_,rfl,(Vb.mono (F:=Fr 0 w707 O701) (Vb.ofAgg (cs:=[(.slice none 0 0),(.slice none 0 0),(.slice none 0 0),(.slice none 0 0)]) (x:=(⟨([]:List Int),([]:List Int),([]:List Fct),([]:List Opr)⟩:Tsk)) rfl ⟨_,_,_,_,rfl,(Vb.nil _ _),(Vb.nil _ _),(Vb.nil _ _),(Vb.nil _ _)⟩) hB.out),(Vb.mono (F:=Fr 0 w707 O701) (Vb.nil _ _) hB.out),(vErr r705)⟩
    ·
     replace hm:=im hm c706
     refine o_z ?_
     refine Aj rfl (Am (Ah (Ae ?_)))
     replace h82:=((((h82.st S691).st S693).st S695).st S697).st S702
     refine o_la (hl:=rfl) (hc:=(h82.1).cellsAt) rfl rfl ?_
     refine o_mv rfl rfl ?_
     replace h32:=((((h32.st S691).st S693).st S695).st S697).st S702
     refine AQ h32 rfl rfl rfl (Nat.le_of_ble_eq_true rfl) (by first|exact allOne rfl|simp [Value.cells,Value.oneCell',AM]) fun w709 S710 h32=>?_
     replace h32:Lc 3 w709 O701 g28 26 [(.slice x81.2.1.1 y78.1.length x81.2.1.2),(.slice x81.2.2.1.1 y78.2.1.length x81.2.2.1.2),(.slice x81.2.2.2.1 y78.2.2.length x81.2.2.2.2),(.slice x620.2.1 s619.2.length x620.2.2)]:=h32
     refine o_as rfl rfl (o_as rfl rfl (o_z ?_))
     refine Au ?_
     replace h341:=(((((h341.st S691).st S693).st S695).st S697).st S702).st S710
     obtain ⟨O711,S712,h341⟩:=h341.freeze
     obtain rfl:=sm hm
     replace hB:=((((((hB.st S691).st S693).st S695).st S697).st S702).st S710).st S712
     replace h32:=h32.st S712
     replace h83:=((h83.st S702).st S710).st S712
     replace h85:=((h85.st S702).st S710).st S712
     replace h87:=((h87.st S702).st S710).st S712
     replace h644:=((h644.st S702).st S710).st S712
     exact ret3 rfl (BK (cs:=[(.slice x81.2.1.1 y78.1.length x81.2.1.2),(.slice x81.2.2.1.1 y78.2.1.length x81.2.2.1.2),(.slice x81.2.2.2.1 y78.2.2.length x81.2.2.2.2),(.slice x620.2.1 s619.2.length x620.2.2)]) rfl rfl h32.1.cellsAt) (AG rfl) (AG rfl) ⟨hB.ext,_,_,_,rfl,(Vb.mono (F:=Fr 0 w709 O711) (Vb.ofAgg (cs:=[(.slice x81.2.1.1 y78.1.length x81.2.1.2),(.slice x81.2.2.1.1 y78.2.1.length x81.2.2.1.2),(.slice x81.2.2.2.1 y78.2.2.length x81.2.2.2.2),(.slice x620.2.1 s619.2.length x620.2.2)]) (x:=(⟨y78.1,y78.2.1,y78.2.2,s688⟩:Tsk)) rfl ⟨_,_,_,_,rfl,h83,h85,h87,h644⟩) hB.out),(Vb.mono (F:=Fr 0 w709 O711) h341 hB.out),(vErr (show inI64 0 from by decide))⟩
end
section
open Go Go.RowKit
class TCon (P:Program) (t:TypeId):Prop where eq:∃ d,P.underlying t=some d∧(match d with|.interface _=>false|_=>true)=true
instance {P:Program} {t e:TypeId} [h:TPtr P t e]:TCon P t:=⟨⟨_,h.eq,rfl⟩⟩
instance {P:Program} {t:TypeId} [h:TAgg P t]:TCon P t:=⟨by obtain ⟨d,h1,h2⟩:=h.eq;exact ⟨d,h1,by cases d<;>first|rfl|cases h2⟩⟩
class TMth (P:Program) (t:TypeId) (name:String) (f:outParam FuncId) (b:outParam Bool):Prop where
  eq:((P.info? t).bind fun i=>i.methods.find? (·.name == name)).map (fun m=>(m.path.toList,m.func))=some ([],some (f,b))
def Mth (P:Program) (t:TypeId) (v:Value) (name:String) (w:World) (f:FuncId) (r:Value):Prop:=∀ d,(method (P.types.size + Made.depth) t v name).run P (dr w d)=.ok (f,r) (dr w d)
section
variable {P : Program} {t e : TypeId} {name : String} {f : FuncId} {w : World}
theorem TMth.row {b:Bool} (h:TMth P t name f b):∃ i m,P.info? t=some i∧i.methods.find? (·.name == name)=some m∧m.path.toList=[]∧m.func=some (f,b):=by
  obtain ⟨m,h1,h2⟩:=Option.map_eq_some_iff.1 h.eq
  obtain ⟨i,h3,h4⟩:=Option.bind_eq_some_iff.1 h1
  injection h2 with h5 h6
  exact ⟨i,m,h3,h4,h5,h6⟩
theorem LK {v:Value} [hm:TMth P t name f true] [hp:TPtr P t e]:Mth P t v name w f v:=fun d=>by
  obtain ⟨i,m,h1,h2,h3,h4⟩:=hm.row
  show (method ((P.types.size + 99) + 1) t v name).run P (dr w d)=_
  rw [method]
  simp [typeInfo,h1,h2,h3,h4,follow,receiverAt,run_underlying hp.eq,Place.get]
theorem Ll (ts:Array TypeId) (a:Addr) (x y:String):(Builtin.ssaWrapNilChk_ ts t #[.pointer (some a),strVal x,strVal y]).run P w=.ok (.pointer (some a)) w:=rfl
theorem EF {ad:Addr} {u:Value} [hm:TMth P t name f false] [hp:TPtr P t e] [TOne P e] (hc:w.cell? ad=some u):Mth P t (.pointer (some ad)) name w f u:=fun d=>by
  obtain ⟨i,m,h1,h2,h3,h4⟩:=hm.row
  have h5:m.path=#[]:=by cases hm':m.path;rw [hm'] at h3;simp at h3;rw [h3]
  have hl:(load ad).run P (dr w d)=.ok u (dr w d):=by simp [load,Sem.run,Js,hc]
  show (method ((P.types.size + 99) + 1) t _ name).run P (dr w d)=_
  rw [method]
  simp [typeInfo,h1,h2,h4,h5,follow,receiverAt,run_underlying hp.eq,Place.get,Ll,asAddr,loadVar,Hu,Js,hc]
end
section
variable {P : Program} {n : Nat} {ops : Array Oper} {Q : Post} {rest : List Oper} {l : Env} {w : World} {d : Tmp} {ty : TypeId} {pos : String} {aft : Array Edge}
theorem LL {f:FuncId} [hf:Callable P f] {y:Operand} {name:String} {t:TypeId} {v r:Value} {xs:List Operand} {vs:List Value} {ts:Array TypeId} {R:Value→World→Prop} (hm:Mth P t v name w f r) (hy:opv l y=some (.iface t v)) (hx:opvs l xs=some vs) (hd:Nat.blt d n=true) (hc:Fn P f (r :: vs) w R)
    (h:∀ v w',R v w'→owp P n ops Q rest ((d,v) :: l) w'):owp P n ops Q (⟨some d,.call { callee:=.invoke y name,args:=xs.toArray,argTypes:=ts },ty,pos,aft,none⟩ :: rest) l w :=
  Gu fun a e ha K hK=>by
    obtain ⟨fn,h1,h2,h3⟩:=hf.eq
    have h2':¬ fn.body=none:=fun e=>by rw [e] at h2;simp at h2
    have h3' : ¬ fn.name = "runtime.NumGoroutine" := fun e => by rw [e] at h3; simp at h3
    unfold Oper.wp
    have:(execOp a.eval ⟨some d,.call { callee:=.invoke y name,args:=xs.toArray,argTypes:=ts },ty,pos,aft,none⟩).run P (dr w e)=.ok (.enter f (r :: vs).toArray) (dr w e):=by
      simp [execOp,resolve,ha.eval hy,invoke,callMethod,hm e,callFunc,h1,h2',h3',ha.evals hx]
    rw [this]
    exact (hc e).mono fun _ _ ⟨v,w₀,d',he,hw,hR⟩=>by subst he;subst hw;exact hK _ _ (h v w₀ hR _ _ (ha.put hd v))
theorem HE {T:Nat→Prop} {f:FuncId} [Callable P f] {y:Operand} {name:String} {t:TypeId} {v r:Value} {xs:List Operand} {vs:List Value} {ts:Array TypeId} {O:Lab} {R:Value→World→Lab→Prop}
    (hc:Fn P f (r :: vs) w fun v w'=>∃ O',St T w O w' O'∧R v w' O') (hm:Mth P t v name w f r) (hy:opv l y=some (.iface t v)) (hx:opvs l xs=some vs) (hd:Nat.blt d n=true)
    (h:∀ v w' O',St T w O w' O'→R v w' O'→owp P n ops Q rest ((d,v) :: l) w'):owp P n ops Q (⟨some d,.call { callee:=.invoke y name,args:=xs.toArray,argTypes:=ts },ty,pos,aft,none⟩ :: rest) l w :=
  LL hm hy hx hd hc fun v w' ⟨O',hS,hR⟩=>h v w' O' hS hR
theorem HF {f:FuncId} [Callable P f] {y:Operand} {name:String} {t:TypeId} {v r:Value} {xs:List Operand} {vs:List Value} {ts:Array TypeId} {O:Lab} {A:Nat→Prop} {R:World→(Nat→Prop)→Value→Prop} (hc:Fn P f (r :: vs) w fun v w'=>Ext w w'∧R w' (upA A w w') v) (hm:Mth P t v name w f r) (hy:opv l y=some (.iface t v)) (hx:opvs l xs=some vs) (hd:Nat.blt d n=true)
    (h:∀ v w' O',St nT w O w' O'→R w' (upA A w w') v→owp P n ops Q rest ((d,v) :: l) w'):owp P n ops Q (⟨some d,.call { callee:=.invoke y name,args:=xs.toArray,argTypes:=ts },ty,pos,aft,none⟩ :: rest) l w :=
  LL hm hy hx hd hc fun v w' ⟨hE,hR⟩=>h v w' (upO O w.heap.size fun _=>0) (hE.st O _) hR
end
def quoT (a b:Int):Option Int:=if 0 < b then some (if 0≤a then a / b else -((-a) / b)) else none
theorem LM {a b r:Int} (h:quoT a b=some r) (ha:inI64 a):inI64 r:=by
  unfold quoT at h
  split at h
  · rename_i hb
    rw [← sm h]
    unfold inI64 at *
    split
    · rename_i h0
      have:=Int.ediv_le_self b h0
      have:=Int.ediv_nonneg h0 (show 0≤b by omega)
      omega
    · have h0:0≤-a:=by omega
      have:=Int.ediv_le_self b h0
      have:=Int.ediv_nonneg h0 (show 0≤b by omega)
      omega
  · cases h
theorem OW {P:Program} {l:Env} {w:World} {dst:Option Tmp} {ty:TypeId} {pos:String} {aft:Array Edge} {t u:TypeId} {x y:Operand} {a b c:Int} (hx:opv l x=some (.int .i64 a)) (hy:opv l y=some (.int .i64 b)) (he:quoT a b=some c) (hr:inI64 a):Ev P ⟨dst,.binOp .quo t x y u,ty,pos,aft,none⟩ l w (.int .i64 c):=fun _ _ d ha=>by
  have hc:=LM he hr
  unfold quoT at he
  split at he
  · rename_i hb
    have hn:b≠0:=by omega
    have h1:a.tdiv b=c:=by
      rw [← sm he]
      split
      · rename_i h0;exact Int.tdiv_eq_ediv_of_nonneg h0
      · rw [← Int.tdiv_eq_ediv_of_nonneg (show 0≤-a by omega),Int.neg_tdiv,Int.neg_neg]
    simp [execOp,ha.eval hx,ha.eval hy,eqGuard,binOp,Op.intDiv,hn,h1,wrap_i64 hc.1 hc.2]
  · cases he
structure An (t:TypeId) (α:Type) where
  x:α
instance {t:TypeId} {α:Type} [Rp α]:Rp (An t α) where
  isAgg:=false
  size:=1
  R w F cs a:=∃ v,cs=[.iface t v]∧Vb w F v a.x
  len:=by rintro w F cs x ⟨v,rfl,_⟩;rfl
  one:=by
    rintro w F cs x ⟨v,rfl,_⟩ u hu
    have:u=.iface t v:=by simpa using hu
    subst this;rfl
  agree:=by rintro w w' F cs x ⟨v,rfl,h⟩ ha;exact ⟨v,rfl,h.agree ha⟩
  mono:=by rintro w F G cs x ⟨v,rfl,h⟩ ha;exact ⟨v,rfl,h.mono ha⟩
theorem Vb.any {w:World} {F:Nat→Prop} {v:Value} {t:TypeId} {α:Type} [Rp α] {x:An t α} (h:Vb w F v x):∃ u,v=.iface t u∧Vb w F u x.x:=by
  obtain ⟨u,hu,h'⟩:=h
  exact ⟨u,by simpa using hu,h'⟩
theorem vAny {w:World} {F:Nat→Prop} {v:Value} {t:TypeId} {α:Type} [Rp α] {x:α} (h:Vb w F v x):Vb w F (.iface t v) (⟨x⟩:An t α):=⟨v,rfl,h⟩
section
variable {P : Program} {l : Env} {w : World} {dst : Option Tmp} {ty : TypeId} {pos : String} {aft : Array Edge}
theorem OX {t:TypeId} [hk:TCon P t] {x:Operand} {v:Value} (hx:opv l x=some v):Ev P ⟨dst,.makeInterface t x,ty,pos,aft,none⟩ l w (.iface t v):=fun _ a d ha=>by
  obtain ⟨q,h1,h2⟩:=hk.eq
  cases q<;>first|(cases h2;done)|simp [execOp,ha.eval hx,Instr.makeInterface,run_underlying h1]
theorem OY {s t:TypeId} [hk:TCon P t] {x:Operand} {v:Value} (hx:opv l x=some (.iface t v)):Ev P ⟨dst,.typeAssert x s t true,ty,pos,aft,none⟩ l w (.tuple #[v,.bool true]):=fun _ a d ha=>by
  obtain ⟨q,h1,h2⟩:=hk.eq
  cases q<;>first|(cases h2;done)|simp [execOp,ha.eval hx,Instr.typeAssert,run_underlying h1]
end
section
variable {P : Program} {n : Nat} {ops : Array Oper} {Q : Post} {S : World → Prop} {rest : List Oper} {r : List (Nat × Bool)} {l : Env} {w : World} {d i : Nat} {ty : TypeId} {pos : String} {aft : Array Edge}
theorem o_qtE {t u:TypeId} {x y:Operand} {a b c:Int} (hx:opv l x=some (.int .i64 a)) (hy:opv l y=some (.int .i64 b)) (hd:Nat.blt d n=true) (h:owp P n ops Q rest ((d,.int .i64 c) :: l) w) (he:quoT a b=some c:=by assumption) (hr:inI64 a:=by assumption):owp P n ops Q (⟨some d,.binOp .quo t x y u,ty,pos,aft,none⟩ :: rest) l w:=AT (OW hx hy he hr) hd h
theorem o_miA {t:TypeId} [TCon P t] {x:Operand} {v:Value} (hx:opv l x=some v) (hd:Nat.blt d n=true) (h:owp P n ops Q rest ((d,.iface t v) :: l) w):owp P n ops Q (⟨some d,.makeInterface t x,ty,pos,aft,none⟩ :: rest) l w:=AT (OX hx) hd h
theorem o_taA {s t:TypeId} [TCon P t] {x:Operand} {v:Value} (hx:opv l x=some (.iface t v)) (hd:Nat.blt d n=true) (h:owp P n ops Q rest ((d,.tuple #[v,.bool true]) :: l) w):owp P n ops Q (⟨some d,.typeAssert x s t true,ty,pos,aft,none⟩ :: rest) l w:=AT (OY hx) hd h
end
end
section
open Go Go.RowKit
attribute [local irreducible] ewp owp hwp hwq hws Ev Evg Fn retPost loud loudS Res1
attribute [local irreducible] hwx loudX
def BE (xs:List U64):Option (List U64):=if xs.length * 8≤140737488355328∧xs.length≤9223372036854775807 then some xs else none
theorem EU {w:World} {A:Nat→Prop} (hA:∀ k,A k→k < w.heap.size) {v0:Value} {x0:List U64} (h0:Vb w A v0 x0) {r:List U64} (hm:BE x0=some r) :
    Fn Tryz.prog 90 [v0] w fun v w'=>Ext w w'∧RowR w w' (upA A w w') 167 v r:=by
  obtain ⟨⟨hl,hl2⟩,rfl⟩:=DV hm
  obtain ⟨O,hB,hA0⟩:=enter hA
  replace h0:=h0.mono hA0
  obtain ⟨Ad,c,rfl⟩:=h0.form
  refine AL Tryz.func90 rfl Tryz.ntmps90 rfl ?_
  cases Ad with
  | none =>
    have hx:x0=[]:=by
      cases x0 with
      | nil=>rfl
      | cons x xs=>obtain ⟨_,_,_,h,_⟩:=h0.elem (k:=0) (x:=x) rfl;cases h
    subst hx
    ((repeat (first|refine Ah ?_|refine Al ?_|refine Ae ?_|refine Am ?_|refine At ?_|refine Au ?_|refine Ar rfl ?_|refine Aj rfl ?_))<;>(refine o_as rfl rfl ?_<;>(first|refine Ay ?_|refine Az ?_|refine Aw ?_|refine AB ?_))<;>(repeat (first|refine Ah ?_|refine Al ?_|refine Ae ?_|refine Am ?_|refine At ?_|refine Au ?_|refine Ar rfl ?_|refine Aj rfl ?_))<;>(refine o_mv rfl rfl ?_<;>refine o_sn rfl rfl ?_<;>(first|refine Ay ?_|refine Az ?_|refine Aw ?_|refine AB ?_))<;>(repeat (first|refine Ah ?_|refine Al ?_|refine Ae ?_|refine Am ?_|refine At ?_|refine Au ?_|refine Ar rfl ?_|refine Aj rfl ?_))<;>(refine o_as rfl rfl ?_<;>(first|refine Ay ?_|refine Az ?_|refine Aw ?_|refine AB ?_))<;>(repeat (first|refine Ah ?_|refine Al ?_|refine Ae ?_|refine Am ?_|refine At ?_|refine Au ?_|refine Ar rfl ?_|refine Aj rfl ?_)))
    exact ret1 rfl rfl ⟨Below.refl _ _,RowR.nil⟩
  | some ad =>
    ((repeat (first|refine Ah ?_|refine Al ?_|refine Ae ?_|refine Am ?_|refine At ?_|refine Au ?_|refine Ar rfl ?_|refine Aj rfl ?_))<;>(refine o_as rfl rfl ?_<;>(first|refine Ay ?_|refine Az ?_|refine Aw ?_|refine AB ?_))<;>(repeat (first|refine Ah ?_|refine Al ?_|refine Ae ?_|refine Am ?_|refine At ?_|refine Au ?_|refine Ar rfl ?_|refine Aj rfl ?_))<;>(refine o_mv rfl rfl ?_<;>refine o_sn rfl rfl ?_<;>(first|refine Ay ?_|refine Az ?_|refine Aw ?_|refine AB ?_))<;>(repeat (first|refine Ah ?_|refine Al ?_|refine Ae ?_|refine Am ?_|refine At ?_|refine Au ?_|refine Ar rfl ?_|refine Aj rfl ?_)))
    refine Bf 2 (by decide) O (xs:=([]:List U64)) rfl rfl rfl rfl trivial (by decide) (by decide) rfl fun g w1 O1 S1 h1=>?_
    replace hB:=hB.st S1 (fun h=>h) (fun h=>h)
    replace h0:=h0.st S1 (fun h=>h)
    (refine o_mv rfl rfl ?_)
    refine BF rfl h1 h0.rd rfl rfl (by decide) (by simpa using hl) (by simpa using hl2) rfl fun A2 c2 w2 O2 S2 h2=>?_
    replace hB:=hB.st S2 (by decide) (by decide)
    rw [List.nil_append] at h2 ⊢
    (refine o_as rfl rfl ?_<;>(first|refine Ay ?_|refine Az ?_|refine Aw ?_|refine AB ?_))
    repeat (first|refine Ah ?_|refine Al ?_|refine Ae ?_|refine Am ?_|refine At ?_|refine Au ?_|refine Ar rfl ?_|refine Aj rfl ?_)
    exact ret1 rfl rfl ⟨hB.ext,h2.out hB (by decide)⟩
structure PFd where
  word:Int
  bit:Int
  width:Int
  size:Int
instance:Rp PFd where
  isAgg:=true
  size:=4
  R w F cs x:=cs=[.int .i64 x.word,.int .i64 x.bit,.int .i64 x.width,.int .i64 x.size]∧inI64 x.word∧inI64 x.bit∧inI64 x.width∧inI64 x.size
  len:=by rintro w F cs x ⟨rfl,h0,h1,h2,h3⟩;rfl
  one:=by rintro w F cs x ⟨rfl,h0,h1,h2,h3⟩ u hu;simp at hu;rcases hu with rfl|rfl|rfl|rfl<;>first|rfl|exact Vb.one rfl (by assumption)
  agree:=by rintro w w' F cs x ⟨rfl,h0,h1,h2,h3⟩ ha;exact ⟨rfl,h0,h1,h2,h3⟩
  mono:=by rintro w F G cs x ⟨rfl,h0,h1,h2,h3⟩ ha;exact ⟨rfl,h0,h1,h2,h3⟩
structure Pkr where
  fields:List PFd
  words:Int
instance:Ow Pkr where
  R w F M v x:=∃ (g:Nat) (L:Lab) (c0:Value),v=.pointer (some ⟨g,0,none⟩)∧Blk w g 165 [c0,.int .i64 x.words]∧M g∧L g=0∧RwM w F (fun k=>M k∧L k=1) 169 c0 x.fields∧inI64 x.words
  agree:=by rintro w w' F M v x ⟨g,L,c0,rfl,hb,hM,hL,h0,h1⟩ a1 a2;exact ⟨g,L,c0,rfl,hb.keep (a2 g hM),hM,hL,h0.agree a1 fun k hk=>a2 k hk.1,h1⟩
  mono:=by rintro w F M F' M' v x ⟨g,L,c0,rfl,hb,hM,hL,h0,h1⟩ a1 a2 a3;exact ⟨g,L,c0,rfl,hb,a2 g hM,hL,h0.mono a1 (fun k hk=>⟨a2 k hk.1,hk.2⟩) fun k hf hm=>a3 k hf hm.1,h1⟩
instance:OwP Pkr:=⟨by rintro w F M v x ⟨g,L,c0,rfl,_⟩;exact ⟨g,rfl⟩⟩
theorem Pkr.opn {i:Nat} {w:World} {O:Lab} {p:Nat} {x:Pkr} (h:Ob i w O (.pointer (some ⟨p,0,none⟩)) x) (l0 l1:Nat) (hl:l0≠0∧l1≠0):∃ (O':Lab) (c0:Value),St (eT i) w O w O'∧(∀ k,Fr i w O k→∃ q,q∈[l0,l1]∧Fr q w O' k)∧Lc l0 w O' p 165 [c0,.int .i64 x.words]∧Rw l1 w O' 169 c0 x.fields∧inI64 x.words:=by
  obtain ⟨⟨g,L,c0,hv,hb,hM,hL,h0,h1⟩,hi⟩:=h
  obtain rfl:p=g:=by injection hv with hv;injection hv with hv;injection hv
  exact ⟨part O i L [l0,l1],c0,Id hi,GJ (by simp),⟨hb,(DO (j:=0) rfl p ⟨hM,hL⟩).2⟩,h0.rw (CZ hi) (DO (j:=1) rfl) hl.2,h1⟩
theorem Pkr.shut {w:World} {O:Lab} {p:Nat} {x:Pkr} {l0 l1:Nat} {c0:Value} (hd:¬ 0∈[l0,l1]∧[l0,l1].idxOf l0=0∧[l0,l1].idxOf l1=1) (hb:Lc l0 w O p 165 [c0,.int .i64 x.words]) (h0:Rw l1 w O 169 c0 x.fields) (h1:inI64 x.words):∃ O',St (·∈[l0,l1]) w O w O'∧(∀ k,Fr 0 w O k→Fr 0 w O' k)∧(∀ q,q∈[l0,l1]→∀ k,Fr q w O k→Fr l0 w O' k)∧Ob l0 w O' (.pointer (some ⟨p,0,none⟩)) x:=by
  have hb1:l0≠0:=fun e=>hd.1 (by simp [e])
  have hg:=Do (i:=l0) hd.2.1 (by simp) p ⟨hb.1.lt,hb.2⟩
  exact ⟨whole O l0 [l0,l1],GK,Cj hd.1,FZ,⟨p,fun k=>[l0,l1].idxOf (O k),c0,rfl,hb.1,hg.1,hg.2,h0.m (Cj hd.1) (Do hd.2.2 (by simp)) (fun k a b=>frNe0 hb1 k a b.1),h1⟩,hb1⟩
noncomputable def DD (x0:List Int):Option ((Option Pkr)×Err) :=
  if 64 < (x0.length:Int) then (some (none,(⟨5⟩:Err))) else (bnd (rng (ρ:=(Option Pkr)×Err) (fun (k25:Nat) (a26:Int) (s23:Int×Pkr)=>bnd (if a26 < 1 then (some true) else (if 64 < a26 then (some true) else (some false)):Option Bool) fun y48=>if y48=true then (some (.ret (none,(⟨1⟩:Err)))) else (bnd (lop (ρ:=Ctl (Int×Pkr) ((Option Pkr)×Err)) (fun (s61:Int)=>bnd (shlI 1 s61) fun n76=>if n76 < a26 then (bnd (chkI (s61 + 1)) fun n80=>some (.next n80)) else (some (.brk s61))) 0) fun res59=>fin res59 fun (s87:Int)=>bnd (bnd (chkI (s23.1 + s87)) fun n95=>if 64 < n95 then (bnd (chkI (s23.2.words + 1)) fun n109=>some (0,(⟨s23.2.fields,n109⟩:Pkr))) else (some (s23.1,s23.2)):Option (Int×Pkr)) fun y89=>bnd (chkI (y89.2.words - 1)) fun n133=>bnd (appI 32 y89.2.fields [(⟨n133,y89.1,s87,a26⟩:PFd)]) fun u142=>bnd (chkI (y89.1 + s87)) fun n155=>some (.next (n155,(⟨u142,y89.2.words⟩:Pkr))))) x0 0 (0,(⟨([]:List PFd),1⟩:Pkr))) fun res21=>fin res21 fun (s167:Int×Pkr)=>some ((some s167.2),(⟨0⟩:Err)))
theorem Me {w:World} {O:Lab} {vx0:Value} {x0:List Int} (hx0:Vb w (Fr 0 w O) vx0 x0) (j0:Nat) (hj0:j0≠0) {r:(Option Pkr)×Err} (hm:DD x0=some r) :
    Fn Tryz.prog 89 [vx0] w fun v w'=>∃ O',St nT w O w' O'∧∃ v0 v1:Value,v=.tuple #[v0,v1]∧Obo j0 w' O' v0 r.1∧Vb w' (Fr 0 w' O') v1 r.2:=by
 obtain ⟨O0,hE,hz0⟩:=ent0 (w:=w) (O:=O)
 have hB:Bm w O0 w O0:=Bm.refl
 replace hx0:=hx0.mono hz0
 obtain ⟨A2,c3,rfl⟩:=hx0.form
 refine AL Tryz.func89 rfl Tryz.ntmps89 rfl ?_
 unfold DD at hm
 refine Ah (Ae (o_as rfl rfl (o_as rfl rfl (o_z ?_))))
 refine Ah (Ah (Ae (o_mv rfl rfl (o_ln rfl rfl ?_))))
 have l5:x0.length≤9223372036854775807:=Nat.le_trans hx0.len.2.1 hx0.len.2.2
 have r4:inI64 (x0.length:Int):=rngNat l5
 refine o_gtS rfl rfl rfl (fun c6=>?_) fun c6=>?_
 ·
  replace hm:=ip hm c6
  refine o_z ?_
  refine Ar rfl (Ah (Ae (o_miE rfl rfl ?_)))
  refine o_as rfl rfl (o_as rfl rfl (o_z ?_))
  refine Au ?_
  obtain rfl:=sm hm
  obtain ⟨O',hS',hz,hl⟩:=hE.leave (fun _=>0) rfl hB
  exact ret2 rfl (AG rfl) (AG rfl) ⟨O',hS',_,_,rfl,rfl,(vErr (by decide))⟩
 ·
  replace hm:=im hm c6
  refine o_z ?_
  refine Aj rfl (Am (Ah (Ae (o_bd rfl rfl rfl ?_))))
  refine l_box 2 O0 rfl rfl fun g7 w8 O9 S10 h11=>?_
  replace h11:Lc 2 w8 O9 g7 165 [(.slice none 0 0),(.int .i64 1)]:=h11
  refine o_as rfl rfl (o_z ?_)
  refine Ah (Ae (o_as rfl rfl (o_z ?_)))
  refine Ah (Ah (Ae (o_mv rfl rfl (o_ln rfl rfl ?_))))
  replace hx0:=hx0.st S10
  have l13:x0.length≤9223372036854775807:=Nat.le_trans hx0.len.2.1 hx0.len.2.2
  have r12:inI64 (x0.length:Int):=rngNat l13
  refine o_mv rfl rfl (o_z ?_)
  have h14:Rw 3 w8 O9 169 (.slice none 0 0) ([]:List PFd):=Rw.nil 3 (by decide)
  obtain ⟨O16,S17,hz19,ha20,h18⟩:=Pkr.shut (x:=(⟨([]:List PFd),1⟩:Pkr)) (l0:=2) (l1:=3) (by decide) h11 h14 (show inI64 (1) from by decide)
  obtain ⟨res21,hL22,hm⟩:=bs hm
  refine AN (aft res21 (fun (s23:Int×Pkr) (x24:Unit)=>[(4,(.pointer (some ⟨g7,0,none⟩)))]) (fun s23 x24 w'=>∃ O':Lab,Bm w O0 w' O'∧Ob 2 w' O' (.pointer (some ⟨g7,0,none⟩)) s23.2∧inI64 s23.1)) ?_ ?_
  ·
   refine Al ?_
   replace hB:=(hB.st S10).st S17
   replace hx0:=hx0.st S17
   refine BD (σ:=Int×Pkr) (X:=Unit) (x0.length) hL22 rfl l13 (fun (s23:Int×Pkr) (x24:Unit)=>[(4,(.pointer (some ⟨g7,0,none⟩))),(5,(.int .i64 s23.1)),(15,(.slice A2 x0.length c3))]) _ (fun s23 x24 w'=>∃ O':Lab,Bm w O0 w' O'∧Ob 2 w' O' (.pointer (some ⟨g7,0,none⟩)) s23.2∧Vb w' (Fr 0 w' O') (.slice A2 x0.length c3) x0∧inI64 s23.1) _ () ⟨O16,hB,h18,hx0,(show inI64 (0) from by decide)⟩ ⟨rfl,rfl,rfl,rfl,rfl,trivial⟩ (fun _ _=>⟨rfl,rfl⟩) (fun _ _=>⟨rfl,trivial⟩) (fun _ _ _ ⟨O',hB,h39,hx0,r38⟩=>⟨O',hB,h39,r38⟩) ⟨rfl,rfl,rfl⟩ ⟨rfl,rfl⟩ ?_
   rintro k25 a26 s23 x24 w27 cc29 hx30 ⟨O28,hB,h39,hx0,r38⟩ hf31 hret32 hbrk33
   have rk25:inI64 (k25:Int):=rngK hx30 l13
   refine Ah (Ae ?_)
   obtain ⟨b40,o41,ce42,hA43,hl44,hd45,rfl,r47⟩:=hx0.elem' hx30
   refine o_iaE (hA:=hA43) (hj:=rfl) (hlt:=hl44) rfl rfl rfl ?_
   refine o_ld (hc:=cat0 hd45) rfl rfl ?_
   refine o_as rfl rfl (o_z ?_)
   refine Ah (Ah ?_)
   obtain ⟨y48,hy49,hf31⟩:=bs hf31
   refine AN (fun l' w'=>∃ (x51:Unit) (O':Lab),subs l' [(4,(.pointer (some ⟨g7,0,none⟩))),(5,(.int .i64 s23.1)),(7,(.int .i64 a26)),(15,(.slice A2 x0.length c3)),(16,(.int .i64 (x0.length:Int))),(17,(.int .i64 (k25:Int))),(26,(.bool y48))]∧Bm w O0 w' O'∧Ob 2 w' O' (.pointer (some ⟨g7,0,none⟩)) s23.2∧Vb w' (Fr 0 w' O') (.slice A2 x0.length c3) x0) ?_ ?_
   ·
    refine Ae (o_mv rfl rfl (o_ltS rfl rfl rfl (fun c52=>?_) fun c52=>?_))
    ·
     replace hy49:=ip hy49 c52
     refine o_mv rfl rfl (AC rfl rfl rfl rfl (AC rfl rfl rfl rfl (o_pt rfl rfl rfl (o_z ?_))))
     obtain rfl:=sm hy49
     exact ⟨(),_,⟨rfl,rfl,rfl,rfl,rfl,rfl,rfl,trivial⟩,hB,h39,hx0⟩
    ·
     replace hy49:=im hy49 c52
     refine o_mv rfl rfl (AE rfl rfl (o_mv rfl rfl (AE rfl rfl (o_gtS rfl rfl rfl (fun c53=>?_) fun c53=>?_))))
     ·
      replace hy49:=ip hy49 c53
      refine o_pf rfl rfl rfl (o_z ?_)
      obtain rfl:=sm hy49
      exact ⟨(),_,⟨rfl,rfl,rfl,rfl,rfl,rfl,rfl,trivial⟩,hB,h39,hx0⟩
     ·
      replace hy49:=im hy49 c53
      refine o_pf rfl rfl rfl (o_z ?_)
      obtain rfl:=sm hy49
      exact ⟨(),_,⟨rfl,rfl,rfl,rfl,rfl,rfl,rfl,trivial⟩,hB,h39,hx0⟩
   rintro l54 w55 ⟨x51,O56,hs57,hB,h39,hx0⟩
   refine AP _ hs57 ?_
   refine Cm rfl (fun c58=>?_) (fun c58=>?_)
   ·
    replace hf31:=ip hf31 c58
    refine Ah (Ae (o_miE rfl rfl ?_))
    refine o_as rfl rfl (o_as rfl rfl (o_z ?_))
    refine Au ?_
    obtain rfl:=sm hf31
    obtain rfl:=hret32 _ rfl
    obtain rfl:=sm (Cv hm)
    obtain ⟨O',hS',hz,hl⟩:=hE.leave (fun _=>0) rfl hB
    exact ret2 rfl (AG rfl) (AG rfl) ⟨O',hS',_,_,rfl,rfl,(vErr (by decide))⟩
   ·
    replace hf31:=im' hf31 c58
    refine Am (Ah (Ae (o_as rfl rfl (o_z ?_))))
    refine Ah ?_
    obtain ⟨res59,hL60,hf31⟩:=bs hf31
    refine AN (aft res59 (fun (s61:Int) (x62:Unit)=>[(4,(.pointer (some ⟨g7,0,none⟩))),(5,(.int .i64 s23.1)),(7,(.int .i64 a26)),(8,(.int .i64 s61)),(15,(.slice A2 x0.length c3)),(16,(.int .i64 (x0.length:Int))),(17,(.int .i64 (k25:Int)))]) (fun s61 x62 w'=>∃ O':Lab,Bm w O0 w' O'∧Ob 2 w' O' (.pointer (some ⟨g7,0,none⟩)) s23.2∧Vb w' (Fr 0 w' O') (.slice A2 x0.length c3) x0∧inI64 s61)) ?_ ?_
    ·
     refine Al (EX (σ:=Int) (X:=Unit) hL60 (fun (s61:Int) (x62:Unit)=>[(4,(.pointer (some ⟨g7,0,none⟩))),(5,(.int .i64 s23.1)),(7,(.int .i64 a26)),(8,(.int .i64 s61)),(15,(.slice A2 x0.length c3)),(16,(.int .i64 (x0.length:Int))),(17,(.int .i64 (k25:Int)))]) _ (fun s61 x62 w'=>∃ O':Lab,Bm w O0 w' O'∧Ob 2 w' O' (.pointer (some ⟨g7,0,none⟩)) s23.2∧Vb w' (Fr 0 w' O') (.slice A2 x0.length c3) x0∧inI64 s61) _ () ⟨O56,hB,h39,hx0,(show inI64 (0) from by decide)⟩ ⟨rfl,rfl,rfl,rfl,rfl,rfl,rfl,trivial⟩ ?_)
     rintro s61 x62 w65 cc67 ⟨O66,hB,h39,hx0,r75⟩ hf69 hret70 hbrk71
     refine Ah (Ah (Ae (o_mv rfl rfl ?_)))
     obtain ⟨n76,e77,hf69⟩:=bs hf69
     have r78:=No e77
     refine o_ish (he:=e77) rfl rfl rfl ?_
     refine o_mv rfl rfl (o_ltS rfl rfl rfl (fun c79=>?_) fun c79=>?_)
     ·
      replace hf69:=ip hf69 c79
      refine o_z ?_
      refine Ar rfl (Am (Al (Ae (o_mv rfl rfl ?_))))
      obtain ⟨n80,e81,hf69⟩:=bs hf69
      have r82:=(AW e81)
      refine o_adE (he:=e81) rfl rfl rfl ?_
      refine o_as rfl rfl (o_z ?_)
      obtain rfl:=sm hf69
      refine (?_:Exists _)
      exact ⟨_,(),rfl,⟨rfl,rfl,rfl,rfl,rfl,rfl,rfl,trivial⟩,_,hB,h39,hx0,r82⟩
     ·
      replace hf69:=im hf69 c79
      refine o_z ?_
      refine Aj rfl (At ?_)
      obtain rfl:=sm hf69
      refine (?_:Exists _)
      exact ⟨_,(),hbrk71 _ rfl,⟨rfl,rfl,rfl,rfl,rfl,rfl,rfl,trivial⟩,_,hB,h39,hx0,r75⟩
    rintro l83 w84 ⟨s87,x88,rfl,hs86,O85,hB,h39,hx0,r75⟩
    replace hf31:=AY hf31
    refine AP _ hs86 ?_
    refine Ah ?_
    obtain ⟨y89,hy90,hf31⟩:=bs hf31
    refine AN (fun l' w'=>∃ (x92:Unit) (O':Lab),subs l' [(4,(.pointer (some ⟨g7,0,none⟩))),(5,(.int .i64 y89.1)),(7,(.int .i64 a26)),(8,(.int .i64 s87)),(15,(.slice A2 x0.length c3)),(16,(.int .i64 (x0.length:Int))),(17,(.int .i64 (k25:Int)))]∧Bm w O0 w' O'∧Ob 2 w' O' (.pointer (some ⟨g7,0,none⟩)) y89.2∧Vb w' (Fr 0 w' O') (.slice A2 x0.length c3) x0∧inI64 y89.1) ?_ ?_
    ·
     refine Ah (Ae (o_mv rfl rfl (o_mv rfl rfl ?_)))
     obtain ⟨n95,e96,hy90⟩:=bs hy90
     have r97:=(AW e96)
     refine o_adE (he:=e96) rfl rfl rfl ?_
     refine o_gtS rfl rfl rfl (fun c98=>?_) fun c98=>?_
     ·
      replace hy90:=ip hy90 c98
      refine o_z ?_
      refine Ar rfl (Ah (Ae (o_mv rfl rfl (o_nc rfl rfl ?_))))
      obtain ⟨O99,v103,S100,ha102,h101,h104,r108⟩:=Pkr.opn h39 2 4 (by decide)
      obtain ⟨A105,c106,rfl⟩:=h104.form
      refine o_fa rfl rfl (o_ld (hc:=Blk.cell (i:=1) (h101.1) rfl) rfl rfl ?_)
      obtain ⟨n109,e110,hy90⟩:=bs hy90
      have r111:=(AW e110)
      refine o_adE (he:=e110) rfl rfl rfl ?_
      refine o_nc rfl rfl (o_fa rfl rfl (AQ h101 rfl rfl rfl (Nat.le_of_ble_eq_true rfl) (by first|exact allOne rfl|simp [Value.cells,Value.oneCell',AM]) fun w112 S113 h101=>?_))
      replace h101:Lc 2 w112 O99 g7 165 [(.slice A105 s23.2.fields.length c106),(.int .i64 n109)]:=h101
      refine o_z ?_
      refine Ae (o_as rfl rfl (o_z ?_))
      replace h104:=h104.st S113
      obtain ⟨O114,S115,hz117,ha118,h116⟩:=Pkr.shut (x:=(⟨s23.2.fields,n109⟩:Pkr)) (l0:=2) (l1:=4) (by decide) h101 h104 r111
      obtain rfl:=sm hy90
      replace hB:=((hB.st S100).st S113).st S115
      replace hx0:=((hx0.st S100).st S113).st S115
      exact ⟨(),_,⟨rfl,rfl,rfl,rfl,rfl,rfl,rfl,trivial⟩,hB,h116,hx0,(show inI64 (0) from by decide)⟩
     ·
      replace hy90:=im hy90 c98
      refine o_z ?_
      refine Aj rfl (Am ?_)
      obtain rfl:=sm hy90
      exact ⟨(),_,⟨rfl,rfl,rfl,rfl,rfl,rfl,rfl,trivial⟩,hB,h39,hx0,r38⟩
    rintro l119 w120 ⟨x92,O121,hs122,hB,h94,hx0,r93⟩
    refine AP _ hs122 ?_
    refine Ah ?_
    obtain ⟨O123,v127,S124,ha126,h125,h128,r132⟩:=Pkr.opn h94 2 4 (by decide)
    obtain ⟨A129,c130,rfl⟩:=h128.form
    refine Bt [(15,[4])] O123 ?_
    refine x_pre (fuel:=6) [] [(1,true),(2,true),(3,true),(4,true),(5,true),(6,true),(7,true),(8,true),(9,true),(10,true),(11,true),(12,true),(13,true)] (by kernel_rfl) rfl ?_
    refine h_mv rfl rfl rfl (h_nc rfl rfl rfl (h_fa rfl rfl rfl (h_ldC (hc:=fun w' ⟨O',hq⟩=>Blk.cell (i:=0) ((h125.st hq (by decide)).1) rfl) rfl rfl rfl ?_)))
    refine h_mv rfl rfl rfl (h_nc rfl rfl rfl (h_fa rfl rfl rfl (h_ldC (hc:=fun w' ⟨O',hq⟩=>Blk.cell (i:=1) ((h125.st hq (by decide)).1) rfl) rfl rfl rfl ?_)))
    obtain ⟨n133,e134,hf31⟩:=bs hf31
    have r135:=(AW e134)
    refine h_sbE (he:=e134) rfl rfl rfl rfl ?_
    refine h_mv rfl rfl rfl (h_mv rfl rfl rfl (h_mv rfl rfl rfl (h_bd rfl rfl rfl rfl ?_)))
    refine AK ?_
    refine x_pre (fuel:=5) [4] [(0,true)] (by kernel_rfl) rfl ?_
    refine h_mv rfl rfl rfl (AK ?_)
    refine x_one (i:=14) (by kernel_rfl) rfl ?_
    refine Bf 5 (by decide) O123 (xs:=([(⟨n133,y89.1,s87,a26⟩:PFd)]:List PFd)) rfl rfl rfl rfl ⟨(Vb.ofAgg (cs:=[(.int .i64 n133),(.int .i64 y89.1),(.int .i64 s87),(.int .i64 a26)]) (x:=(⟨n133,y89.1,s87,a26⟩:PFd)) rfl ⟨rfl,r135,r93,r75,r47⟩),trivial⟩ (by decide) (by decide) rfl fun g136 w137 O138 S139 h140=>?_
    have hZ:=S139.lst [] (fun _ h=>h.elim)
    refine x_go [(15,[4])] hZ (by kernel_rfl) ?_
    refine x_one (i:=15) (by kernel_rfl) rfl ?_
    obtain ⟨u142,e143,hf31⟩:=bs hf31
    obtain ⟨e143,e144,e145⟩:=AU e143
    replace h128:=h128.st S139
    refine BF rfl h128 (h140.rd) rfl rfl (by decide) e144 e145 rfl fun A146 c147 w148 O149 S150 h151=>?_
    rw [← e143] at h151 ⊢
    have hZ:=S150.lst [4] (fun _ h=>by cases h;decide)
    refine x_go [] hZ (by kernel_rfl) ?_
    refine x_pre (fuel:=1) [] [(16,true),(17,true)] (by kernel_rfl) rfl ?_
    refine h_nc rfl rfl rfl (h_fa rfl rfl rfl (AK ?_))
    refine x_one (i:=18) (by kernel_rfl) rfl ?_
    replace h125:=(h125.st S139).st S150
    refine AQ h125 rfl rfl rfl (Nat.le_of_ble_eq_true rfl) (by first|exact allOne rfl|simp [Value.cells,Value.oneCell',AM]) fun w153 S154 h125=>?_
    replace h125:Lc 2 w153 O149 g7 165 [(.slice A146 u142.length c147),(.int .i64 y89.2.words)]:=h125
    refine x_end (by kernel_rfl) ?_
    refine x_nil (by kernel_rfl) ?_
    refine Ae (o_mv rfl rfl (o_mv rfl rfl ?_))
    obtain ⟨n155,e156,hf31⟩:=bs hf31
    have r157:=(AW e156)
    refine o_adE (he:=e156) rfl rfl rfl ?_
    refine o_as rfl rfl (o_z ?_)
    replace h151:=h151.st S154
    obtain ⟨O158,S159,hz161,ha162,h160⟩:=Pkr.shut (x:=(⟨u142,y89.2.words⟩:Pkr)) (l0:=2) (l1:=4) (by decide) h125 h151 r132
    obtain rfl:=sm hf31
    refine (?_:Exists _)
    replace hB:=((((hB.st S124).st S139).st S150).st S154).st S159
    replace hx0:=((((hx0.st S124).st S139).st S150).st S154).st S159
    exact ⟨_,(),rfl,⟨rfl,rfl,rfl,rfl,rfl,trivial⟩,_,hB,h160,hx0,r157⟩
  replace hB:=(hB.st S10).st S17
  rintro l163 w164 ⟨s167,x168,rfl,hs166,O165,hB,h39,r38⟩
  replace hm:=AY hm
  refine AP _ hs166 ?_
  refine Ah (Ae (o_mv rfl rfl (o_as rfl rfl (o_as rfl rfl (o_z ?_)))))
  refine Au ?_
  obtain rfl:=sm hm
  obtain ⟨O',hS',hz,hl⟩:=hE.leave (fun q=>if q=2 then j0 else 0) rfl hB
  exact ret2 rfl (AG rfl) (AG rfl) ⟨O',hS',_,_,rfl,(Ob.leave h39 hz (hl 2 (by decide) (by decide)) hj0),(vErr (show inI64 0 from by decide))⟩
noncomputable def Cf (x0:PFd):Option U64 :=
  bnd (shlU (1:U64) x0.width) fun n12=>bnd (shlU (n12 - (1:U64)) x0.bit) fun n14=>some n14
theorem Fu {w:World} {A:Nat→Prop} (hA:∀ k,A k→k < w.heap.size) {vx0:Value} {x0:PFd} (hx0:Vb w A vx0 x0) {r:U64} (hm:Cf x0=some r) :
    Fn Tryz.prog 92 [vx0] w fun v w'=>Ext w w'∧Vb w' (upA A w w') v r:=by
 obtain ⟨O,hB,hA0⟩:=enter hA
 replace hx0:=hx0.mono hA0
 obtain ⟨cs2,rfl,rfl,r3,r4,r5,r6⟩:=hx0
 refine AL Tryz.func92 rfl Tryz.ntmps92 rfl ?_
 unfold Cf at hm
 refine Ah (Ae (l_box 2 O rfl rfl fun g7 w8 O9 S10 h11=>?_))
 replace h11:Lc 2 w8 O9 g7 169 [(.int .i64 x0.word),(.int .i64 x0.bit),(.int .i64 x0.width),(.int .i64 x0.size)]:=h11
 refine o_as rfl rfl (o_z ?_)
 refine Ah (BV (·=w8) [(0,true),(1,true),(2,true),(3,true),(4,true),(5,true),(6,true),(7,true)] (by kernel_rfl) rfl (by kernel_rfl) rfl ?_)
 refine h_fa rfl rfl rfl (h_ldA (hc:=Blk.cell (i:=2) (h11.1) rfl) rfl rfl rfl ?_)
 obtain ⟨n12,e13,hm⟩:=bs hm
 refine h_ush (a:=(1:U64)) (he:=e13) rfl rfl rfl rfl ?_
 refine h_usb (a:=n12) (b:=(1:U64)) rfl rfl rfl rfl ?_
 refine h_fa rfl rfl rfl (h_ldA (hc:=Blk.cell (i:=1) (h11.1) rfl) rfl rfl rfl ?_)
 obtain ⟨n14,e15,hm⟩:=bs hm
 refine h_ush (a:=(n12 - (1:U64))) (he:=e15) rfl rfl rfl rfl ?_
 refine h_as rfl rfl rfl (h_z ?_)
 refine Au ?_
 obtain rfl:=sm hm
 replace hB:=hB.st S10
 exact ret1v rfl (AG rfl) ⟨hB.ext,vU64⟩
noncomputable def Ct (x0:PFd) (x1:List U64):Option Int :=
  bnd (atI x1 x0.word) fun a15=>bnd (Cf x0) fun q26=>bnd (shrU (a15 &&& q26) x0.bit) fun n33=>some n33.toInt
theorem IG {w:World} {A:Nat→Prop} (hA:∀ k,A k→k < w.heap.size) {vx0:Value} {x0:PFd} (hx0:Vb w A vx0 x0) {vx1:Value} {x1:List U64} (hx1:Vb w A vx1 x1) {r:Int} (hm:Ct x0 x1=some r) :
    Fn Tryz.prog 91 [vx0,vx1] w fun v w'=>Ext w w'∧Vb w' (upA A w w') v r:=by
 obtain ⟨O,hB,hA0⟩:=enter hA
 replace hx0:=hx0.mono hA0
 obtain ⟨cs3,rfl,rfl,r4,r5,r6,r7⟩:=hx0
 replace hx1:=hx1.mono hA0
 obtain ⟨A8,c9,rfl⟩:=hx1.form
 refine AL Tryz.func91 rfl Tryz.ntmps91 rfl ?_
 unfold Ct at hm
 refine Ah (Ae (l_box 2 O rfl rfl fun g10 w11 O12 S13 h14=>?_))
 replace h14:Lc 2 w11 O12 g10 169 [(.int .i64 x0.word),(.int .i64 x0.bit),(.int .i64 x0.width),(.int .i64 x0.size)]:=h14
 refine o_as rfl rfl (o_z ?_)
 refine Ah (Bt [] O12 ?_)
 refine x_pre (fuel:=5) [] [(0,true),(1,true),(2,true),(3,true),(4,true),(5,true),(8,true),(9,true)] (by kernel_rfl) rfl ?_
 refine h_mv rfl rfl rfl (h_fa rfl rfl rfl (h_ldC (hc:=fun w' ⟨O',hq⟩=>Blk.cell (i:=0) ((h14.st hq (by decide)).1) rfl) rfl rfl rfl ?_))
 obtain ⟨a15,e16,hm⟩:=bs hm
 obtain ⟨p18,x17⟩:=AO e16
 replace hx1:=hx1.st S13
 obtain ⟨b19,o20,ce21,hA22,hF25,hl23,hd24,rfl⟩:=hx1.elem x17
 refine h_iaE (hA:=hA22) (hj:=(Int.toNat_of_nonneg p18).symm) (hlt:=hl23) rfl rfl rfl rfl ?_
 refine h_ldC (hc:=fun w' ⟨O',hq⟩=>cat0 (Bd (hq.agree (i:=0) (by decide)) hF25 hd24)) rfl rfl rfl ?_
 refine h_laB (hl:=rfl) (hb:=fun w' ⟨O',hq⟩=>((h14.st hq (by decide)).1).cellsAt) rfl rfl rfl ?_
 refine h_fa rfl rfl rfl (h_ldC (hc:=fun w' ⟨O',hq⟩=>Blk.cell (i:=1) ((h14.st hq (by decide)).1) rfl) rfl rfl rfl ?_)
 refine AK ?_
 refine x_one (i:=6) (by kernel_rfl) rfl ?_
 obtain ⟨q26,e27,hm⟩:=bs hm
 refine BP (O:=O12) (A:=All w11) (R:=fun w' F v=>Vb w' F v q26) (Fu (fun _ h=>h) (Vb.mono (F:=Fr 0 w11 O12) (Vb.ofAgg (cs:=[(.int .i64 x0.word),(.int .i64 x0.bit),(.int .i64 x0.width),(.int .i64 x0.size)]) (x:=x0) rfl ⟨rfl,r4,r5,r6,r7⟩) Fr.lt) e27) rfl rfl fun v32 w28 O29 S30 h31=>?_
 obtain rfl:=h31.u64
 have hZ:=S30.lst [] (fun _ h=>h.elim)
 refine x_go [] hZ (by kernel_rfl) ?_
 refine x_pre (fuel:=0) [] [(7,true),(10,true),(11,true),(12,true)] (by kernel_rfl) rfl ?_
 refine h_uan (a:=a15) (b:=q26) rfl rfl rfl rfl ?_
 obtain ⟨n33,e34,hm⟩:=bs hm
 refine h_usr (a:=(a15 &&& q26)) (he:=e34) rfl rfl rfl rfl ?_
 refine h_cvI (a:=n33) rfl rfl rfl ?_
 refine h_as rfl rfl rfl (AK ?_)
 refine x_nil (by kernel_rfl) ?_
 refine Au ?_
 obtain rfl:=sm hm
 replace hB:=(hB.st S13).st S30
 exact ret1v rfl (AG rfl) ⟨hB.ext,(vInt (toIntR _))⟩
noncomputable def Bx (x0:Pkr) (x1:List Int):Option ((List U64)×Err) :=
  if (x1.length:Int)≠(x0.fields.length:Int) then (some (([]:List U64),(⟨2⟩:Err))) else (bnd (mkI 8 ((0:U64):U64) x0.words) fun u25=>bnd (rng (ρ:=(List U64)×Err) (fun (k50:Nat) (a51:PFd) (s48:(List U64))=>bnd (bnd (x1[k50]?) fun a87=>if a87 < 0 then (some true) else (bnd (x1[k50]?) fun a98=>if a51.size≤a98 then (some true) else (some false)):Option Bool) fun y83=>if y83=true then (some (.ret (([]:List U64),(⟨2⟩:Err)))) else (bnd (atI s48 a51.word) fun a114=>bnd (x1[k50]?) fun a125=>bnd (shlU (BitVec.ofInt 64 a125) a51.bit) fun n135=>bnd (atI s48 a51.word) fun a137=>some (.next (s48.set (a51.word:Int).toNat (a114 ||| n135))))) x0.fields 0 u25) fun res46=>fin res46 fun (s154:(List U64))=>some (s154,(⟨0⟩:Err)))
theorem HG {w:World} {O:Lab} {p0 i0:Nat} {x0:Pkr} (hx0:Ob i0 w O (.pointer (some ⟨p0,0,none⟩)) x0) {vx1:Value} {x1:List Int} (hx1:Vb w (Fr 0 w O) vx1 x1) {r:(List U64)×Err} (hm:Bx x0 x1=some r) :
    Fn Tryz.prog 95 [(.pointer (some ⟨p0,0,none⟩)),vx1] w fun v w'=>∃ O',St (eT i0) w O w' O'∧∃ v0 v1:Value,Ob i0 w' O' (.pointer (some ⟨p0,0,none⟩)) x0∧v=.tuple #[v0,v1]∧Vb w' (Fr 0 w' O') v0 r.1∧Vb w' (Fr 0 w' O') v1 r.2:=by
 obtain ⟨O0,hE,hz0,hl2⟩:=ent1 (w:=w) (O:=O) hx0.2
 have hx0':=Ob.leave hx0 hz0 hl2 (j:=2) (by decide)
 have hB:Bm w O0 w O0:=Bm.refl
 replace hx1:=hx1.mono hz0
 obtain ⟨A3,c4,rfl⟩:=hx1.form
 refine AL Tryz.func95 rfl Tryz.ntmps95 rfl ?_
 unfold Bx at hm
 refine Ah (Ae (o_as rfl rfl (o_as rfl rfl (o_z ?_))))
 refine Ah (Ah (Ae (o_mv rfl rfl (o_pn rfl rfl ?_))))
 refine o_z ?_
 refine Aj rfl (Am (Ah (Ah (Ae (o_mv rfl rfl (o_ln rfl rfl ?_))))))
 have l6:x1.length≤9223372036854775807:=Nat.le_trans hx1.len.2.1 hx1.len.2.2
 have r5:inI64 (x1.length:Int):=rngNat l6
 refine o_mv rfl rfl (o_nc rfl rfl ?_)
 obtain ⟨O7,v11,S8,ha10,h9,h12,r16⟩:=Pkr.opn hx0' 2 3 (by decide)
 obtain ⟨A13,c14,rfl⟩:=h12.form
 refine o_fa rfl rfl (o_ld (hc:=Blk.cell (i:=0) (h9.1) rfl) rfl rfl ?_)
 refine o_ln rfl rfl ?_
 have l18:x0.fields.length≤9223372036854775807:=Nat.le_trans h12.len.2.1 h12.len.2.2
 have r17:inI64 (x0.fields.length:Int):=rngNat l18
 refine o_neS rfl rfl rfl (fun c19=>?_) fun c19=>?_
 ·
  replace hm:=ip hm c19
  refine o_z ?_
  refine Ar rfl (Ah (Ae (o_miE rfl rfl ?_)))
  refine o_as rfl rfl (o_as rfl rfl (o_z ?_))
  refine Au ?_
  obtain ⟨O20,S21,hz23,ha24,h22⟩:=Pkr.shut (x:=x0) (l0:=2) (l1:=3) (by decide) h9 h12 r16
  obtain rfl:=sm hm
  replace hB:=(hB.st S8).st S21
  obtain ⟨O',hS',hz,hl⟩:=hE.leave (fun q=>if q=2 then i0 else 0) rfl hB
  exact ret2 rfl (AG rfl) (AG rfl) ⟨O',hS',_,_,(Ob.leave h22 hz (hl 2 (by decide) (by decide)) hx0.2),rfl,(Vb.mono (Vb.nil _ _) hz),(vErr (by decide))⟩
 ·
  replace hm:=im hm c19
  refine o_z ?_
  refine Aj rfl (Am (Ah (Ae (o_mv rfl rfl (o_nc rfl rfl (o_fa rfl rfl (o_ld (hc:=Blk.cell (i:=1) (h9.1) rfl) rfl rfl ?_)))))))
  obtain ⟨u25,e26,hm⟩:=bs hm
  obtain ⟨m27,e28,e29,e30,e31⟩:=FL e26
  refine Hy 4 (by decide) O7 (z0:=((0:U64):U64)) rfl rfl rfl rfl rfl e28 vU64 e29 e30 rfl fun g32 w33 O34 S35 h36=>?_
  rw [← e31] at h36 ⊢
  refine o_as rfl rfl (o_z ?_)
  refine Ah (Ah (Ae (o_mv rfl rfl (o_nc rfl rfl (o_fa rfl rfl ?_)))))
  replace h9:=h9.st S35
  refine o_ld (hc:=Blk.cell (i:=0) (h9.1) rfl) rfl rfl ?_
  refine o_ln rfl rfl ?_
  replace h12:=h12.st S35
  have l39:x0.fields.length≤9223372036854775807:=Nat.le_trans h12.len.2.1 h12.len.2.2
  have r38:inI64 (x0.fields.length:Int):=rngNat l39
  refine o_mv rfl rfl (o_z ?_)
  obtain ⟨O40,S41,hz43,ha44,h42⟩:=Pkr.shut (x:=x0) (l0:=2) (l1:=3) (by decide) h9 h12 r16
  have h45:=(h12.lend [3] (by decide)).shutS S41 hz43 ha44 [2] (by decide)
  obtain ⟨res46,hL47,hm⟩:=bs hm
  refine AN (aft res46 (fun (s48:(List U64)) (x49:Unit)=>[(6,(.slice (some ⟨g32,0,none⟩) u25.length m27))]) (fun s48 x49 w'=>∃ O':Lab,Bm w O0 w' O'∧Rw 4 w' O' 167 (.slice (some ⟨g32,0,none⟩) u25.length m27) s48∧Ob 2 w' O' (.pointer (some ⟨p0,0,none⟩)) x0)) ?_ ?_
  ·
   refine Al ?_
   replace hB:=((hB.st S8).st S35).st S41
   replace hx1:=((hx1.st S8).st S35).st S41
   replace h36:=h36.st S41
   refine BD (σ:=(List U64)) (X:=Unit) (x0.fields.length) hL47 rfl l39 (fun (s48:(List U64)) (x49:Unit)=>[(1,(.slice A3 x1.length c4)),(6,(.slice (some ⟨g32,0,none⟩) u25.length m27)),(29,(.slice A13 x0.fields.length c14))]) _ (fun s48 x49 w'=>∃ O':Lab,Bm w O0 w' O'∧Vb w' (Fr 0 w' O') (.slice A3 x1.length c4) x1∧Rw 4 w' O' 167 (.slice (some ⟨g32,0,none⟩) u25.length m27) s48∧Vb w' (FrS [2] w' O') (.slice A13 x0.fields.length c14) x0.fields∧Ob 2 w' O' (.pointer (some ⟨p0,0,none⟩)) x0) _ () ⟨O40,hB,hx1,h36,h45,h42⟩ ⟨rfl,rfl,rfl,rfl,rfl,trivial⟩ (fun _ _=>⟨rfl,rfl⟩) (fun _ _=>⟨rfl,trivial⟩) (fun _ _ _ ⟨O',hB,hx1,h63,h45,h42⟩=>⟨O',hB,h63,h42⟩) ⟨rfl,rfl,rfl⟩ ⟨rfl,rfl⟩ ?_
   rintro k50 a51 s48 x49 w52 cc54 hx55 ⟨O53,hB,hx1,h63,h45,h42⟩ hf56 hret57 hbrk58
   have rk50:inI64 (k50:Int):=rngK hx55 l39
   refine Ah (Ae (o_mv rfl rfl ?_))
   obtain ⟨b65,o66,ce67,hA68,hl69,hd70,rfl,r72,r73,r74,r75⟩:=h45.elem' hx55
   refine o_iaE (hA:=hA68) (hj:=rfl) (hlt:=hl69) rfl rfl rfl ?_
   refine o_la (hl:=rfl) (hc:=hd70) rfl rfl ?_
   refine BJ 5 O53 rfl fun g76 w77 O78 S79 h80=>?_
   replace h45:=h45.stS S79 id (fun _ _=>id)
   refine o_as rfl rfl (AQ h80 rfl rfl rfl (Nat.le_of_ble_eq_true rfl) (by first|exact allOne rfl|simp [Value.cells,Value.oneCell',AM]) fun w81 S82 h80=>?_)
   replace h80:Lc 5 w81 O78 g76 169 [(.int .i64 a51.word),(.int .i64 a51.bit),(.int .i64 a51.width),(.int .i64 a51.size)]:=h80
   replace h45:=h45.stS S82 (by decide) (by decide)
   refine o_z ?_
   refine Ah (Ah ?_)
   obtain ⟨y83,hy84,hf56⟩:=bs hf56
   refine AN (fun l' w'=>∃ (x86:Unit) (O':Lab),subs l' [(1,(.slice A3 x1.length c4)),(6,(.slice (some ⟨g32,0,none⟩) u25.length m27)),(7,(.int .i64 (k50:Int))),(8,(.pointer (some ⟨g76,0,none⟩))),(29,(.slice A13 x0.fields.length c14)),(30,(.int .i64 (x0.fields.length:Int))),(31,(.int .i64 (k50:Int))),(49,(.bool y83))]∧Bm w O0 w' O'∧Vb w' (Fr 0 w' O') (.slice A3 x1.length c4) x1∧Rw 4 w' O' 167 (.slice (some ⟨g32,0,none⟩) u25.length m27) s48∧Lc 5 w' O' g76 169 [(.int .i64 a51.word),(.int .i64 a51.bit),(.int .i64 a51.width),(.int .i64 a51.size)]∧Vb w' (FrS [2] w' O') (.slice A13 x0.fields.length c14) x0.fields∧Ob 2 w' O' (.pointer (some ⟨p0,0,none⟩)) x0) ?_ ?_
   ·
    refine BV (·=w81) [(0,true),(1,true),(2,true),(3,true),(4,true),(5,true),(6,true),(7,true),(8,true),(9,true),(10,true),(11,true),(12,true),(13,true)] (by kernel_rfl) rfl (by kernel_rfl) rfl ?_
    refine h_mv rfl rfl rfl (h_mv rfl rfl rfl ?_)
    obtain ⟨a87,e88,hy84⟩:=bs hy84
    replace hx1:=(hx1.st S79).st S82
    obtain ⟨b89,o90,ce91,hA92,hl93,hd94,rfl,r96⟩:=hx1.elem' e88
    refine h_iaE (hA:=hA92) (hj:=rfl) (hlt:=hl93) rfl rfl rfl rfl ?_
    refine h_ldA (hc:=cat0 hd94) rfl rfl rfl ?_
    refine h_ltS rfl rfl rfl rfl (fun c97=>?_) fun c97=>?_
    ·
     replace hy84:=ip hy84 c97
     refine h_mv rfl rfl rfl (h_no rfl rfl rfl rfl rfl (h_no rfl rfl rfl rfl rfl (h_no rfl rfl rfl rfl rfl (h_no rfl rfl rfl rfl rfl (h_no rfl rfl rfl rfl rfl (h_no rfl rfl rfl rfl rfl (h_no rfl rfl rfl rfl rfl (h_pt rfl rfl rfl rfl (h_z ?_)))))))))
     obtain rfl:=sm hy84
     replace hB:=(hB.st S79).st S82
     replace h42:=(h42.st S79).st S82
     replace h63:=(h63.st S79).st S82
     exact ⟨(),_,⟨rfl,rfl,rfl,rfl,rfl,rfl,rfl,rfl,trivial⟩,hB,hx1,h63,h80,h45,h42⟩
    ·
     replace hy84:=im hy84 c97
     refine h_mv rfl rfl rfl (hwp_o rfl (AD rfl rfl (g_mv rfl rfl (hwp_o rfl (AD rfl rfl (g_mv rfl rfl (hwp_o rfl (AD rfl rfl ?_))))))))
     obtain ⟨a98,e99,hy84⟩:=bs hy84
     obtain ⟨b100,o101,ce102,hA103,hl104,hd105,rfl,r107⟩:=hx1.elem' e99
     refine g_iaE (hA:=hA103) (hj:=rfl) (hlt:=hl104) rfl rfl rfl ?_
     refine hwp_o rfl (AD rfl rfl (g_ldA (hc:=cat0 hd105) rfl rfl ?_))
     refine hwp_o rfl (AD rfl rfl (g_fa rfl rfl (hwp_o rfl (AD rfl rfl (g_ldA (hc:=Blk.cell (i:=3) (h80.1) rfl) rfl rfl ?_)))))
     refine hwp_o rfl (AD rfl rfl (AS (fun _ _=>AR rfl rfl) rfl (fun c108=>?_) (fun c108=>?_)))
     ·
      replace hy84:=ip hy84 c108
      refine h_pf rfl rfl rfl rfl (h_z ?_)
      obtain rfl:=sm hy84
      replace hB:=(hB.st S79).st S82
      replace h42:=(h42.st S79).st S82
      replace h63:=(h63.st S79).st S82
      exact ⟨(),_,⟨rfl,rfl,rfl,rfl,rfl,rfl,rfl,rfl,trivial⟩,hB,hx1,h63,h80,h45,h42⟩
     ·
      replace hy84:=im hy84 c108
      refine h_pf rfl rfl rfl rfl (h_z ?_)
      obtain rfl:=sm hy84
      replace hB:=(hB.st S79).st S82
      replace h42:=(h42.st S79).st S82
      replace h63:=(h63.st S79).st S82
      exact ⟨(),_,⟨rfl,rfl,rfl,rfl,rfl,rfl,rfl,rfl,trivial⟩,hB,hx1,h63,h80,h45,h42⟩
   replace hB:=(hB.st S79).st S82
   replace hx1:=(hx1.st S79).st S82
   replace h42:=(h42.st S79).st S82
   replace h63:=(h63.st S79).st S82
   rintro l109 w110 ⟨x86,O111,hs112,hB,hx1,h63,h80,h45,h42⟩
   refine AP _ hs112 ?_
   refine Cm rfl (fun c113=>?_) (fun c113=>?_)
   ·
    replace hf56:=ip hf56 c113
    refine Ah (Ae (o_miE rfl rfl ?_))
    refine o_as rfl rfl (o_as rfl rfl (o_z ?_))
    refine Au ?_
    obtain rfl:=sm hf56
    obtain rfl:=hret57 _ rfl
    obtain rfl:=sm (Cv hm)
    obtain ⟨O',hS',hz,hl⟩:=hE.leave (fun q=>if q=2 then i0 else 0) rfl hB
    exact ret2 rfl (AG rfl) (AG rfl) ⟨O',hS',_,_,(Ob.leave h42 hz (hl 2 (by decide) (by decide)) hx0.2),rfl,(Vb.mono (Vb.nil _ _) hz),(vErr (by decide))⟩
   ·
    replace hf56:=im' hf56 c113
    refine Am (Bt [] O111 ?_)
    refine x_pre (fuel:=1) [] [(0,true),(1,true),(2,true),(3,true),(4,true),(5,true),(6,true),(7,true),(8,true),(9,true),(10,true),(11,true),(12,true),(13,true),(14,true)] (by kernel_rfl) rfl ?_
    refine h_mv rfl rfl rfl (h_fa rfl rfl rfl (h_ldC (hc:=fun w' ⟨O',hq⟩=>Blk.cell (i:=0) ((h80.st hq (by decide)).1) rfl) rfl rfl rfl ?_))
    obtain ⟨a114,e115,hf56⟩:=bs hf56
    obtain ⟨p117,x116⟩:=AO e115
    obtain ⟨b118,o119,ce120,hA121,hF124,hl122,hd123,rfl⟩:=h63.elemF x116
    refine h_iaE (hA:=hA121) (hj:=(Int.toNat_of_nonneg p117).symm) (hlt:=hl122) rfl rfl rfl rfl ?_
    refine h_ldC (hc:=fun w' ⟨O',hq⟩=>cat0 (Bd (hq.agree (i:=4) (by decide)) hF124 hd123)) rfl rfl rfl ?_
    refine h_mv rfl rfl rfl (h_mv rfl rfl rfl ?_)
    obtain ⟨a125,e126,hf56⟩:=bs hf56
    obtain ⟨b127,o128,ce129,hA130,hF133,hl131,hd132,rfl,r134⟩:=hx1.elem e126
    refine h_iaE (hA:=hA130) (hj:=rfl) (hlt:=hl131) rfl rfl rfl rfl ?_
    refine h_ldC (hc:=fun w' ⟨O',hq⟩=>cat0 (Bd (hq.agree (i:=0) (by decide)) hF133 hd132)) rfl rfl rfl ?_
    refine h_cvU rfl rfl rfl ?_
    refine h_fa rfl rfl rfl (h_ldC (hc:=fun w' ⟨O',hq⟩=>Blk.cell (i:=1) ((h80.st hq (by decide)).1) rfl) rfl rfl rfl ?_)
    obtain ⟨n135,e136,hf56⟩:=bs hf56
    refine h_ush (a:=(BitVec.ofInt 64 a125)) (he:=e136) rfl rfl rfl rfl ?_
    refine h_uor (a:=a114) (b:=n135) rfl rfl rfl rfl ?_
    obtain ⟨a137,e138,hf56⟩:=bs hf56
    obtain ⟨p140,x139⟩:=AO e138
    obtain ⟨b141,o142,ce143,hA144,hF147,hl145,hd146,rfl⟩:=h63.elemF x139
    refine h_iaE (hA:=hA144) (hj:=(Int.toNat_of_nonneg p140).symm) (hlt:=hl145) rfl rfl rfl rfl ?_
    refine AK ?_
    refine x_one (i:=15) (by kernel_rfl) rfl ?_
    refine CG rfl h63 (a:=(a114 ||| n135)) vU64 hA144 rfl rfl (AJ x139) fun w148 S149 h63=>?_
    replace h45:=h45.stS S149 (by decide) (by decide)
    refine x_end (by kernel_rfl) ?_
    refine x_nil (by kernel_rfl) ?_
    obtain rfl:=sm hf56
    refine (?_:Exists _)
    replace hB:=hB.st S149
    replace hx1:=hx1.st S149
    replace h42:=h42.st S149
    exact ⟨_,(),rfl,⟨rfl,rfl,rfl,rfl,rfl,trivial⟩,_,hB,hx1,h63,h45,h42⟩
  replace hB:=((hB.st S8).st S35).st S41
  rintro l150 w151 ⟨s154,x155,rfl,hs153,O152,hB,h63,h42⟩
  replace hm:=AY hm
  refine AP _ hs153 ?_
  refine Ah (Ae (o_mv rfl rfl (o_as rfl rfl (o_as rfl rfl (o_z ?_)))))
  refine Au ?_
  obtain ⟨O156,S157,h63⟩:=h63.freeze
  obtain rfl:=sm hm
  replace hB:=hB.st S157
  obtain ⟨O',hS',hz,hl⟩:=hE.leave (fun q=>if q=2 then i0 else 0) rfl hB
  replace h42:=h42.st S157
  exact ret2 rfl (AG rfl) (AG rfl) ⟨O',hS',_,_,(Ob.leave h42 hz (hl 2 (by decide) (by decide)) hx0.2),rfl,(Vb.mono h63 hz),(vErr (show inI64 0 from by decide))⟩
noncomputable def Cd (x0:Pkr) (x1:List U64):Option ((List Int)×Err) :=
  if (x1.length:Int)≠x0.words then (some (([]:List Int),(⟨2⟩:Err))) else (bnd (mkI 8 (0:Int) (x0.fields.length:Int)) fun u25=>bnd (BE x1) fun q38=>bnd (rng (ρ:=(List Int)×Err) (fun (k60:Nat) (a61:PFd) (s58:(List Int)×(List U64))=>bnd (Ct a61 x1) fun q97=>bnd (s58.1[k60]?) fun a105=>bnd ((s58.1.set k60 q97)[k60]?) fun a117=>if a61.size≤a117 then (some (.ret (([]:List Int),(⟨2⟩:Err)))) else (bnd (atI s58.2 a61.word) fun a128=>bnd (Cf a61) fun q139=>bnd (atI s58.2 a61.word) fun a146=>some (.next ((s58.1.set k60 q97),(s58.2.set (a61.word:Int).toNat (a128 &&& ~~~q139)))))) x0.fields 0 (u25,q38)) fun res56=>fin res56 fun (s163:(List Int)×(List U64))=>bnd (rng (ρ:=(List Int)×Err) (fun (k171:Nat) (a172:U64) (s169:Unit)=>bnd (s163.2[k171]?) fun a182=>if (a182.toNat:Int)≠((0:U64).toNat:Int) then (some (.ret (([]:List Int),(⟨2⟩:Err)))) else (some (.next ()))) q38 0 ()) fun res167=>fin res167 fun (s196:Unit)=>some (s163.1,(⟨0⟩:Err)))
theorem GP {w:World} {O:Lab} {p0 i0:Nat} {x0:Pkr} (hx0:Ob i0 w O (.pointer (some ⟨p0,0,none⟩)) x0) {vx1:Value} {x1:List U64} (hx1:Vb w (Fr 0 w O) vx1 x1) {r:(List Int)×Err} (hm:Cd x0 x1=some r) :
    Fn Tryz.prog 80 [(.pointer (some ⟨p0,0,none⟩)),vx1] w fun v w'=>∃ O',St (eT i0) w O w' O'∧∃ v0 v1:Value,Ob i0 w' O' (.pointer (some ⟨p0,0,none⟩)) x0∧v=.tuple #[v0,v1]∧Vb w' (Fr 0 w' O') v0 r.1∧Vb w' (Fr 0 w' O') v1 r.2:=by
 obtain ⟨O0,hE,hz0,hl2⟩:=ent1 (w:=w) (O:=O) hx0.2
 have hx0':=Ob.leave hx0 hz0 hl2 (j:=2) (by decide)
 have hB:Bm w O0 w O0:=Bm.refl
 replace hx1:=hx1.mono hz0
 obtain ⟨A3,c4,rfl⟩:=hx1.form
 refine AL Tryz.func80 rfl Tryz.ntmps80 rfl ?_
 unfold Cd at hm
 refine Ah (Ae (o_as rfl rfl (o_as rfl rfl (o_z ?_))))
 refine Ah (Ah (Ae (o_mv rfl rfl (o_pn rfl rfl ?_))))
 refine o_z ?_
 refine Aj rfl (Am (Ah (Ah (Ae (o_mv rfl rfl (o_ln rfl rfl ?_))))))
 have l6:x1.length≤9223372036854775807:=Nat.le_trans hx1.len.2.1 hx1.len.2.2
 have r5:inI64 (x1.length:Int):=rngNat l6
 refine o_mv rfl rfl (o_nc rfl rfl ?_)
 obtain ⟨O7,v11,S8,ha10,h9,h12,r16⟩:=Pkr.opn hx0' 2 3 (by decide)
 obtain ⟨A13,c14,rfl⟩:=h12.form
 refine o_fa rfl rfl (o_ld (hc:=Blk.cell (i:=1) (h9.1) rfl) rfl rfl ?_)
 refine o_neS rfl rfl rfl (fun c17=>?_) fun c17=>?_
 ·
  replace hm:=ip hm c17
  refine o_z ?_
  refine Ar rfl (Ah (Ae (o_miE rfl rfl ?_)))
  refine o_as rfl rfl (o_as rfl rfl (o_z ?_))
  refine Au ?_
  obtain ⟨O18,S19,hz21,ha22,h20⟩:=Pkr.shut (x:=x0) (l0:=2) (l1:=3) (by decide) h9 h12 r16
  obtain rfl:=sm hm
  replace hB:=(hB.st S8).st S19
  obtain ⟨O',hS',hz,hl⟩:=hE.leave (fun q=>if q=2 then i0 else 0) rfl hB
  exact ret2 rfl (AG rfl) (AG rfl) ⟨O',hS',_,_,(Ob.leave h20 hz (hl 2 (by decide) (by decide)) hx0.2),rfl,(Vb.mono (Vb.nil _ _) hz),(vErr (by decide))⟩
 ·
  replace hm:=im hm c17
  refine o_z ?_
  refine Aj rfl (Am (Ah (Ae (o_mv rfl rfl (o_nc rfl rfl (o_fa rfl rfl (o_ld (hc:=Blk.cell (i:=0) (h9.1) rfl) rfl rfl ?_)))))))
  refine o_ln rfl rfl ?_
  have l24:x0.fields.length≤9223372036854775807:=Nat.le_trans h12.len.2.1 h12.len.2.2
  have r23:inI64 (x0.fields.length:Int):=rngNat l24
  obtain ⟨u25,e26,hm⟩:=bs hm
  obtain ⟨m27,e28,e29,e30,e31⟩:=FL e26
  refine Hy 4 (by decide) O7 (z0:=(0:Int)) rfl rfl rfl rfl rfl e28 (vInt (show inI64 0 from by decide)) e29 e30 rfl fun g32 w33 O34 S35 h36=>?_
  rw [← e31] at h36 ⊢
  refine o_as rfl rfl (o_z ?_)
  refine Ah (Ae (o_mv rfl rfl ?_))
  obtain ⟨q38,e39,hm⟩:=bs hm
  replace hx1:=(hx1.st S8).st S35
  refine CL 5 (by decide) (O:=O34) (EU Fr.lt hx1 e39) rfl rfl fun A45 c46 w40 O41 S42 h43=>?_
  refine o_as rfl rfl (o_z ?_)
  refine Ah (Ah (Ae (o_mv rfl rfl (o_nc rfl rfl (o_fa rfl rfl ?_)))))
  replace h9:=(h9.st S35).st S42
  refine o_ld (hc:=Blk.cell (i:=0) (h9.1) rfl) rfl rfl ?_
  refine o_ln rfl rfl ?_
  replace h12:=(h12.st S35).st S42
  have l49:x0.fields.length≤9223372036854775807:=Nat.le_trans h12.len.2.1 h12.len.2.2
  have r48:inI64 (x0.fields.length:Int):=rngNat l49
  refine o_mv rfl rfl (o_z ?_)
  obtain ⟨O50,S51,hz53,ha54,h52⟩:=Pkr.shut (x:=x0) (l0:=2) (l1:=3) (by decide) h9 h12 r16
  have h55:=(h12.lend [3] (by decide)).shutS S51 hz53 ha54 [2] (by decide)
  obtain ⟨res56,hL57,hm⟩:=bs hm
  refine AN (aft res56 (fun (s58:(List Int)×(List U64)) (x59:Unit)=>[(6,(.slice (some ⟨g32,0,none⟩) u25.length m27)),(7,(.slice A45 q38.length c46))]) (fun s58 x59 w'=>∃ O':Lab,Bm w O0 w' O'∧Rw 4 w' O' 3 (.slice (some ⟨g32,0,none⟩) u25.length m27) s58.1∧Rw 5 w' O' 167 (.slice A45 q38.length c46) s58.2∧Ob 2 w' O' (.pointer (some ⟨p0,0,none⟩)) x0)) ?_ ?_
  ·
   refine Al ?_
   replace hB:=(((hB.st S8).st S35).st S42).st S51
   replace hx1:=(hx1.st S42).st S51
   replace h36:=(h36.st S42).st S51
   replace h43:=h43.st S51
   refine BD (σ:=(List Int)×(List U64)) (X:=Unit) (x0.fields.length) hL57 rfl l49 (fun (s58:(List Int)×(List U64)) (x59:Unit)=>[(1,(.slice A3 x1.length c4)),(6,(.slice (some ⟨g32,0,none⟩) u25.length m27)),(7,(.slice A45 q38.length c46)),(34,(.slice A13 x0.fields.length c14))]) _ (fun s58 x59 w'=>∃ O':Lab,Bm w O0 w' O'∧Vb w' (Fr 0 w' O') (.slice A3 x1.length c4) x1∧Rw 4 w' O' 3 (.slice (some ⟨g32,0,none⟩) u25.length m27) s58.1∧Rw 5 w' O' 167 (.slice A45 q38.length c46) s58.2∧Vb w' (FrS [2] w' O') (.slice A13 x0.fields.length c14) x0.fields∧Ob 2 w' O' (.pointer (some ⟨p0,0,none⟩)) x0) _ () ⟨O50,hB,hx1,h36,h43,h55,h52⟩ ⟨rfl,rfl,rfl,rfl,rfl,rfl,trivial⟩ (fun _ _=>⟨rfl,rfl⟩) (fun _ _=>⟨rfl,rfl,trivial⟩) (fun _ _ _ ⟨O',hB,hx1,h75,h77,h55,h52⟩=>⟨O',hB,h75,h77,h52⟩) ⟨rfl,rfl,rfl⟩ ⟨rfl,rfl⟩ ?_
   rintro k60 a61 s58 x59 w62 cc64 hx65 ⟨O63,hB,hx1,h75,h77,h55,h52⟩ hf66 hret67 hbrk68
   have rk60:inI64 (k60:Int):=rngK hx65 l49
   refine Ah (Ae (o_mv rfl rfl ?_))
   obtain ⟨b79,o80,ce81,hA82,hl83,hd84,rfl,r86,r87,r88,r89⟩:=h55.elem' hx65
   refine o_iaE (hA:=hA82) (hj:=rfl) (hlt:=hl83) rfl rfl rfl ?_
   refine o_la (hl:=rfl) (hc:=hd84) rfl rfl ?_
   refine BJ 6 O63 rfl fun g90 w91 O92 S93 h94=>?_
   replace h55:=h55.stS S93 id (fun _ _=>id)
   refine o_as rfl rfl (AQ h94 rfl rfl rfl (Nat.le_of_ble_eq_true rfl) (by first|exact allOne rfl|simp [Value.cells,Value.oneCell',AM]) fun w95 S96 h94=>?_)
   replace h94:Lc 6 w95 O92 g90 169 [(.int .i64 a61.word),(.int .i64 a61.bit),(.int .i64 a61.width),(.int .i64 a61.size)]:=h94
   replace h55:=h55.stS S96 (by decide) (by decide)
   refine o_z ?_
   refine Ah (Ae (o_mv rfl rfl (o_mv rfl rfl (o_la (hl:=rfl) (hc:=(h94.1).cellsAt) rfl rfl ?_))))
   refine o_mv rfl rfl ?_
   obtain ⟨q97,e98,hf66⟩:=bs hf66
   replace hx1:=(hx1.st S93).st S96
   refine BP (O:=O92) (A:=All w95) (R:=fun w' F v=>Vb w' F v q97) (IG (fun _ h=>h) (Vb.mono (F:=Fr 0 w95 O92) (Vb.ofAgg (cs:=[(.int .i64 a61.word),(.int .i64 a61.bit),(.int .i64 a61.width),(.int .i64 a61.size)]) (x:=a61) rfl ⟨rfl,r86,r87,r88,r89⟩) Fr.lt) (Vb.mono (F:=Fr 0 w95 O92) hx1 Fr.lt) e98) rfl rfl fun v103 w99 O100 S101 h102=>?_
   obtain ⟨rfl,r104⟩:=h102.int
   replace h55:=h55.stS S101 id (fun _ _=>id)
   obtain ⟨a105,e106,hf66⟩:=bs hf66
   replace h75:=((h75.st S93).st S96).st S101
   obtain ⟨b107,o108,ce109,hA110,hl111,hd112,rfl,r114⟩:=h75.elem e106
   refine o_iaE (hA:=hA110) (hj:=rfl) (hlt:=hl111) rfl rfl rfl ?_
   refine CG rfl h75 (a:=q97) (vInt r104) hA110 rfl rfl (AJ e106) fun w115 S116 h75=>?_
   replace h55:=h55.stS S116 (by decide) (by decide)
   refine o_z ?_
   refine Ah (Ah (BV (·=w115) [(0,true),(1,true),(2,true),(3,true),(4,true),(5,true),(6,true)] (by kernel_rfl) rfl (by kernel_rfl) rfl ?_))
   refine h_mv rfl rfl rfl (h_mv rfl rfl rfl ?_)
   obtain ⟨a117,e118,hf66⟩:=bs hf66
   obtain ⟨b119,o120,ce121,hA122,hl123,hd124,rfl,r126⟩:=h75.elem e118
   refine h_iaE (hA:=hA122) (hj:=rfl) (hlt:=hl123) rfl rfl rfl rfl ?_
   refine h_ldA (hc:=cat0 hd124) rfl rfl rfl ?_
   refine h_fa rfl rfl rfl ?_
   replace h94:=(h94.st S101).st S116
   refine h_ldA (hc:=Blk.cell (i:=3) (h94.1) rfl) rfl rfl rfl ?_
   refine h_geS rfl rfl rfl rfl (fun c127=>?_) fun c127=>?_
   ·
    replace hf66:=ip hf66 c127
    refine h_z ?_
    refine Ar rfl (Ah (Ae (o_miE rfl rfl ?_)))
    refine o_as rfl rfl (o_as rfl rfl (o_z ?_))
    refine Au ?_
    obtain rfl:=sm hf66
    obtain rfl:=hret67 _ rfl
    obtain rfl:=sm (Cv hm)
    replace hB:=(((hB.st S93).st S96).st S101).st S116
    obtain ⟨O',hS',hz,hl⟩:=hE.leave (fun q=>if q=2 then i0 else 0) rfl hB
    replace h52:=(((h52.st S93).st S96).st S101).st S116
    exact ret2 rfl (AG rfl) (AG rfl) ⟨O',hS',_,_,(Ob.leave h52 hz (hl 2 (by decide) (by decide)) hx0.2),rfl,(Vb.mono (Vb.nil _ _) hz),(vErr (by decide))⟩
   ·
    replace hf66:=im hf66 c127
    refine h_z ?_
    refine Aj rfl (Am (Bt [] O100 ?_))
    refine x_pre (fuel:=4) [] [(0,true),(1,true),(2,true),(3,true),(4,true),(5,true)] (by kernel_rfl) rfl ?_
    refine h_mv rfl rfl rfl (h_fa rfl rfl rfl (h_ldC (hc:=fun w' ⟨O',hq⟩=>Blk.cell (i:=0) ((h94.st hq (by decide)).1) rfl) rfl rfl rfl ?_))
    obtain ⟨a128,e129,hf66⟩:=bs hf66
    obtain ⟨p131,x130⟩:=AO e129
    replace h77:=(((h77.st S93).st S96).st S101).st S116
    obtain ⟨b132,o133,ce134,hA135,hF138,hl136,hd137,rfl⟩:=h77.elemF x130
    refine h_iaE (hA:=hA135) (hj:=(Int.toNat_of_nonneg p131).symm) (hlt:=hl136) rfl rfl rfl rfl ?_
    refine h_ldC (hc:=fun w' ⟨O',hq⟩=>cat0 (Bd (hq.agree (i:=5) (by decide)) hF138 hd137)) rfl rfl rfl ?_
    refine h_laB (hl:=rfl) (hb:=fun w' ⟨O',hq⟩=>((h94.st hq (by decide)).1).cellsAt) rfl rfl rfl ?_
    refine AK ?_
    refine x_one (i:=6) (by kernel_rfl) rfl ?_
    obtain ⟨q139,e140,hf66⟩:=bs hf66
    refine BP (O:=O100) (A:=All w115) (R:=fun w' F v=>Vb w' F v q139) (Fu (fun _ h=>h) (Vb.mono (F:=Fr 0 w115 O100) (Vb.ofAgg (cs:=[(.int .i64 a61.word),(.int .i64 a61.bit),(.int .i64 a61.width),(.int .i64 a61.size)]) (x:=a61) rfl ⟨rfl,r86,r87,r88,r89⟩) Fr.lt) e140) rfl rfl fun v145 w141 O142 S143 h144=>?_
    obtain rfl:=h144.u64
    have hZ:=S143.lst [] (fun _ h=>h.elim)
    replace h55:=h55.stS S143 id (fun _ _=>id)
    refine x_go [] hZ (by kernel_rfl) ?_
    refine x_pre (fuel:=1) [] [(7,true),(8,true)] (by kernel_rfl) rfl ?_
    refine h_uns (a:=a128) (b:=q139) rfl rfl rfl rfl ?_
    obtain ⟨a146,e147,hf66⟩:=bs hf66
    obtain ⟨p149,x148⟩:=AO e147
    replace h77:=h77.st S143
    obtain ⟨b150,o151,ce152,hA153,hF156,hl154,hd155,rfl⟩:=h77.elemF x148
    refine h_iaE (hA:=hA153) (hj:=(Int.toNat_of_nonneg p149).symm) (hlt:=hl154) rfl rfl rfl rfl ?_
    refine AK ?_
    refine x_one (i:=9) (by kernel_rfl) rfl ?_
    refine CG rfl h77 (a:=(a128 &&& ~~~q139)) vU64 hA153 rfl rfl (AJ x148) fun w157 S158 h77=>?_
    replace h55:=h55.stS S158 (by decide) (by decide)
    refine x_end (by kernel_rfl) ?_
    refine x_nil (by kernel_rfl) ?_
    obtain rfl:=sm hf66
    refine (?_:Exists _)
    replace hB:=(((((hB.st S93).st S96).st S101).st S116).st S143).st S158
    replace hx1:=(((hx1.st S101).st S116).st S143).st S158
    replace h52:=(((((h52.st S93).st S96).st S101).st S116).st S143).st S158
    replace h75:=(h75.st S143).st S158
    exact ⟨_,(),rfl,⟨rfl,rfl,rfl,rfl,rfl,rfl,trivial⟩,_,hB,hx1,h75,h77,h55,h52⟩
  replace hB:=(((hB.st S8).st S35).st S42).st S51
  rintro l159 w160 ⟨s163,x164,rfl,hs162,O161,hB,h75,h77,h52⟩
  replace hm:=AY hm
  refine AP _ hs162 ?_
  refine Ah (Ah (Ae (o_mv rfl rfl (o_ln rfl rfl ?_))))
  have l166:q38.length≤9223372036854775807:=Nat.le_trans h77.len.2.1 h77.len.2.2
  have r165:inI64 (q38.length:Int):=rngNat l166
  refine o_mv rfl rfl (o_z ?_)
  obtain ⟨res167,hL168,hm⟩:=bs hm
  refine AN (aft res167 (fun (s169:Unit) (x170:Unit)=>[(6,(.slice (some ⟨g32,0,none⟩) u25.length m27))]) (fun s169 x170 w'=>∃ O':Lab,Bm w O0 w' O'∧Rw 4 w' O' 3 (.slice (some ⟨g32,0,none⟩) u25.length m27) s163.1∧Ob 2 w' O' (.pointer (some ⟨p0,0,none⟩)) x0)) ?_ ?_
  ·
   refine Al (BD (σ:=Unit) (X:=Unit) (q38.length) hL168 rfl l166 (fun (s169:Unit) (x170:Unit)=>[(6,(.slice (some ⟨g32,0,none⟩) u25.length m27)),(65,(.slice A45 q38.length c46))]) _ (fun s169 x170 w'=>∃ O':Lab,Bm w O0 w' O'∧Rw 4 w' O' 3 (.slice (some ⟨g32,0,none⟩) u25.length m27) s163.1∧Rw 5 w' O' 167 (.slice A45 q38.length c46) s163.2∧Ob 2 w' O' (.pointer (some ⟨p0,0,none⟩)) x0) _ () ⟨O161,hB,h75,h77,h52⟩ ⟨rfl,rfl,rfl,rfl,trivial⟩ (fun _ _=>⟨rfl,rfl⟩) (fun _ _=>⟨rfl,trivial⟩) (fun _ _ _ ⟨O',hB,h75,h77,h52⟩=>⟨O',hB,h75,h52⟩) ⟨rfl,rfl,rfl⟩ ⟨rfl,rfl⟩ ?_)
   rintro k171 a172 s169 x170 w173 cc175 hx176 ⟨O174,hB,h75,h77,h52⟩ hf177 hret178 hbrk179
   have rk171:inI64 (k171:Int):=rngK hx176 l166
   refine Ah (Ae ?_)
   obtain ⟨a182,e183,hf177⟩:=bs hf177
   obtain ⟨b184,o185,ce186,hA187,hl188,hd189,rfl⟩:=h77.elem e183
   refine o_iaE (hA:=hA187) (hj:=rfl) (hlt:=hl188) rfl rfl rfl ?_
   refine o_ld (hc:=cat0 hd189) rfl rfl ?_
   refine o_as rfl rfl (o_z ?_)
   refine Ah (Ae (o_mv rfl rfl (o_neS rfl rfl rfl (fun c191=>?_) fun c191=>?_)))
   ·
    replace hf177:=ip hf177 c191
    refine o_z ?_
    refine Ar rfl (Ah (Ae (o_miE rfl rfl ?_)))
    refine o_as rfl rfl (o_as rfl rfl (o_z ?_))
    refine Au ?_
    obtain rfl:=sm hf177
    obtain rfl:=hret178 _ rfl
    obtain rfl:=sm (Cv hm)
    obtain ⟨O',hS',hz,hl⟩:=hE.leave (fun q=>if q=2 then i0 else 0) rfl hB
    exact ret2 rfl (AG rfl) (AG rfl) ⟨O',hS',_,_,(Ob.leave h52 hz (hl 2 (by decide) (by decide)) hx0.2),rfl,(Vb.mono (Vb.nil _ _) hz),(vErr (by decide))⟩
   ·
    replace hf177:=im hf177 c191
    refine o_z ?_
    refine Aj rfl (Am ?_)
    obtain rfl:=sm hf177
    refine (?_:Exists _)
    exact ⟨_,(),rfl,⟨rfl,rfl,rfl,rfl,trivial⟩,_,hB,h75,h77,h52⟩
  rintro l192 w193 ⟨s196,x197,rfl,hs195,O194,hB,h75,h52⟩
  replace hm:=AY hm
  refine AP _ hs195 ?_
  refine Ah (Ae (o_mv rfl rfl (o_as rfl rfl (o_as rfl rfl (o_z ?_)))))
  refine Au ?_
  obtain ⟨O198,S199,h75⟩:=h75.freeze
  obtain rfl:=sm hm
  replace hB:=hB.st S199
  obtain ⟨O',hS',hz,hl⟩:=hE.leave (fun q=>if q=2 then i0 else 0) rfl hB
  replace h52:=h52.st S199
  exact ret2 rfl (AG rfl) (AG rfl) ⟨O',hS',_,_,(Ob.leave h52 hz (hl 2 (by decide) (by decide)) hx0.2),rfl,(Vb.mono h75 hz),(vErr (show inI64 0 from by decide))⟩
noncomputable def BG (x0:Pkr) (x1:List U64):Option Int :=
  bnd (rng (ρ:=Int) (fun (k13:Nat) (a14:U64) (s11:U64)=>bnd (shrU ((s11 ^^^ a14) * (13787848793156543929:U64)) 29) fun n31=>some (.next (((s11 ^^^ a14) * (13787848793156543929:U64)) ^^^ n31))) x1 0 ((BitVec.ofInt 64 (x1.length:Int)) + (11400714819323198485:U64))) fun res9=>fin res9 fun (s37:U64)=>bnd (shrU s37 2) fun n39=>some n39.toInt
theorem HH {w:World} {O:Lab} {p0 i0:Nat} {x0:Pkr} (hx0:Ob i0 w O (.pointer (some ⟨p0,0,none⟩)) x0) {vx1:Value} {x1:List U64} (hx1:Vb w (Fr 0 w O) vx1 x1) {r:Int} (hm:BG x0 x1=some r) :
    Fn Tryz.prog 96 [(.pointer (some ⟨p0,0,none⟩)),vx1] w fun v w'=>∃ O',St (eT i0) w O w' O'∧Ob i0 w' O' (.pointer (some ⟨p0,0,none⟩)) x0∧Vb w' (Fr 0 w' O') v r:=by
 obtain ⟨O0,hE,hz0,hl2⟩:=ent1 (w:=w) (O:=O) hx0.2
 have hx0':=Ob.leave hx0 hz0 hl2 (j:=2) (by decide)
 have hB:Bm w O0 w O0:=Bm.refl
 replace hx1:=hx1.mono hz0
 obtain ⟨A3,c4,rfl⟩:=hx1.form
 refine AL Tryz.func96 rfl Tryz.ntmps96 rfl ?_
 unfold BG at hm
 refine Ah (Ae (o_as rfl rfl (o_z ?_)))
 refine Ah (Ah (Ae (o_mv rfl rfl (o_pn rfl rfl ?_))))
 refine o_z ?_
 refine Aj rfl (Am (Ah (Ae (o_mv rfl rfl (o_ln rfl rfl ?_)))))
 have l6:x1.length≤9223372036854775807:=Nat.le_trans hx1.len.2.1 hx1.len.2.2
 have r5:inI64 (x1.length:Int):=rngNat l6
 refine o_cvU rfl rfl ?_
 refine o_uad (a:=(BitVec.ofInt 64 (x1.length:Int))) (b:=(11400714819323198485:U64)) rfl rfl rfl ?_
 refine o_as rfl rfl (o_z ?_)
 refine Ah (Ah (Ae (o_mv rfl rfl (o_ln rfl rfl ?_))))
 have l8:x1.length≤9223372036854775807:=Nat.le_trans hx1.len.2.1 hx1.len.2.2
 have r7:inI64 (x1.length:Int):=rngNat l8
 refine o_mv rfl rfl (o_z ?_)
 obtain ⟨res9,hL10,hm⟩:=bs hm
 refine AN (aft res9 (fun (s11:U64) (x12:Unit)=>[(5,(.int .u64 s11.toNat))]) (fun s11 x12 w'=>∃ O':Lab,Bm w O0 w' O'∧Ob 2 w' O' (.pointer (some ⟨p0,0,none⟩)) x0)) ?_ ?_
 ·
  refine Al (BD (σ:=U64) (X:=Unit) (x1.length) hL10 rfl l8 (fun (s11:U64) (x12:Unit)=>[(5,(.int .u64 s11.toNat)),(14,(.slice A3 x1.length c4))]) _ (fun s11 x12 w'=>∃ O':Lab,Bm w O0 w' O'∧Vb w' (Fr 0 w' O') (.slice A3 x1.length c4) x1∧Ob 2 w' O' (.pointer (some ⟨p0,0,none⟩)) x0) _ () ⟨O0,hB,hx1,hx0'⟩ ⟨rfl,rfl,rfl,rfl,trivial⟩ (fun _ _=>⟨rfl,rfl⟩) (fun _ _=>⟨rfl,trivial⟩) (fun _ _ _ ⟨O',hB,hx1,hx0'⟩=>⟨O',hB,hx0'⟩) ⟨rfl,rfl,rfl⟩ ⟨rfl,rfl⟩ ?_)
  rintro k13 a14 s11 x12 w15 cc17 hx18 ⟨O16,hB,hx1,hx0'⟩ hf19 hret20 hbrk21
  have rk13:inI64 (k13:Int):=rngK hx18 l8
  refine Ah (Ae ?_)
  obtain ⟨b24,o25,ce26,hA27,hl28,hd29,rfl⟩:=hx1.elem' hx18
  refine o_iaE (hA:=hA27) (hj:=rfl) (hlt:=hl28) rfl rfl rfl ?_
  refine o_ld (hc:=cat0 hd29) rfl rfl ?_
  refine o_as rfl rfl (o_z ?_)
  refine Ah (Ae (o_mv rfl rfl (o_mv rfl rfl (o_uxo (a:=s11) (b:=a14) rfl rfl rfl ?_))))
  refine o_as rfl rfl (o_z ?_)
  refine Ah (Ae (o_mv rfl rfl (o_uml (a:=(s11 ^^^ a14)) (b:=(13787848793156543929:U64)) rfl rfl rfl ?_)))
  refine o_as rfl rfl (o_z ?_)
  refine Ae (o_mv rfl rfl (o_mv rfl rfl ?_))
  obtain ⟨n31,e32,hf19⟩:=bs hf19
  refine o_usr (a:=((s11 ^^^ a14) * (13787848793156543929:U64))) (he:=e32) rfl rfl rfl ?_
  refine o_uxo (a:=((s11 ^^^ a14) * (13787848793156543929:U64))) (b:=n31) rfl rfl rfl ?_
  refine o_as rfl rfl (o_z ?_)
  obtain rfl:=sm hf19
  refine (?_:Exists _)
  exact ⟨_,(),rfl,⟨rfl,rfl,rfl,rfl,trivial⟩,_,hB,hx1,hx0'⟩
 rintro l33 w34 ⟨s37,x38,rfl,hs36,O35,hB,hx0'⟩
 replace hm:=AY hm
 refine AP _ hs36 ?_
 refine Ah (Ae (o_mv rfl rfl ?_))
 obtain ⟨n39,e40,hm⟩:=bs hm
 refine o_usr (a:=s37) (he:=e40) rfl rfl rfl ?_
 refine o_cvI (a:=n39) rfl rfl ?_
 refine o_as rfl rfl (o_z ?_)
 refine Au ?_
 obtain rfl:=sm hm
 obtain ⟨O',hS',hz,hl⟩:=hE.leave (fun q=>if q=2 then i0 else 0) rfl hB
 exact ret1v rfl (AG rfl) ⟨O',hS',(Ob.leave hx0' hz (hl 2 (by decide) (by decide)) hx0.2),(vInt (toIntR _))⟩
noncomputable def Bq (x0:List U64) (x1:List U64):Option Bool :=
  if (x0.length:Int)≠(x1.length:Int) then (some false) else (bnd (rng (ρ:=Bool) (fun (k18:Nat) (a19:U64) (s16:Unit)=>bnd (x1[k18]?) fun a36=>if (a19.toNat:Int)≠(a36.toNat:Int) then (some (.ret false)) else (some (.next ()))) x0 0 ()) fun res14=>fin res14 fun (s50:Unit)=>some true)
theorem EV {w:World} {A:Nat→Prop} (hA:∀ k,A k→k < w.heap.size) {vx0:Value} {x0:List U64} (hx0:Vb w A vx0 x0) {vx1:Value} {x1:List U64} (hx1:Vb w A vx1 x1) {r:Bool} (hm:Bq x0 x1=some r) :
    Fn Tryz.prog 97 [vx0,vx1] w fun v w'=>Ext w w'∧Vb w' (upA A w w') v r:=by
 obtain ⟨O,hB,hA0⟩:=enter hA
 replace hx0:=hx0.mono hA0
 obtain ⟨A3,c4,rfl⟩:=hx0.form
 replace hx1:=hx1.mono hA0
 obtain ⟨A5,c6,rfl⟩:=hx1.form
 refine AL Tryz.func97 rfl Tryz.ntmps97 rfl ?_
 unfold Bq at hm
 refine Ah (Ae (o_as rfl rfl (o_z ?_)))
 refine Ah (Ah (Ae (o_mv rfl rfl (o_ln rfl rfl ?_))))
 have l8:x0.length≤9223372036854775807:=Nat.le_trans hx0.len.2.1 hx0.len.2.2
 have r7:inI64 (x0.length:Int):=rngNat l8
 refine o_mv rfl rfl (o_ln rfl rfl ?_)
 have l10:x1.length≤9223372036854775807:=Nat.le_trans hx1.len.2.1 hx1.len.2.2
 have r9:inI64 (x1.length:Int):=rngNat l10
 refine o_neS rfl rfl rfl (fun c11=>?_) fun c11=>?_
 ·
  replace hm:=ip hm c11
  refine o_z ?_
  refine Ar rfl (Ah (Ae (o_as rfl rfl (o_z ?_))))
  refine Au ?_
  obtain rfl:=sm hm
  exact ret1v rfl (AG rfl) ⟨hB.ext,vBool⟩
 ·
  replace hm:=im hm c11
  refine o_z ?_
  refine Aj rfl (Am (Ah (Ah (Ae (o_mv rfl rfl (o_ln rfl rfl ?_))))))
  have l13:x0.length≤9223372036854775807:=Nat.le_trans hx0.len.2.1 hx0.len.2.2
  have r12:inI64 (x0.length:Int):=rngNat l13
  refine o_mv rfl rfl (o_z ?_)
  obtain ⟨res14,hL15,hm⟩:=bs hm
  refine AN (aft res14 (fun (s16:Unit) (x17:Unit)=>[]) (fun s16 x17 w'=>∃ O':Lab,Bs w A w' O')) ?_ ?_
  ·
   refine Al (BD (σ:=Unit) (X:=Unit) (x0.length) hL15 rfl l13 (fun (s16:Unit) (x17:Unit)=>[(0,(.slice A3 x0.length c4)),(1,(.slice A5 x1.length c6))]) _ (fun s16 x17 w'=>∃ O':Lab,Bs w A w' O'∧Vb w' (Fr 0 w' O') (.slice A3 x0.length c4) x0∧Vb w' (Fr 0 w' O') (.slice A5 x1.length c6) x1) _ () ⟨O,hB,hx0,hx1⟩ ⟨rfl,rfl,rfl,rfl,trivial⟩ (fun _ _=>⟨rfl,rfl⟩) (fun _ _=>trivial) (fun _ _ _ ⟨O',hB,hx0,hx1⟩=>⟨O',hB⟩) ⟨rfl,rfl,rfl⟩ ⟨rfl,rfl⟩ ?_)
   rintro k18 a19 s16 x17 w20 cc22 hx23 ⟨O21,hB,hx0,hx1⟩ hf24 hret25 hbrk26
   have rk18:inI64 (k18:Int):=rngK hx23 l13
   refine Ah (Ae (o_mv rfl rfl (o_as rfl rfl (o_z ?_))))
   refine Ah (BV (·=w20) [(0,true),(1,true),(2,true),(3,true),(4,true),(5,true),(6,true),(7,true),(8,true)] (by kernel_rfl) rfl (by kernel_rfl) rfl ?_)
   refine h_mv rfl rfl rfl (h_mv rfl rfl rfl ?_)
   obtain ⟨b29,o30,ce31,hA32,hl33,hd34,rfl⟩:=hx0.elem' hx23
   refine h_iaE (hA:=hA32) (hj:=rfl) (hlt:=hl33) rfl rfl rfl rfl ?_
   refine h_ldA (hc:=cat0 hd34) rfl rfl rfl ?_
   refine h_mv rfl rfl rfl (h_mv rfl rfl rfl ?_)
   obtain ⟨a36,e37,hf24⟩:=bs hf24
   obtain ⟨b38,o39,ce40,hA41,hl42,hd43,rfl⟩:=hx1.elem' e37
   refine h_iaE (hA:=hA41) (hj:=rfl) (hlt:=hl42) rfl rfl rfl rfl ?_
   refine h_ldA (hc:=cat0 hd43) rfl rfl rfl ?_
   refine h_neS rfl rfl rfl rfl (fun c45=>?_) fun c45=>?_
   ·
    replace hf24:=ip hf24 c45
    refine h_z ?_
    refine Ar rfl (Ah (Ae (o_as rfl rfl (o_z ?_))))
    refine Au ?_
    obtain rfl:=sm hf24
    obtain rfl:=hret25 _ rfl
    obtain rfl:=sm (Cv hm)
    exact ret1v rfl (AG rfl) ⟨hB.ext,vBool⟩
   ·
    replace hf24:=im hf24 c45
    refine h_z ?_
    refine Aj rfl (Am ?_)
    obtain rfl:=sm hf24
    refine (?_:Exists _)
    exact ⟨_,(),rfl,⟨rfl,rfl,rfl,rfl,trivial⟩,_,hB,hx0,hx1⟩
  rintro l46 w47 ⟨s50,x51,rfl,hs49,O48,hB⟩
  replace hm:=AY hm
  refine AP _ hs49 ?_
  refine Ah (Ae (o_as rfl rfl (o_z ?_)))
  refine Au ?_
  obtain rfl:=sm hm
  exact ret1v rfl (AG rfl) ⟨hB.ext,vBool⟩
end
section
open Go Go.RowKit
attribute [local irreducible] ewp owp hwp hwq hws Ev Evg Fn retPost loud loudS Res1
attribute [local irreducible] hwx loudX
instance:TMap Tryz.prog 140 3 22:=⟨Tryz.underlying140⟩
instance:TKey Tryz.prog 3 Int:=⟨Tryz.underlying3⟩
structure RLk where
  parent:Int
  op:Int
  cost:Int
structure REn where
  words:List U64
  link:RLk
instance:Rp REn where
  isAgg:=true
  size:=4
  R w F cs x:=∃ v0,cs=[v0,.int .i64 x.link.parent,.int .i64 x.link.op,.int .i64 x.link.cost]∧Vb w F v0 x.words∧inI64 x.link.parent∧inI64 x.link.op∧inI64 x.link.cost
  len:=by rintro w F cs x ⟨v0,rfl,h0,h1,h2,h3⟩;rfl
  one:=by rintro w F cs x ⟨v0,rfl,h0,h1,h2,h3⟩ u hu;simp at hu;rcases hu with rfl|rfl|rfl|rfl<;>first|rfl|exact Vb.one rfl (by assumption)
  agree:=by rintro w w' F cs x ⟨v0,rfl,h0,h1,h2,h3⟩ ha;exact ⟨v0,rfl,h0.agree ha,h1,h2,h3⟩
  mono:=by rintro w F G cs x ⟨v0,rfl,h0,h1,h2,h3⟩ ha;exact ⟨v0,rfl,h0.mono ha,h1,h2,h3⟩
structure Reg where
  packer:Pkr
  entries:List REn
  table:MapR 3 Int Int
instance:Ow Reg where
  R w F M v x:=∃ (g:Nat) (L:Lab) (c0 c1 c2:Value),v=.pointer (some ⟨g,0,none⟩)∧Blk w g 142 [c0,c1,c2]∧M g∧L g=0∧Ow.R w F (fun k=>M k∧L k=1) c0 x.packer∧RwM w F (fun k=>M k∧L k=2) 148 c1 x.entries∧Ow.R w F (fun k=>M k∧L k=3) c2 x.table
  agree:=by rintro w w' F M v x ⟨g,L,c0,c1,c2,rfl,hb,hM,hL,h0,h1,h2⟩ a1 a2;exact ⟨g,L,c0,c1,c2,rfl,hb.keep (a2 g hM),hM,hL,Ow.agree h0 a1 fun k hk=>a2 k hk.1,h1.agree a1 fun k hk=>a2 k hk.1,Ow.agree h2 a1 fun k hk=>a2 k hk.1⟩
  mono:=by rintro w F M F' M' v x ⟨g,L,c0,c1,c2,rfl,hb,hM,hL,h0,h1,h2⟩ a1 a2 a3;exact ⟨g,L,c0,c1,c2,rfl,hb,a2 g hM,hL,Ow.mono h0 a1 (fun k hk=>⟨a2 k hk.1,hk.2⟩) fun k hf hm=>a3 k hf hm.1,h1.mono a1 (fun k hk=>⟨a2 k hk.1,hk.2⟩) fun k hf hm=>a3 k hf hm.1,Ow.mono h2 a1 (fun k hk=>⟨a2 k hk.1,hk.2⟩) fun k hf hm=>a3 k hf hm.1⟩
instance:OwP Reg:=⟨by rintro w F M v x ⟨g,L,c0,c1,c2,rfl,_⟩;exact ⟨g,rfl⟩⟩
theorem Reg.opn {i:Nat} {w:World} {O:Lab} {p:Nat} {x:Reg} (h:Ob i w O (.pointer (some ⟨p,0,none⟩)) x) (l0 l1 l2 l3:Nat) (hl:l0≠0∧l1≠0∧l2≠0∧l3≠0):∃ (O':Lab) (c0 c1 c2:Value),St (eT i) w O w O'∧(∀ k,Fr i w O k→∃ q,q∈[l0,l1,l2,l3]∧Fr q w O' k)∧Lc l0 w O' p 142 [c0,c1,c2]∧Ob l1 w O' c0 x.packer∧Rw l2 w O' 148 c1 x.entries∧Ob l3 w O' c2 x.table:=by
  obtain ⟨⟨g,L,c0,c1,c2,hv,hb,hM,hL,h0,h1,h2⟩,hi⟩:=h
  obtain rfl:p=g:=by injection hv with hv;injection hv with hv;injection hv
  exact ⟨part O i L [l0,l1,l2,l3],c0,c1,c2,Id hi,GJ (by simp),⟨hb,(DO (j:=0) rfl p ⟨hM,hL⟩).2⟩,⟨Ow.mono h0 (CZ hi) (DO (j:=1) rfl) (frNe0 hl.2.1),hl.2.1⟩,h1.rw (CZ hi) (DO (j:=2) rfl) hl.2.2.1,⟨Ow.mono h2 (CZ hi) (DO (j:=3) rfl) (frNe0 hl.2.2.2),hl.2.2.2⟩⟩
theorem Reg.shut {w:World} {O:Lab} {p:Nat} {x:Reg} {l0 l1 l2 l3:Nat} {c0 c1 c2:Value} (hd:¬ 0∈[l0,l1,l2,l3]∧[l0,l1,l2,l3].idxOf l0=0∧[l0,l1,l2,l3].idxOf l1=1∧[l0,l1,l2,l3].idxOf l2=2∧[l0,l1,l2,l3].idxOf l3=3) (hb:Lc l0 w O p 142 [c0,c1,c2]) (h0:Ob l1 w O c0 x.packer) (h1:Rw l2 w O 148 c1 x.entries) (h2:Ob l3 w O c2 x.table):∃ O',St (·∈[l0,l1,l2,l3]) w O w O'∧(∀ k,Fr 0 w O k→Fr 0 w O' k)∧(∀ q,q∈[l0,l1,l2,l3]→∀ k,Fr q w O k→Fr l0 w O' k)∧Ob l0 w O' (.pointer (some ⟨p,0,none⟩)) x:=by
  have hb1:l0≠0:=fun e=>hd.1 (by simp [e])
  have hg:=Do (i:=l0) hd.2.1 (by simp) p ⟨hb.1.lt,hb.2⟩
  exact ⟨whole O l0 [l0,l1,l2,l3],GK,Cj hd.1,FZ,⟨p,fun k=>[l0,l1,l2,l3].idxOf (O k),c0,c1,c2,rfl,hb.1,hg.1,hg.2,Ow.mono h0.1 (Cj hd.1) (Do hd.2.2.1 (by simp)) (fun k a b=>frNe0 hb1 k a b.1),h1.m (Cj hd.1) (Do hd.2.2.2.1 (by simp)) (fun k a b=>frNe0 hb1 k a b.1),Ow.mono h2.1 (Cj hd.1) (Do hd.2.2.2.2 (by simp)) (fun k a b=>frNe0 hb1 k a b.1)⟩,hb1⟩
noncomputable def CJ (x0:List Int):Option ((Option Reg)×Err) :=
  bnd (DD x0) fun q4=>if q4.2.n≠0 then (some (none,(⟨q4.2.n⟩:Err))) else (bnd q4.1 fun o22=>some ((some (⟨o22,([]:List REn),(⟨[]⟩:MapR 3 Int Int)⟩:Reg)),(⟨0⟩:Err)))
theorem Jy {w:World} {O:Lab} {vx0:Value} {x0:List Int} (hx0:Vb w (Fr 0 w O) vx0 x0) (j0:Nat) (hj0:j0≠0) {r:(Option Reg)×Err} (hm:CJ x0=some r) :
    Fn Tryz.prog 77 [vx0] w fun v w'=>∃ O',St nT w O w' O'∧∃ v0 v1:Value,v=.tuple #[v0,v1]∧Obo j0 w' O' v0 r.1∧Vb w' (Fr 0 w' O') v1 r.2:=by
 obtain ⟨O0,hE,hz0⟩:=ent0 (w:=w) (O:=O)
 have hB:Bm w O0 w O0:=Bm.refl
 replace hx0:=hx0.mono hz0
 obtain ⟨A2,c3,rfl⟩:=hx0.form
 refine AL Tryz.func77 rfl Tryz.ntmps77 rfl ?_
 unfold CJ at hm
 refine Ah (Ae (o_as rfl rfl (o_as rfl rfl (o_z ?_))))
 refine Ah (Ae (o_mv rfl rfl ?_))
 obtain ⟨q4,e5,hm⟩:=bs hm
 refine BZ (O:=O0) (Me hx0 2 (by decide) e5) rfl rfl fun v10 w6 O7 S8 h9=>?_
 obtain ⟨v11,v12,rfl,h13,h14⟩:=h9
 obtain ⟨rfl,r15⟩:=h14.err
 refine o_mv rfl rfl (o_ex rfl rfl rfl (o_ex rfl rfl rfl (o_as rfl rfl (o_as rfl rfl (o_z ?_)))))
 refine Ah (Ah (Ae (o_mv rfl rfl (o_rnS rfl rfl (fun c16=>?_) fun c16=>?_))))
 ·
  replace hm:=ip hm c16
  refine o_z ?_
  refine Ar rfl (Ah (Ae (o_mv rfl rfl (o_as rfl rfl (o_as rfl rfl (o_z ?_))))))
  refine Au ?_
  obtain rfl:=sm hm
  replace hB:=hB.st S8
  obtain ⟨O',hS',hz,hl⟩:=hE.leave (fun _=>0) rfl hB
  exact ret2 rfl (AG rfl) (AG rfl) ⟨O',hS',_,_,rfl,rfl,(vErr r15)⟩
 ·
  replace hm:=im hm c16
  refine o_z ?_
  refine Aj rfl (Am (Ah (Ae (o_mv rfl rfl (Nn (K:=Int) (V:=Int) 3 3 (by decide) O7 rfl fun p17 w18 O19 S20 h21=>?_)))))
  obtain ⟨o22,e23,hm⟩:=bs hm
  replace h13:=h13.st S20
  rw [e23] at h13
  obtain ⟨p24,rfl⟩:=Ob.ptr h13
  refine o_bd rfl rfl rfl ?_
  refine l_box 4 O19 rfl rfl fun g25 w26 O27 S28 h29=>?_
  replace h29:Lc 4 w26 O27 g25 142 [(.pointer (some ⟨p24,0,none⟩)),(.slice none 0 0),(.map (some p17))]:=h29
  refine o_as rfl rfl (o_as rfl rfl (o_z ?_))
  refine Au ?_
  have h30:Rw 5 w26 O27 148 (.slice none 0 0) ([]:List REn):=Rw.nil 5 (by decide)
  replace h13:=h13.st S28
  replace h21:=h21.st S28
  obtain ⟨O32,S33,hz35,ha36,h34⟩:=Reg.shut (x:=(⟨o22,([]:List REn),(⟨[]⟩:MapR 3 Int Int)⟩:Reg)) (l0:=4) (l1:=2) (l2:=5) (l3:=3) (by decide) h29 h13 h30 h21
  obtain rfl:=sm hm
  replace hB:=(((hB.st S8).st S20).st S28).st S33
  obtain ⟨O',hS',hz,hl⟩:=hE.leave (fun q=>if q=4 then j0 else 0) rfl hB
  exact ret2 rfl (AG rfl) (AG rfl) ⟨O',hS',_,_,rfl,(Ob.leave h34 hz (hl 4 (by decide) (by decide)) hj0),(vErr (show inI64 0 from by decide))⟩
noncomputable def Bo (x0:Reg) (x1:List Int):Option ((List U64)×Int×Int×Err) :=
  bnd (Bx x0.packer x1) fun q20=>if q20.2.n≠0 then (some (([]:List U64),0,(-1),(⟨2⟩:Err))) else (bnd (BG x0.packer q20.1) fun q41=>bnd (rng (ρ:=(List U64)×Int×Int×Err) (fun (k66:Nat) (a67:Int) (s64:Unit)=>bnd (atI x0.entries a67) fun a100=>bnd (Bq a100.words q20.1) fun q118=>if q118=true then some (.ret (q20.1,q41,a67,(⟨0⟩:Err))) else some (.next ())) (mget ([]:List Int) x0.table.l q41) 0 ()) fun res62=>fin res62 fun (s139:Unit)=>some (q20.1,q41,(-1),(⟨0⟩:Err)))
theorem FQ {w:World} {O:Lab} {p0 i0:Nat} {x0:Reg} (hx0:Ob i0 w O (.pointer (some ⟨p0,0,none⟩)) x0) {vx1:Value} {x1:List Int} (hx1:Vb w (Fr 0 w O) vx1 x1) {r:(List U64)×Int×Int×Err} (hm:Bo x0 x1=some r) :
    Fn Tryz.prog 83 [(.pointer (some ⟨p0,0,none⟩)),vx1] w fun v w'=>∃ O',St (eT i0) w O w' O'∧∃ v0 v1 v2 v3:Value,Ob i0 w' O' (.pointer (some ⟨p0,0,none⟩)) x0∧v=.tuple #[v0,v1,v2,v3]∧Vb w' (Fr 0 w' O') v0 r.1∧Vb w' (Fr 0 w' O') v1 r.2.1∧Vb w' (Fr 0 w' O') v2 r.2.2.1∧Vb w' (Fr 0 w' O') v3 r.2.2.2:=by
 obtain ⟨O0,hE,hz0,hl2⟩:=ent1 (w:=w) (O:=O) hx0.2
 have hx0':=Ob.leave hx0 hz0 hl2 (j:=2) (by decide)
 have hB:Bm w O0 w O0:=Bm.refl
 replace hx1:=hx1.mono hz0
 obtain ⟨A3,c4,rfl⟩:=hx1.form
 refine AL Tryz.func83 rfl Tryz.ntmps83 rfl ?_
 unfold Bo at hm
 refine Ah (Ae (o_as rfl rfl (o_as rfl rfl (o_as rfl rfl (o_as rfl rfl (o_z ?_))))))
 refine Ah (Ae (o_mv rfl rfl (o_nc rfl rfl ?_)))
 obtain ⟨O5,v9,v12,v17,S6,ha8,h7,h10,h13,h18⟩:=Reg.opn hx0' 2 3 4 5 (by decide)
 obtain ⟨p11,rfl⟩:=h10.ptr
 obtain ⟨A14,c15,rfl⟩:=h13.form
 obtain ⟨p19,rfl⟩:=h18.mptr
 refine o_fa rfl rfl (o_ld (hc:=Blk.cell (i:=0) (h7.1) rfl) rfl rfl ?_)
 refine o_mv rfl rfl ?_
 obtain ⟨q20,e21,hm⟩:=bs hm
 replace hx1:=hx1.st S6
 refine BZ (O:=O5) (HG h10 hx1 e21) rfl rfl fun v26 w22 O23 S24 h25=>?_
 obtain ⟨v28,v29,h27,rfl,h30,h31⟩:=h25
 obtain ⟨A32,c33,rfl⟩:=h30.form
 obtain ⟨rfl,r34⟩:=h31.err
 refine o_mv rfl rfl (o_ex rfl rfl rfl (o_ex rfl rfl rfl (o_as rfl rfl (o_as rfl rfl (o_z ?_)))))
 refine Ah (Ah (Ae (o_mv rfl rfl (o_rnS rfl rfl (fun c35=>?_) fun c35=>?_))))
 ·
  replace hm:=ip hm c35
  refine o_z ?_
  refine Ar rfl (Ah (Ae (o_miE rfl rfl ?_)))
  refine o_as rfl rfl (o_as rfl rfl (o_as rfl rfl (o_as rfl rfl (o_z ?_))))
  refine Au ?_
  replace h7:=h7.st S24
  replace h13:=h13.st S24
  replace h18:=h18.st S24
  obtain ⟨O36,S37,hz39,ha40,h38⟩:=Reg.shut (x:=x0) (l0:=2) (l1:=3) (l2:=4) (l3:=5) (by decide) h7 h27 h13 h18
  obtain rfl:=sm hm
  replace hB:=((hB.st S6).st S24).st S37
  obtain ⟨O',hS',hz,hl⟩:=hE.leave (fun q=>if q=2 then i0 else 0) rfl hB
  exact ret4 rfl (AG rfl) (AG rfl) (AG rfl) (AG rfl) ⟨O',hS',_,_,_,_,(Ob.leave h38 hz (hl 2 (by decide) (by decide)) hx0.2),rfl,(Vb.mono (Vb.nil _ _) hz),(vInt (show inI64 (0) from by decide)),(vInt (show inI64 (-1) from by decide)),(vErr (by decide))⟩
 ·
  replace hm:=im hm c35
  refine o_z ?_
  refine Aj rfl (Am (Ah (Ae (o_mv rfl rfl (o_nc rfl rfl (o_fa rfl rfl ?_))))))
  replace h7:=h7.st S24
  refine o_ld (hc:=Blk.cell (i:=0) (h7.1) rfl) rfl rfl ?_
  refine o_mv rfl rfl ?_
  obtain ⟨q41,e42,hm⟩:=bs hm
  refine BZ (O:=O23) (HH h27 h30 e42) rfl rfl fun v47 w43 O44 S45 h46=>?_
  obtain ⟨h48,h49⟩:=h46
  obtain ⟨rfl,r50⟩:=h49.int
  refine o_as rfl rfl (o_z ?_)
  refine Ah (Ah (Ae (o_mv rfl rfl (o_nc rfl rfl (o_fa rfl rfl ?_)))))
  replace h7:=h7.st S45
  refine o_ld (hc:=Blk.cell (i:=2) (h7.1) rfl) rfl rfl ?_
  refine o_mv rfl rfl ?_
  replace h18:=(h18.st S24).st S45
  obtain ⟨A53,c54,hl51,h52⟩:=MapR.get h18 q41
  refine o_lk q41 hl51 rfl rfl rfl ?_
  refine o_ln rfl rfl ?_
  have l56:(mget ([]:List Int) x0.table.l q41).length≤9223372036854775807:=Nat.le_trans h52.len.2.1 h52.len.2.2
  have r55:inI64 ((mget ([]:List Int) x0.table.l q41).length:Int):=rngNat l56
  refine o_mv rfl rfl (o_z ?_)
  replace h13:=(h13.st S24).st S45
  obtain ⟨O57,S58,hz60,ha61,h59⟩:=Reg.shut (x:=x0) (l0:=2) (l1:=3) (l2:=4) (l3:=5) (by decide) h7 h48 h13 h18
  replace h52:=h52.shutS S58 hz60 ha61 [2] (by decide)
  obtain ⟨res62,hL63,hm⟩:=bs hm
  refine AN (aft res62 (fun (s64:Unit) (x65:Unit)=>[(8,(.slice A32 q20.1.length c33)),(10,(.int .i64 q41))]) (fun s64 x65 w'=>∃ O':Lab,Bm w O0 w' O'∧Vb w' (Fr 0 w' O') (.slice A32 q20.1.length c33) q20.1∧Ob 2 w' O' (.pointer (some ⟨p0,0,none⟩)) x0)) ?_ ?_
  ·
   refine Al ?_
   replace hB:=(((hB.st S6).st S24).st S45).st S58
   replace h30:=(h30.st S45).st S58
   refine BD (σ:=Unit) (X:=Unit) ((mget ([]:List Int) x0.table.l q41).length) hL63 rfl l56 (fun (s64:Unit) (x65:Unit)=>[(0,(.pointer (some ⟨p0,0,none⟩))),(8,(.slice A32 q20.1.length c33)),(10,(.int .i64 q41)),(36,(.slice A53 (mget ([]:List Int) x0.table.l q41).length c54))]) _ (fun s64 x65 w'=>∃ O':Lab,Bm w O0 w' O'∧Ob 2 w' O' (.pointer (some ⟨p0,0,none⟩)) x0∧Vb w' (Fr 0 w' O') (.slice A32 q20.1.length c33) q20.1∧Vb w' (FrS [2] w' O') (.slice A53 (mget ([]:List Int) x0.table.l q41).length c54) (mget ([]:List Int) x0.table.l q41)) _ () ⟨O57,hB,h59,h30,h52⟩ ⟨rfl,rfl,rfl,rfl,rfl,rfl,trivial⟩ (fun _ _=>⟨rfl,rfl⟩) (fun _ _=>⟨rfl,rfl,trivial⟩) (fun _ _ _ ⟨O',hB,h59,h30,h52⟩=>⟨O',hB,h30,h59⟩) ⟨rfl,rfl,rfl⟩ ⟨rfl,rfl⟩ ?_
   rintro k66 a67 s64 x65 w68 cc70 hx71 ⟨O69,hB,h59,h30,h52⟩ hf72 hret73 hbrk74
   have rk66:inI64 (k66:Int):=rngK hx71 l56
   refine Ah (Ae ?_)
   obtain ⟨b77,o78,ce79,hA80,hl81,hd82,rfl,r84⟩:=h52.elem' hx71
   refine o_iaE (hA:=hA80) (hj:=rfl) (hlt:=hl81) rfl rfl rfl ?_
   refine o_ld (hc:=cat0 hd82) rfl rfl ?_
   refine o_as rfl rfl (o_z ?_)
   refine Ah (Ae (o_mv rfl rfl (o_nc rfl rfl ?_)))
   obtain ⟨O85,v89,v92,v97,S86,ha88,h87,h90,h93,h98⟩:=Reg.opn h59 2 3 4 5 (by decide)
   obtain ⟨p91,rfl⟩:=h90.ptr
   obtain ⟨A94,c95,rfl⟩:=h93.form
   obtain ⟨p99,rfl⟩:=h98.mptr
   replace h52:=h52.opnS S86 (by decide) ha88 [2,3,4,5] (by decide)
   refine o_fa rfl rfl (o_ld (hc:=Blk.cell (i:=1) (h87.1) rfl) rfl rfl ?_)
   refine o_mv rfl rfl ?_
   obtain ⟨a100,e101,hf72⟩:=bs hf72
   obtain ⟨p103,x102⟩:=AO e101
   obtain ⟨b104,o105,ce106,hA107,hl108,hd109,v111,rfl,h112,r115,r116,r117⟩:=h93.elem x102
   obtain ⟨A113,c114,rfl⟩:=h112.form
   refine o_iaE (hA:=hA107) (hj:=(Int.toNat_of_nonneg p103).symm) (hlt:=hl108) rfl rfl rfl ?_
   refine o_fa rfl rfl (o_ld (hc:=cat0 hd109) rfl rfl ?_)
   refine o_mv rfl rfl ?_
   obtain ⟨q118,e119,hf72⟩:=bs hf72
   replace h30:=h30.st S86
   refine BP (O:=O85) (A:=All w68) (R:=fun w' F v=>Vb w' F v q118) (EV (fun _ h=>h) (Vb.mono (F:=Fr 0 w68 O85) h112 Fr.lt) (Vb.mono (F:=Fr 0 w68 O85) h30 Fr.lt) e119) rfl rfl fun v124 w120 O121 S122 h123=>?_
   obtain rfl:=h123.bool
   replace h52:=h52.stS S122 id (fun _ _=>id)
   cases q118
   case false =>
    replace hf72:=iF hf72
    refine o_z ?_
    refine Aj rfl (Am ?_)
    replace h87:=h87.st S122
    replace h90:=h90.st S122
    replace h93:=h93.st S122
    replace h98:=h98.st S122
    obtain ⟨O125,S126,hz128,ha129,h127⟩:=Reg.shut (x:=x0) (l0:=2) (l1:=3) (l2:=4) (l3:=5) (by decide) h87 h90 h93 h98
    replace h52:=h52.shutS S126 hz128 ha129 [2] (by decide)
    obtain rfl:=sm hf72
    refine (?_:Exists _)
    replace hB:=((hB.st S86).st S122).st S126
    replace h30:=(h30.st S122).st S126
    exact ⟨_,(),rfl,⟨rfl,rfl,rfl,rfl,rfl,rfl,trivial⟩,_,hB,h127,h30,h52⟩
   replace hf72:=iT hf72
   refine o_z ?_
   refine Ar rfl (Ah (Ae (o_mv rfl rfl (o_mv rfl rfl (o_mv rfl rfl (o_as rfl rfl (o_as rfl rfl (o_as rfl rfl (o_as rfl rfl (o_z ?_))))))))))
   refine Au ?_
   replace h87:=h87.st S122
   replace h90:=h90.st S122
   replace h93:=h93.st S122
   replace h98:=h98.st S122
   obtain ⟨O130,S131,hz133,ha134,h132⟩:=Reg.shut (x:=x0) (l0:=2) (l1:=3) (l2:=4) (l3:=5) (by decide) h87 h90 h93 h98
   obtain rfl:=sm hf72
   obtain rfl:=hret73 _ rfl
   obtain rfl:=sm (Cv hm)
   replace hB:=((hB.st S86).st S122).st S131
   obtain ⟨O',hS',hz,hl⟩:=hE.leave (fun q=>if q=2 then i0 else 0) rfl hB
   replace h30:=(h30.st S122).st S131
   exact ret4 rfl (AG rfl) (AG rfl) (AG rfl) (AG rfl) ⟨O',hS',_,_,_,_,(Ob.leave h132 hz (hl 2 (by decide) (by decide)) hx0.2),rfl,(Vb.mono h30 hz),(vInt r50),(vInt r84),(vErr (show inI64 0 from by decide))⟩
  replace hB:=(((hB.st S6).st S24).st S45).st S58
  replace h30:=(h30.st S45).st S58
  rintro l135 w136 ⟨s139,x140,rfl,hs138,O137,hB,h30,h59⟩
  replace hm:=AY hm
  refine AP _ hs138 ?_
  refine Ah (Ae (o_mv rfl rfl (o_mv rfl rfl (o_as rfl rfl (o_as rfl rfl (o_as rfl rfl (o_as rfl rfl (o_z ?_))))))))
  refine Au ?_
  obtain rfl:=sm hm
  obtain ⟨O',hS',hz,hl⟩:=hE.leave (fun q=>if q=2 then i0 else 0) rfl hB
  exact ret4 rfl (AG rfl) (AG rfl) (AG rfl) (AG rfl) ⟨O',hS',_,_,_,_,(Ob.leave h59 hz (hl 2 (by decide) (by decide)) hx0.2),rfl,(Vb.mono h30 hz),(vInt r50),(vInt (show inI64 (-1) from by decide)),(vErr (show inI64 0 from by decide))⟩
noncomputable def Bj (x0:Reg) (x1:List Int):Option (Int×Bool×Err×Reg) :=
  bnd (Bo x0 x1) fun q5=>if q5.2.2.2.n≠0 then (some (0,false,(⟨q5.2.2.2.n⟩:Err),x0)) else (if 0≤q5.2.2.1 then (some (q5.2.2.1,false,(⟨0⟩:Err),x0)) else (if 65536≤(x0.entries.length:Int) then (some (0,false,(⟨10⟩:Err),x0)) else (bnd (appI 48 x0.entries [(⟨q5.1,(⟨(-1),(-1),0⟩:RLk)⟩:REn)]) fun u53=>bnd (appI 8 (mget ([]:List Int) x0.table.l q5.2.1) ([(x0.entries.length:Int)]:List Int)) fun u82=>some ((x0.entries.length:Int),true,(⟨0⟩:Err),(⟨x0.packer,u53,(⟨mput x0.table.l q5.2.1 u82⟩:MapR 3 Int Int)⟩:Reg)))))
theorem Eh {w:World} {O:Lab} {p0 i0:Nat} {x0:Reg} (hx0:Ob i0 w O (.pointer (some ⟨p0,0,none⟩)) x0) {vx1:Value} {x1:List Int} (hx1:Vb w (Fr 0 w O) vx1 x1) {r:Int×Bool×Err×Reg} (hm:Bj x0 x1=some r) :
    Fn Tryz.prog 62 [(.pointer (some ⟨p0,0,none⟩)),vx1] w fun v w'=>∃ O',St (eT i0) w O w' O'∧∃ v0 v1 v2:Value,Ob i0 w' O' (.pointer (some ⟨p0,0,none⟩)) r.2.2.2∧v=.tuple #[v0,v1,v2]∧Vb w' (Fr 0 w' O') v0 r.1∧Vb w' (Fr 0 w' O') v1 r.2.1∧Vb w' (Fr 0 w' O') v2 r.2.2.1:=by
 obtain ⟨O0,hE,hz0,hl2⟩:=ent1 (w:=w) (O:=O) hx0.2
 have hx0':=Ob.leave hx0 hz0 hl2 (j:=2) (by decide)
 have hB:Bm w O0 w O0:=Bm.refl
 replace hx1:=hx1.mono hz0
 obtain ⟨A3,c4,rfl⟩:=hx1.form
 refine AL Tryz.func62 rfl Tryz.ntmps62 rfl ?_
 unfold Bj at hm
 refine Ah (Ae (o_as rfl rfl (o_as rfl rfl (o_as rfl rfl (o_z ?_)))))
 refine Ah (Ah (Ae (o_mv rfl rfl (o_pn rfl rfl ?_))))
 refine o_z ?_
 refine Aj rfl (Am (Ah (Ae (o_mv rfl rfl (o_mv rfl rfl ?_)))))
 obtain ⟨q5,e6,hm⟩:=bs hm
 refine BZ (O:=O0) (FQ hx0' hx1 e6) rfl rfl fun v11 w7 O8 S9 h10=>?_
 obtain ⟨v13,v14,v15,v16,h12,rfl,h17,h18,h19,h20⟩:=h10
 obtain ⟨A21,c22,rfl⟩:=h17.form
 obtain ⟨rfl,r23⟩:=h18.int
 obtain ⟨rfl,r24⟩:=h19.int
 obtain ⟨rfl,r25⟩:=h20.err
 refine o_mv rfl rfl (o_ex rfl rfl rfl (o_ex rfl rfl rfl (o_ex rfl rfl rfl (o_ex rfl rfl rfl (o_as rfl rfl (o_as rfl rfl (o_as rfl rfl (o_as rfl rfl (o_z ?_)))))))))
 refine Ah (Al (Ah (Ae (o_mv rfl rfl (o_rnS rfl rfl (fun c26=>?_) fun c26=>?_)))))
 ·
  replace hm:=ip hm c26
  refine o_as rfl rfl (o_z ?_)
  refine Ar rfl (Ah (Ae (o_mv rfl rfl (o_as rfl rfl (o_as rfl rfl (o_as rfl rfl (o_z ?_)))))))
  refine Au ?_
  obtain rfl:=sm hm
  replace hB:=hB.st S9
  obtain ⟨O',hS',hz,hl⟩:=hE.leave (fun q=>if q=2 then i0 else 0) rfl hB
  exact ret3 rfl (AG rfl) (AG rfl) (AG rfl) ⟨O',hS',_,_,_,(Ob.leave h12 hz (hl 2 (by decide) (by decide)) hx0.2),rfl,(vInt (show inI64 (0) from by decide)),vBool,(vErr r25)⟩
 ·
  replace hm:=im hm c26
  refine o_as rfl rfl (o_z ?_)
  refine Aj rfl (Ah (Ae (o_mv rfl rfl (o_geS rfl rfl rfl (fun c27=>?_) fun c27=>?_))))
  ·
   replace hm:=ip hm c27
   refine o_as rfl rfl (o_z ?_)
   refine Ar rfl (Ah (Ae (o_mv rfl rfl (o_as rfl rfl (o_as rfl rfl (o_as rfl rfl (o_z ?_)))))))
   refine Au ?_
   obtain rfl:=sm hm
   replace hB:=hB.st S9
   obtain ⟨O',hS',hz,hl⟩:=hE.leave (fun q=>if q=2 then i0 else 0) rfl hB
   exact ret3 rfl (AG rfl) (AG rfl) (AG rfl) ⟨O',hS',_,_,_,(Ob.leave h12 hz (hl 2 (by decide) (by decide)) hx0.2),rfl,(vInt r24),vBool,(vErr (show inI64 0 from by decide))⟩
  ·
   replace hm:=im hm c27
   refine o_as rfl rfl (o_z ?_)
   refine Aj rfl (Ah (Ae (o_mv rfl rfl (o_nc rfl rfl ?_))))
   obtain ⟨O28,v32,v35,v40,S29,ha31,h30,h33,h36,h41⟩:=Reg.opn h12 2 3 4 5 (by decide)
   obtain ⟨p34,rfl⟩:=h33.ptr
   obtain ⟨A37,c38,rfl⟩:=h36.form
   obtain ⟨p42,rfl⟩:=h41.mptr
   refine o_fa rfl rfl (o_ld (hc:=Blk.cell (i:=1) (h30.1) rfl) rfl rfl ?_)
   refine o_ln rfl rfl ?_
   have l44:x0.entries.length≤9223372036854775807:=Nat.le_trans h36.len.2.1 h36.len.2.2
   have r43:inI64 (x0.entries.length:Int):=rngNat l44
   refine o_geS rfl rfl rfl (fun c45=>?_) fun c45=>?_
   ·
    replace hm:=ip hm c45
    refine o_as rfl rfl (o_z ?_)
    refine Ar rfl (Ah (Ae (o_miE rfl rfl ?_)))
    refine o_as rfl rfl (o_as rfl rfl (o_as rfl rfl (o_z ?_)))
    refine Au ?_
    obtain ⟨O46,S47,hz49,ha50,h48⟩:=Reg.shut (x:=x0) (l0:=2) (l1:=3) (l2:=4) (l3:=5) (by decide) h30 h33 h36 h41
    obtain rfl:=sm hm
    replace hB:=((hB.st S9).st S29).st S47
    obtain ⟨O',hS',hz,hl⟩:=hE.leave (fun q=>if q=2 then i0 else 0) rfl hB
    exact ret3 rfl (AG rfl) (AG rfl) (AG rfl) ⟨O',hS',_,_,_,(Ob.leave h48 hz (hl 2 (by decide) (by decide)) hx0.2),rfl,(vInt (show inI64 (0) from by decide)),vBool,(vErr (by decide))⟩
   ·
    replace hm:=im hm c45
    refine o_as rfl rfl (o_z ?_)
    refine Aj rfl (Am (Ah (Ae (o_mv rfl rfl (o_nc rfl rfl (o_fa rfl rfl (o_ld (hc:=Blk.cell (i:=1) (h30.1) rfl) rfl rfl ?_)))))))
    refine o_ln rfl rfl ?_
    have l52:x0.entries.length≤9223372036854775807:=Nat.le_trans h36.len.2.1 h36.len.2.2
    have r51:inI64 (x0.entries.length:Int):=rngNat l52
    refine o_as rfl rfl (o_z ?_)
    refine Ah (Ae (o_mv rfl rfl (o_mv rfl rfl (o_nc rfl rfl (o_fa rfl rfl (o_ld (hc:=Blk.cell (i:=1) (h30.1) rfl) rfl rfl ?_))))))
    refine o_mv rfl rfl (o_bd rfl rfl rfl ?_)
    refine o_bd rfl rfl rfl ?_
    obtain ⟨u53,e54,hm⟩:=bs hm
    obtain ⟨e54,e55,e56⟩:=AU e54
    replace h17:=h17.st S29
    refine Cu rfl (a:=(⟨q5.1,(⟨(-1),(-1),0⟩:RLk)⟩:REn)) h36 (Vb.ofAgg (cs:=[(.slice A21 q5.1.length c22),(.int .i64 (-1)),(.int .i64 (-1)),(.int .i64 0)]) (x:=(⟨q5.1,(⟨(-1),(-1),0⟩:RLk)⟩:REn)) rfl ⟨_,rfl,h17,(show inI64 (-1) from by decide),(show inI64 (-1) from by decide),(show inI64 (0) from by decide)⟩) (fun _=>rfl) rfl (by decide) (by decide) e55 e56 ⟨rfl,rfl⟩ fun g57 A58 c59 w60 O61 S62 h63=>?_
    rw [← e54] at h63 ⊢
    refine o_nc rfl rfl (o_fa rfl rfl ?_)
    replace h30:=h30.st S62
    refine AQ h30 rfl rfl rfl (Nat.le_of_ble_eq_true rfl) (by first|exact allOne rfl|simp [Value.cells,Value.oneCell',AM]) fun w65 S66 h30=>?_
    replace h30:Lc 2 w65 O61 p0 142 [(.pointer (some ⟨p34,0,none⟩)),(.slice A58 u53.length c59),(.map (some p42))]:=h30
    refine o_z ?_
    refine Ah (Bt [(13,[5,7])] O61 ?_)
    refine x_pre (fuel:=8) [] [(5,true),(6,true),(7,true),(8,true),(9,true),(10,true),(11,true)] (by kernel_rfl) rfl ?_
    refine h_mv rfl rfl rfl (h_nc rfl rfl rfl (h_fa rfl rfl rfl (h_ldC (hc:=fun w' ⟨O',hq⟩=>Blk.cell (i:=2) ((h30.st hq (by decide)).1) rfl) rfl rfl rfl ?_)))
    refine h_mv rfl rfl rfl ?_
    replace h41:=(h41.st S62).st S66
    obtain ⟨A69,c70,hl67,h68⟩:=MapR.get h41 q5.2.1
    refine h_lk q5.2.1 (fun w' ⟨O',hq⟩=>hl67.keep (hq.agree (i:=5) (by decide) _ (MapR.at h41))) rfl rfl rfl rfl ?_
    refine h_mv rfl rfl rfl (AK ?_)
    refine x_pre (fuel:=3) [5,7] [(0,true),(1,true),(2,true),(3,true),(4,true)] (by kernel_rfl) rfl ?_
    refine h_mv rfl rfl rfl (h_nc rfl rfl rfl (h_fa rfl rfl rfl (h_ldC (hc:=fun w' ⟨O',hq⟩=>Blk.cell (i:=2) ((h30.st hq (by decide)).1) rfl) rfl rfl rfl ?_)))
    refine h_mv rfl rfl rfl (AK ?_)
    refine x_one (i:=12) (by kernel_rfl) rfl ?_
    refine Bf 6 (by decide) O61 (xs:=(([(x0.entries.length:Int)]:List Int):List Int)) rfl rfl rfl rfl ⟨(vInt r51),trivial⟩ (by decide) (by decide) rfl fun g71 w72 O73 S74 h75=>?_
    have hZ:=S74.lst [] (fun _ h=>h.elim)
    replace hl67:=hl67.keep (S74.agree (i:=5) id _ (MapR.at h41))
    replace h68:=h68.stS S74 id (fun _ _=>id)
    refine x_go [(13,[5,7])] hZ (by kernel_rfl) ?_
    refine x_one (i:=13) (by kernel_rfl) rfl ?_
    replace h41:=h41.st S74
    obtain ⟨O77,S78,h79,h80⟩:=MapR.take h41 hl67 7 (by decide) (by decide)
    have hZ:=S78.lst [5] (fun _ h=>by cases h;decide)
    obtain ⟨u82,e83,hm⟩:=bs hm
    obtain ⟨e83,e84,e85⟩:=AU e83
    replace h75:=h75.st S78
    refine BF rfl h80 (h75.rd) rfl rfl (by decide) e84 e85 rfl fun A86 c87 w88 O89 S90 h91=>?_
    rw [← e83] at h91 ⊢
    replace hZ:=hZ.cmp S90 [5,7] (fun _ h=>by cases h;decide) rfl
    refine x_go [] hZ (by kernel_rfl) ?_
    refine x_one (i:=14) (by kernel_rfl) rfl ?_
    replace h79:=h79.st S90
    refine NT h79 h91 (by decide) rfl rfl rfl fun w93 O94 S95 h96=>?_
    refine x_end (by kernel_rfl) ?_
    refine x_nil (by kernel_rfl) ?_
    refine Ah (Ae (o_mv rfl rfl (o_as rfl rfl (o_as rfl rfl (o_as rfl rfl (o_z ?_))))))
    refine Au ?_
    replace h30:=(((h30.st S74).st S78).st S90).st S95
    replace h33:=(((((h33.st S62).st S66).st S74).st S78).st S90).st S95
    replace h63:=((((h63.st S66).st S74).st S78).st S90).st S95
    obtain ⟨O97,S98,hz100,ha101,h99⟩:=Reg.shut (x:=(⟨x0.packer,u53,(⟨mput x0.table.l q5.2.1 u82⟩:MapR 3 Int Int)⟩:Reg)) (l0:=2) (l1:=3) (l2:=4) (l3:=5) (by decide) h30 h33 h63 h96
    obtain rfl:=sm hm
    replace hB:=((((((((hB.st S9).st S29).st S62).st S66).st S74).st S78).st S90).st S95).st S98
    obtain ⟨O',hS',hz,hl⟩:=hE.leave (fun q=>if q=2 then i0 else 0) rfl hB
    exact ret3 rfl (AG rfl) (AG rfl) (AG rfl) ⟨O',hS',_,_,_,(Ob.leave h99 hz (hl 2 (by decide) (by decide)) hx0.2),rfl,(vInt r51),vBool,(vErr (show inI64 0 from by decide))⟩
noncomputable def Ba (x0:Reg) (x1:Int):Option Bool :=
  bnd (if 0≤x1 then (if x1 < (x0.entries.length:Int) then (some true) else (some false)) else (some false):Option Bool) fun y3=>some y3
theorem CD {w:World} {O:Lab} {p0 i0:Nat} {x0:Reg} (hx0:Ob i0 w O (.pointer (some ⟨p0,0,none⟩)) x0) {x1:Int} (rx1:inI64 x1) {r:Bool} (hm:Ba x0 x1=some r) :
    Fn Tryz.prog 79 [(.pointer (some ⟨p0,0,none⟩)),(.int .i64 x1)] w fun v w'=>∃ O',St (eT i0) w O w' O'∧Ob i0 w' O' (.pointer (some ⟨p0,0,none⟩)) x0∧Vb w' (Fr 0 w' O') v r:=by
 obtain ⟨O0,hE,hz0,hl2⟩:=ent1 (w:=w) (O:=O) hx0.2
 have hx0':=Ob.leave hx0 hz0 hl2 (j:=2) (by decide)
 have hB:Bm w O0 w O0:=Bm.refl
 refine AL Tryz.func79 rfl Tryz.ntmps79 rfl ?_
 unfold Ba at hm
 refine Ah (Ae (o_as rfl rfl (o_z ?_)))
 refine Ah ?_
 obtain ⟨y3,hy4,hm⟩:=bs hm
 refine AN (fun l' w'=>∃ (x6:Unit) (O':Lab),subs l' [(4,(.bool y3))]∧Bm w O0 w' O'∧Ob 2 w' O' (.pointer (some ⟨p0,0,none⟩)) x0) ?_ ?_
 ·
  refine Ae (o_mv rfl rfl (o_geS rfl rfl rfl (fun c7=>?_) fun c7=>?_))
  ·
   replace hy4:=ip hy4 c7
   refine o_mv rfl rfl (AE rfl rfl (o_mv rfl rfl (AE rfl rfl (o_mv rfl rfl (AE rfl rfl (o_nc rfl rfl (AE rfl rfl ?_)))))))
   obtain ⟨O8,v12,v15,v20,S9,ha11,h10,h13,h16,h21⟩:=Reg.opn hx0' 2 3 4 5 (by decide)
   obtain ⟨p14,rfl⟩:=h13.ptr
   obtain ⟨A17,c18,rfl⟩:=h16.form
   obtain ⟨p22,rfl⟩:=h21.mptr
   refine o_fa rfl rfl (AE rfl rfl (o_ld (hc:=Blk.cell (i:=1) (h10.1) rfl) rfl rfl ?_))
   refine AE rfl rfl (o_ln rfl rfl ?_)
   have l24:x0.entries.length≤9223372036854775807:=Nat.le_trans h16.len.2.1 h16.len.2.2
   have r23:inI64 (x0.entries.length:Int):=rngNat l24
   refine AE rfl rfl (o_ltS rfl rfl rfl (fun c25=>?_) fun c25=>?_)
   ·
    replace hy4:=ip hy4 c25
    refine o_pt rfl rfl rfl (o_as rfl rfl (o_z ?_))
    obtain ⟨O26,S27,hz29,ha30,h28⟩:=Reg.shut (x:=x0) (l0:=2) (l1:=3) (l2:=4) (l3:=5) (by decide) h10 h13 h16 h21
    obtain rfl:=sm hy4
    replace hB:=(hB.st S9).st S27
    exact ⟨(),_,⟨rfl,trivial⟩,hB,h28⟩
   ·
    replace hy4:=im hy4 c25
    refine o_pt rfl rfl rfl (o_as rfl rfl (o_z ?_))
    obtain ⟨O31,S32,hz34,ha35,h33⟩:=Reg.shut (x:=x0) (l0:=2) (l1:=3) (l2:=4) (l3:=5) (by decide) h10 h13 h16 h21
    obtain rfl:=sm hy4
    replace hB:=(hB.st S9).st S32
    exact ⟨(),_,⟨rfl,trivial⟩,hB,h33⟩
  ·
   replace hy4:=im hy4 c7
   refine o_mv rfl rfl (AC rfl rfl rfl rfl (AC rfl rfl rfl rfl (AC rfl rfl rfl rfl (AC rfl rfl rfl rfl (AC rfl rfl rfl rfl (AC rfl rfl rfl rfl (AC rfl rfl rfl rfl (o_pf rfl rfl rfl (o_as rfl rfl (o_z ?_))))))))))
   obtain rfl:=sm hy4
   exact ⟨(),_,⟨rfl,trivial⟩,hB,hx0'⟩
 rintro l36 w37 ⟨x6,O38,hs39,hB,h24⟩
 refine AP _ hs39 ?_
 refine Au ?_
 obtain rfl:=sm hm
 obtain ⟨O',hS',hz,hl⟩:=hE.leave (fun q=>if q=2 then i0 else 0) rfl hB
 exact ret1v rfl (AG rfl) ⟨O',hS',(Ob.leave h24 hz (hl 2 (by decide) (by decide)) hx0.2),vBool⟩
noncomputable def Bu (x0:Reg) (x1:Int):Option ((List Int)×Err) :=
  bnd (Ba x0 x1) fun q3=>if q3=true then bnd (atI x0.entries x1) fun a27=>bnd (Cd x0.packer a27.words) fun q45=>some (q45.1,(⟨q45.2.n⟩:Err)) else some (([]:List Int),(⟨1⟩:Err))
theorem Fw {w:World} {O:Lab} {p0 i0:Nat} {x0:Reg} (hx0:Ob i0 w O (.pointer (some ⟨p0,0,none⟩)) x0) {x1:Int} (rx1:inI64 x1) {r:(List Int)×Err} (hm:Bu x0 x1=some r) :
    Fn Tryz.prog 58 [(.pointer (some ⟨p0,0,none⟩)),(.int .i64 x1)] w fun v w'=>∃ O',St (eT i0) w O w' O'∧∃ v0 v1:Value,Ob i0 w' O' (.pointer (some ⟨p0,0,none⟩)) x0∧v=.tuple #[v0,v1]∧Vb w' (Fr 0 w' O') v0 r.1∧Vb w' (Fr 0 w' O') v1 r.2:=by
 obtain ⟨O0,hE,hz0,hl2⟩:=ent1 (w:=w) (O:=O) hx0.2
 have hx0':=Ob.leave hx0 hz0 hl2 (j:=2) (by decide)
 have hB:Bm w O0 w O0:=Bm.refl
 refine AL Tryz.func58 rfl Tryz.ntmps58 rfl ?_
 unfold Bu at hm
 refine Ah (Ae (o_as rfl rfl (o_as rfl rfl (o_z ?_))))
 refine Ah (Al (Ah (Ae (o_mv rfl rfl (o_pn rfl rfl ?_)))))
 refine o_as rfl rfl (o_z ?_)
 refine Aj rfl (Ah (Ae (o_mv rfl rfl (o_mv rfl rfl ?_))))
 obtain ⟨q3,e4,hm⟩:=bs hm
 refine BZ (O:=O0) (CD hx0' rx1 e4) rfl rfl fun v9 w5 O6 S7 h8=>?_
 obtain ⟨h10,h11⟩:=h8
 obtain rfl:=h11.bool
 cases q3
 case false =>
  replace hm:=iF hm
  refine o_nf rfl rfl (o_as rfl rfl (o_z ?_))
  refine Ar rfl (Ah (Ae (o_miE rfl rfl ?_)))
  refine o_as rfl rfl (o_as rfl rfl (o_z ?_))
  refine Au ?_
  obtain rfl:=sm hm
  replace hB:=hB.st S7
  obtain ⟨O',hS',hz,hl⟩:=hE.leave (fun q=>if q=2 then i0 else 0) rfl hB
  exact ret2 rfl (AG rfl) (AG rfl) ⟨O',hS',_,_,(Ob.leave h10 hz (hl 2 (by decide) (by decide)) hx0.2),rfl,(Vb.mono (Vb.nil _ _) hz),(vErr (by decide))⟩
 replace hm:=iT hm
 refine o_nt rfl rfl (o_as rfl rfl (o_z ?_))
 refine Aj rfl (Am (Ah ?_))
 obtain ⟨O12,v16,v19,v24,S13,ha15,h14,h17,h20,h25⟩:=Reg.opn h10 2 3 4 5 (by decide)
 obtain ⟨p18,rfl⟩:=h17.ptr
 obtain ⟨A21,c22,rfl⟩:=h20.form
 obtain ⟨p26,rfl⟩:=h25.mptr
 refine Bt [(12,[3])] O12 ?_
 refine x_pre (fuel:=5) [] [(0,true),(1,true),(2,true),(3,true),(4,true),(5,true),(6,true),(7,true),(8,true),(9,true),(10,true),(11,true)] (by kernel_rfl) rfl ?_
 refine h_mv rfl rfl rfl (h_nc rfl rfl rfl (h_fa rfl rfl rfl (h_ldC (hc:=fun w' ⟨O',hq⟩=>Blk.cell (i:=0) ((h14.st hq (by decide)).1) rfl) rfl rfl rfl ?_)))
 refine h_mv rfl rfl rfl (h_nc rfl rfl rfl (h_fa rfl rfl rfl (h_ldC (hc:=fun w' ⟨O',hq⟩=>Blk.cell (i:=1) ((h14.st hq (by decide)).1) rfl) rfl rfl rfl ?_)))
 refine h_mv rfl rfl rfl ?_
 obtain ⟨a27,e28,hm⟩:=bs hm
 obtain ⟨p30,x29⟩:=AO e28
 obtain ⟨b31,o32,ce33,hA34,hF37,hl35,hd36,v38,rfl,h39,r42,r43,r44⟩:=h20.elemF x29
 obtain ⟨A40,c41,rfl⟩:=h39.form
 refine h_iaE (hA:=hA34) (hj:=(Int.toNat_of_nonneg p30).symm) (hlt:=hl35) rfl rfl rfl rfl ?_
 refine h_fa rfl rfl rfl (h_ldC (hc:=fun w' ⟨O',hq⟩=>cat0 (Bd (hq.agree (i:=4) (by decide)) hF37 hd36)) rfl rfl rfl ?_)
 refine AK ?_
 refine x_one (i:=12) (by kernel_rfl) rfl ?_
 obtain ⟨q45,e46,hm⟩:=bs hm
 refine BZ (O:=O12) (GP h17 h39 e46) rfl rfl fun v51 w47 O48 S49 h50=>?_
 obtain ⟨v53,v54,h52,rfl,h55,h56⟩:=h50
 obtain ⟨A57,c58,rfl⟩:=h55.form
 obtain ⟨rfl,r59⟩:=h56.err
 have hZ:=S49.lst [3] (fun _ h=>by cases h;decide)
 refine x_go [] hZ (by kernel_rfl) ?_
 refine x_pre (fuel:=0) [] [(13,true),(14,true),(15,true),(16,true)] (by kernel_rfl) rfl ?_
 refine h_ex rfl rfl rfl rfl (h_ex rfl rfl rfl rfl (h_as rfl rfl rfl (h_as rfl rfl rfl (AK ?_))))
 refine x_nil (by kernel_rfl) ?_
 refine Au ?_
 replace h14:=h14.st S49
 replace h20:=h20.st S49
 replace h25:=h25.st S49
 obtain ⟨O60,S61,hz63,ha64,h62⟩:=Reg.shut (x:=x0) (l0:=2) (l1:=3) (l2:=4) (l3:=5) (by decide) h14 h52 h20 h25
 obtain rfl:=sm hm
 replace hB:=(((hB.st S7).st S13).st S49).st S61
 obtain ⟨O',hS',hz,hl⟩:=hE.leave (fun q=>if q=2 then i0 else 0) rfl hB
 replace h55:=h55.st S61
 exact ret2 rfl (AG rfl) (AG rfl) ⟨O',hS',_,_,(Ob.leave h62 hz (hl 2 (by decide) (by decide)) hx0.2),rfl,(Vb.mono h55 hz),(vErr r59)⟩
noncomputable def Bn (x0:Reg) (x1:Int) (x2:Int) (x3:Int) (x4:Int):Option (Err×Reg) :=
  bnd (bnd (Ba x0 x1) fun q10=>if q10=true then if x2≠(-1) then (bnd (Ba x0 x2) fun q20=>if q20=true then some false else some true) else (some false) else some true:Option Bool) fun y6=>if y6=true then (some ((⟨1⟩:Err),x0)) else (bnd (atI x0.entries x1) fun a49=>some ((⟨0⟩:Err),(⟨x0.packer,(x0.entries.set (x1:Int).toNat ({ a49 with link:=(⟨x2,x3,x4⟩:RLk) }:REn)),x0.table⟩:Reg)))
theorem Fj {w:World} {O:Lab} {p0 i0:Nat} {x0:Reg} (hx0:Ob i0 w O (.pointer (some ⟨p0,0,none⟩)) x0) {x1:Int} (rx1:inI64 x1) {x2:Int} (rx2:inI64 x2) {x3:Int} (rx3:inI64 x3) {x4:Int} (rx4:inI64 x4) {r:Err×Reg} (hm:Bn x0 x1 x2 x3 x4=some r) :
    Fn Tryz.prog 63 [(.pointer (some ⟨p0,0,none⟩)),(.int .i64 x1),(.int .i64 x2),(.int .i64 x3),(.int .i64 x4)] w fun v w'=>∃ O',St (eT i0) w O w' O'∧Ob i0 w' O' (.pointer (some ⟨p0,0,none⟩)) r.2∧Vb w' (Fr 0 w' O') v r.1:=by
 obtain ⟨O0,hE,hz0,hl2⟩:=ent1 (w:=w) (O:=O) hx0.2
 have hx0':=Ob.leave hx0 hz0 hl2 (j:=2) (by decide)
 have hB:Bm w O0 w O0:=Bm.refl
 refine AL Tryz.func63 rfl Tryz.ntmps63 rfl ?_
 unfold Bn at hm
 refine Ah (Ae (o_as rfl rfl (o_z ?_)))
 refine Ah (Al (Ah (Ae (o_mv rfl rfl (o_pn rfl rfl ?_)))))
 refine o_as rfl rfl (o_z ?_)
 refine Aj rfl (Ah ?_)
 obtain ⟨y6,hy7,hm⟩:=bs hm
 refine AN (fun l' w'=>∃ (x9:Unit) (O':Lab),subs l' [(0,(.pointer (some ⟨p0,0,none⟩))),(1,(.int .i64 x1)),(2,(.int .i64 x2)),(3,(.int .i64 x3)),(4,(.int .i64 x4)),(15,(.bool y6))]∧Bm w O0 w' O'∧Ob 2 w' O' (.pointer (some ⟨p0,0,none⟩)) x0) ?_ ?_
 ·
  refine Ae (o_mv rfl rfl (o_mv rfl rfl ?_))
  obtain ⟨q10,e11,hy7⟩:=bs hy7
  refine BZ (O:=O0) (CD hx0' rx1 e11) rfl rfl fun v16 w12 O13 S14 h15=>?_
  obtain ⟨h17,h18⟩:=h15
  obtain rfl:=h18.bool
  cases q10
  case false =>
   replace hy7:=iF hy7
   refine o_nf rfl rfl (o_mv rfl rfl (AC rfl rfl rfl rfl (AC rfl rfl rfl rfl (AC rfl rfl rfl rfl (AC rfl rfl rfl rfl (AC rfl rfl rfl rfl (AC rfl rfl rfl rfl (AC rfl rfl rfl rfl (AC rfl rfl rfl rfl (o_pt rfl rfl rfl (o_as rfl rfl (o_z ?_))))))))))))
   obtain rfl:=sm hy7
   replace hB:=hB.st S14
   exact ⟨(),_,⟨rfl,rfl,rfl,rfl,rfl,rfl,trivial⟩,hB,h17⟩
  replace hy7:=iT hy7
  refine o_nt rfl rfl (o_mv rfl rfl (AE rfl rfl (o_mv rfl rfl (AE rfl rfl (o_neS rfl rfl rfl (fun c19=>?_) fun c19=>?_)))))
  ·
   replace hy7:=ip hy7 c19
   refine AE rfl rfl (o_mv rfl rfl (AE rfl rfl (o_mv rfl rfl (AE rfl rfl (o_mv rfl rfl (AE rfl rfl ?_))))))
   obtain ⟨q20,e21,hy7⟩:=bs hy7
   refine BZ (O:=O13) (CD h17 rx2 e21) rfl rfl fun v26 w22 O23 S24 h25=>?_
   obtain ⟨h27,h28⟩:=h25
   obtain rfl:=h28.bool
   cases q20
   case false =>
    replace hy7:=iF hy7
    refine AE rfl rfl (o_nf rfl rfl (AE rfl rfl (o_pt rfl rfl rfl (o_pf rfl rfl rfl (o_as rfl rfl (o_z ?_))))))
    obtain rfl:=sm hy7
    replace hB:=(hB.st S14).st S24
    exact ⟨(),_,⟨rfl,rfl,rfl,rfl,rfl,rfl,trivial⟩,hB,h27⟩
   replace hy7:=iT hy7
   refine AE rfl rfl (o_nt rfl rfl (AE rfl rfl (o_pt rfl rfl rfl (o_pf rfl rfl rfl (o_as rfl rfl (o_z ?_))))))
   obtain rfl:=sm hy7
   replace hB:=(hB.st S14).st S24
   exact ⟨(),_,⟨rfl,rfl,rfl,rfl,rfl,rfl,trivial⟩,hB,h27⟩
  ·
   replace hy7:=im hy7 c19
   refine AE rfl rfl (o_mv rfl rfl (AC rfl rfl rfl rfl (AC rfl rfl rfl rfl (AC rfl rfl rfl rfl (AC rfl rfl rfl rfl (AE rfl rfl (o_pf rfl rfl rfl (o_pf rfl rfl rfl (o_as rfl rfl (o_z ?_))))))))))
   obtain rfl:=sm hy7
   replace hB:=hB.st S14
   exact ⟨(),_,⟨rfl,rfl,rfl,rfl,rfl,rfl,trivial⟩,hB,h17⟩
 rintro l29 w30 ⟨x9,O31,hs32,hB,h13⟩
 refine AP _ hs32 ?_
 refine Cm rfl (fun c33=>?_) (fun c33=>?_)
 ·
  replace hm:=ip hm c33
  refine Ah (Ae (o_miE rfl rfl ?_))
  refine o_as rfl rfl (o_z ?_)
  refine Au ?_
  obtain rfl:=sm hm
  obtain ⟨O',hS',hz,hl⟩:=hE.leave (fun q=>if q=2 then i0 else 0) rfl hB
  exact ret1v rfl (AG rfl) ⟨O',hS',(Ob.leave h13 hz (hl 2 (by decide) (by decide)) hx0.2),(vErr (by decide))⟩
 ·
  replace hm:=im' hm c33
  refine Am (Ah (Ae (o_mv rfl rfl (o_nc rfl rfl ?_))))
  obtain ⟨O34,v38,v41,v46,S35,ha37,h36,h39,h42,h47⟩:=Reg.opn h13 2 3 4 5 (by decide)
  obtain ⟨p40,rfl⟩:=h39.ptr
  obtain ⟨A43,c44,rfl⟩:=h42.form
  obtain ⟨p48,rfl⟩:=h47.mptr
  refine o_fa rfl rfl (o_ld (hc:=Blk.cell (i:=1) (h36.1) rfl) rfl rfl ?_)
  refine o_mv rfl rfl (o_mv rfl rfl (o_mv rfl rfl (o_mv rfl rfl (o_bd rfl rfl rfl ?_))))
  obtain ⟨a49,e50,hm⟩:=bs hm
  obtain ⟨p52,x51⟩:=AO e50
  obtain ⟨b53,o54,ce55,hA56,hl57,hd58,v60,rfl,h61,r64,r65,r66⟩:=h42.elem x51
  obtain ⟨A62,c63,rfl⟩:=h61.form
  refine o_iaE (hA:=hA56) (hj:=(Int.toNat_of_nonneg p52).symm) (hlt:=hl57) rfl rfl rfl ?_
  refine o_fa rfl rfl (Hz (a:=a49) (a':=({ a49 with link:=(⟨x2,x3,x4⟩:RLk) }:REn)) (off:=1) h42 hA56 x51 rfl rfl rfl (Nat.le_of_ble_eq_true rfl) (by first|exact allOne rfl|simp [Value.cells,Value.oneCell',AM]) (by rintro ce ⟨v69,rfl,h70,r73,r74,r75⟩;exact ⟨_,rfl,h70,rx2,rx3,rx4⟩) fun w67 S68 h42=>?_)
  refine o_z ?_
  refine Ah (Ae (o_as rfl rfl (o_z ?_)))
  refine Au ?_
  replace h36:=h36.st S68
  replace h39:=h39.st S68
  replace h47:=h47.st S68
  obtain ⟨O76,S77,hz79,ha80,h78⟩:=Reg.shut (x:=(⟨x0.packer,(x0.entries.set (x1:Int).toNat ({ a49 with link:=(⟨x2,x3,x4⟩:RLk) }:REn)),x0.table⟩:Reg)) (l0:=2) (l1:=3) (l2:=4) (l3:=5) (by decide) (by have q:=h36;rw [← ((by simp:(x0.entries.set (x1:Int).toNat ({ a49 with link:=(⟨x2,x3,x4⟩:RLk) }:REn)).length=x0.entries.length).trans rfl)] at q;exact q) h39 h42.relen h47
  obtain rfl:=sm hm
  replace hB:=((hB.st S35).st S68).st S77
  obtain ⟨O',hS',hz,hl⟩:=hE.leave (fun q=>if q=2 then i0 else 0) rfl hB
  exact ret1v rfl (AG rfl) ⟨O',hS',(Ob.leave h78 hz (hl 2 (by decide) (by decide)) hx0.2),(vErr (show inI64 0 from by decide))⟩
noncomputable def Bv (x0:List Int):Option (List Int) :=
  bnd (chkI ((x0.length:Int) - 1)) fun n4=>bnd (lop (ρ:=(List Int)) (fun (s9:(List Int)×Int×Int)=>if s9.2.1 < s9.2.2 then (bnd (atI s9.1 s9.2.2) fun a31=>bnd (atI s9.1 s9.2.1) fun a43=>bnd (atI s9.1 s9.2.1) fun a55=>bnd (atI (s9.1.set (s9.2.1:Int).toNat a31) s9.2.2) fun a69=>bnd (chkI (s9.2.1 + 1)) fun n83=>bnd (chkI (s9.2.2 - 1)) fun n86=>some (.next (((s9.1.set (s9.2.1:Int).toNat a31).set (s9.2.2:Int).toNat a43),n83,n86))) else (some (.brk (s9.1,s9.2.1,s9.2.2)))) (x0,0,n4)) fun res7=>fin res7 fun (s93:(List Int)×Int×Int)=>some s93.1
theorem Fx {w:World} {O:Lab} {A0:Option Addr} {m0 c0 i0:Nat} {x0:List Int} (hx0:Rw i0 w O 3 (.slice A0 m0 c0) x0) {r:(List Int)} (hm:Bv x0=some r) :
    Fn Tryz.prog 93 [(.slice A0 m0 c0)] w fun v w'=>∃ O',St (eT i0) w O w' O'∧Rw i0 w' O' 3 (.slice A0 m0 c0) r:=by
 obtain ⟨O0,hE,hz0,hl2⟩:=ent1 (w:=w) (O:=O) hx0.2.2
 obtain rfl:m0=x0.length:=hx0.len.1
 have hx0':=Rw.leave hx0 hz0 hl2 (j:=2) (by decide)
 have hB:Bm w O0 w O0:=Bm.refl
 refine AL Tryz.func93 rfl Tryz.ntmps93 rfl ?_
 unfold Bv at hm
 refine Ah (Ae (o_mv rfl rfl (o_ln rfl rfl ?_)))
 have l3:x0.length≤9223372036854775807:=Nat.le_trans hx0'.len.2.1 hx0'.len.2.2
 have r2:inI64 (x0.length:Int):=rngNat l3
 obtain ⟨n4,e5,hm⟩:=bs hm
 have r6:=(AW e5)
 refine o_sbE (he:=e5) rfl rfl rfl ?_
 refine o_as rfl rfl (o_as rfl rfl (o_z ?_))
 obtain ⟨res7,hL8,hm⟩:=bs hm
 refine AN (aft res7 (fun (s9:(List Int)×Int×Int) (x10:Unit)=>[(0,(.slice A0 x0.length c0))]) (fun s9 x10 w'=>∃ O':Lab,Bm w O0 w' O'∧Rw 2 w' O' 3 (.slice A0 x0.length c0) s9.1∧inI64 s9.2.1∧inI64 s9.2.2)) ?_ ?_
 ·
  refine Al (EX (σ:=(List Int)×Int×Int) (X:=Unit) hL8 (fun (s9:(List Int)×Int×Int) (x10:Unit)=>[(0,(.slice A0 x0.length c0)),(2,(.int .i64 s9.2.1)),(3,(.int .i64 s9.2.2))]) _ (fun s9 x10 w'=>∃ O':Lab,Bm w O0 w' O'∧Rw 2 w' O' 3 (.slice A0 x0.length c0) s9.1∧inI64 s9.2.1∧inI64 s9.2.2) _ () ⟨O0,hB,hx0',(show inI64 (0) from by decide),r6⟩ ⟨rfl,rfl,rfl,trivial⟩ ?_)
  rintro s9 x10 w13 cc15 ⟨O14,hB,h26,r28,r29⟩ hf17 hret18 hbrk19
  refine Ah (Ah (Ae (o_mv rfl rfl (o_mv rfl rfl (o_ltS rfl rfl rfl (fun c30=>?_) fun c30=>?_)))))
  ·
   replace hf17:=ip hf17 c30
   refine o_z ?_
   refine Ar rfl (Am (Ah (Al (Bt [(13,[2])] O14 ?_))))
   refine x_pre (fuel:=5) [] [(0,true),(1,true),(4,true),(5,true),(6,true),(7,true),(8,true),(9,true),(10,true),(11,true),(12,true)] (by kernel_rfl) rfl ?_
   refine h_mv rfl rfl rfl (h_mv rfl rfl rfl (h_mv rfl rfl rfl (h_mv rfl rfl rfl ?_)))
   obtain ⟨a31,e32,hf17⟩:=bs hf17
   obtain ⟨p34,x33⟩:=AO e32
   obtain ⟨b35,o36,ce37,hA38,hF41,hl39,hd40,rfl,r42⟩:=h26.elemF x33
   refine h_iaE (hA:=hA38) (hj:=(Int.toNat_of_nonneg p34).symm) (hlt:=hl39) rfl rfl rfl rfl ?_
   refine h_ldC (hc:=fun w' ⟨O',hq⟩=>cat0 (Bd (hq.agree (i:=2) (by decide)) hF41 hd40)) rfl rfl rfl ?_
   refine h_mv rfl rfl rfl (h_mv rfl rfl rfl ?_)
   obtain ⟨a43,e44,hf17⟩:=bs hf17
   obtain ⟨p46,x45⟩:=AO e44
   obtain ⟨b47,o48,ce49,hA50,hF53,hl51,hd52,rfl,r54⟩:=h26.elemF x45
   refine h_iaE (hA:=hA50) (hj:=(Int.toNat_of_nonneg p46).symm) (hlt:=hl51) rfl rfl rfl rfl ?_
   refine h_ldC (hc:=fun w' ⟨O',hq⟩=>cat0 (Bd (hq.agree (i:=2) (by decide)) hF53 hd52)) rfl rfl rfl ?_
   obtain ⟨a55,e56,hf17⟩:=bs hf17
   obtain ⟨p58,x57⟩:=AO e56
   obtain ⟨b59,o60,ce61,hA62,hF65,hl63,hd64,rfl,r66⟩:=h26.elemF x57
   refine h_iaE (hA:=hA62) (hj:=(Int.toNat_of_nonneg p58).symm) (hlt:=hl63) rfl rfl rfl rfl ?_
   refine AK ?_
   refine x_pre (fuel:=3) [2] [(2,true),(3,true)] (by kernel_rfl) rfl ?_
   refine h_mv rfl rfl rfl (h_mv rfl rfl rfl (AK ?_))
   refine x_one (i:=13) (by kernel_rfl) rfl ?_
   refine CG rfl h26 (a:=a31) (vInt r42) hA62 rfl rfl (AJ x57) fun w67 S68 h26=>?_
   have hZ:=S68.lst [2] (fun _ h=>by cases h;decide)
   refine x_go [] hZ (by kernel_rfl) ?_
   refine x_pre (fuel:=1) [] [(14,true)] (by kernel_rfl) rfl ?_
   obtain ⟨a69,e70,hf17⟩:=bs hf17
   obtain ⟨p72,x71⟩:=AO e70
   obtain ⟨b73,o74,ce75,hA76,hF79,hl77,hd78,rfl,r80⟩:=h26.elemF x71
   refine h_iaE (hA:=hA76) (hj:=(Int.toNat_of_nonneg p72).symm) (hlt:=hl77) rfl rfl rfl rfl ?_
   refine AK ?_
   refine x_one (i:=15) (by kernel_rfl) rfl ?_
   refine CG rfl h26 (a:=a43) (vInt r54) hA76 rfl rfl (AJ x71) fun w81 S82 h26=>?_
   refine x_end (by kernel_rfl) ?_
   refine x_nil (by kernel_rfl) ?_
   refine Ae (o_mv rfl rfl ?_)
   obtain ⟨n83,e84,hf17⟩:=bs hf17
   have r85:=(AW e84)
   refine o_adE (he:=e84) rfl rfl rfl ?_
   refine o_mv rfl rfl ?_
   obtain ⟨n86,e87,hf17⟩:=bs hf17
   have r88:=(AW e87)
   refine o_sbE (he:=e87) rfl rfl rfl ?_
   refine o_as rfl rfl (o_as rfl rfl (o_z ?_))
   obtain rfl:=sm hf17
   refine (?_:Exists _)
   replace hB:=(hB.st S68).st S82
   exact ⟨_,(),rfl,⟨rfl,rfl,rfl,trivial⟩,_,hB,h26,r85,r88⟩
  ·
   replace hf17:=im hf17 c30
   refine o_z ?_
   refine Aj rfl (At ?_)
   obtain rfl:=sm hf17
   refine (?_:Exists _)
   exact ⟨_,(),hbrk19 _ rfl,⟨rfl,trivial⟩,_,hB,h26,r28,r29⟩
 rintro l89 w90 ⟨s93,x94,rfl,hs92,O91,hB,h26,r28,r29⟩
 replace hm:=AY hm
 obtain rfl:=sm hm
 obtain ⟨O',hS',hz,hl⟩:=hE.leave (fun q=>if q=2 then i0 else 0) rfl hB
 exact ret0n rfl  ⟨O',hS',(Rw.leave h26 hz (hl 2 (by decide) (by decide)) hx0.2.2)⟩
noncomputable def BL (x0:Reg) (x1:Int):Option ((List Int)×Err) :=
  bnd (Ba x0 x1) fun q3=>if q3=true then bnd (lop (ρ:=(List Int)×Err) (fun (s14:Int×(List Int))=>bnd (atI x0.entries s14.1) fun a48=>if a48.link.parent < 0 then (bnd (Bv s14.2) fun q74=>some (.ret (q74,(⟨0⟩:Err)))) else (bnd (appI 8 s14.2 [a48.link.op]) fun u89=>if (x0.entries.length:Int) < (u89.length:Int) then (some (.ret (([]:List Int),(⟨21⟩:Err)))) else (some (.next (a48.link.parent,u89))))) (x1,([]:List Int))) fun res12=>fin res12 fun (_:Int×(List Int))=>none else some (([]:List Int),(⟨1⟩:Err))
theorem FR {w:World} {O:Lab} {p0 i0:Nat} {x0:Reg} (hx0:Ob i0 w O (.pointer (some ⟨p0,0,none⟩)) x0) {x1:Int} (rx1:inI64 x1) {r:(List Int)×Err} (hm:BL x0 x1=some r) :
    Fn Tryz.prog 81 [(.pointer (some ⟨p0,0,none⟩)),(.int .i64 x1)] w fun v w'=>∃ O',St (eT i0) w O w' O'∧∃ v0 v1:Value,Ob i0 w' O' (.pointer (some ⟨p0,0,none⟩)) x0∧v=.tuple #[v0,v1]∧Vb w' (Fr 0 w' O') v0 r.1∧Vb w' (Fr 0 w' O') v1 r.2:=by
 obtain ⟨O0,hE,hz0,hl2⟩:=ent1 (w:=w) (O:=O) hx0.2
 have hx0':=Ob.leave hx0 hz0 hl2 (j:=2) (by decide)
 have hB:Bm w O0 w O0:=Bm.refl
 refine AL Tryz.func81 rfl Tryz.ntmps81 rfl ?_
 unfold BL at hm
 refine Ah (Ae (o_as rfl rfl (o_as rfl rfl (o_z ?_))))
 refine Ah (Al (Ah (Ae (o_mv rfl rfl (o_pn rfl rfl ?_)))))
 refine o_as rfl rfl (o_z ?_)
 refine Aj rfl (Ah (Ae (o_mv rfl rfl (o_mv rfl rfl ?_))))
 obtain ⟨q3,e4,hm⟩:=bs hm
 refine BZ (O:=O0) (CD hx0' rx1 e4) rfl rfl fun v9 w5 O6 S7 h8=>?_
 obtain ⟨h10,h11⟩:=h8
 obtain rfl:=h11.bool
 cases q3
 case false =>
  replace hm:=iF hm
  refine o_nf rfl rfl (o_as rfl rfl (o_z ?_))
  refine Ar rfl (Ah (Ae (o_miE rfl rfl ?_)))
  refine o_as rfl rfl (o_as rfl rfl (o_z ?_))
  refine Au ?_
  obtain rfl:=sm hm
  replace hB:=hB.st S7
  obtain ⟨O',hS',hz,hl⟩:=hE.leave (fun q=>if q=2 then i0 else 0) rfl hB
  exact ret2 rfl (AG rfl) (AG rfl) ⟨O',hS',_,_,(Ob.leave h10 hz (hl 2 (by decide) (by decide)) hx0.2),rfl,(Vb.mono (Vb.nil _ _) hz),(vErr (by decide))⟩
 replace hm:=iT hm
 refine o_nt rfl rfl (o_as rfl rfl (o_z ?_))
 refine Aj rfl (Am (Ah (Ae (o_as rfl rfl (o_z ?_)))))
 obtain ⟨res12,hL13,hm⟩:=bs hm
 refine AN (aft res12 (fun (s14:Int×(List Int)) (x15:(Option Addr×Nat))=>[]) (fun s14 x15 w'=>False)) ?_ ?_
 ·
  refine Al ?_
  replace hB:=hB.st S7
  refine EX (σ:=Int×(List Int)) (X:=(Option Addr×Nat)) hL13 (fun (s14:Int×(List Int)) (x15:(Option Addr×Nat))=>[(0,(.pointer (some ⟨p0,0,none⟩))),(1,(.int .i64 s14.1)),(6,(.slice x15.1 s14.2.length x15.2))]) _ (fun s14 x15 w'=>∃ O':Lab,Bm w O0 w' O'∧Ob 2 w' O' (.pointer (some ⟨p0,0,none⟩)) x0∧Rw 8 w' O' 3 (.slice x15.1 s14.2.length x15.2) s14.2∧inI64 s14.1) _ (none,0) ⟨O6,hB,h10,(Rw.nil 8 (by decide)),rx1⟩ ⟨rfl,rfl,rfl,trivial⟩ ?_
  rintro s14 x15 w18 cc20 ⟨O19,hB,h10,h31,r30⟩ hf22 hret23 hbrk24
  refine Al (Ah (Ae (o_mv rfl rfl (o_nc rfl rfl ?_))))
  obtain ⟨O33,v37,v40,v45,S34,ha36,h35,h38,h41,h46⟩:=Reg.opn h10 2 3 4 5 (by decide)
  obtain ⟨p39,rfl⟩:=h38.ptr
  obtain ⟨A42,c43,rfl⟩:=h41.form
  obtain ⟨p47,rfl⟩:=h46.mptr
  refine o_fa rfl rfl (o_ld (hc:=Blk.cell (i:=1) (h35.1) rfl) rfl rfl ?_)
  refine o_mv rfl rfl ?_
  obtain ⟨a48,e49,hf22⟩:=bs hf22
  obtain ⟨p51,x50⟩:=AO e49
  obtain ⟨b52,o53,ce54,hA55,hl56,hd57,v59,rfl,h60,r63,r64,r65⟩:=h41.elem x50
  obtain ⟨A61,c62,rfl⟩:=h60.form
  refine o_iaE (hA:=hA55) (hj:=(Int.toNat_of_nonneg p51).symm) (hlt:=hl56) rfl rfl rfl ?_
  refine o_fa rfl rfl (o_la (hl:=rfl) (hc:=(Kr 1 3 hd57)) rfl rfl ?_)
  refine BJ 6 O33 rfl fun g66 w67 O68 S69 h70=>?_
  refine AQ h70 rfl rfl rfl (Nat.le_of_ble_eq_true rfl) (by first|exact allOne rfl|simp [Value.cells,Value.oneCell',AM]) fun w71 S72 h70=>?_
  replace h70:Lc 6 w71 O68 g66 146 [(.int .i64 a48.link.parent),(.int .i64 a48.link.op),(.int .i64 a48.link.cost)]:=h70
  refine o_z ?_
  refine Ah (Ah (Ae (o_fa rfl rfl (o_ld (hc:=Blk.cell (i:=0) (h70.1) rfl) rfl rfl ?_))))
  refine o_ltS rfl rfl rfl (fun c73=>?_) fun c73=>?_
  ·
   replace hf22:=ip hf22 c73
   refine o_z ?_
   refine Ar rfl (Ah (Ae (o_mv rfl rfl ?_)))
   obtain ⟨q74,e75,hf22⟩:=bs hf22
   replace h31:=((h31.st S34).st S69).st S72
   refine BZ (O:=O68) (Fx h31 e75) rfl rfl fun v80 w76 O77 S78 h81=>?_
   refine o_z ?_
   refine Ah (Ae (o_mv rfl rfl (o_as rfl rfl (o_as rfl rfl (o_z ?_)))))
   refine Au ?_
   obtain ⟨O82,S83,h81⟩:=h81.freeze
   replace h35:=(((h35.st S69).st S72).st S78).st S83
   replace h38:=(((h38.st S69).st S72).st S78).st S83
   replace h41:=(((h41.st S69).st S72).st S78).st S83
   replace h46:=(((h46.st S69).st S72).st S78).st S83
   obtain ⟨O84,S85,hz87,ha88,h86⟩:=Reg.shut (x:=x0) (l0:=2) (l1:=3) (l2:=4) (l3:=5) (by decide) h35 h38 h41 h46
   obtain rfl:=sm hf22
   obtain rfl:=hret23 _ rfl
   obtain rfl:=sm (Cv hm)
   replace hB:=(((((hB.st S34).st S69).st S72).st S78).st S83).st S85
   obtain ⟨O',hS',hz,hl⟩:=hE.leave (fun q=>if q=2 then i0 else 0) rfl hB
   replace h81:=h81.st S85
   exact ret2 rfl (AG rfl) (AG rfl) ⟨O',hS',_,_,(Ob.leave h86 hz (hl 2 (by decide) (by decide)) hx0.2),rfl,(Vb.mono h81 hz),(vErr (show inI64 0 from by decide))⟩
  ·
   replace hf22:=im hf22 c73
   refine o_z ?_
   refine Aj rfl (Am (Ah (Ae (o_mv rfl rfl (o_fa rfl rfl (o_ld (hc:=Blk.cell (i:=1) (h70.1) rfl) rfl rfl ?_))))))
   obtain ⟨u89,e90,hf22⟩:=bs hf22
   obtain ⟨e90,e91,e92⟩:=AU e90
   replace h31:=((h31.st S34).st S69).st S72
   refine Cu rfl (a:=a48.link.op) h31 (vInt r64) (fun _=>rfl) rfl (by decide) (by decide) e91 e92 ⟨rfl,rfl⟩ fun g93 A94 c95 w96 O97 S98 h99=>?_
   rw [← e90] at h99 ⊢
   refine o_as rfl rfl (o_z ?_)
   refine Ah (Ah (Ae (o_mv rfl rfl (o_ln rfl rfl ?_))))
   have l102:u89.length≤9223372036854775807:=Nat.le_trans h99.len.2.1 h99.len.2.2
   have r101:inI64 (u89.length:Int):=rngNat l102
   refine o_mv rfl rfl (o_nc rfl rfl (o_fa rfl rfl ?_))
   replace h35:=((h35.st S69).st S72).st S98
   refine o_ld (hc:=Blk.cell (i:=1) (h35.1) rfl) rfl rfl ?_
   refine o_ln rfl rfl ?_
   replace h41:=((h41.st S69).st S72).st S98
   have l104:x0.entries.length≤9223372036854775807:=Nat.le_trans h41.len.2.1 h41.len.2.2
   have r103:inI64 (x0.entries.length:Int):=rngNat l104
   refine o_gtS rfl rfl rfl (fun c105=>?_) fun c105=>?_
   ·
    replace hf22:=ip hf22 c105
    refine o_z ?_
    refine Ar rfl (Ah (Ae (o_miE rfl rfl ?_)))
    refine o_as rfl rfl (o_as rfl rfl (o_z ?_))
    refine Au ?_
    replace h38:=((h38.st S69).st S72).st S98
    replace h46:=((h46.st S69).st S72).st S98
    obtain ⟨O106,S107,hz109,ha110,h108⟩:=Reg.shut (x:=x0) (l0:=2) (l1:=3) (l2:=4) (l3:=5) (by decide) h35 h38 h41 h46
    obtain rfl:=sm hf22
    obtain rfl:=hret23 _ rfl
    obtain rfl:=sm (Cv hm)
    replace hB:=((((hB.st S34).st S69).st S72).st S98).st S107
    obtain ⟨O',hS',hz,hl⟩:=hE.leave (fun q=>if q=2 then i0 else 0) rfl hB
    exact ret2 rfl (AG rfl) (AG rfl) ⟨O',hS',_,_,(Ob.leave h108 hz (hl 2 (by decide) (by decide)) hx0.2),rfl,(Vb.mono (Vb.nil _ _) hz),(vErr (by decide))⟩
   ·
    replace hf22:=im hf22 c105
    refine o_z ?_
    refine Aj rfl (Am (Ae (o_fa rfl rfl ?_)))
    replace h70:=h70.st S98
    refine o_ld (hc:=Blk.cell (i:=0) (h70.1) rfl) rfl rfl ?_
    refine o_as rfl rfl (o_z ?_)
    replace h38:=((h38.st S69).st S72).st S98
    replace h46:=((h46.st S69).st S72).st S98
    obtain ⟨O111,S112,hz114,ha115,h113⟩:=Reg.shut (x:=x0) (l0:=2) (l1:=3) (l2:=4) (l3:=5) (by decide) h35 h38 h41 h46
    obtain rfl:=sm hf22
    refine (?_:Exists _)
    replace hB:=((((hB.st S34).st S69).st S72).st S98).st S112
    replace h99:=h99.st S112
    exact ⟨_,(A94,c95),rfl,⟨rfl,rfl,rfl,trivial⟩,_,hB,h113,h99,r63⟩
 rintro l116 w117 ⟨s120,x121,_,_,hE⟩
 exact hE.elim
end
end Go.Proofs.YtafdmfhdjfkooaaGreat

/- Own text: what the proof of breadthCounters_holds uses, part 2: rules, models and their proofs, plain laws. -/
import Derived.Test.YthomfnkaicjmbaaPCouA
set_option linter.unusedVariables false
set_option linter.unusedSimpArgs false
namespace Go.Proofs.Ythomfnkaicjmbaa
open Go Go.RowKit
section
open Go Go.RowKit
attribute [local irreducible] ewp owp hwp hwq hws Ev Evg Fn retPost loud loudS Res1
def opConds (o:Opr):List (List Fct):=o.pre :: o.effs.map (·.cond)
def conds (t:Tsk):List (List Fct):=t.goal :: t.ops.flatMap opConds
theorem IR {α β:Type} (f:α→List β) {l:List α} {k:Nat} {x:α} (h:l[k]?=some x):(l.take (k + 1)).flatMap f=(l.take k).flatMap f ++ f x:=by
  rw [List.take_add_one,h];simp
theorem LS {α β:Type} (f:α→β) {l:List α} {k:Nat} {x:α} (h:l[k]?=some x):(l.take (k + 1)).map f=(l.take k).map f ++ [f x]:=by
  rw [List.take_add_one,h];simp
theorem Mz {t:Tsk} (h:∀ (i:Nat) o,t.ops[i]?=some o→o.effs.length≤64) (k:Nat):((t.ops.take k).flatMap opConds).length≤k * 65:=by
  induction k with
  | zero=>simp
  | succ k ih =>
    cases hx:t.ops[k]? with
    | none =>
      have hl:=List.getElem?_eq_none_iff.1 hx
      rw [List.take_of_length_le hl] at ih
      rw [List.take_of_length_le (by omega)]
      omega
    | some o =>
      rw [IR opConds hx,List.length_append]
      have:=h k o hx
      simp only [opConds,List.length_cons,List.length_map] at *
      omega
theorem taskConditions {w:World} {tv:Value} {t:Tsk} (ht:V w tv t) (hn:t.ops.length≤4096) (hm:∀ (i:Nat) o,t.ops[i]?=some o→o.effs.length≤64) :
    Fn Try.prog 55 [tv] w fun v w'=>V w' v (conds t)∧Ext w w':=by
  obtain ⟨cs,rfl,a,b,c,d,rfl,hvars,hinit,hgoal,hops⟩:=ht
  obtain ⟨Av,cv,rfl⟩:=hvars.form
  obtain ⟨Ai,ci,rfl⟩:=hinit.form
  obtain ⟨Ag,cg,rfl⟩:=hgoal.form
  obtain ⟨Ao,co,rfl⟩:=hops.form
  have hF:∀ {w'},Ext w w'→∀ k,All w k→k < w'.heap.size:=fun hE k hk=>Nat.lt_of_lt_of_le hk hE.size
  refine AN Try.func55 rfl Try.ntmps55 rfl ?_
  repeat (first|refine Ah ?_|refine Al ?_|refine Ae ?_|refine Am ?_|refine Au ?_|refine At ?_|refine Ar rfl ?_|refine Aj rfl ?_)
  refine Dk rfl rfl fun w1 hN=>?_
  have hb1:=hN.blk
  have hE1:Ext w w1:=hN.ext
  (refine o_as rfl rfl ?_<;>(first|refine Ay ?_|refine AA ?_|refine Aw ?_|refine AB ?_))
  repeat (first|refine Ah ?_|refine Al ?_|refine Ae ?_|refine Am ?_|refine Au ?_|refine At ?_|refine Ar rfl ?_|refine Aj rfl ?_)
  (refine o_fa rfl rfl ?_<;>refine o_ld rfl rfl ?_)
  refine Da rfl rfl rfl (by simp [Value.cells]) (by decide) rfl fun w2 hN2=>?_
  replace hb1:=hb1.ext hN2.ext
  have hE2:Ext w w2:=hE1.trans' hN2.ext
  have hown:Own w2 w.heap.size (All w) 23 (.slice (some ⟨w1.heap.size,0,none⟩) 1 1) [t.goal] :=
    (Own.made hN2 (xs:=[t.goal]) (.single (Vb.agree hgoal (hE2.agree fun _ h=>h))) rfl (fun h=>by have:w1.heap.size < w.heap.size:=h;have:=hE1.size;omega) (by simp)).lower hE1.size
  (refine o_as rfl rfl ?_<;>(first|refine Ay ?_|refine AA ?_|refine Aw ?_|refine AB ?_))
  repeat (first|refine Ah ?_|refine Al ?_|refine Ae ?_|refine Am ?_|refine Au ?_|refine At ?_|refine Ar rfl ?_|refine Aj rfl ?_)
  ((repeat (first|refine Ah ?_|refine Al ?_|refine Ae ?_|refine Am ?_|refine Au ?_|refine At ?_|refine Ar rfl ?_|refine Aj rfl ?_))<;>(refine o_fa rfl rfl ?_<;>refine o_ld rfl rfl ?_<;>refine o_ln rfl rfl ?_<;>refine o_mv rfl rfl ?_<;>(first|refine Ay ?_|refine AA ?_|refine Aw ?_|refine AB ?_))<;>(repeat (first|refine Ah ?_|refine Al ?_|refine Ae ?_|refine Am ?_|refine Au ?_|refine At ?_|refine Ar rfl ?_|refine Aj rfl ?_)))
  refine BG t.ops.length (by omega) (fun v:Value=>[(1,.pointer (some ⟨w.heap.size,0,none⟩)),(3,v),(12,.slice Ao t.ops.length co)]) (fun k v w'=>Ext w w'∧Blk w' w.heap.size 26 [.slice Av t.vars.length cv,.slice Ai t.init.length ci,.slice Ag t.goal.length cg,.slice Ao t.ops.length co]∧Own w' w.heap.size (All w) 23 v (t.goal :: (t.ops.take k).flatMap opConds)) _
    ⟨hE2,hb1,hown⟩ ⟨rfl,rfl,rfl,rfl,rfl,trivial⟩ (fun _=>⟨rfl,rfl⟩) ⟨rfl,rfl,rfl⟩ ⟨rfl,rfl⟩ ?_ ?_
  · rintro k v w3 hk ⟨hE3,hb1,hown⟩
    have hlk:=Mz hm k
    obtain ⟨o,ho⟩:=AH hk
    obtain ⟨b2,o2,ce,rfl,_,_,hd1,p,q,rfl,hp,hq,hc,hnm⟩:=Vb.elem (Vb.agree hops (hE3.agree fun _ h=>h)) ho
    obtain ⟨Ap,cp,rfl⟩:=hp.form
    obtain ⟨Aq,cq,rfl⟩:=hq.form
    have hql:=hm k o ho
    ((repeat (first|refine Ah ?_|refine Al ?_|refine Ae ?_|refine Am ?_|refine Au ?_|refine At ?_|refine Ar rfl ?_|refine Aj rfl ?_))<;>(refine o_ia rfl rfl rfl ?_<;>refine o_la rfl rfl ?_)<;>(repeat (first|refine Ah ?_|refine Al ?_|refine Ae ?_|refine Am ?_|refine Au ?_|refine At ?_|refine Ar rfl ?_|refine Aj rfl ?_)))
    refine BV rfl rfl rfl (by simp [Value.cells,Value.oneCell']) fun w4 hN4=>?_
    have hb2:=hN4.blk
    replace hb1:=hb1.ext hN4.ext
    have hE4:Ext w w4:=hE3.trans' hN4.ext
    replace hown:=hown.ext hN4.ext (hF hE3)
    replace hp:=hp.agree (hN4.ext.agree (hF hE3))
    replace hq:=hq.agree (hN4.ext.agree (hF hE3))
    ((first|refine Ay ?_|refine AA ?_|refine Aw ?_|refine AB ?_))
    repeat (first|refine Ah ?_|refine Al ?_|refine Ae ?_|refine Am ?_|refine Au ?_|refine At ?_|refine Ar rfl ?_|refine Aj rfl ?_)
    (refine o_mv rfl rfl ?_<;>refine o_fa rfl rfl ?_<;>refine o_ld rfl rfl ?_)
    refine Ed rfl rfl rfl hown (hF hE4) hE4.size hp (by decide) (by decide) (by simp only [List.length_cons,List.length_append,List.length_map,List.length_take];omega) (by simp only [List.length_cons,List.length_append,List.length_map,List.length_take];omega) ⟨rfl,rfl⟩ fun v' w5 hown5 hK=>?_
    replace hb1:=hK.blk hb1 (hown.blk_ne hb1 (by decide))
    replace hb2:=hK.blk hb2 (hown.blk_ne hb2 (by decide))
    have hB5:Below w.heap.size w4 w5:=hown.fits (Nat.le_refl _) hE4.size hK
    have hE5:Ext w w5:=hE4.trans hB5
    replace hq:=hq.below hB5
    (refine o_as rfl rfl ?_<;>(first|refine Ay ?_|refine AA ?_|refine Aw ?_|refine AB ?_))
    repeat (first|refine Ah ?_|refine Al ?_|refine Ae ?_|refine Am ?_|refine Au ?_|refine At ?_|refine Ar rfl ?_|refine Aj rfl ?_)
    ((repeat (first|refine Ah ?_|refine Al ?_|refine Ae ?_|refine Am ?_|refine Au ?_|refine At ?_|refine Ar rfl ?_|refine Aj rfl ?_))<;>(refine o_fa rfl rfl ?_<;>refine o_ld rfl rfl ?_<;>refine o_ln rfl rfl ?_<;>refine o_mv rfl rfl ?_<;>(first|refine Ay ?_|refine AA ?_|refine Aw ?_|refine AB ?_))<;>(repeat (first|refine Ah ?_|refine Al ?_|refine Ae ?_|refine Am ?_|refine Au ?_|refine At ?_|refine Ar rfl ?_|refine Aj rfl ?_)))
    refine BG o.effs.length (by omega) (fun v:Value=>[(1,.pointer (some ⟨w.heap.size,0,none⟩)),(3,v),(12,.slice (some ⟨b2,o2,none⟩) t.ops.length co),(13,.int .i64 (t.ops.length:Int)),(14,.int .i64 (k:Int)),(24,.slice Aq o.effs.length cq)]) (fun j v w'=>Ext w w'∧Blk w' w.heap.size 26 [.slice Av t.vars.length cv,.slice Ai t.init.length ci,.slice Ag t.goal.length cg,.slice (some ⟨b2,o2,none⟩) t.ops.length co]∧Vb w' (All w) (.slice Aq o.effs.length cq) o.effs∧Own w' w.heap.size (All w) 23 v ((t.goal :: (t.ops.take k).flatMap opConds) ++ o.pre :: (o.effs.take j).map (·.cond))) _
      ⟨hE5,hb1,hq,by simpa using hown5⟩ ⟨rfl,rfl,rfl,rfl,rfl,rfl,rfl,rfl,trivial⟩ (fun _=>⟨rfl,rfl⟩) ⟨rfl,rfl,rfl⟩ ⟨rfl,rfl⟩ ?_ ?_
    · rintro j v6 w6 hj ⟨hE6,hb1,hq,hown⟩
      obtain ⟨e,he⟩:=AH hj
      obtain ⟨b3,o3,ce,rfl,_,_,hd1,cv',rfl,hcond,hr1,hr2⟩:=hq.elem he
      obtain ⟨Ac,cc,rfl⟩:=hcond.form
      ((repeat (first|refine Ah ?_|refine Al ?_|refine Ae ?_|refine Am ?_|refine Au ?_|refine At ?_|refine Ar rfl ?_|refine Aj rfl ?_))<;>(refine o_ia rfl rfl rfl ?_<;>refine o_la rfl rfl ?_)<;>(repeat (first|refine Ah ?_|refine Al ?_|refine Ae ?_|refine Am ?_|refine Au ?_|refine At ?_|refine Ar rfl ?_|refine Aj rfl ?_)))
      refine BV rfl rfl rfl (by simp [Value.cells,Value.oneCell']) fun w7 hN7=>?_
      have hb2:=hN7.blk
      replace hb1:=hb1.ext hN7.ext
      have hE7:Ext w w7:=hE6.trans' hN7.ext
      replace hown:=hown.ext hN7.ext (hF hE6)
      replace hcond:=hcond.agree (hN7.ext.agree (hF hE6))
      replace hq:=hq.agree (hN7.ext.agree (hF hE6))
      ((first|refine Ay ?_|refine AA ?_|refine Aw ?_|refine AB ?_))
      repeat (first|refine Ah ?_|refine Al ?_|refine Ae ?_|refine Am ?_|refine Au ?_|refine At ?_|refine Ar rfl ?_|refine Aj rfl ?_)
      (refine o_mv rfl rfl ?_<;>refine o_fa rfl rfl ?_<;>refine o_ld rfl rfl ?_)
      refine Ed rfl rfl rfl hown (hF hE7) hE7.size hcond (by decide) (by decide) (by simp only [List.length_cons,List.length_append,List.length_map,List.length_take];omega) (by simp only [List.length_cons,List.length_append,List.length_map,List.length_take];omega) ⟨rfl,rfl⟩ fun v' w8 hown8 hK=>?_
      have hB8:Below w.heap.size w7 w8:=hown.fits (Nat.le_refl _) hE7.size hK
      (refine o_as rfl rfl ?_<;>(first|refine Ay ?_|refine AA ?_|refine Aw ?_|refine AB ?_))
      exact ⟨v',⟨rfl,rfl,rfl,rfl,rfl,rfl,rfl,rfl,trivial⟩,hE7.trans hB8,hK.blk hb1 (hown.blk_ne hb1 (by decide)),hq.below hB8,by rw [LS _ he];simpa using hown8⟩
    rintro v6 w6 ⟨hE6,hb1,hq,hown⟩
    repeat (first|refine Ah ?_|refine Al ?_|refine Ae ?_|refine Am ?_|refine Au ?_|refine At ?_|refine Ar rfl ?_|refine Aj rfl ?_)
    exact ⟨v6,⟨rfl,rfl,rfl,rfl,rfl,trivial⟩,hE6,hb1,by rw [IR opConds ho];simpa [opConds] using hown⟩
  rintro v w3 ⟨hE3,hb1,hown⟩
  repeat (first|refine Ah ?_|refine Al ?_|refine Ae ?_|refine Am ?_|refine Au ?_|refine At ?_|refine Ar rfl ?_|refine Aj rfl ?_)
  ((repeat (first|refine Ah ?_|refine Al ?_|refine Ae ?_|refine Am ?_|refine Au ?_|refine At ?_|refine Ar rfl ?_|refine Aj rfl ?_))<;>(refine o_mv rfl rfl ?_<;>refine o_as rfl rfl ?_<;>(first|refine Ay ?_|refine AA ?_|refine Aw ?_|refine AB ?_))<;>(repeat (first|refine Ah ?_|refine Al ?_|refine Ae ?_|refine Am ?_|refine Au ?_|refine At ?_|refine Ar rfl ?_|refine Aj rfl ?_)))
  refine ret1 rfl rfl ⟨?_,hE3⟩
  rw [List.take_length] at hown
  exact hown.vb.mono fun k hk=>by
    rcases hk with hk|hk
    · exact hF hE3 k hk
    · exact (hown.lt k hk).2
theorem indexFuncFacts {w:World} {sv:Value} {xs:List (List Fct)} {g:FuncId} [Callable Try.prog g] {caps:List Value} {p:List Fct→Prop} (hs:V w sv xs)
    (hg:∀ v x w',x∈xs→Ext w w'→V w' v x→Fn Try.prog g ([v] ++ caps) w' fun r w''=>r=.bool (bof (p x))∧Ext w' w'') :
    Fn Try.prog 83 [sv,.func (.func g) #[] caps.toArray] w fun v w'=>((∃ k:Nat,v=.int .i64 (k:Int)∧∃ x∈xs,p x)∨(v=.int .i64 (-1)∧∀ x∈xs,¬ p x))∧Ext w w':=by
  obtain ⟨A,c,rfl⟩:=hs.form
  have hl:=hs.len
  refine AN Try.func83 rfl Try.ntmps83 rfl ?_
  ((repeat (first|refine Ah ?_|refine Al ?_|refine Ae ?_|refine Am ?_|refine Au ?_|refine At ?_|refine Ar rfl ?_|refine Aj rfl ?_))<;>(refine o_as rfl rfl ?_<;>(first|refine Ay ?_|refine AA ?_|refine Aw ?_|refine AB ?_))<;>(repeat (first|refine Ah ?_|refine Al ?_|refine Ae ?_|refine Am ?_|refine Au ?_|refine At ?_|refine Ar rfl ?_|refine Aj rfl ?_))<;>(refine o_mv rfl rfl ?_<;>refine o_ln rfl rfl ?_<;>refine o_mv rfl rfl ?_<;>(first|refine Ay ?_|refine AA ?_|refine Aw ?_|refine AB ?_))<;>(repeat (first|refine Ah ?_|refine Al ?_|refine Ae ?_|refine Am ?_|refine Au ?_|refine At ?_|refine Ar rfl ?_|refine Aj rfl ?_)))
  refine BG xs.length (by omega) (fun _:Unit=>[(0,.slice A xs.length c),(1,.func (.func g) #[] caps.toArray)]) (fun k _ w'=>Ext w w'∧∀ i,i < k→∀ x,xs[i]?=some x→¬ p x) ()
    ⟨Below.refl _ _,fun i hi=>by omega⟩ ⟨rfl,rfl,rfl,rfl,trivial⟩ (fun _=>⟨rfl,rfl⟩) ⟨rfl,rfl,rfl⟩ ⟨rfl,rfl⟩ ?_ ?_
  · rintro k _ w1 hk ⟨hE,hh⟩
    obtain ⟨x,hx⟩:=AH hk
    obtain ⟨b,o,ce,rfl,_,_,hd1,hR⟩:=(hs.ext hE).elem hx
    obtain ⟨v,rfl⟩:=List.length_eq_one_iff.1 (Rp.len hR)
    ((repeat (first|refine Ah ?_|refine Al ?_|refine Ae ?_|refine Am ?_|refine Au ?_|refine At ?_|refine Ar rfl ?_|refine Aj rfl ?_))<;>(refine o_mv rfl rfl ?_<;>refine o_as rfl rfl ?_<;>(first|refine Ay ?_|refine AA ?_|refine Aw ?_|refine AB ?_))<;>(repeat (first|refine Ah ?_|refine Al ?_|refine Ae ?_|refine Am ?_|refine Au ?_|refine At ?_|refine Ar rfl ?_|refine Aj rfl ?_))<;>(refine o_mv rfl rfl ?_<;>refine o_mv rfl rfl ?_<;>refine o_mv rfl rfl ?_<;>refine o_ia rfl rfl rfl ?_<;>refine o_ld rfl rfl ?_)<;>(repeat (first|refine Ah ?_|refine Al ?_|refine Ae ?_|refine Am ?_|refine Au ?_|refine At ?_|refine Ar rfl ?_|refine Aj rfl ?_)))
    refine IO rfl rfl rfl (hg v x w1 (List.mem_of_getElem? hx) hE hR) ?_
    rintro _ w2 ⟨rfl,hE2⟩
    by_cases hp:p x
    · rw [bof_t hp]
      ((first|refine Ay ?_|refine AA ?_|refine Aw ?_|refine AB ?_))
      repeat (first|refine Ah ?_|refine Al ?_|refine Ae ?_|refine Am ?_|refine Au ?_|refine At ?_|refine Ar rfl ?_|refine Aj rfl ?_)
      ((repeat (first|refine Ah ?_|refine Al ?_|refine Ae ?_|refine Am ?_|refine Au ?_|refine At ?_|refine Ar rfl ?_|refine Aj rfl ?_))<;>(refine o_mv rfl rfl ?_<;>refine o_as rfl rfl ?_<;>(first|refine Ay ?_|refine AA ?_|refine Aw ?_|refine AB ?_))<;>(repeat (first|refine Ah ?_|refine Al ?_|refine Ae ?_|refine Am ?_|refine Au ?_|refine At ?_|refine Ar rfl ?_|refine Aj rfl ?_)))
      exact ret1 rfl rfl ⟨.inl ⟨k,rfl,x,List.mem_of_getElem? hx,hp⟩,hE.trans' hE2⟩
    · rw [bof_f hp]
      ((first|refine Ay ?_|refine AA ?_|refine Aw ?_|refine AB ?_))
      repeat (first|refine Ah ?_|refine Al ?_|refine Ae ?_|refine Am ?_|refine Au ?_|refine At ?_|refine Ar rfl ?_|refine Aj rfl ?_)
      exact ⟨(),⟨rfl,rfl,rfl,rfl,trivial⟩,hE.trans' hE2,CS hh fun x' hx'=>by rw [hx] at hx';injection hx' with hx';exact hx' ▸ hp⟩
  rintro _ w1 ⟨hE,hh⟩
  repeat (first|refine Ah ?_|refine Al ?_|refine Ae ?_|refine Am ?_|refine Au ?_|refine At ?_|refine Ar rfl ?_|refine Aj rfl ?_)
  ((repeat (first|refine Ah ?_|refine Al ?_|refine Ae ?_|refine Am ?_|refine Au ?_|refine At ?_|refine Ar rfl ?_|refine Aj rfl ?_))<;>(refine o_as rfl rfl ?_<;>(first|refine Ay ?_|refine AA ?_|refine Aw ?_|refine AB ?_))<;>(repeat (first|refine Ah ?_|refine Al ?_|refine Ae ?_|refine Am ?_|refine Au ?_|refine At ?_|refine Ar rfl ?_|refine Aj rfl ?_)))
  refine ret1 rfl rfl ⟨.inr ⟨rfl,fun x hx=>?_⟩,hE⟩
  obtain ⟨i,hi⟩:=List.getElem?_of_mem hx
  exact hh i (By hi) x hi
theorem containsFuncFacts {w:World} {sv:Value} {xs:List (List Fct)} {g:FuncId} [Callable Try.prog g] {caps:List Value} {p:List Fct→Prop} (hs:V w sv xs)
    (hg:∀ v x w',x∈xs→Ext w w'→V w' v x→Fn Try.prog g ([v] ++ caps) w' fun r w''=>r=.bool (bof (p x))∧Ext w' w'') :
    Fn Try.prog 69 [sv,.func (.func g) #[] caps.toArray] w fun v w'=>v=.bool (bof (∃ x∈xs,p x))∧Ext w w':=by
  refine AN Try.func69 rfl Try.ntmps69 rfl ?_
  ((repeat (first|refine Ah ?_|refine Al ?_|refine Ae ?_|refine Am ?_|refine Au ?_|refine At ?_|refine Ar rfl ?_|refine Aj rfl ?_))<;>(refine o_as rfl rfl ?_<;>(first|refine Ay ?_|refine AA ?_|refine Aw ?_|refine AB ?_))<;>(repeat (first|refine Ah ?_|refine Al ?_|refine Ae ?_|refine Am ?_|refine Au ?_|refine At ?_|refine Ar rfl ?_|refine Aj rfl ?_))<;>(refine o_mv rfl rfl ?_<;>refine o_mv rfl rfl ?_)<;>(repeat (first|refine Ah ?_|refine Al ?_|refine Ae ?_|refine Am ?_|refine Au ?_|refine At ?_|refine Ar rfl ?_|refine Aj rfl ?_)))
  refine Bf rfl rfl (indexFuncFacts hs hg) ?_
  rintro v w1 ⟨h,hE⟩
  rcases h with ⟨k,rfl,h⟩|⟨rfl,h⟩
  · ((first|refine o_geT rfl rfl rfl ?_|refine o_geF rfl rfl rfl ?_)<;>refine o_as rfl rfl ?_<;>(first|refine Ay ?_|refine AA ?_|refine Aw ?_|refine AB ?_))
    repeat (first|refine Ah ?_|refine Al ?_|refine Ae ?_|refine Am ?_|refine Au ?_|refine At ?_|refine Ar rfl ?_|refine Aj rfl ?_)
    exact ret1 rfl rfl ⟨by rw [bof_t h],hE⟩
  · ((first|refine o_geT rfl rfl rfl ?_|refine o_geF rfl rfl rfl ?_)<;>refine o_as rfl rfl ?_<;>(first|refine Ay ?_|refine AA ?_|refine Aw ?_|refine AB ?_))
    repeat (first|refine Ah ?_|refine Al ?_|refine Ae ?_|refine Am ?_|refine Au ?_|refine At ?_|refine Ar rfl ?_|refine Aj rfl ?_)
    exact ret1 rfl rfl ⟨by rw [bof_f (fun ⟨x,hx,hp⟩=>h x hx hp)],hE⟩
theorem taskLarge1 {w:World} {v:Value} {f:List Fct} (hf:V w v f):Fn Try.prog 70 ([v] ++ []) w fun r w'=>r=.bool (bof (64 < f.length))∧Ext w w':=by
  obtain ⟨A,c,rfl⟩:=hf.form
  refine AN Try.func70 rfl Try.ntmps70 rfl ?_
  by_cases h:64 < f.length
  · ((repeat (first|refine Ah ?_|refine Al ?_|refine Ae ?_|refine Am ?_|refine Au ?_|refine At ?_|refine Ar rfl ?_|refine Aj rfl ?_))<;>(refine o_as rfl rfl ?_<;>(first|refine Ay ?_|refine AA ?_|refine Aw ?_|refine AB ?_))<;>(repeat (first|refine Ah ?_|refine Al ?_|refine Ae ?_|refine Am ?_|refine Au ?_|refine At ?_|refine Ar rfl ?_|refine Aj rfl ?_))<;>(refine o_mv rfl rfl ?_<;>refine o_ln rfl rfl ?_<;>(first|refine o_gtT rfl rfl rfl ?_|refine o_gtF rfl rfl rfl ?_)<;>refine o_as rfl rfl ?_<;>(first|refine Ay ?_|refine AA ?_|refine Aw ?_|refine AB ?_))<;>(repeat (first|refine Ah ?_|refine Al ?_|refine Ae ?_|refine Am ?_|refine Au ?_|refine At ?_|refine Ar rfl ?_|refine Aj rfl ?_)))
    exact ret1 rfl rfl ⟨by rw [bof_t h],Below.refl _ _⟩
  · ((repeat (first|refine Ah ?_|refine Al ?_|refine Ae ?_|refine Am ?_|refine Au ?_|refine At ?_|refine Ar rfl ?_|refine Aj rfl ?_))<;>(refine o_as rfl rfl ?_<;>(first|refine Ay ?_|refine AA ?_|refine Aw ?_|refine AB ?_))<;>(repeat (first|refine Ah ?_|refine Al ?_|refine Ae ?_|refine Am ?_|refine Au ?_|refine At ?_|refine Ar rfl ?_|refine Aj rfl ?_))<;>(refine o_mv rfl rfl ?_<;>refine o_ln rfl rfl ?_<;>(first|refine o_gtT rfl rfl rfl ?_|refine o_gtF rfl rfl rfl ?_)<;>refine o_as rfl rfl ?_<;>(first|refine Ay ?_|refine AA ?_|refine Aw ?_|refine AB ?_))<;>(repeat (first|refine Ah ?_|refine Al ?_|refine Ae ?_|refine Am ?_|refine Au ?_|refine At ?_|refine Ar rfl ?_|refine Aj rfl ?_)))
    exact ret1 rfl rfl ⟨by rw [bof_f h],Below.refl _ _⟩
def Large (t:Tsk):Prop:=64 < t.vars.length∨4096 < t.ops.length∨(∃ (i:Nat) (o:Opr),t.ops[i]?=some o∧64 < o.effs.length)∨∃ f∈conds t,64 < f.length
theorem taskLarge {w:World} {tv:Value} {t:Tsk} (ht:V w tv t):Fn Try.prog 53 [tv] w fun v w'=>v=.bool (bof (Large t))∧Ext w w':=by
  have ht0:=ht
  obtain ⟨cs,rfl,a,b,c,d,rfl,hvars,hinit,hgoal,hops⟩:=ht
  obtain ⟨Av,cv,rfl⟩:=hvars.form
  obtain ⟨Ai,ci,rfl⟩:=hinit.form
  obtain ⟨Ag,cg,rfl⟩:=hgoal.form
  obtain ⟨Ao,co,rfl⟩:=hops.form
  have hol:=hops.len
  refine AN Try.func53 rfl Try.ntmps53 rfl ?_
  repeat (first|refine Ah ?_|refine Al ?_|refine Ae ?_|refine Am ?_|refine Au ?_|refine At ?_|refine Ar rfl ?_|refine Aj rfl ?_)
  refine Dk rfl rfl fun w1 hN=>?_
  have hb1:=hN.blk
  have hE1:Ext w w1:=hN.ext
  (refine o_as rfl rfl ?_<;>(first|refine Ay ?_|refine AA ?_|refine Aw ?_|refine AB ?_))
  repeat (first|refine Ah ?_|refine Al ?_|refine Ae ?_|refine Am ?_|refine Au ?_|refine At ?_|refine Ar rfl ?_|refine Aj rfl ?_)
  ((repeat (first|refine Ah ?_|refine Al ?_|refine Ae ?_|refine Am ?_|refine Au ?_|refine At ?_|refine Ar rfl ?_|refine Aj rfl ?_))<;>(refine o_fa rfl rfl ?_<;>refine o_ld rfl rfl ?_<;>refine o_ln rfl rfl ?_<;>(first|refine o_gtT rfl rfl rfl ?_|refine o_gtF rfl rfl rfl ?_|refine o_gtS rfl rfl rfl (fun _=>?_) fun _=>?_)<;>refine o_mv rfl rfl ?_<;>(first|(refine AD rfl rfl ?_;refine o_fa rfl rfl ?_)|refine AC rfl rfl rfl rfl ?_)<;>(first|(refine AD rfl rfl ?_;refine o_ld rfl rfl ?_)|refine AC rfl rfl rfl rfl ?_)<;>(first|(refine AD rfl rfl ?_;refine o_ln rfl rfl ?_)|refine AC rfl rfl rfl rfl ?_)<;>(first|(refine AD rfl rfl ?_;(first|refine o_gtT rfl rfl rfl ?_|refine o_gtF rfl rfl rfl ?_|refine o_gtS rfl rfl rfl (fun _=>?_) fun _=>?_))|refine AC rfl rfl rfl rfl ?_)<;>(first|refine o_pt rfl rfl rfl ?_|refine o_pf rfl rfl rfl ?_)<;>(first|refine Ay ?_|refine AA ?_|refine Aw ?_|refine AB ?_))<;>(repeat (first|refine Ah ?_|refine Al ?_|refine Ae ?_|refine Am ?_|refine Au ?_|refine At ?_|refine Ar rfl ?_|refine Aj rfl ?_)))
  all_goals try (
    ((repeat (first|refine Ah ?_|refine Al ?_|refine Ae ?_|refine Am ?_|refine Au ?_|refine At ?_|refine Ar rfl ?_|refine Aj rfl ?_))<;>(refine o_as rfl rfl ?_<;>(first|refine Ay ?_|refine AA ?_|refine Aw ?_|refine AB ?_))<;>(repeat (first|refine Ah ?_|refine Al ?_|refine Ae ?_|refine Am ?_|refine Au ?_|refine At ?_|refine Ar rfl ?_|refine Aj rfl ?_)))
    refine ret1 rfl rfl ⟨?_,hE1⟩
    rw [bof_t (by first|exact .inl (by omega)|exact .inr (.inl (by omega)))])
  ((repeat (first|refine Ah ?_|refine Al ?_|refine Ae ?_|refine Am ?_|refine Au ?_|refine At ?_|refine Ar rfl ?_|refine Aj rfl ?_))<;>(refine o_fa rfl rfl ?_<;>refine o_ld rfl rfl ?_<;>refine o_ln rfl rfl ?_<;>refine o_mv rfl rfl ?_<;>(first|refine Ay ?_|refine AA ?_|refine Aw ?_|refine AB ?_))<;>(repeat (first|refine Ah ?_|refine Al ?_|refine Ae ?_|refine Am ?_|refine Au ?_|refine At ?_|refine Ar rfl ?_|refine Aj rfl ?_)))
  refine BG t.ops.length (by omega) (fun _:Unit=>[(1,.pointer (some ⟨w.heap.size,0,none⟩)),(16,.slice Ao t.ops.length co)]) (fun k _ w'=>Ext w1 w'∧∀ i,i < k→∀ o,t.ops[i]?=some o→o.effs.length≤64) ()
    ⟨Below.refl _ _,fun i hi=>by omega⟩ ⟨rfl,rfl,rfl,rfl,trivial⟩ (fun _=>⟨rfl,rfl⟩) ⟨rfl,rfl,rfl⟩ ⟨rfl,rfl⟩ ?_ ?_
  · rintro k _ w4 hk ⟨hE4,hh⟩
    obtain ⟨o,ho⟩:=AH hk
    obtain ⟨b2,o2,ce,rfl,_,_,hd1,p,q,rfl,hp,hq,hc,hn⟩:=(hops.ext (hE1.trans' hE4)).elem ho
    obtain ⟨Ap,cp,rfl⟩:=hp.form
    obtain ⟨Aq,cq,rfl⟩:=hq.form
    ((repeat (first|refine Ah ?_|refine Al ?_|refine Ae ?_|refine Am ?_|refine Au ?_|refine At ?_|refine Ar rfl ?_|refine Aj rfl ?_))<;>(refine o_ia rfl rfl rfl ?_<;>refine o_la rfl rfl ?_)<;>(repeat (first|refine Ah ?_|refine Al ?_|refine Ae ?_|refine Am ?_|refine Au ?_|refine At ?_|refine Ar rfl ?_|refine Aj rfl ?_)))
    refine BV rfl rfl rfl (by simp [Value.cells,Value.oneCell']) fun w5 hN5=>?_
    have hb2:=hN5.blk
    have hE5:Ext w1 w5:=hE4.trans' hN5.ext
    ((first|refine Ay ?_|refine AA ?_|refine Aw ?_|refine AB ?_))
    repeat (first|refine Ah ?_|refine Al ?_|refine Ae ?_|refine Am ?_|refine Au ?_|refine At ?_|refine Ar rfl ?_|refine Aj rfl ?_)
    ((repeat (first|refine Ah ?_|refine Al ?_|refine Ae ?_|refine Am ?_|refine Au ?_|refine At ?_|refine Ar rfl ?_|refine Aj rfl ?_))<;>(refine o_fa rfl rfl ?_<;>refine o_ld rfl rfl ?_<;>refine o_ln rfl rfl ?_<;>(first|refine o_gtT rfl rfl rfl ?_|refine o_gtF rfl rfl rfl ?_|refine o_gtS rfl rfl rfl (fun _=>?_) fun _=>?_)<;>(first|refine Ay ?_|refine AA ?_|refine Aw ?_|refine AB ?_))<;>(repeat (first|refine Ah ?_|refine Al ?_|refine Ae ?_|refine Am ?_|refine Au ?_|refine At ?_|refine Ar rfl ?_|refine Aj rfl ?_)))
    · ((repeat (first|refine Ah ?_|refine Al ?_|refine Ae ?_|refine Am ?_|refine Au ?_|refine At ?_|refine Ar rfl ?_|refine Aj rfl ?_))<;>(refine o_as rfl rfl ?_<;>(first|refine Ay ?_|refine AA ?_|refine Aw ?_|refine AB ?_))<;>(repeat (first|refine Ah ?_|refine Al ?_|refine Ae ?_|refine Am ?_|refine Au ?_|refine At ?_|refine Ar rfl ?_|refine Aj rfl ?_)))
      refine ret1 rfl rfl ⟨?_,hE1.trans' hE5⟩
      rw [bof_t (.inr (.inr (.inl ⟨k,o,ho,by omega⟩)))]
    · exact ⟨(),⟨rfl,rfl,rfl,rfl,trivial⟩,hE5,CS hh fun o' ho'=>by rw [ho] at ho';injection ho' with ho';subst ho';omega⟩
  rintro _ w4 ⟨hE4,hh⟩
  replace hb1:=hb1.ext hE4
  replace hE4:Ext w w4:=hE1.trans' hE4
  have hm:∀ (i:Nat) o,t.ops[i]?=some o→o.effs.length≤64:=fun i o ho=>hh i (By ho) o ho
  repeat (first|refine Ah ?_|refine Al ?_|refine Ae ?_|refine Am ?_|refine Au ?_|refine At ?_|refine Ar rfl ?_|refine Aj rfl ?_)
  (refine o_la rfl rfl ?_)
  refine Bf rfl rfl (taskConditions (ht0.ext hE4) (by omega) hm) ?_
  rintro v5 w5 ⟨hv5,hE5⟩
  refine Bf rfl rfl (containsFuncFacts (p:=fun f=>64 < f.length) (caps:=[]) hv5 (fun v x w' _ _ hx=>taskLarge1 hx)) ?_
  rintro v6 w6 ⟨rfl,hE6⟩
  (refine o_as rfl rfl ?_<;>(first|refine Ay ?_|refine AA ?_|refine Aw ?_|refine AB ?_))
  repeat (first|refine Ah ?_|refine Al ?_|refine Ae ?_|refine Am ?_|refine Au ?_|refine At ?_|refine Ar rfl ?_|refine Aj rfl ?_)
  refine ret1 rfl rfl ⟨?_,hE4.trans' (hE5.trans' hE6)⟩
  congr 1
  refine Nd ⟨fun h=>.inr (.inr (.inr h)),fun h=>?_⟩
  rcases h with h|h|⟨i,o,ho,h⟩|h
  · omega
  · omega
  · have:=hm i o ho;omega
  · exact h
end
section
open Go Go.RowKit
def errV (n:Int):Value:=if n=0 then .nilIface else .iface 52 (.int .i64 n)
theorem EY:errV 0=.nilIface:=by unfold errV;rfl
theorem Fw {n:Int} (h:n≠0):errV n=.iface 52 (.int .i64 n):=by unfold errV;rw [if_neg h]
theorem AJ (n:Int):(errV n).oneCell'=true:=by unfold errV;split<;>rfl
structure Err where
  n:Int
instance:Rp Err where
  isAgg:=false
  size:=1
  R _ _ cs x:=cs=[errV x.n]∧inI64 x.n
  len:=by rintro w F cs x ⟨rfl,_⟩;rfl
  one:=by
    rintro w F cs x ⟨rfl,_⟩ u hu
    have:u=errV x.n:=by simpa using hu
    subst this;exact AJ _
  agree:=fun h _=>h
  mono:=fun h _=>h
theorem Vb.err {w:World} {F:Nat→Prop} {v:Value} {x:Err} (h:Vb w F v x):v=errV x.n∧inI64 x.n:=by
  obtain ⟨h1,h2⟩:=h
  exact ⟨by simpa using h1,h2⟩
theorem vErr {w:World} {F:Nat→Prop} {n:Int} (h:inI64 n):Vb w F (errV n) (⟨n⟩:Err):=⟨rfl,h⟩
theorem vErr0 {w:World} {F:Nat→Prop}:Vb w F .nilIface (⟨0⟩:Err):=⟨by rw [EY],by decide⟩
end
section
open Go Go.RowKit
attribute [local irreducible] ewp owp hwp hwq hws Ev Evg Fn retPost loud loudS Res1
def VarsOk (t:Tsk):Prop:=∀ (i:Nat) n,t.vars[i]?=some n→1≤n∧n≤64
def CostsOk (t:Tsk):Prop:=∀ (i:Nat) o,t.ops[i]?=some o→0≤o.cost∧o.cost≤1048576
def CondsOk (t:Tsk):Prop:=∀ (i:Nat) f,(conds t)[i]?=some f→FactsOk t.vars f
def EffsOk (t:Tsk):Prop:=∀ (i:Nat) o,t.ops[i]?=some o→∀ (j:Nat) e,o.effs[j]?=some e→FactOk t.vars ⟨e.var,e.val⟩
def NamesOk (t:Tsk):Prop:=∀ (i:Nat) o,t.ops[i]?=some o→NameOk o.name
noncomputable def checkN (t:Tsk):Int :=
  if bof (Large t)=true then 5 else if bof (VarsOk t∧CostsOk t)=false then 1 else if bof (StateOk t.vars t.init∧CondsOk t∧EffsOk t)=false then 2 else if bof (NamesOk t)=false then 8 else 0
theorem taskCheck {w:World} {tv:Value} {t:Tsk} (ht:V w tv t):Fn Try.prog 29 [tv] w fun v w'=>v=errV (checkN t)∧Ext w w':=by
  have ht0:=ht
  obtain ⟨cs,rfl,a,b,c,d,rfl,hvars,hinit,hgoal,hops⟩:=ht
  obtain ⟨Av,cv,rfl⟩:=hvars.form
  obtain ⟨Ai,ci,rfl⟩:=hinit.form
  obtain ⟨Ag,cg,rfl⟩:=hgoal.form
  obtain ⟨Ao,co,rfl⟩:=hops.form
  have hvl:=hvars.len
  have hol:=hops.len
  refine AN Try.func29 rfl Try.ntmps29 rfl ?_
  repeat (first|refine Ah ?_|refine Al ?_|refine Ae ?_|refine Am ?_|refine Au ?_|refine At ?_|refine Ar rfl ?_|refine Aj rfl ?_)
  refine Dk rfl rfl fun w1 hN=>?_
  have hb1:=hN.blk
  have hE1:Ext w w1:=hN.ext
  (refine o_as rfl rfl ?_<;>(first|refine Ay ?_|refine AA ?_|refine Aw ?_|refine AB ?_))
  repeat (first|refine Ah ?_|refine Al ?_|refine Ae ?_|refine Am ?_|refine Au ?_|refine At ?_|refine Ar rfl ?_|refine Aj rfl ?_)
  (refine o_la rfl rfl ?_)
  refine DM rfl rfl (taskLarge (ht0.ext hE1)) ?_ ?_
  case refine_1 =>
    intro w2 hP hE2
    ((first|refine Ay ?_|refine AA ?_|refine Aw ?_|refine AB ?_))
    repeat (first|refine Ah ?_|refine Al ?_|refine Ae ?_|refine Am ?_|refine Au ?_|refine At ?_|refine Ar rfl ?_|refine Aj rfl ?_)
    ((repeat (first|refine Ah ?_|refine Al ?_|refine Ae ?_|refine Am ?_|refine Au ?_|refine At ?_|refine Ar rfl ?_|refine Aj rfl ?_))<;>(refine o_mi rfl rfl ?_<;>refine o_as rfl rfl ?_<;>(first|refine Ay ?_|refine AA ?_|refine Aw ?_|refine AB ?_))<;>(repeat (first|refine Ah ?_|refine Al ?_|refine Ae ?_|refine Am ?_|refine Au ?_|refine At ?_|refine Ar rfl ?_|refine Aj rfl ?_)))
    refine ret1 rfl rfl ⟨?_,hE1.trans' hE2⟩
    rw [checkN,bof_t hP];rfl
  intro w2 hlarge hE2
  replace hb1:=hb1.ext hE2
  replace hE2:Ext w w2:=hE1.trans' hE2
  have hm:∀ (i:Nat) o,t.ops[i]?=some o→o.effs.length≤64:=fun i o ho=>Nat.le_of_not_lt fun h=>hlarge (.inr (.inr (.inl ⟨i,o,ho,h⟩)))
  have hn4:t.ops.length≤4096:=Nat.le_of_not_lt fun h=>hlarge (.inr (.inl h))
  have c1:checkN t=if bof (VarsOk t∧CostsOk t)=false then 1 else if bof (StateOk t.vars t.init∧CondsOk t∧EffsOk t)=false then 2 else if bof (NamesOk t)=false then 8 else 0:=by rw [checkN,bof_f hlarge];rfl
  ((first|refine Ay ?_|refine AA ?_|refine Aw ?_|refine AB ?_))
  repeat (first|refine Ah ?_|refine Al ?_|refine Ae ?_|refine Am ?_|refine Au ?_|refine At ?_|refine Ar rfl ?_|refine Aj rfl ?_)
  ((repeat (first|refine Ah ?_|refine Al ?_|refine Ae ?_|refine Am ?_|refine Au ?_|refine At ?_|refine Ar rfl ?_|refine Aj rfl ?_))<;>(refine o_fa rfl rfl ?_<;>refine o_ld rfl rfl ?_<;>refine o_ln rfl rfl ?_<;>refine o_mv rfl rfl ?_<;>(first|refine Ay ?_|refine AA ?_|refine Aw ?_|refine AB ?_))<;>(repeat (first|refine Ah ?_|refine Al ?_|refine Ae ?_|refine Am ?_|refine Au ?_|refine At ?_|refine Ar rfl ?_|refine Aj rfl ?_)))
  refine BG t.vars.length (by omega) (fun _:Unit=>[(1,.pointer (some ⟨w.heap.size,0,none⟩)),(19,.slice Av t.vars.length cv)]) (fun k _ w'=>w'=w2∧∀ i,i < k→∀ n,t.vars[i]?=some n→1≤n∧n≤64) ()
    ⟨rfl,fun i hi=>by omega⟩ ⟨rfl,rfl,rfl,rfl,trivial⟩ (fun _=>⟨rfl,rfl⟩) ⟨rfl,rfl,rfl⟩ ⟨rfl,rfl⟩ ?_ ?_
  · rintro k _ _ hk ⟨rfl,hh⟩
    obtain ⟨n,hn⟩:=AH hk
    obtain ⟨b2,o2,ce,rfl,_,_,hd1,rfl,_⟩:=(hvars.ext hE2).elem hn
    ((repeat (first|refine Ah ?_|refine Al ?_|refine Ae ?_|refine Am ?_|refine Au ?_|refine At ?_|refine Ar rfl ?_|refine Aj rfl ?_))<;>(refine o_ia rfl rfl rfl ?_<;>refine o_ld rfl rfl ?_<;>refine o_as rfl rfl ?_<;>(first|refine Ay ?_|refine AA ?_|refine Aw ?_|refine AB ?_))<;>(repeat (first|refine Ah ?_|refine Al ?_|refine Ae ?_|refine Am ?_|refine Au ?_|refine At ?_|refine Ar rfl ?_|refine Aj rfl ?_))<;>(refine o_mv rfl rfl ?_<;>(first|refine o_ltT rfl rfl rfl ?_|refine o_ltF rfl rfl rfl ?_|refine o_ltS rfl rfl rfl (fun _=>?_) fun _=>?_)<;>refine o_mv rfl rfl ?_<;>(first|(refine AD rfl rfl ?_;refine o_mv rfl rfl ?_)|refine AC rfl rfl rfl rfl ?_)<;>(first|(refine AD rfl rfl ?_;(first|refine o_gtT rfl rfl rfl ?_|refine o_gtF rfl rfl rfl ?_|refine o_gtS rfl rfl rfl (fun _=>?_) fun _=>?_))|refine AC rfl rfl rfl rfl ?_)<;>(first|refine o_pt rfl rfl rfl ?_|refine o_pf rfl rfl rfl ?_)<;>(first|refine Ay ?_|refine AA ?_|refine Aw ?_|refine AB ?_))<;>(repeat (first|refine Ah ?_|refine Al ?_|refine Ae ?_|refine Am ?_|refine Au ?_|refine At ?_|refine Ar rfl ?_|refine Aj rfl ?_)))
    all_goals try (
      ((repeat (first|refine Ah ?_|refine Al ?_|refine Ae ?_|refine Am ?_|refine Au ?_|refine At ?_|refine Ar rfl ?_|refine Aj rfl ?_))<;>(refine o_mi rfl rfl ?_<;>refine o_as rfl rfl ?_<;>(first|refine Ay ?_|refine AA ?_|refine Aw ?_|refine AB ?_))<;>(repeat (first|refine Ah ?_|refine Al ?_|refine Ae ?_|refine Am ?_|refine Au ?_|refine At ?_|refine Ar rfl ?_|refine Aj rfl ?_)))
      refine ret1 rfl rfl ⟨?_,hE2⟩
      rw [c1,bof_f (fun h=>by have:=h.1 k n hn;omega)];rfl)
    exact ⟨(),⟨rfl,rfl,rfl,rfl,trivial⟩,rfl,CS hh fun n' hn'=>by rw [hn] at hn';injection hn' with hn';omega⟩
  rintro _ _ ⟨rfl,hdom⟩
  replace hdom:VarsOk t:=fun i n hn=>hdom i (By hn) n hn
  repeat (first|refine Ah ?_|refine Al ?_|refine Ae ?_|refine Am ?_|refine Au ?_|refine At ?_|refine Ar rfl ?_|refine Aj rfl ?_)
  ((repeat (first|refine Ah ?_|refine Al ?_|refine Ae ?_|refine Am ?_|refine Au ?_|refine At ?_|refine Ar rfl ?_|refine Aj rfl ?_))<;>(refine o_fa rfl rfl ?_<;>refine o_ld rfl rfl ?_<;>refine o_ln rfl rfl ?_<;>refine o_mv rfl rfl ?_<;>(first|refine Ay ?_|refine AA ?_|refine Aw ?_|refine AB ?_))<;>(repeat (first|refine Ah ?_|refine Al ?_|refine Ae ?_|refine Am ?_|refine Au ?_|refine At ?_|refine Ar rfl ?_|refine Aj rfl ?_)))
  refine BG t.ops.length (by omega) (fun _:Unit=>[(1,.pointer (some ⟨w.heap.size,0,none⟩)),(34,.slice Ao t.ops.length co)]) (fun k _ w'=>Ext w w'∧Blk w' w.heap.size 26 [.slice Av t.vars.length cv,.slice Ai t.init.length ci,.slice Ag t.goal.length cg,.slice Ao t.ops.length co]∧∀ i,i < k→∀ o,t.ops[i]?=some o→0≤o.cost∧o.cost≤1048576) ()
    ⟨hE2,hb1,fun i hi=>by omega⟩ ⟨rfl,rfl,rfl,rfl,trivial⟩ (fun _=>⟨rfl,rfl⟩) ⟨rfl,rfl,rfl⟩ ⟨rfl,rfl⟩ ?_ ?_
  · rintro k _ w4 hk ⟨hE4,hb1,hh⟩
    obtain ⟨o,ho⟩:=AH hk
    obtain ⟨b2,o2,ce,rfl,_,_,hd1,p,q,rfl,hp,hq,hc,hn⟩:=(hops.ext hE4).elem ho
    obtain ⟨Ap,cp,rfl⟩:=hp.form
    obtain ⟨Aq,cq,rfl⟩:=hq.form
    ((repeat (first|refine Ah ?_|refine Al ?_|refine Ae ?_|refine Am ?_|refine Au ?_|refine At ?_|refine Ar rfl ?_|refine Aj rfl ?_))<;>(refine o_ia rfl rfl rfl ?_<;>refine o_la rfl rfl ?_)<;>(repeat (first|refine Ah ?_|refine Al ?_|refine Ae ?_|refine Am ?_|refine Au ?_|refine At ?_|refine Ar rfl ?_|refine Aj rfl ?_)))
    refine BV rfl rfl rfl (by simp [Value.cells,Value.oneCell']) fun w5 hN5=>?_
    replace hb1:=hb1.ext hN5.ext
    have hb2:=hN5.blk
    have hE5:Ext w w5:=hE4.trans' hN5.ext
    ((first|refine Ay ?_|refine AA ?_|refine Aw ?_|refine AB ?_))
    repeat (first|refine Ah ?_|refine Al ?_|refine Ae ?_|refine Am ?_|refine Au ?_|refine At ?_|refine Ar rfl ?_|refine Aj rfl ?_)
    ((repeat (first|refine Ah ?_|refine Al ?_|refine Ae ?_|refine Am ?_|refine Au ?_|refine At ?_|refine Ar rfl ?_|refine Aj rfl ?_))<;>(refine o_fa rfl rfl ?_<;>refine o_ld rfl rfl ?_<;>(first|refine o_ltT rfl rfl rfl ?_|refine o_ltF rfl rfl rfl ?_|refine o_ltS rfl rfl rfl (fun _=>?_) fun _=>?_)<;>refine o_mv rfl rfl ?_<;>(first|(refine AD rfl rfl ?_;refine o_fa rfl rfl ?_)|refine AC rfl rfl rfl rfl ?_)<;>(first|(refine AD rfl rfl ?_;refine o_ld rfl rfl ?_)|refine AC rfl rfl rfl rfl ?_)<;>(first|(refine AD rfl rfl ?_;(first|refine o_gtT rfl rfl rfl ?_|refine o_gtF rfl rfl rfl ?_|refine o_gtS rfl rfl rfl (fun _=>?_) fun _=>?_))|refine AC rfl rfl rfl rfl ?_)<;>(first|refine o_pt rfl rfl rfl ?_|refine o_pf rfl rfl rfl ?_)<;>(first|refine Ay ?_|refine AA ?_|refine Aw ?_|refine AB ?_))<;>(repeat (first|refine Ah ?_|refine Al ?_|refine Ae ?_|refine Am ?_|refine Au ?_|refine At ?_|refine Ar rfl ?_|refine Aj rfl ?_)))
    all_goals try (
      ((repeat (first|refine Ah ?_|refine Al ?_|refine Ae ?_|refine Am ?_|refine Au ?_|refine At ?_|refine Ar rfl ?_|refine Aj rfl ?_))<;>(refine o_mi rfl rfl ?_<;>refine o_as rfl rfl ?_<;>(first|refine Ay ?_|refine AA ?_|refine Aw ?_|refine AB ?_))<;>(repeat (first|refine Ah ?_|refine Al ?_|refine Ae ?_|refine Am ?_|refine Au ?_|refine At ?_|refine Ar rfl ?_|refine Aj rfl ?_)))
      refine ret1 rfl rfl ⟨?_,hE5⟩
      rw [c1,bof_f (fun h=>by have:=h.2 k o ho;omega)];rfl)
    exact ⟨(),⟨rfl,rfl,rfl,rfl,trivial⟩,hE5,hb1,CS hh fun o' ho'=>by rw [ho] at ho';injection ho' with ho';subst ho';omega⟩
  rintro _ w3 ⟨hE3,hb1,hcost⟩
  replace hcost:CostsOk t:=fun i o ho=>hcost i (By ho) o ho
  have c2:checkN t=if bof (StateOk t.vars t.init∧CondsOk t∧EffsOk t)=false then 2 else if bof (NamesOk t)=false then 8 else 0:=by rw [c1,bof_t ⟨hdom,hcost⟩];rfl
  repeat (first|refine Ah ?_|refine Al ?_|refine Ae ?_|refine Am ?_|refine Au ?_|refine At ?_|refine Ar rfl ?_|refine Aj rfl ?_)
  (refine o_fa rfl rfl ?_<;>refine o_ld rfl rfl ?_<;>refine o_fa rfl rfl ?_<;>refine o_ld rfl rfl ?_)
  refine DM rfl rfl (taskProper (hvars.ext hE3) (hinit.ext hE3)) ?_ ?_
  case refine_2 =>
    intro w4 hP hE4
    ((first|refine o_nt rfl rfl ?_|refine o_nf rfl rfl ?_|refine o_nn rfl rfl ?_)<;>(first|refine Ay ?_|refine AA ?_|refine Aw ?_|refine AB ?_))
    repeat (first|refine Ah ?_|refine Al ?_|refine Ae ?_|refine Am ?_|refine Au ?_|refine At ?_|refine Ar rfl ?_|refine Aj rfl ?_)
    ((repeat (first|refine Ah ?_|refine Al ?_|refine Ae ?_|refine Am ?_|refine Au ?_|refine At ?_|refine Ar rfl ?_|refine Aj rfl ?_))<;>(refine o_mi rfl rfl ?_<;>refine o_as rfl rfl ?_<;>(first|refine Ay ?_|refine AA ?_|refine Aw ?_|refine AB ?_))<;>(repeat (first|refine Ah ?_|refine Al ?_|refine Ae ?_|refine Am ?_|refine Au ?_|refine At ?_|refine Ar rfl ?_|refine Aj rfl ?_)))
    refine ret1 rfl rfl ⟨?_,hE3.trans' hE4⟩
    rw [c2,bof_f (fun h=>hP h.1)];rfl
  intro w4 hst hE4
  replace hb1:=hb1.ext hE4
  replace hE4:Ext w w4:=hE3.trans' hE4
  ((first|refine o_nt rfl rfl ?_|refine o_nf rfl rfl ?_|refine o_nn rfl rfl ?_)<;>(first|refine Ay ?_|refine AA ?_|refine Aw ?_|refine AB ?_))
  repeat (first|refine Ah ?_|refine Al ?_|refine Ae ?_|refine Am ?_|refine Au ?_|refine At ?_|refine Ar rfl ?_|refine Aj rfl ?_)
  (refine o_la rfl rfl ?_)
  refine Bf rfl rfl (taskConditions (ht0.ext hE4) hn4 hm) ?_
  rintro v5 w5 ⟨hv5,hE5⟩
  obtain ⟨Ac,cc,rfl⟩:=hv5.form
  have hcl:=hv5.len
  replace hb1:=hb1.ext hE5
  replace hE5:Ext w w5:=hE4.trans' hE5
  (refine o_ln rfl rfl ?_<;>refine o_mv rfl rfl ?_<;>(first|refine Ay ?_|refine AA ?_|refine Aw ?_|refine AB ?_))
  repeat (first|refine Ah ?_|refine Al ?_|refine Ae ?_|refine Am ?_|refine Au ?_|refine At ?_|refine Ar rfl ?_|refine Aj rfl ?_)
  refine BG (conds t).length (by omega) (fun _:Unit=>[(1,.pointer (some ⟨w.heap.size,0,none⟩)),(58,.slice Ac (conds t).length cc)]) (fun k _ w'=>Ext w5 w'∧∀ i,i < k→∀ f,(conds t)[i]?=some f→FactsOk t.vars f) ()
    ⟨Below.refl _ _,fun i hi=>by omega⟩ ⟨rfl,rfl,rfl,rfl,trivial⟩ (fun _=>⟨rfl,rfl⟩) ⟨rfl,rfl,rfl⟩ ⟨rfl,rfl⟩ ?_ ?_
  · rintro k _ w6 hk ⟨hE6,hh⟩
    obtain ⟨f,hf⟩:=AH hk
    have hb1:=hb1.ext hE6
    obtain ⟨b2,o2,ce,rfl,_,_,hd1,v,rfl,hR⟩:=(hv5.ext hE6).elem hf
    ((repeat (first|refine Ah ?_|refine Al ?_|refine Ae ?_|refine Am ?_|refine Au ?_|refine At ?_|refine Ar rfl ?_|refine Aj rfl ?_))<;>(refine o_ia rfl rfl rfl ?_<;>refine o_ld rfl rfl ?_<;>refine o_as rfl rfl ?_<;>(first|refine Ay ?_|refine AA ?_|refine Aw ?_|refine AB ?_))<;>(repeat (first|refine Ah ?_|refine Al ?_|refine Ae ?_|refine Am ?_|refine Au ?_|refine At ?_|refine Ar rfl ?_|refine Aj rfl ?_))<;>(refine o_fa rfl rfl ?_<;>refine o_ld rfl rfl ?_<;>refine o_mv rfl rfl ?_)<;>(repeat (first|refine Ah ?_|refine Al ?_|refine Ae ?_|refine Am ?_|refine Au ?_|refine At ?_|refine Ar rfl ?_|refine Aj rfl ?_)))
    refine DM rfl rfl (taskFacts (hvars.ext (hE5.trans' hE6)) (Vb.of_slice hR)) ?_ ?_
    · intro w7 hP hE7
      ((first|refine o_nt rfl rfl ?_|refine o_nf rfl rfl ?_|refine o_nn rfl rfl ?_)<;>(first|refine Ay ?_|refine AA ?_|refine Aw ?_|refine AB ?_))
      repeat (first|refine Ah ?_|refine Al ?_|refine Ae ?_|refine Am ?_|refine Au ?_|refine At ?_|refine Ar rfl ?_|refine Aj rfl ?_)
      exact ⟨(),⟨rfl,rfl,rfl,rfl,trivial⟩,hE6.trans' hE7,CS hh fun f' hf'=>by rw [hf] at hf';injection hf' with hf';exact hf' ▸ hP⟩
    · intro w7 hP hE7
      ((first|refine o_nt rfl rfl ?_|refine o_nf rfl rfl ?_|refine o_nn rfl rfl ?_)<;>(first|refine Ay ?_|refine AA ?_|refine Aw ?_|refine AB ?_))
      repeat (first|refine Ah ?_|refine Al ?_|refine Ae ?_|refine Am ?_|refine Au ?_|refine At ?_|refine Ar rfl ?_|refine Aj rfl ?_)
      ((repeat (first|refine Ah ?_|refine Al ?_|refine Ae ?_|refine Am ?_|refine Au ?_|refine At ?_|refine Ar rfl ?_|refine Aj rfl ?_))<;>(refine o_mi rfl rfl ?_<;>refine o_as rfl rfl ?_<;>(first|refine Ay ?_|refine AA ?_|refine Aw ?_|refine AB ?_))<;>(repeat (first|refine Ah ?_|refine Al ?_|refine Ae ?_|refine Am ?_|refine Au ?_|refine At ?_|refine Ar rfl ?_|refine Aj rfl ?_)))
      refine ret1 rfl rfl ⟨?_,hE5.trans' (hE6.trans' hE7)⟩
      rw [c2,bof_f (fun h=>hP (h.2.1 k f hf))];rfl
  rintro _ w6 ⟨hE6,hcond⟩
  replace hcond:CondsOk t:=fun i f hf=>hcond i (By hf) f hf
  replace hb1:=hb1.ext hE6
  replace hE6:Ext w w6:=hE5.trans' hE6
  repeat (first|refine Ah ?_|refine Al ?_|refine Ae ?_|refine Am ?_|refine Au ?_|refine At ?_|refine Ar rfl ?_|refine Aj rfl ?_)
  ((repeat (first|refine Ah ?_|refine Al ?_|refine Ae ?_|refine Am ?_|refine Au ?_|refine At ?_|refine Ar rfl ?_|refine Aj rfl ?_))<;>(refine o_fa rfl rfl ?_<;>refine o_ld rfl rfl ?_<;>refine o_ln rfl rfl ?_<;>refine o_mv rfl rfl ?_<;>(first|refine Ay ?_|refine AA ?_|refine Aw ?_|refine AB ?_))<;>(repeat (first|refine Ah ?_|refine Al ?_|refine Ae ?_|refine Am ?_|refine Au ?_|refine At ?_|refine Ar rfl ?_|refine Aj rfl ?_)))
  refine BG t.ops.length (by omega) (fun _:Unit=>[(1,.pointer (some ⟨w.heap.size,0,none⟩)),(72,.slice Ao t.ops.length co)]) (fun k _ w'=>Ext w6 w'∧∀ i,i < k→∀ o,t.ops[i]?=some o→∀ (j:Nat) e,o.effs[j]?=some e→FactOk t.vars ⟨e.var,e.val⟩) ()
    ⟨Below.refl _ _,fun i hi=>by omega⟩ ⟨rfl,rfl,rfl,rfl,trivial⟩ (fun _=>⟨rfl,rfl⟩) ⟨rfl,rfl,rfl⟩ ⟨rfl,rfl⟩ ?_ ?_
  · rintro k _ w7 hk ⟨hE7,hh⟩
    obtain ⟨o,ho⟩:=AH hk
    have hb1:=hb1.ext hE7
    obtain ⟨b2,o2,ce,rfl,_,_,hd1,p,q,rfl,hp,hq,hc,hn⟩:=(hops.ext (hE6.trans' hE7)).elem ho
    obtain ⟨Ap,cp,rfl⟩:=hp.form
    obtain ⟨Aq,cq,rfl⟩:=hq.form
    have hql:=hq.len
    ((repeat (first|refine Ah ?_|refine Al ?_|refine Ae ?_|refine Am ?_|refine Au ?_|refine At ?_|refine Ar rfl ?_|refine Aj rfl ?_))<;>(refine o_ia rfl rfl rfl ?_<;>refine o_la rfl rfl ?_)<;>(repeat (first|refine Ah ?_|refine Al ?_|refine Ae ?_|refine Am ?_|refine Au ?_|refine At ?_|refine Ar rfl ?_|refine Aj rfl ?_)))
    refine BV rfl rfl rfl (by simp [Value.cells,Value.oneCell']) fun w8 hN8=>?_
    replace hb1:=hb1.ext hN8.ext
    have hb2:=hN8.blk
    have hE8:Ext w6 w8:=hE7.trans' hN8.ext
    replace hq:=hq.ext hN8.ext
    ((first|refine Ay ?_|refine AA ?_|refine Aw ?_|refine AB ?_))
    repeat (first|refine Ah ?_|refine Al ?_|refine Ae ?_|refine Am ?_|refine Au ?_|refine At ?_|refine Ar rfl ?_|refine Aj rfl ?_)
    ((repeat (first|refine Ah ?_|refine Al ?_|refine Ae ?_|refine Am ?_|refine Au ?_|refine At ?_|refine Ar rfl ?_|refine Aj rfl ?_))<;>(refine o_fa rfl rfl ?_<;>refine o_ld rfl rfl ?_<;>refine o_ln rfl rfl ?_<;>refine o_mv rfl rfl ?_<;>(first|refine Ay ?_|refine AA ?_|refine Aw ?_|refine AB ?_))<;>(repeat (first|refine Ah ?_|refine Al ?_|refine Ae ?_|refine Am ?_|refine Au ?_|refine At ?_|refine Ar rfl ?_|refine Aj rfl ?_)))
    refine BG o.effs.length (by omega) (fun _:Unit=>[(1,.pointer (some ⟨w.heap.size,0,none⟩)),(72,.slice (some ⟨b2,o2,none⟩) t.ops.length co),(73,.int .i64 (t.ops.length:Int)),(74,.int .i64 (k:Int)),(79,.slice Aq o.effs.length cq)]) (fun j _ w'=>Ext w8 w'∧∀ i,i < j→∀ e,o.effs[i]?=some e→FactOk t.vars ⟨e.var,e.val⟩) ()
      ⟨Below.refl _ _,fun i hi=>by omega⟩ ⟨rfl,rfl,rfl,rfl,rfl,rfl,rfl,trivial⟩ (fun _=>⟨rfl,rfl⟩) ⟨rfl,rfl,rfl⟩ ⟨rfl,rfl⟩ ?_ ?_
    · rintro j _ w9 hj ⟨hE9,hh9⟩
      obtain ⟨e,he⟩:=AH hj
      have hb1:=hb1.ext hE9
      obtain ⟨b3,o3,ce,rfl,_,_,hd1,cv',rfl,hcn,hr1,hr2⟩:=(hq.ext hE9).elem he
      obtain ⟨Acn,ccn,rfl⟩:=hcn.form
      ((repeat (first|refine Ah ?_|refine Al ?_|refine Ae ?_|refine Am ?_|refine Au ?_|refine At ?_|refine Ar rfl ?_|refine Aj rfl ?_))<;>(refine o_ia rfl rfl rfl ?_<;>refine o_la rfl rfl ?_)<;>(repeat (first|refine Ah ?_|refine Al ?_|refine Ae ?_|refine Am ?_|refine Au ?_|refine At ?_|refine Ar rfl ?_|refine Aj rfl ?_)))
      refine BV rfl rfl rfl (by simp [Value.cells,Value.oneCell']) fun w10 hN10=>?_
      have hb3:=hN10.blk
      replace hb1:=hb1.ext hN10.ext
      have hE10:Ext w w10:=hE6.trans' (hE8.trans' (hE9.trans' hN10.ext))
      ((first|refine Ay ?_|refine AA ?_|refine Aw ?_|refine AB ?_))
      repeat (first|refine Ah ?_|refine Al ?_|refine Ae ?_|refine Am ?_|refine Au ?_|refine At ?_|refine Ar rfl ?_|refine Aj rfl ?_)
      (refine o_fa rfl rfl ?_<;>refine o_ld rfl rfl ?_<;>refine o_fa rfl rfl ?_<;>refine o_ld rfl rfl ?_<;>refine o_fa rfl rfl ?_<;>refine o_ld rfl rfl ?_<;>refine o_bd rfl rfl rfl ?_)
      refine Da rfl rfl rfl (by simp [Value.cells];rfl) (by decide) rfl fun w11 hN11=>?_
      have hE11:Ext w w11:=hE10.trans' hN11.ext
      have hone:V w11 (.slice (some ⟨w10.heap.size,0,none⟩) 1 1) [(⟨e.var,e.val⟩:Fct)]:=Vb.made hN11 (.single ⟨rfl,hr1,hr2⟩) rfl hN11.blk.lt (by decide)
      refine DM rfl rfl (taskFacts (hvars.ext hE11) hone) ?_ ?_
      · intro w12 hP hE12
        ((first|refine o_nt rfl rfl ?_|refine o_nf rfl rfl ?_|refine o_nn rfl rfl ?_)<;>(first|refine Ay ?_|refine AA ?_|refine Aw ?_|refine AB ?_))
        repeat (first|refine Ah ?_|refine Al ?_|refine Ae ?_|refine Am ?_|refine Au ?_|refine At ?_|refine Ar rfl ?_|refine Aj rfl ?_)
        exact ⟨(),⟨rfl,rfl,rfl,rfl,rfl,rfl,rfl,trivial⟩,hE9.trans' (hN10.ext.trans' (hN11.ext.trans' hE12)),CS hh9 fun e' he'=>by rw [he] at he';injection he' with he';subst he';exact HH.1 hP⟩
      · intro w12 hP hE12
        ((first|refine o_nt rfl rfl ?_|refine o_nf rfl rfl ?_|refine o_nn rfl rfl ?_)<;>(first|refine Ay ?_|refine AA ?_|refine Aw ?_|refine AB ?_))
        repeat (first|refine Ah ?_|refine Al ?_|refine Ae ?_|refine Am ?_|refine Au ?_|refine At ?_|refine Ar rfl ?_|refine Aj rfl ?_)
        ((repeat (first|refine Ah ?_|refine Al ?_|refine Ae ?_|refine Am ?_|refine Au ?_|refine At ?_|refine Ar rfl ?_|refine Aj rfl ?_))<;>(refine o_mi rfl rfl ?_<;>refine o_as rfl rfl ?_<;>(first|refine Ay ?_|refine AA ?_|refine Aw ?_|refine AB ?_))<;>(repeat (first|refine Ah ?_|refine Al ?_|refine Ae ?_|refine Am ?_|refine Au ?_|refine At ?_|refine Ar rfl ?_|refine Aj rfl ?_)))
        refine ret1 rfl rfl ⟨?_,hE11.trans' hE12⟩
        rw [c2,bof_f (fun h=>hP (HH.2 (h.2.2 k o ho j e he)))];rfl
    rintro _ w9 ⟨hE9,hh9⟩
    repeat (first|refine Ah ?_|refine Al ?_|refine Ae ?_|refine Am ?_|refine Au ?_|refine At ?_|refine Ar rfl ?_|refine Aj rfl ?_)
    exact ⟨(),⟨rfl,rfl,rfl,rfl,trivial⟩,hE8.trans' hE9,CS hh fun o' ho' j e he=>by rw [ho] at ho';injection ho' with ho';subst ho';exact hh9 j (By he) e he⟩
  rintro _ w7 ⟨hE7,heff⟩
  replace heff:EffsOk t:=fun i o ho=>heff i (By ho) o ho
  have c3:checkN t=if bof (NamesOk t)=false then 8 else 0:=by rw [c2,bof_t ⟨hst,hcond,heff⟩];rfl
  replace hb1:=hb1.ext hE7
  replace hE7:Ext w w7:=hE6.trans' hE7
  repeat (first|refine Ah ?_|refine Al ?_|refine Ae ?_|refine Am ?_|refine Au ?_|refine At ?_|refine Ar rfl ?_|refine Aj rfl ?_)
  ((repeat (first|refine Ah ?_|refine Al ?_|refine Ae ?_|refine Am ?_|refine Au ?_|refine At ?_|refine Ar rfl ?_|refine Aj rfl ?_))<;>(refine o_fa rfl rfl ?_<;>refine o_ld rfl rfl ?_<;>refine o_ln rfl rfl ?_<;>refine o_mv rfl rfl ?_<;>(first|refine Ay ?_|refine AA ?_|refine Aw ?_|refine AB ?_))<;>(repeat (first|refine Ah ?_|refine Al ?_|refine Ae ?_|refine Am ?_|refine Au ?_|refine At ?_|refine Ar rfl ?_|refine Aj rfl ?_)))
  refine BG t.ops.length (by omega) (fun _:Unit=>[(1,.pointer (some ⟨w.heap.size,0,none⟩)),(99,.slice Ao t.ops.length co)]) (fun k _ w'=>Ext w w'∧∀ i,i < k→∀ o,t.ops[i]?=some o→NameOk o.name) ()
    ⟨hE7,fun i hi=>by omega⟩ ⟨rfl,rfl,rfl,rfl,trivial⟩ (fun _=>⟨rfl,rfl⟩) ⟨rfl,rfl,rfl⟩ ⟨rfl,rfl⟩ ?_ ?_
  · rintro k _ w8 hk ⟨hE8,hh⟩
    obtain ⟨o,ho⟩:=AH hk
    obtain ⟨b2,o2,ce,rfl,_,_,hd1,p,q,rfl,hp,hq,hc,hn⟩:=(hops.ext hE8).elem ho
    obtain ⟨Ap,cp,rfl⟩:=hp.form
    obtain ⟨Aq,cq,rfl⟩:=hq.form
    ((repeat (first|refine Ah ?_|refine Al ?_|refine Ae ?_|refine Am ?_|refine Au ?_|refine At ?_|refine Ar rfl ?_|refine Aj rfl ?_))<;>(refine o_ia rfl rfl rfl ?_<;>refine o_la rfl rfl ?_)<;>(repeat (first|refine Ah ?_|refine Al ?_|refine Ae ?_|refine Am ?_|refine Au ?_|refine At ?_|refine Ar rfl ?_|refine Aj rfl ?_)))
    refine BV rfl rfl rfl (by simp [Value.cells,Value.oneCell']) fun w9 hN9=>?_
    have hb2:=hN9.blk
    have hE9:Ext w w9:=hE8.trans' hN9.ext
    ((first|refine Ay ?_|refine AA ?_|refine Aw ?_|refine AB ?_))
    repeat (first|refine Ah ?_|refine Al ?_|refine Ae ?_|refine Am ?_|refine Au ?_|refine At ?_|refine Ar rfl ?_|refine Aj rfl ?_)
    (refine o_fa rfl rfl ?_<;>refine o_ld rfl rfl ?_)
    refine DM rfl rfl (taskNamed hn) ?_ ?_
    · intro w10 hP hE10
      ((first|refine o_nt rfl rfl ?_|refine o_nf rfl rfl ?_|refine o_nn rfl rfl ?_)<;>(first|refine Ay ?_|refine AA ?_|refine Aw ?_|refine AB ?_))
      repeat (first|refine Ah ?_|refine Al ?_|refine Ae ?_|refine Am ?_|refine Au ?_|refine At ?_|refine Ar rfl ?_|refine Aj rfl ?_)
      exact ⟨(),⟨rfl,rfl,rfl,rfl,trivial⟩,hE9.trans' hE10,CS hh fun o' ho'=>by rw [ho] at ho';injection ho' with ho';exact ho' ▸ hP⟩
    · intro w10 hP hE10
      ((first|refine o_nt rfl rfl ?_|refine o_nf rfl rfl ?_|refine o_nn rfl rfl ?_)<;>(first|refine Ay ?_|refine AA ?_|refine Aw ?_|refine AB ?_))
      repeat (first|refine Ah ?_|refine Al ?_|refine Ae ?_|refine Am ?_|refine Au ?_|refine At ?_|refine Ar rfl ?_|refine Aj rfl ?_)
      ((repeat (first|refine Ah ?_|refine Al ?_|refine Ae ?_|refine Am ?_|refine Au ?_|refine At ?_|refine Ar rfl ?_|refine Aj rfl ?_))<;>(refine o_mi rfl rfl ?_<;>refine o_as rfl rfl ?_<;>(first|refine Ay ?_|refine AA ?_|refine Aw ?_|refine AB ?_))<;>(repeat (first|refine Ah ?_|refine Al ?_|refine Ae ?_|refine Am ?_|refine Au ?_|refine At ?_|refine Ar rfl ?_|refine Aj rfl ?_)))
      refine ret1 rfl rfl ⟨?_,hE9.trans' hE10⟩
      rw [c3,bof_f (fun h=>hP (h k o ho))];rfl
  rintro _ w8 ⟨hE8,hnames⟩
  repeat (first|refine Ah ?_|refine Al ?_|refine Ae ?_|refine Am ?_|refine Au ?_|refine At ?_|refine Ar rfl ?_|refine Aj rfl ?_)
  ((repeat (first|refine Ah ?_|refine Al ?_|refine Ae ?_|refine Am ?_|refine Au ?_|refine At ?_|refine Ar rfl ?_|refine Aj rfl ?_))<;>(refine o_as rfl rfl ?_<;>(first|refine Ay ?_|refine AA ?_|refine Aw ?_|refine AB ?_))<;>(repeat (first|refine Ah ?_|refine Al ?_|refine Ae ?_|refine Am ?_|refine Au ?_|refine At ?_|refine Ar rfl ?_|refine Aj rfl ?_)))
  refine ret1 rfl rfl ⟨?_,hE8⟩
  rw [c3,bof_t (show NamesOk t from fun i o ho=>hnames i (By ho) o ho)];rfl
end
section
theorem Hx {p:Prop}:bof p=true↔p:=⟨fun h=>Classical.byContradiction fun hn=>(by rw [bof_f hn] at h;exact Bool.noConfusion h),bof_t⟩
theorem Dt {p:Prop}:bof p=false↔¬ p:=by
  rw [← Bool.not_eq_true,Hx]
theorem Gr {vars:List Int} {f:List Fct} (h:FactsOk vars f):∀ (j i:Nat) (x y:Fct),i < j→f[i]?=some x→f[j]?=some y→x.var < y.var
  | 0,i,_,_,hij,_,_=>by omega
  | j + 1,i,x,y,hij,hx,hy=>by
    by_cases he:i=j
    · subst he;exact h.2 i x y hx hy
    · obtain ⟨z,hz⟩:=AH (l:=f) (k:=j) (by have:=By hy;omega)
      have h1:=Gr h j i x z (by omega) hx hz
      have h2:=h.2 j z y hz hy
      omega
theorem Ih {vars:List Int} {f:List Fct} (h:FactsOk vars f):∀ (i:Nat) (x:Fct),f[i]?=some x→(i:Int)≤x.var
  | 0,x,hx=>(h.1 0 x hx).1
  | i + 1,x,hx=>by
    obtain ⟨z,hz⟩:=AH (l:=f) (k:=i) (by have:=By hx;omega)
    have h1:=Ih h i z hz
    have h2:=h.2 i z x hz hx
    omega
theorem EP {vars:List Int} {f:List Fct} (h:FactsOk vars f):f.length≤vars.length:=by
  rcases Nat.eq_zero_or_pos f.length with h0|h0
  · omega
  · obtain ⟨x,hx⟩:=AH (l:=f) (k:=f.length - 1) (by omega)
    have h1:=Ih h _ x hx
    obtain ⟨h2,h3,y,hy,_⟩:=h.1 _ x hx
    have:=By hy
    omega
theorem FI {t:Tsk} {f:List Fct}:f∈conds t↔f=t.goal∨∃ (i:Nat) (o:Opr),t.ops[i]?=some o∧(f=o.pre∨∃ (j:Nat) (e:Eff),o.effs[j]?=some e∧f=e.cond):=by
  unfold conds opConds
  rw [List.mem_cons,List.mem_flatMap]
  constructor
  · rintro (h|⟨o,ho,hf⟩)
    · exact .inl h
    · obtain ⟨i,hi⟩:=List.getElem?_of_mem ho
      refine .inr ⟨i,o,hi,?_⟩
      rcases List.mem_cons.1 hf with h|h
      · exact .inl h
      · obtain ⟨e,he,rfl⟩:=List.mem_map.1 h
        obtain ⟨j,hj⟩:=List.getElem?_of_mem he
        exact .inr ⟨j,e,hj,rfl⟩
  · rintro (h|⟨i,o,ho,h⟩)
    · exact .inl h
    · refine .inr ⟨o,List.mem_of_getElem? ho,?_⟩
      rcases h with rfl|⟨j,e,he,rfl⟩
      · exact List.mem_cons_self
      · exact List.mem_cons_of_mem _ (List.mem_map.2 ⟨e,List.mem_of_getElem? he,rfl⟩)
theorem Gs {t:Tsk}:checkN t=0↔TaskOk t:=by
  unfold checkN
  constructor
  · intro h
    by_cases h1:Large t
    · rw [if_pos (Hx.2 h1)] at h;cases h
    rw [if_neg (fun hh=>h1 (Hx.1 hh))] at h
    by_cases h2:VarsOk t∧CostsOk t
    case neg=>rw [if_pos (Dt.2 h2)] at h;cases h
    rw [if_neg (fun hh=>Dt.1 hh h2)] at h
    by_cases h3:StateOk t.vars t.init∧CondsOk t∧EffsOk t
    case neg=>rw [if_pos (Dt.2 h3)] at h;cases h
    rw [if_neg (fun hh=>Dt.1 hh h3)] at h
    by_cases h4:NamesOk t
    case neg=>rw [if_pos (Dt.2 h4)] at h;cases h
    have hc:∀ f∈conds t,FactsOk t.vars f:=fun f hf=>by
      obtain ⟨i,hi⟩:=List.getElem?_of_mem hf
      exact h3.2.1 i f hi
    have hl:t.vars.length≤64∧t.ops.length≤4096∧(∀ (i:Nat) (o:Opr),t.ops[i]?=some o→o.effs.length≤64):=by
      unfold Large at h1
      refine ⟨Nat.le_of_not_lt fun h=>h1 (.inl h),Nat.le_of_not_lt fun h=>h1 (.inr (.inl h)),fun i o ho=>Nat.le_of_not_lt fun h=>h1 (.inr (.inr (.inl ⟨i,o,ho,h⟩)))⟩
    exact ⟨hl.1,hl.2.1,h2.1,h3.1,hc _ (FI.2 (.inl rfl)),fun i o ho=>⟨(h2.2 i o ho).1,(h2.2 i o ho).2,hl.2.2 i o ho,h4 i o ho,hc _ (FI.2 (.inr ⟨i,o,ho,.inl rfl⟩)),fun j e he=>⟨hc _ (FI.2 (.inr ⟨i,o,ho,.inr ⟨j,e,he,rfl⟩⟩)),h3.2.2 i o ho j e he⟩⟩⟩
  · rintro ⟨h1,h2,h3,h4,h5,h6⟩
    have hc:∀ f∈conds t,FactsOk t.vars f:=fun f hf=>by
      rcases FI.1 hf with rfl|⟨i,o,ho,rfl|⟨j,e,he,rfl⟩⟩
      · exact h5
      · exact (h6 i o ho).2.2.2.2.1
      · exact ((h6 i o ho).2.2.2.2.2 j e he).1
    have hL:¬ Large t:=by
      rintro (h|h|⟨i,o,ho,h⟩|⟨f,hf,h⟩)
      · omega
      · omega
      · have:=(h6 i o ho).2.2.1;omega
      · have:=EP (hc f hf);omega
    have hV:VarsOk t∧CostsOk t:=⟨h3,fun i o ho=>⟨(h6 i o ho).1,(h6 i o ho).2.1⟩⟩
    have hS:StateOk t.vars t.init∧CondsOk t∧EffsOk t:=⟨h4,fun i f hf=>hc f (List.mem_of_getElem? hf),fun i o ho j e he=>((h6 i o ho).2.2.2.2.2 j e he).2⟩
    have hN:NamesOk t:=fun i o ho=>(h6 i o ho).2.2.2.1
    rw [if_neg (fun hh=>hL (Hx.1 hh)),if_neg (fun hh=>Dt.1 hh hV),if_neg (fun hh=>Dt.1 hh hS),if_neg (fun hh=>Dt.1 hh hN)]
theorem TaskOk.vars {t:Tsk} (h:TaskOk t):VarsOk t:=h.2.2.1
end
section
open Go Go.RowKit
section
variable {P : Program} {l : Env} {w : World} {dst : Option Tmp} {ty : TypeId} {pos : String} {aft : Array Edge}
theorem Ii {t u:TypeId} {x y:Operand} {a b c:Int} (hx:opv l x=some (.int .i64 a)) (hy:opv l y=some (.int .i64 b)) (he:chkI (a + b)=some c):Ev P ⟨dst,.binOp .add t x y u,ty,pos,aft,none⟩ l w (.int .i64 c):=by
  obtain ⟨rfl,h⟩:=FG he
  exact Jn hx hy h
theorem Ij {t u:TypeId} {x y:Operand} {a b c:Int} (hx:opv l x=some (.int .i64 a)) (hy:opv l y=some (.int .i64 b)) (he:chkI (a - b)=some c):Ev P ⟨dst,.binOp .sub t x y u,ty,pos,aft,none⟩ l w (.int .i64 c):=by
  obtain ⟨rfl,h⟩:=FG he
  exact MY hx hy h
theorem KS {t u:TypeId} {x y:Operand} {a b c:Int} (hx:opv l x=some (.int .i64 a)) (hy:opv l y=some (.int .i64 b)) (he:chkI (a * b)=some c):Ev P ⟨dst,.binOp .mul t x y u,ty,pos,aft,none⟩ l w (.int .i64 c):=by
  obtain ⟨rfl,h⟩:=FG he
  exact MZ hx hy h
theorem MA {t u:TypeId} {x y:Operand} {a b c:Int} (hx:opv l x=some (.int .i64 a)) (hy:opv l y=some (.int .i64 b)) (he:remI a b=some c):Ev P ⟨dst,.binOp .rem t x y u,ty,pos,aft,none⟩ l w (.int .i64 c):=by
  obtain ⟨h1,h2,rfl⟩:=IQ he
  exact Na hx hy h1 h2
theorem Jx {t e:TypeId} [TSlice P t e] {z:Value} {size bytes:Nat} [TInfo P e z size bytes] {x i:Operand} {k:IntKind} {A:Option Addr} {b o m c j:Nat} {q:Int} (hx:opv l x=some (.slice A m c)) (hq:opv l i=some (.int k q)) (hA:A=some ⟨b,o,none⟩) (hj:q=(j:Int)) (hlt:j < m) :
    Ev P ⟨dst,.indexAddr t x i,ty,pos,aft,none⟩ l w (.pointer (some ⟨b,o + j * size,none⟩)):=by
  subst hA
  exact Ex hx hq hj hlt
theorem Nh {t:TypeId} {f off:Nat} [TField P t f off] {x:Operand} {p:Option Addr} {b o:Nat} (hx:opv l x=some (.pointer p)) (hA:p=some ⟨b,o,none⟩):Ev P ⟨dst,.fieldAddr t x f,ty,pos,aft,none⟩ l w (.pointer (some ⟨b,o + off,none⟩)):=by
  subst hA
  exact CT hx
theorem Ni {x:Operand} {p:Option Addr} {ad:Addr} (hx:opv l x=some (.pointer p)) (hA:p=some ad):Ev P ⟨dst,.nilCheck x,ty,pos,aft,none⟩ l w (.pointer p):=by
  subst hA
  exact HN hx
theorem Nj {x:Operand} {n:Int} [TInt P 52 .i64] (hx:opv l x=some (.int .i64 n)) (hn:n≠0):Ev P ⟨dst,.makeInterface 52 x,ty,pos,aft,none⟩ l w (errV n):=by
  rw [Fw hn]
  exact Ic hx
theorem IB {t u:TypeId} [TIface P t] {x:Operand} {n:Int} (hx:opv l x=some (errV n)):Ev P ⟨dst,.binOp .eql t x (.const .nilIface) u,ty,pos,aft,none⟩ l w (.bool (decide (n=0))):=by
  by_cases h:n=0
  · subst h
    rw [EY] at hx
    exact IN hx
  · rw [Fw h] at hx
    simpa [h] using Id (P:=P) (w:=w) (dst:=dst) (ty:=ty) (pos:=pos) (aft:=aft) (t:=t) (u:=u) hx
theorem MB {t u:TypeId} [TIface P t] {x:Operand} {n:Int} (hx:opv l x=some (errV n)):Ev P ⟨dst,.binOp .neq t x (.const .nilIface) u,ty,pos,aft,none⟩ l w (.bool (decide (n≠0))):=by
  by_cases h:n=0
  · subst h
    rw [EY] at hx
    exact Ie hx
  · rw [Fw h] at hx
    simpa [h] using HE (P:=P) (w:=w) (dst:=dst) (ty:=ty) (pos:=pos) (aft:=aft) (t:=t) (u:=u) hx
end
section
variable {P : Program} {n : Nat} {ops : Array Oper} {Q : Post} {rest : List Oper} {l : Env} {w : World} {d : Tmp} {ty : TypeId} {pos : String} {aft : Array Edge}
theorem o_adE {t u:TypeId} {x y:Operand} {a b c:Int} (hx:opv l x=some (.int .i64 a)) (hy:opv l y=some (.int .i64 b)) (hd:Nat.blt d n=true) (h:owp P n ops Q rest ((d,.int .i64 c) :: l) w) (he:chkI (a + b)=some c:=by assumption):owp P n ops Q (⟨some d,.binOp .add t x y u,ty,pos,aft,none⟩ :: rest) l w:=AV (Ii hx hy he) hd h
theorem o_sbE {t u:TypeId} {x y:Operand} {a b c:Int} (hx:opv l x=some (.int .i64 a)) (hy:opv l y=some (.int .i64 b)) (hd:Nat.blt d n=true) (h:owp P n ops Q rest ((d,.int .i64 c) :: l) w) (he:chkI (a - b)=some c:=by assumption):owp P n ops Q (⟨some d,.binOp .sub t x y u,ty,pos,aft,none⟩ :: rest) l w:=AV (Ij hx hy he) hd h
theorem o_mlE {t u:TypeId} {x y:Operand} {a b c:Int} (hx:opv l x=some (.int .i64 a)) (hy:opv l y=some (.int .i64 b)) (hd:Nat.blt d n=true) (h:owp P n ops Q rest ((d,.int .i64 c) :: l) w) (he:chkI (a * b)=some c:=by assumption):owp P n ops Q (⟨some d,.binOp .mul t x y u,ty,pos,aft,none⟩ :: rest) l w:=AV (KS hx hy he) hd h
theorem o_rmE {t u:TypeId} {x y:Operand} {a b c:Int} (hx:opv l x=some (.int .i64 a)) (hy:opv l y=some (.int .i64 b)) (hd:Nat.blt d n=true) (h:owp P n ops Q rest ((d,.int .i64 c) :: l) w) (he:remI a b=some c:=by assumption):owp P n ops Q (⟨some d,.binOp .rem t x y u,ty,pos,aft,none⟩ :: rest) l w:=AV (MA hx hy he) hd h
theorem o_iaE {t e:TypeId} [TSlice P t e] {z:Value} {size bytes:Nat} [TInfo P e z size bytes] {x i:Operand} {k:IntKind} {A:Option Addr} {b o m c j:Nat} {q:Int} (hx:opv l x=some (.slice A m c)) (hq:opv l i=some (.int k q)) (hd:Nat.blt d n=true) (h:owp P n ops Q rest ((d,.pointer (some ⟨b,o + j * size,none⟩)) :: l) w) (hA:A=some ⟨b,o,none⟩:=by assumption) (hj:q=(j:Int):=by rfl) (hlt:j < m:=by assumption):owp P n ops Q (⟨some d,.indexAddr t x i,ty,pos,aft,none⟩ :: rest) l w:=AV (Jx hx hq hA hj hlt) hd h
theorem o_faE {t:TypeId} {f off:Nat} [TField P t f off] {x:Operand} {p:Option Addr} {b o:Nat} (hx:opv l x=some (.pointer p)) (hd:Nat.blt d n=true) (h:owp P n ops Q rest ((d,.pointer (some ⟨b,o + off,none⟩)) :: l) w) (hA:p=some ⟨b,o,none⟩:=by assumption):owp P n ops Q (⟨some d,.fieldAddr t x f,ty,pos,aft,none⟩ :: rest) l w:=AV (Nh hx hA) hd h
theorem o_ncE {x:Operand} {p:Option Addr} {ad:Addr} (hx:opv l x=some (.pointer p)) (hd:Nat.blt d n=true) (h:owp P n ops Q rest ((d,.pointer p) :: l) w) (hA:p=some ad:=by assumption):owp P n ops Q (⟨some d,.nilCheck x,ty,pos,aft,none⟩ :: rest) l w:=AV (Ni hx hA) hd h
theorem Nk {t e:TypeId} [TSlice P t e] {z:Value} {size bytes:Nat} [TInfo P e z size bytes] {A A':Option Addr} {m c m' c':Nat} {q:Int} {k:IntKind} {x y:Operand} (hx:opv l x=some (.slice A m c)) (hy:opv l y=some (.int k q)) (hd:Nat.blt d n=true) (h:owp P n ops Q rest ((d,.slice A' m' c') :: l) w) (hc:CutB size A m c 0 q A' m' c':=by assumption):owp P n ops Q (⟨some d,.slice t x none (some y) none,ty,pos,aft,none⟩ :: rest) l w:=AV (My hx hy hc) hd h
theorem o_miE [TInt P 52 .i64] {x:Operand} {q:Int} (hx:opv l x=some (.int .i64 q)) (hd:Nat.blt d n=true) (h:owp P n ops Q rest ((d,errV q) :: l) w) (hn:q≠0:=by decide):owp P n ops Q (⟨some d,.makeInterface 52 x,ty,pos,aft,none⟩ :: rest) l w:=AV (Nj hx hn) hd h
theorem o_rnS {t u:TypeId} [TIface P t] {x:Operand} {k:Int} (hx:opv l x=some (errV k)) (hd:Nat.blt d n=true) (ht:k≠0→owp P n ops Q rest ((d,.bool true) :: l) w) (hf:¬ (k≠0)→owp P n ops Q rest ((d,.bool false) :: l) w):owp P n ops Q (⟨some d,.binOp .neq t x (.const .nilIface) u,ty,pos,aft,none⟩ :: rest) l w:=En (MB hx) hd ht hf
variable {S : World → Prop} {r : List (Nat × Bool)} {i : Nat}
theorem h_adE {t u:TypeId} {x y:Operand} {a b c:Int} (hi:ops[i]?=some ⟨some d,.binOp .add t x y u,ty,pos,aft,none⟩) (hx:opv l x=some (.int .i64 a)) (hy:opv l y=some (.int .i64 b)) (hd:Nat.blt d n=true) (h:hwp P n ops Q S r ((d,.int .i64 c) :: l) w) (he:chkI (a + b)=some c:=by assumption):hwp P n ops Q S ((i,true) :: r) l w:=hwp_o hi (Ba (fun _ _=>Ii hx hy he) hd h)
theorem h_sbE {t u:TypeId} {x y:Operand} {a b c:Int} (hi:ops[i]?=some ⟨some d,.binOp .sub t x y u,ty,pos,aft,none⟩) (hx:opv l x=some (.int .i64 a)) (hy:opv l y=some (.int .i64 b)) (hd:Nat.blt d n=true) (h:hwp P n ops Q S r ((d,.int .i64 c) :: l) w) (he:chkI (a - b)=some c:=by assumption):hwp P n ops Q S ((i,true) :: r) l w:=hwp_o hi (Ba (fun _ _=>Ij hx hy he) hd h)
theorem h_iaE {t e:TypeId} [TSlice P t e] {z:Value} {size bytes:Nat} [TInfo P e z size bytes] {x i':Operand} {k:IntKind} {A:Option Addr} {b o m c j:Nat} {q:Int} (hi:ops[i]?=some ⟨some d,.indexAddr t x i',ty,pos,aft,none⟩) (hx:opv l x=some (.slice A m c)) (hq:opv l i'=some (.int k q)) (hd:Nat.blt d n=true) (h:hwp P n ops Q S r ((d,.pointer (some ⟨b,o + j * size,none⟩)) :: l) w) (hA:A=some ⟨b,o,none⟩:=by assumption) (hj:q=(j:Int):=by rfl) (hlt:j < m:=by assumption):hwp P n ops Q S ((i,true) :: r) l w:=hwp_o hi (Ba (fun _ _=>Jx hx hq hA hj hlt) hd h)
theorem g_iaE {t e:TypeId} [TSlice P t e] {z:Value} {size bytes:Nat} [TInfo P e z size bytes] {x i':Operand} {k:IntKind} {A:Option Addr} {b o m c j:Nat} {q:Int} (hx:opv l x=some (.slice A m c)) (hq:opv l i'=some (.int k q)) (hd:Nat.blt d n=true) (h:hwp P n ops Q S r ((d,.pointer (some ⟨b,o + j * size,none⟩)) :: l) w) (hA:A=some ⟨b,o,none⟩:=by assumption) (hj:q=(j:Int):=by rfl) (hlt:j < m:=by assumption):hwq P n ops Q S ⟨some d,.indexAddr t x i',ty,pos,aft,none⟩ r l w:=Ba (fun _ _=>Jx hx hq hA hj hlt) hd h
end
end
section
open Go Go.RowKit
def Bm (w0:World) (O0:Lab) (w:World) (O:Lab):Prop:=St (fun j=>j≠0∧j≠1) w0 O0 w O
section
variable {T : Nat → Prop} {w w' w0 : World} {O O' O0 : Lab}
theorem Bm.st (h:Bm w0 O0 w O) (hS:St T w O w' O') (h0:¬ T 0:=by decide) (h1:¬ T 1:=by decide):Bm w0 O0 w' O' :=
  St.comp h hS fun j hj=>⟨fun e=>h0 (e ▸ hj),fun e=>h1 (e ▸ hj)⟩
theorem Bm.refl:Bm w O w O:=St.refl _ _ _
structure Lbl (f:Nat→Nat) (T:Nat→Prop):Prop where
  z:f 0=0
  nz:∀ j,f j=0→j=0
  o:∀ j,¬ T j→f j=0∨f j=1
theorem Lbl.none:Lbl (fun j=>if j=0 then 0 else 1) nT:=⟨rfl,fun j h=>by by_cases hj:j=0<;>simp_all,fun j _=>by by_cases hj:j=0<;>simp_all⟩
theorem Lbl.one {i:Nat} (hi:i≠0):Lbl (fun j=>if j=0 then 0 else if j=i then 2 else 1) (eT i) :=
  ⟨rfl,fun j h=>by by_cases hj:j=0<;>simp_all;split at h<;>simp_all,fun j h=>by by_cases hj:j=0<;>by_cases hk:j=i<;>simp_all⟩
theorem Lbl.fr0 {f:Nat→Nat} (h:Lbl f T):∀ k,Fr 0 w O k→Fr 0 w (fun k=>f (O k)) k:=fun k hk=>⟨hk.1,by show f (O k)=0;rw [hk.2];exact h.z⟩
theorem Bm.leave {f:Nat→Nat} (g:Nat→Nat) (hf:Lbl f T) (hg:g 0=0) (h:Bm w (fun k=>f (O k)) w' O') :
    ∃ O'',St T w O w' O''∧(∀ k,Fr 0 w' O' k→Fr 0 w' O'' k)∧∀ j,j≠0→j≠1→∀ k,Fr j w' O' k→Fr (g j) w' O'' k:=by
  classical
  have key:∀ k,k < w.heap.size→¬ T (O k)→w'.heap[k]?=w.heap[k]?∧O' k=f (O k):=fun k hk ht =>
    h.same k hk (by rcases hf.o _ ht with e|e<;>simp [e])
  refine ⟨fun k=>if k < w.heap.size∧¬ T (O k) then O k else g (O' k),⟨h.os,h.tape,h.output,h.size,fun k hk ht=>⟨(key k hk ht).1,if_pos ⟨hk,ht⟩⟩⟩,fun k hk=>⟨hk.1,?_⟩,fun j h0 h1 k hk=>⟨hk.1,?_⟩⟩
  · by_cases hc:k < w.heap.size∧¬ T (O k)
    · show (if _ then _ else _)=_
      rw [if_pos hc]
      exact hf.nz _ ((key k hc.1 hc.2).2.symm.trans hk.2)
    · show (if _ then _ else _)=_
      rw [if_neg hc,hk.2,hg]
  · by_cases hc:k < w.heap.size∧¬ T (O k)
    · have h2:=(key k hc.1 hc.2).2.symm.trans hk.2
      rcases hf.o _ hc.2 with e|e<;>rw [e] at h2<;>omega
    · show (if _ then _ else _)=_
      rw [if_neg hc,hk.2]
theorem Bk {P:Program} {n:Nat} {ops:Array Oper} {Q:Post} {rest:List Oper} {l:Env} {w:World} {d:Tmp} {ty:TypeId} {pos:String} {aft:Array Edge} {f:FuncId} [Callable P f] {xs:List Operand} {vs:List Value} {ts:Array TypeId} {O:Lab} {R:Value→World→Lab→Prop}
    (hc:Fn P f vs w fun v w'=>∃ O',St T w O w' O'∧R v w' O') (hx:opvs l xs=some vs) (hd:Nat.blt d n=true)
    (h:∀ v w' O',St T w O w' O'→R v w' O'→owp P n ops Q rest ((d,v) :: l) w'):owp P n ops Q (⟨some d,.call { callee:=.value (.func f),args:=xs.toArray,argTypes:=ts },ty,pos,aft,none⟩ :: rest) l w :=
  Bf hx hd hc fun v w' ⟨O',hS,hR⟩=>h v w' O' hS hR
end
def Ent (T:Nat→Prop) (O O0:Lab):Prop:=∃ f,Lbl f T∧O0=fun k=>f (O k)
theorem ent0 {w:World} {O:Lab}:∃ O0,Ent nT O O0∧∀ k,Fr 0 w O k→Fr 0 w O0 k:=⟨_,⟨_,Lbl.none,rfl⟩,Lbl.none.fr0⟩
theorem ent1 {w:World} {O:Lab} {i:Nat} (hi:i≠0):∃ O0,Ent (eT i) O O0∧(∀ k,Fr 0 w O k→Fr 0 w O0 k)∧∀ k,Fr i w O k→Fr 2 w O0 k :=
  ⟨_,⟨_,Lbl.one hi,rfl⟩,(Lbl.one hi).fr0,fun k hk=>⟨hk.1,by simp [hk.2,hi]⟩⟩
theorem Ent.leave {T:Nat→Prop} {w w':World} {O O0 O':Lab} (h:Ent T O O0) (g:Nat→Nat) (hg:g 0=0) (hB:Bm w O0 w' O') :
    ∃ O'',St T w O w' O''∧(∀ k,Fr 0 w' O' k→Fr 0 w' O'' k)∧∀ j,j≠0→j≠1→∀ k,Fr j w' O' k→Fr (g j) w' O'' k:=by
  obtain ⟨f,hf,rfl⟩:=h
  exact Bm.leave g hf hg hB
theorem ret0n {P:Program} {l:Env} {w:World} {fn:Func} {R:Value→World→Prop} (hr:fn.results=#[]) (h:R (.tuple #[]) w):retPost P fn R .normal l w:=⟨_,fun n a d ha=>by simp [Ez,hr],h⟩
theorem ret4 {P:Program} {l:Env} {w:World} {fn:Func} {R:Value→World→Prop} {r s q p:ResultVar} {v u x y:Value} (hr:fn.results=#[r,s,q,p]) (h1:Res1 P l w r v) (h2:Res1 P l w s u) (h3:Res1 P l w q x) (h4:Res1 P l w p y) (h:R (.tuple #[v,u,x,y]) w):retPost P fn R .ret l w :=
  ⟨_,fun n a d ha=>by simp [Ez,hr,h1 n a d ha,h2 n a d ha,h3 n a d ha,h4 n a d ha],h⟩
class Ow (α:Type) where
  R:World→(Nat→Prop)→(Nat→Prop)→Value→α→Prop
  agree:∀ {w w':World} {F M:Nat→Prop} {v:Value} {x:α},R w F M v x→Agree F w w'→Agree M w w'→R w' F M v x
  mono:∀ {w:World} {F M F' M':Nat→Prop} {v:Value} {x:α},R w F M v x→(∀ k,F k→F' k)→(∀ k,M k→M' k)→(∀ k,F' k→¬ M' k)→R w F' M' v x
class OwP (α:Type) [Ow α]:Prop where
  ptr:∀ {w:World} {F M:Nat→Prop} {v:Value} {x:α},Ow.R w F M v x→∃ g,v=.pointer (some ⟨g,0,none⟩)
def Ob {α:Type} [Ow α] (i:Nat) (w:World) (O:Lab) (v:Value) (x:α):Prop:=Ow.R w (Fr 0 w O) (Fr i w O) v x∧i≠0
theorem frNe {i j:Nat} (h:i≠j) {w:World} {O:Lab}:∀ k,Fr i w O k→¬ Fr j w O k:=fun _ h1 h2=>h (h1.2.symm.trans h2.2)
theorem frNe0 {j:Nat} (h:j≠0) {w:World} {O:Lab}:∀ k,Fr 0 w O k→¬ Fr j w O k:=frNe (Ne.symm h)
section
variable {α : Type} [Ow α] {T : Nat → Prop} {i : Nat} {w w' : World} {O O' : Lab} {v : Value} {x : α}
theorem Ob.st (h:Ob i w O v x) (hS:St T w O w' O') (h0:¬ T 0:=by decide) (hi:¬ T i:=by decide):Ob i w' O' v x :=
  ⟨Ow.mono (Ow.agree h.1 (hS.agree h0) (hS.agree hi)) (hS.fr h0) (hS.fr hi) (frNe0 h.2),h.2⟩
theorem Ob.ptr [OwP α] (h:Ob i w O v x):∃ g,v=.pointer (some ⟨g,0,none⟩):=OwP.ptr h.1
theorem Ob.leave {j:Nat} (h:Ob i w O v x) (h1:∀ k,Fr 0 w O k→Fr 0 w O' k) (h2:∀ k,Fr i w O k→Fr j w O' k) (hj:j≠0):Ob j w O' v x:=⟨Ow.mono h.1 h1 h2 (frNe0 hj),hj⟩
end
def Obo {α:Type} [Ow α] (i:Nat) (w:World) (O:Lab) (v:Value):Option α→Prop
  | none=>v=.pointer none
  | some x=>Ob i w O v x
theorem Obo.st {α:Type} [Ow α] {T:Nat→Prop} {i:Nat} {w w':World} {O O':Lab} {v:Value} {x:Option α} (h:Obo i w O v x) (hS:St T w O w' O') (h0:¬ T 0:=by decide) (hi:¬ T i:=by decide):Obo i w' O' v x:=by
  cases x with
  | none=>exact h
  | some x=>exact Ob.st h hS h0 hi
def RwM {α:Type} [Rp α] (w:World) (F M:Nat→Prop) (e:TypeId) (v:Value) (xs:List α):Prop:=Own w 0 F e v xs∧∀ g,v.ownBlock=some g→M g
section
variable {α : Type} [Rp α] {i : Nat} {w w' : World} {O O' : Lab} {v : Value} {xs : List α} {e : TypeId} {F M F' M' : Nat → Prop}
theorem RwM.agree (h:RwM w F M e v xs) (h1:Agree F w w') (h2:Agree M w w'):RwM w' F M e v xs:=⟨h.1.agree h1 fun g hg=>h2 g (h.2 g hg),h.2⟩
theorem RwM.mono (h:RwM w F M e v xs) (h1:∀ k,F k→F' k) (h2:∀ k,M k→M' k) (h3:∀ k,F' k→¬ M' k):RwM w F' M' e v xs :=
  ⟨h.1.mono h1 fun g hg hf=>h3 g hf (h2 g (h.2 g hg)),fun g hg=>h2 g (h.2 g hg)⟩
theorem RwM.rw (h:RwM w F M e v xs) (h1:∀ k,F k→Fr 0 w O k) (h2:∀ k,M k→Fr i w O k) (hi:i≠0):Rw i w O e v xs :=
  ⟨h.1.mono h1 fun g hg hf=>frNe0 hi g hf (h2 g (h.2 g hg)),fun g hg=>(h2 g (h.2 g hg)).2,hi⟩
theorem Rw.m (h:Rw i w O e v xs) (h1:∀ k,Fr 0 w O k→F k) (h2:∀ k,Fr i w O k→M k) (h3:∀ k,F k→¬ M k):RwM w F M e v xs :=
  ⟨h.1.mono h1 fun g hg hf=>h3 g hf (h2 g ⟨(h.1.lt g hg).2,h.2.1 g hg⟩),fun g hg=>h2 g ⟨(h.1.lt g hg).2,h.2.1 g hg⟩⟩
end
theorem Rw.leave {α:Type} [Rp α] {i j:Nat} {w:World} {O O':Lab} {e:TypeId} {v:Value} {xs:List α} (h:Rw i w O e v xs) (h1:∀ k,Fr 0 w O k→Fr 0 w O' k) (h2:∀ k,Fr i w O k→Fr j w O' k) (hj:j≠0):Rw j w O' e v xs:=(h.m (fun _ h=>h) (fun _ h=>h) (frNe0 h.2.2)).rw h1 h2 hj
theorem cutRw {α:Type} [Rp α] {i:Nat} {w:World} {O:Lab} {e:TypeId} {A:Option Addr} {m c:Nat} {q:Int} {xs u:List α} (h:Rw i w O e (.slice A m c) xs) (he:cutI xs 0 q=some u):Rw i w O e (.slice A u.length c) u∧CutB (Rp.size α) A m c 0 q A u.length c:=by
  obtain ⟨a,b,ha,rfl,h1,h2,rfl⟩:=Ls he
  obtain rfl:a=0:=by omega
  obtain ⟨hm,hc,hc2⟩:=h.len
  have hl:((xs.take b).drop 0).length=b:=by simp;omega
  rw [hl]
  have hob:(Value.slice A b c).ownBlock=(Value.slice A m c).ownBlock:=by cases A<;>rfl
  refine ⟨⟨?_,by rw [hob];exact h.2.1,h.2.2⟩,0,b,rfl,rfl,Nat.zero_le _,by omega,hc,?_⟩
  · obtain ⟨cells,o1,o2,o3⟩:=h.1
    refine ⟨cells.take (b * Rp.size α),⟨by rw [List.length_take,o2.length,hl,Nat.min_eq_left (Nat.mul_le_mul_right _ h2)],?_⟩,by simpa using o2.take b,by rw [hob];exact o3⟩
    rcases o1.2 with ⟨hv,hn⟩|⟨g,cap,cur,hv,hg,hh,hnc,hcm,hcs,hcur⟩
    · injection hv with e1 e2 e3
      have:b=0:=by omega
      subst this
      exact .inl ⟨by rw [e1,e3],hl⟩
    · injection hv with e1 e2 e3
      refine .inr ⟨g,cap,cur,by rw [e1,e3,hl],hg,hh,by omega,hcm,hcs,?_⟩
      rw [hl,← hcur,List.take_take,Nat.min_eq_left (Nat.mul_le_mul_right _ h2)]
  · have:(A.map (·.add (0 * Rp.size α)))=A:=by
      cases A with
      | none=>rfl
      | some ad=>obtain ⟨b',o',p'⟩:=ad;simp [Addr.add]
    split<;>simp_all
def part (O:Lab) (i:Nat) (L:Lab) (ls:List Nat):Lab:=fun k=>if O k=i then ls.getD (L k) (ls.headD 2) else O k
def whole (O:Lab) (i:Nat) (ls:List Nat):Lab:=fun k=>if O k∈ls then i else O k
section
variable {i : Nat} {w : World} {O L : Lab} {ls : List Nat}
theorem Hy (h:i≠0):St (eT i) w O w (part O i L ls):=⟨rfl,rfl,rfl,Nat.le_refl _,fun _ _ hk=>⟨rfl,if_neg hk⟩⟩
theorem CU (h:i≠0):∀ k,Fr 0 w O k→Fr 0 w (part O i L ls) k:=fun k hk=>⟨hk.1,by unfold part;rw [if_neg (fun e=>h (e.symm.trans hk.2))];exact hk.2⟩
theorem DF {j q:Nat} (hj:ls[j]?=some q):∀ k,(Fr i w O k∧L k=j)→Fr q w (part O i L ls) k:=fun k hk=>⟨hk.1.1,by unfold part;rw [if_pos hk.1.2,hk.2];simp [hj]⟩
theorem Gt (hl:ls≠[]):∀ k,Fr i w O k→∃ q,q∈ls∧Fr q w (part O i L ls) k:=fun k hk=>by
  refine ⟨part O i L ls k,?_,hk.1,rfl⟩
  unfold part
  rw [if_pos hk.2]
  cases h:ls[L k]? with
  | some q=>rw [List.getD_eq_getElem?_getD,h];exact List.mem_of_getElem? h
  | none =>
    rw [List.getD_eq_getElem?_getD,h]
    cases ls with
    | nil=>exact absurd rfl hl
    | cons a l=>simp
theorem Gu:St (·∈ls) w O w (whole O i ls):=⟨rfl,rfl,rfl,Nat.le_refl _,fun _ _ hk=>⟨rfl,if_neg hk⟩⟩
theorem Cj (h:¬ 0∈ls):∀ k,Fr 0 w O k→Fr 0 w (whole O i ls) k:=fun k hk=>⟨hk.1,by unfold whole;rw [if_neg (by rw [hk.2];exact h)];exact hk.2⟩
theorem FJ:∀ q,q∈ls→∀ k,Fr q w O k→Fr i w (whole O i ls) k:=fun q hq k hk=>⟨hk.1,by unfold whole;rw [if_pos (by rw [hk.2];exact hq)]⟩
theorem Df {j q:Nat} (hj:ls.idxOf q=j) (hq:q∈ls):∀ k,Fr q w O k→Fr i w (whole O i ls) k∧ls.idxOf (O k)=j:=fun k hk=>⟨⟨hk.1,by unfold whole;rw [if_pos (by rw [hk.2];exact hq)]⟩,by rw [hk.2];exact hj⟩
end
structure BxR (t e:TypeId) (α:Type) where
  l:List α
instance {t e:TypeId} {α:Type} [Rp α]:Ow (BxR t e α) where
  R w F M v x:=∃ (g:Nat) (L:Lab) (c0:Value),v=.pointer (some ⟨g,0,none⟩)∧Blk w g t [c0]∧M g∧L g=0∧RwM w F (fun k=>M k∧L k=1) e c0 x.l
  agree:=by rintro w w' F M v x ⟨g,L,c0,rfl,hb,hM,hL,h0⟩ a1 a2;exact ⟨g,L,c0,rfl,hb.keep (a2 g hM),hM,hL,h0.agree a1 fun k hk=>a2 k hk.1⟩
  mono:=by rintro w F M F' M' v x ⟨g,L,c0,rfl,hb,hM,hL,h0⟩ a1 a2 a3;exact ⟨g,L,c0,rfl,hb,a2 g hM,hL,h0.mono a1 (fun k hk=>⟨a2 k hk.1,hk.2⟩) fun k hf hm=>a3 k hf hm.1⟩
theorem BxR.opn {t e:TypeId} {α:Type} [Rp α] {i:Nat} {w:World} {O:Lab} {p:Nat} {x:BxR t e α} (h:Ob i w O (.pointer (some ⟨p,0,none⟩)) x) (l0 l1:Nat) (hl:l0≠0∧l1≠0):∃ (O':Lab) (c0:Value),St (eT i) w O w O'∧(∀ k,Fr i w O k→∃ q,q∈[l0,l1]∧Fr q w O' k)∧Lc l0 w O' p t [c0]∧Rw l1 w O' e c0 x.l:=by
  obtain ⟨⟨g,L,c0,hv,hb,hM,hL,h0⟩,hi⟩:=h
  obtain rfl:p=g:=by injection hv with hv;injection hv with hv;injection hv
  exact ⟨part O i L [l0,l1],c0,Hy hi,Gt (by simp),⟨hb,(DF (j:=0) rfl p ⟨hM,hL⟩).2⟩,h0.rw (CU hi) (DF (j:=1) rfl) hl.2⟩
theorem BxR.shut {t e:TypeId} {α:Type} [Rp α] {w:World} {O:Lab} {p:Nat} {x:BxR t e α} {l0 l1:Nat} {c0:Value} (hd:¬ 0∈[l0,l1]∧[l0,l1].idxOf l0=0∧[l0,l1].idxOf l1=1) (hb:Lc l0 w O p t [c0]) (h0:Rw l1 w O e c0 x.l):∃ O',St (·∈[l0,l1]) w O w O'∧(∀ k,Fr 0 w O k→Fr 0 w O' k)∧(∀ q,q∈[l0,l1]→∀ k,Fr q w O k→Fr l0 w O' k)∧Ob l0 w O' (.pointer (some ⟨p,0,none⟩)) x:=by
  have hb1:l0≠0:=fun e=>hd.1 (by simp [e])
  have hg:=Df (i:=l0) hd.2.1 (by simp) p ⟨hb.1.lt,hb.2⟩
  exact ⟨whole O l0 [l0,l1],Gu,Cj hd.1,FJ,⟨p,fun k=>[l0,l1].idxOf (O k),c0,rfl,hb.1,hg.1,hg.2,h0.m (Cj hd.1) (Df hd.2.2 (by simp)) (fun k a b=>frNe0 hb1 k a b.1)⟩,hb1⟩
def FrS (ls:List Nat) (w:World) (O:Lab):Nat→Prop:=fun k=>k < w.heap.size∧(O k=0∨O k∈ls)
section
variable {α : Type} [Rp α] {T : Nat → Prop} {i l : Nat} {ls ls' lo : List Nat} {w w' : World} {O O' : Lab} {v : Value} {x : α} {xs : List α} {e : TypeId}
theorem St.agreeS (hS:St T w O w' O') (h0:¬ T 0) (hl:∀ q∈ls,¬ T q):Agree (FrS ls w O) w w':=fun k hk=>(hS.same k hk.1 (by rcases hk.2 with e|e;rw [e];exact h0;exact hl _ e)).1
theorem Vb.stS (h:Vb w (FrS ls w O) v x) (hS:St T w O w' O') (h0:¬ T 0:=by decide) (hl:∀ q∈ls,¬ T q:=by decide):Vb w' (FrS ls w' O') v x :=
  (h.agree (hS.agreeS h0 hl)).mono fun k hk=>by
    have:=(hS.same k hk.1 (by rcases hk.2 with e|e;rw [e];exact h0;exact hl _ e)).2
    exact ⟨Nat.lt_of_lt_of_le hk.1 hS.size,by rw [this];exact hk.2⟩
theorem Rw.lend (h:Rw l w O e v xs) (ls:List Nat) (hl:l∈ls):Vb w (FrS ls w O) v xs:=h.1.vb.mono fun k hk=>by
  rcases hk with hk|hk
  · exact ⟨hk.1,.inl hk.2⟩
  · exact ⟨(h.1.lt k hk).2,.inr (by rw [h.2.1 k hk];exact hl)⟩
theorem Vb.shutS (h:Vb w (FrS ls w O) v x) (hS:St (·∈lo) w O w O') (hz:∀ k,Fr 0 w O k→Fr 0 w O' k) (ha:∀ q,q∈lo→∀ k,Fr q w O k→Fr i w O' k) (ls':List Nat) (hl:∀ q∈ls,q∈lo∧i∈ls'∨¬ q∈lo∧q∈ls'):Vb w (FrS ls' w O') v x:=h.mono fun k hk=>by
  refine ⟨hk.1,?_⟩
  rcases hk.2 with e|e
  · exact .inl (hz k ⟨hk.1,e⟩).2
  · rcases hl _ e with ⟨h1,h2⟩|⟨h1,h2⟩
    · right;rw [(ha _ h1 k ⟨hk.1,rfl⟩).2];exact h2
    · right;rw [(hS.same k hk.1 h1).2];exact h2
theorem Vb.opnS (h:Vb w (FrS ls w O) v x) (hS:St (eT i) w O w O') (hi:i≠0) (ha:∀ k,Fr i w O k→∃ q,q∈lo∧Fr q w O' k) (ls':List Nat) (hl:(∀ q∈ls,q≠i→q∈ls')∧∀ q∈lo,q∈ls'):Vb w (FrS ls' w O') v x:=h.mono fun k hk=>by
  refine ⟨hk.1,?_⟩
  by_cases hq:O k=i
  · obtain ⟨q,h1,h2⟩:=ha k ⟨hk.1,hq⟩
    right;rw [h2.2];exact hl.2 q h1
  · rw [(hS.same k hk.1 hq).2]
    rcases hk.2 with e|e
    · exact .inl e
    · exact .inr (hl.1 _ e hq)
end
end
section
open Go Go.RowKit
def wpAnyX (P:Program) (ops:Array Oper) (Q:Exit→Act→World→Prop) (S:Array Bool→World→Prop):Nat→Array Bool→Act→World→Prop
  | 0,listed,a,w=>Region.ready .any ops listed=[]∧Q .normal a w
  | fuel + 1,listed,a,w =>
    (Region.ready .any ops listed=[]→Q .normal a w) ∧
    ∀ i∈Region.ready .any ops listed,wpOp P ops Q i (fun a' w'=>(isLast ops i=false→S (listed.setIfInBounds i true) w')∧wpAnyX P ops Q S fuel (listed.setIfInBounds i true) a' w') a w
theorem Ik {P:Program} {ops:Array Oper} {Q:Exit→Act→World→Prop} {S:Array Bool→World→Prop}:∀ (fuel:Nat) (listed:Array Bool) (a:Act) (w:World),wpAnyX P ops Q S fuel listed a w→wpAny P .any ops Q fuel listed a w
  | 0,_,_,_,h=>h
  | fuel + 1,_,_,_,h=>⟨h.1,fun i hi=>wpOp_mono (fun a' w' h'=>Ik fuel _ a' w' h'.2) (h.2 i hi)⟩
theorem Jy {P:Program} {ops:Array Oper} {Q:Exit→Act→World→Prop} {S:Array Bool→World→Prop} {Si:World→Prop} {i:Nat} {oi:Oper} {v:Value} (hi:ops[i]?=some oi) (hsel:∀ (j:Nat) (o:Oper) cs b,ops[j]?=some o→o.op≠.select cs b)
    (hQ:∀ c a w,Q (.panic c) (a.put oi.dst v) w→Q (.panic c) a w) (hinv:∀ listed w,S (listed.setIfInBounds i true) w→S listed w) (hinv':∀ listed w,S listed w→S (listed.setIfInBounds i true) w)
    (hSi:∀ listed w,Closed ops listed→i∈Region.ready .any ops listed→S listed w→Si w) :
    ∀ (fuel:Nat) (listed:Array Bool) (a:Act) (w:World),Closed ops listed →
      (∀ j oj,ops[j]?=some oj→j≠i→listed.getD j true=false→(∀ e∈oj.after,Region.binds .any e=true→e.on≠i)→oi.apart ops oj=true) →
      i∈Region.ready .any ops listed→YieldsIf P ops Si oi v a→S listed w →
      wpAnyX P ops Q S fuel (listed.setIfInBounds i true) (a.put oi.dst v) w→wpAnyX P ops Q S (fuel + 1) listed a w:=by
  intro fuel
  induction fuel with
  | zero =>
    intro listed a w hcl _ hr hy hS H
    refine ⟨fun h=>(by rw [h] at hr;cases hr),fun j hj=>?_⟩
    by_cases hji:j=i
    · subst hji;exact hy.wpOp hi (hSi _ _ hcl hr hS) ⟨fun _=>hinv' _ _ hS,H⟩
    · have:=ready_mono hj hji
      rw [H.1] at this
      cases this
  | succ fuel ih =>
    intro listed a w hcl hfree hr hy hS H
    refine ⟨fun h=>(by rw [h] at hr;cases hr),fun j hj=>?_⟩
    by_cases hji:j=i
    · subst hji;exact hy.wpOp hi (hSi _ _ hcl hr hS) ⟨fun _=>hinv' _ _ hS,H⟩
    · have h1:=H.2 j (ready_mono hj hji)
      obtain ⟨hjun,oj,hoj,hall⟩:=mem_ready.1 hj
      have hnot:∀ e∈oj.after,Region.binds .any e=true→e.on≠i:=fun e he hb heq=>by
        have h1:=hall e he hb
        have h0:=(mem_ready.1 hr).1
        rw [heq] at h1
        rcases Nat.lt_or_ge i listed.size with h'|h'
        · simp [h'] at h0 h1;rw [h0] at h1;cases h1
        · simp [Array.getElem?_eq_none h'] at h1
      have hap:=hfree j oj hoj hji hjun hnot
      have hrj:i∈Region.ready .any ops (listed.setIfInBounds j true):=ready_mono hr (Ne.symm hji)
      have hil:i < ops.size:=by
        rcases Nat.lt_or_ge i ops.size with h|h
        · exact h
        · rw [Array.getElem?_eq_none h] at hi;cases hi
      have hnl:isLast ops j=false:=by
        cases hl:isLast ops j with
        | false=>rfl
        | true =>
          exfalso
          have h4:=List.all_eq_true.1 hl i (List.mem_range.2 hil)
          rw [Bool.or_eq_true] at h4
          rcases h4 with h4|h4
          · exact hji (by simpa using h4:i=j).symm
          · have h5:=Ei hcl ops.size j i oj hoj hall h4
            have h6:=(mem_ready.1 hr).1
            rcases Nat.lt_or_ge i listed.size with h'|h'
            · simp [h'] at h5 h6;rw [h6] at h5;cases h5
            · simp [Array.getElem?_eq_none h'] at h5
      have hfree':∀ k ok,ops[k]?=some ok→k≠i→(listed.setIfInBounds j true).getD k true=false →
          (∀ e∈ok.after,Region.binds .any e=true→e.on≠i)→oi.apart ops ok=true:=fun k ok hk hki hun hno=>by
        refine hfree k ok hk hki ?_ hno
        by_cases hjk:j=k
        · subst hjk;exact hjun
        · rw [getD_set_ne true hjk] at hun;exact hun
      have h2:=wpOp_putIf hoj hap (fun cs b=>hsel i oi cs b hi) (fun cs b=>hsel j oj cs b hoj) hQ hy h1
      refine wpOp_mono (fun a' w' h3=>?_) h2
      have hS':S (listed.setIfInBounds j true) w':=hinv _ _ (by
        have:=h3.2.1 hnl
        rwa [Array.setIfInBounds_comm _ _ (Ne.symm hji)] at this)
      refine ⟨fun _=>hS',ih (listed.setIfInBounds j true) a' w' (hcl.set hj) hfree' hrj h3.1 hS' ?_⟩
      rw [Array.setIfInBounds_comm _ _ hji]
      exact h3.2.2
theorem HI {P:Program} {ops:Array Oper} {Q:Exit→Act→World→Prop} {S S':Array Bool→World→Prop} (P0:Array Bool→Prop) (hP:∀ listed i,P0 listed→P0 (listed.setIfInBounds i true)) (hS:∀ listed w,P0 listed→S' listed w→S listed w) :
    ∀ (fuel:Nat) (listed:Array Bool) (a:Act) (w:World),P0 listed→wpAnyX P ops Q S' fuel listed a w→wpAnyX P ops Q S fuel listed a w
  | 0,_,_,_,_,h=>h
  | fuel + 1,listed,_,_,hp,h=>⟨h.1,fun i hi=>wpOp_mono (fun a' w' h'=>⟨fun hl=>hS _ _ (hP _ i hp) (h'.1 hl),HI P0 hP hS fuel _ a' w' (hP _ i hp) h'.2⟩) (h.2 i hi)⟩
def tcs (acts:List (Nat×List Nat)) (listed:Array Bool):List Nat:=(acts.filter fun p=>listed.getD p.1 false).flatMap (·.2)
def tci (ops:Array Oper) (acts:List (Nat×List Nat)) (i:Nat):List Nat:=(acts.filter fun p=>!comesB ops ops.size p.1 i).flatMap (·.2)
def Sx (acts:List (Nat×List Nat)) (w0:World) (O0:Lab) (listed:Array Bool) (w:World):Prop:=∃ d O',St (·∈tcs acts listed) w0 O0 (dr w d) O'
theorem St.mono {T T':Nat→Prop} {w w':World} {O O':Lab} (h:St T w O w' O') (ht:∀ i,T i→T' i):St T' w O w' O' :=
  ⟨h.os,h.tape,h.output,h.size,fun k hk hn=>h.same k hk fun e=>hn (ht _ e)⟩
theorem St.lst {T:Nat→Prop} {w w':World} {O O':Lab} (h:St T w O w' O') (ls:List Nat) (ht:∀ i,T i→i∈ls):St (·∈ls) w O w' O':=h.mono ht
theorem St.cmp {T:Nat→Prop} {ls:List Nat} {w w' w'':World} {O O' O'':Lab} (h:St (·∈ls) w O w' O') (k:St T w' O' w'' O'') (ls':List Nat) (ht:∀ i,T i→i∈ls') (hl:(ls.all (ls'.contains ·))=true):St (·∈ls') w O w'' O'' :=
  St.comp (h.mono fun q hq=>by simpa using List.all_eq_true.1 hl q hq) (k.mono ht) fun _ h=>h
theorem Kt {acts:List (Nat×List Nat)} {i:Nat} (hi:(acts.any (·.1 == i))=false) (listed:Array Bool):tcs acts (listed.setIfInBounds i true)=tcs acts listed:=by
  unfold tcs
  congr 1
  apply List.filter_congr
  intro p hp
  have:p.1≠i:=fun e=>by
    have h2:(acts.any (·.1 == i))=true:=List.any_eq_true.2 ⟨p,hp,by simp [e]⟩
    rw [hi] at h2;cases h2
  exact getD_set_ne false (Ne.symm this)
theorem MC {ops:Array Oper} {acts:List (Nat×List Nat)} {i:Nat} {listed:Array Bool} (hb:(acts.all fun p=>(ops[p.1]?).isSome)=true) (hcl:Closed ops listed) (hr:i∈Region.ready .any ops listed):∀ q,q∈tcs acts listed→q∈tci ops acts i:=by
  intro q hq
  unfold tcs at hq
  unfold tci
  rw [List.mem_flatMap] at hq ⊢
  obtain ⟨p,hp,hq⟩:=hq
  rw [List.mem_filter] at hp
  refine ⟨p,List.mem_filter.2 ⟨hp.1,?_⟩,hq⟩
  cases hc:comesB ops ops.size p.1 i with
  | false=>rfl
  | true =>
    exfalso
    have hp2:=hp.2
    have hs:=List.all_eq_true.1 hb p hp.1
    obtain ⟨o,ho⟩:=Option.isSome_iff_exists.1 hs
    have h5:=Ei hcl ops.size p.1 i o ho (fun e he hbi=>hcl p.1 o hp2 ho e he hbi) hc
    have h6:=(mem_ready.1 hr).1
    rcases Nat.lt_or_ge i listed.size with h'|h'
    · simp [h'] at h5 h6;rw [h6] at h5;cases h5
    · simp [Array.getElem?_eq_none h'] at h5
def hwx (P:Program) (n:Nat) (ops:Array Oper) (Q:Post) (acts:List (Nat×List Nat)) (w0:World) (O0:Lab) (fuel:Nat) (listed:Array Bool) (l:Env) (w:World):Prop :=
  Closed ops listed→∀ a d,Ok n a l→wpAnyX P ops (lift n Q) (Sx acts w0 O0) fuel listed a (dr w d)
def loudX (P:Program) (n:Nat) (ops:Array Oper) (Q:Post) (acts:List (Nat×List Nat)) (w0:World) (O0:Lab) (i:Nat) (fuel:Nat) (listed:Array Bool):Post
  | .normal,l,w=>(isLast ops i=false→Sx acts w0 O0 (listed.setIfInBounds i true) w)∧hwx P n ops Q acts w0 O0 fuel (listed.setIfInBounds i true) l w
  | _,_,_=>False
abbrev SS (w0:World) (O0:Lab) (ls:List Nat):World→Prop:=fun w'=>∃ O',St (·∈ls) w0 O0 w' O'
theorem Sx.dr {acts:List (Nat×List Nat)} {w0 w:World} {O0:Lab} {listed:Array Bool} (h:Sx acts w0 O0 listed w) (d:Nat):Sx acts w0 O0 listed (dr w d):=by
  obtain ⟨e,O',h⟩:=h
  exact ⟨e,O',h⟩
theorem Il {P:Program} {ops:Array Oper} {Q Q':Exit→Act→World→Prop} {acts:List (Nat×List Nat)} {w0:World} {O0:Lab} {fuel:Nat} (ls:List Nat) (hs:Region.noSelect ops=true) (hb:(acts.all fun p=>(ops[p.1]?).isSome)=true) (hQ:∀ c a w,¬ Q (.panic c) a w) :
    ∀ (ord:List (Nat×Bool)) (listed:Array Bool) (a:Act) (w:World),Closed ops listed→ordPre ops listed ord=true→(ord.all fun p=>(tci ops acts p.1).all (ls.contains ·) && !acts.any (·.1 == p.1))=true→Sx acts w0 O0 listed w →
      (∀ a w,Closed ops (listAll listed ord)→Q' .normal a w→wpAnyX P ops Q (Sx acts w0 O0) fuel (listAll listed ord) a w)→wpOrd P ops Q' (fun w'=>∃ d',SS w0 O0 ls (dr w' d')) ord a w→wpAnyX P ops Q (Sx acts w0 O0) (ord.length + fuel) listed a w
  | [],listed,a,w,hcl,_,_,_,hk,h=>by rw [List.length_nil,Nat.zero_add];exact hk a w hcl h
  | (i, true) :: r,listed,a,w,hcl,hc,hl,hS,hk,h=>by
    simp only [ordPre,Bool.and_eq_true] at hc
    rw [List.all_cons,Bool.and_eq_true,Bool.and_eq_true] at hl
    obtain ⟨o,v,ho,hy,hr⟩:=h
    have hi:i∈Region.ready .any ops listed:=by simpa using hc.1
    have hna:(acts.any (·.1 == i))=false:=by simpa using hl.1.2
    have e1:∀ listed w,Sx acts w0 O0 (listed.setIfInBounds i true) w→Sx acts w0 O0 listed w:=fun listed w h=>by unfold Sx at *;rwa [Kt hna] at h
    have e2:∀ listed w,Sx acts w0 O0 listed w→Sx acts w0 O0 (listed.setIfInBounds i true) w:=fun listed w h=>by unfold Sx at *;rwa [Kt hna]
    have:=Jy ho (Region.noSelect_spec hs) (fun c a w hq=>(hQ c _ _ hq).elim) e1 e2 (fun listed w hc hr ⟨d,O',hS⟩=>(⟨d,O',hS.mono fun q hq=>by
        have:=List.all_eq_true.1 hl.1.1 q (MC hb hc hr q hq)
        simpa using this⟩:∃ d',SS w0 O0 ls (Proofs.Ythomfnkaicjmbaa.dr w d'))) (r.length + fuel) listed a w hcl (Region.free_spec ho hc.2.1) hi hy hS (Il ls hs hb hQ r _ _ w (hcl.set hi) hc.2.2 hl.2 (e2 _ _ hS) hk hr)
    rwa [List.length_cons,show r.length + 1 + fuel=r.length + fuel + 1 from by omega]
  | (i,false) :: r,listed,a,w,hcl,hc,_,_,_,_=>by simp [ordPre] at hc
section
variable {P : Program} {n : Nat} {ops : Array Oper} {Q : Post} {acts : List (Nat × List Nat)} {w0 : World} {O0 : Lab} {l : Env} {w : World}
theorem Nl {fuel tot:Nat} {listed:Array Bool} (ls:List Nat) (ord:List (Nat×Bool)) (hs:(Region.noSelect ops && (acts.all fun p=>(ops[p.1]?).isSome) && ordPre ops listed ord && (ord.all fun p=>(tci ops acts p.1).all (ls.contains ·) && !acts.any (·.1 == p.1)))=true) (hl:ord.length + fuel=tot)
    (h:hwp P n ops (thn (hwx P n ops Q acts w O0 fuel (listAll listed ord)) fun _ _ _=>False) (SS w O0 ls) ord l w):hwx P n ops Q acts w O0 tot listed l w:=fun hcl a e ha=>by
  subst hl
  simp only [Bool.and_eq_true] at hs
  obtain ⟨⟨⟨h1,h2⟩,h3⟩,h4⟩:=hs
  refine Il (P:=P) ls h1 h2 (Q:=lift n Q) (fun c a w hq=>hq.1) ord listed a (dr w e) hcl h3 (by simpa using h4) ⟨w.drawn,O0,St.refl _ _ _⟩ ?_ (h a e ha)
  rintro a' w' hcl' ⟨_,l',w₀,d',rfl,ho,hh⟩
  exact hh hcl' a' d' ho
theorem EM {fuel i:Nat} {o:Oper} {listed:Array Bool} (hi:ops[i]?=some o) (hr:i∈Region.ready .any ops listed) (h:owp P n ops (loudX P n ops Q acts w0 O0 i fuel listed) [o] l w) (hcl:Closed ops listed) (a:Act) (e:Nat) (ha:Ok n a l) :
    wpOp P ops (lift n Q) i (fun a' w'=>(isLast ops i=false→Sx acts w0 O0 (listed.setIfInBounds i true) w')∧wpAnyX P ops (lift n Q) (Sx acts w0 O0) fuel (listed.setIfInBounds i true) a' w') a (dr w e):=by
  have h1:=h a e ha
  unfold wpList at h1
  unfold wpOp
  simp only [hi]
  have conv:∀ a' w',lift n (loudX P n ops Q acts w0 O0 i fuel listed) .normal a' w'→(isLast ops i=false→Sx acts w0 O0 (listed.setIfInBounds i true) w')∧wpAnyX P ops (lift n Q) (Sx acts w0 O0) fuel (listed.setIfInBounds i true) a' w':=by
    rintro a' w' ⟨_,l',w₀,d',rfl,ho,hS,hh⟩
    exact ⟨fun hl=>(hS hl).dr d',hh (hcl.set hr) a' d' ho⟩
  have nope:∀ e' a' w',lift n (loudX P n ops Q acts w0 O0 i fuel listed) e' a' w'→e'=.normal:=by
    rintro e' a' w' ⟨hn,l',w₀,d',rfl,ho,hh⟩
    cases e'<;>first|rfl|exact hh.elim
  by_cases hw:Region.wanted o (yielded ops a.tmps)=true
  · rw [if_pos hw] at h1
    rw [if_pos hw]
    rcases h1 with h1|⟨h1,a0,w0,h2⟩
    · refine .inl ?_
      unfold Oper.wp at *
      generalize (execOp a.eval o).run P (dr w e)=res at *
      cases res with
      | ok nx w' =>
        cases nx<;>simp only [Oper.upon] at h1 ⊢ <;>
          first
            | exact conv _ _ h1
            | exact Calls.mono h1 (fun en w'' he=>by
                cases en with
                | returned v=>exact conv _ _ he
                | panicked c=>exact absurd (nope _ _ _ he) (by simp)
                | outgrown=>obtain ⟨a0,w0,hq⟩:=he;exact absurd (nope _ _ _ hq) (by simp))
            | exact Rows.mono h1 (fun _ _ he=>conv _ _ he)
            | exact h1.elim
      | halt x w'=>cases x<;>simp only [Oper.upon] at h1 ⊢<;>first|exact h1.elim|exact absurd (nope _ _ _ h1) (by simp)
    · exact absurd (nope _ _ _ h2) (by simp)
  · rw [if_neg hw] at h1
    rw [if_neg hw]
    exact conv _ _ h1
theorem x_one {fuel i:Nat} {oi:Oper} {listed:Array Bool} (hr:Region.ready .any ops listed=[i]) (hi:ops[i]?=some oi) (h1:owp P n ops (loudX P n ops Q acts w0 O0 i fuel listed) [oi] l w):hwx P n ops Q acts w0 O0 (fuel + 1) listed l w:=fun hcl a e ha=>by
  refine ⟨fun h0=>by rw [hr] at h0;simp at h0,fun k hk=>?_⟩
  have hk':=hk
  rw [hr] at hk
  have:k=i:=by simpa using hk
  subst this
  exact EM hi hk' h1 hcl a e ha
theorem x_two {fuel i j:Nat} {oi oj:Oper} {listed:Array Bool} (hr:Region.ready .any ops listed=[i,j]) (hi:ops[i]?=some oi) (hj:ops[j]?=some oj)
    (h1:owp P n ops (loudX P n ops Q acts w0 O0 i fuel listed) [oi] l w) (h2:owp P n ops (loudX P n ops Q acts w0 O0 j fuel listed) [oj] l w):hwx P n ops Q acts w0 O0 (fuel + 1) listed l w:=fun hcl a e ha=>by
  refine ⟨fun h0=>by rw [hr] at h0;simp at h0,fun k hk=>?_⟩
  have hk':=hk
  rw [hr] at hk
  have:k=i∨k=j:=by simpa using hk
  rcases this with rfl|rfl
  · exact EM hi hk' h1 hcl a e ha
  · exact EM hj hk' h2 hcl a e ha
theorem Ku {fuel i j k:Nat} {oi oj ok:Oper} {listed:Array Bool} (hr:Region.ready .any ops listed=[i,j,k]) (hi:ops[i]?=some oi) (hj:ops[j]?=some oj) (hk:ops[k]?=some ok)
    (h1:owp P n ops (loudX P n ops Q acts w0 O0 i fuel listed) [oi] l w) (h2:owp P n ops (loudX P n ops Q acts w0 O0 j fuel listed) [oj] l w) (h3:owp P n ops (loudX P n ops Q acts w0 O0 k fuel listed) [ok] l w):hwx P n ops Q acts w0 O0 (fuel + 1) listed l w:=fun hcl a e ha=>by
  refine ⟨fun h0=>by rw [hr] at h0;simp at h0,fun q hq=>?_⟩
  have hq':=hq
  rw [hr] at hq
  have:q=i∨q=j∨q=k:=by simpa using hq
  rcases this with rfl|rfl|rfl
  · exact EM hi hq' h1 hcl a e ha
  · exact EM hj hq' h2 hcl a e ha
  · exact EM hk hq' h3 hcl a e ha
theorem x_go {fuel i:Nat} {listed:Array Bool} {ls:List Nat} {O':Lab} (acts':List (Nat×List Nat)) (hZ:St (·∈ls) w0 O0 w O') (hs:(ls.all ((tcs acts (listed.setIfInBounds i true)).contains ·) && acts'.all (acts.contains ·))=true) (h2:hwx P n ops Q acts' w O' fuel (listed.setIfInBounds i true) l w):owp P n ops (loudX P n ops Q acts w0 O0 i fuel listed) [] l w:=by
  rw [Bool.and_eq_true] at hs
  have hls:∀ q,q∈ls→q∈tcs acts (listed.setIfInBounds i true):=fun q hq=>by simpa using List.all_eq_true.1 hs.1 q hq
  have hac:∀ p,p∈acts'→p∈acts:=fun q hq=>by simpa using List.all_eq_true.1 hs.2 q hq
  refine AB ⟨fun _=>⟨w.drawn,O',hZ.mono hls⟩,fun hcl a d ha=>?_⟩
  refine HI (fun listed'=>∀ j,(listed.setIfInBounds i true).getD j false=true→listed'.getD j false=true) (fun listed' k h j hj=>getD_set_true (h j hj)) ?_ _ _ _ _ (fun j hj=>hj) (h2 hcl a d ha)
  rintro listed' v hp ⟨e,O'',hS⟩
  refine ⟨e,O'',((hZ.mono fun q hq=>?_).comp (hS.mono fun q hq=>?_) fun _ h=>h:St (·∈tcs acts listed') w0 O0 _ O'')⟩
  · have:=hls q hq
    unfold tcs at this ⊢
    rw [List.mem_flatMap] at this ⊢
    obtain ⟨p,h1,h3⟩:=this
    rw [List.mem_filter] at h1
    exact ⟨p,List.mem_filter.2 ⟨h1.1,hp _ h1.2⟩,h3⟩
  · unfold tcs at hq ⊢
    rw [List.mem_flatMap] at hq ⊢
    obtain ⟨p,h1,h3⟩:=hq
    rw [List.mem_filter] at h1
    exact ⟨p,List.mem_filter.2 ⟨hac _ h1.1,h1.2⟩,h3⟩
theorem Nm {fuel i:Nat} {listed:Array Bool} (hl:isLast ops i=true) (h2:hwx P n ops Q acts w0 O0 fuel (listed.setIfInBounds i true) l w):owp P n ops (loudX P n ops Q acts w0 O0 i fuel listed) [] l w:=AB ⟨(fun h=>by rw [hl] at h;exact Bool.noConfusion h),h2⟩
theorem x_nil {listed:Array Bool} (hr:Region.ready .any ops listed=[]) (h:Q .normal l w):hwx P n ops Q acts w0 O0 0 listed l w:=fun _ _ _ ha=>⟨hr,Fs trivial ha h⟩
def maskOf (ms:List Nat) (o:Oper):Nat:=o.after.toList.foldl (fun m e=>if Region.binds .any e=true then m ||| (2 ^ e.on ||| ms.getD e.on 0) else m) 0
def masksFrom:List Oper→List Nat→List Nat
  | [],ms=>ms
  | o :: r,ms=>masksFrom r (ms ++ [maskOf ms o])
def bef (ops:Array Oper) (j k:Nat):Bool:=((masksFrom ops.toList []).getD j 0).testBit k
theorem HJ {ops:Array Oper}:∀ (f j k:Nat),comesB ops f j k=true→comesB ops (f + 1) j k=true
  | 0,j,k,h=>by simp [comesB] at h
  | f + 1,j,k,h=>by
    rw [comesB] at h ⊢
    cases hj:ops[j]? with
    | none=>rw [hj] at h;simp at h
    | some o =>
      rw [hj] at h
      simp only [Option.any_some,Array.any_eq_true'] at h ⊢
      obtain ⟨e,he,h⟩:=h
      refine ⟨e,he,?_⟩
      simp only [Bool.and_eq_true,Bool.or_eq_true] at h ⊢
      refine ⟨h.1,h.2.imp id fun h=>HJ f e.on k h⟩
theorem IS {ops:Array Oper} {f g j k:Nat} (h:comesB ops f j k=true) (hl:f≤g):comesB ops g j k=true:=by
  induction hl with
  | refl=>exact h
  | step _ ih=>exact HJ _ _ _ ih
theorem IT {ms:List Nat} {k:Nat}:∀ (l:List Edge) (m:Nat),(l.foldl (fun m e=>if Region.binds .any e=true then m ||| (2 ^ e.on ||| ms.getD e.on 0) else m) m).testBit k=true→m.testBit k=true∨∃ e∈l,Region.binds .any e=true∧(e.on=k∨(ms.getD e.on 0).testBit k=true)
  | [],m,h=>.inl h
  | e :: l,m,h=>by
    rw [List.foldl_cons] at h
    rcases IT l _ h with h|⟨e',h1,h2⟩
    · by_cases hb:Region.binds .any e=true
      · rw [if_pos hb,Nat.testBit_or,Nat.testBit_or,Nat.testBit_two_pow,Bool.or_eq_true,Bool.or_eq_true] at h
        rcases h with h|h|h
        · exact .inl h
        · exact .inr ⟨e,List.mem_cons_self,hb,.inl (by simpa using h)⟩
        · exact .inr ⟨e,List.mem_cons_self,hb,.inr h⟩
      · rw [if_neg hb] at h;exact .inl h
    · exact .inr ⟨e',List.mem_cons_of_mem _ h1,h2⟩
theorem Jz {ops:Array Oper}:∀ (rest pre:List Oper) (ms:List Nat),ops.toList=pre ++ rest→ms.length=pre.length→(∀ a k,(ms.getD a 0).testBit k=true→comesB ops (a + 1) a k=true)→(masksFrom rest ms).length=ops.size∧∀ a k,((masksFrom rest ms).getD a 0).testBit k=true→comesB ops (a + 1) a k=true
  | [],pre,ms,h1,h2,h3=>⟨by rw [masksFrom,h2,← Array.length_toList,h1,List.append_nil],h3⟩
  | o :: rest,pre,ms,h1,h2,h3=>by
    refine Jz rest (pre ++ [o]) (ms ++ [maskOf ms o]) (by rw [h1,List.append_assoc];rfl) (by simp [h2]) fun a k hk=>?_
    by_cases ha:a < ms.length
    · rw [List.getD_eq_getElem?_getD,List.getElem?_append_left ha,← List.getD_eq_getElem?_getD] at hk;exact h3 a k hk
    · by_cases ha2:a=ms.length
      · subst ha2
        have:(ms ++ [maskOf ms o]).getD ms.length 0=maskOf ms o:=by simp
        rw [this] at hk
        rcases IT _ _ hk with h|⟨e,he,hb,h⟩
        · simp at h
        · have ho:ops[ms.length]?=some o:=by rw [← Array.getElem?_toList,h1,h2];simp
          rw [comesB,ho]
          simp only [Option.any_some,Array.any_eq_true',Bool.and_eq_true,Bool.or_eq_true]
          refine ⟨e,by simpa using he,hb,?_⟩
          rcases h with h|h
          · exact .inl (by simpa using h)
          · have hlt:e.on < ms.length:=by
              rcases Nat.lt_or_ge e.on ms.length with h'|h'
              · exact h'
              · rw [List.getD_eq_getElem?_getD,List.getElem?_eq_none h'] at h;simp at h
            exact .inr (IS (h3 _ _ h) hlt)
      · rw [List.getD_eq_getElem?_getD,List.getElem?_eq_none (by simp;omega)] at hk;simp at hk
theorem IU {ops:Array Oper} {j k:Nat} (h:bef ops j k=true):comesB ops ops.size j k=true:=by
  obtain ⟨h1,h2⟩:=Jz (ops:=ops) ops.toList [] [] (by simp) rfl (fun a k h=>by simp at h)
  refine IS (h2 j k h) ?_
  rcases Nat.lt_or_ge j ops.size with h'|h'
  · exact h'
  · unfold bef at h
    rw [List.getD_eq_getElem?_getD,List.getElem?_eq_none (by omega)] at h;simp at h
theorem x_pre {fuel tot:Nat} {listed:Array Bool} (ls:List Nat) (ord:List (Nat×Bool)) (hs:(Region.noSelect ops && (acts.all fun p=>(ops[p.1]?).isSome) && ordPre ops listed ord && (ord.all fun p=>(acts.all fun q=>q.2.all (ls.contains ·) || bef ops q.1 p.1) && !acts.any (·.1 == p.1)))=true) (hl:ord.length + fuel=tot)
    (h:hwp P n ops (thn (hwx P n ops Q acts w O0 fuel (listAll listed ord)) fun _ _ _=>False) (SS w O0 ls) ord l w):hwx P n ops Q acts w O0 tot listed l w:=by
  refine Nl ls ord ?_ hl h
  simp only [Bool.and_eq_true] at hs ⊢
  refine ⟨hs.1,List.all_eq_true.2 fun p hp=>?_⟩
  have h1:=List.all_eq_true.1 hs.2 p hp
  rw [Bool.and_eq_true] at h1 ⊢
  refine ⟨List.all_eq_true.2 fun q hq=>?_,h1.2⟩
  unfold tci at hq
  rw [List.mem_flatMap] at hq
  obtain ⟨a,ha,hqa⟩:=hq
  rw [List.mem_filter] at ha
  have h2:=List.all_eq_true.1 h1.1 a ha.1
  rw [Bool.or_eq_true] at h2
  rcases h2 with h2|h2
  · exact List.all_eq_true.1 h2 q hqa
  · have:=ha.2;rw [IU h2] at this;simp at this
theorem x_end {fuel i:Nat} {listed:Array Bool} (hl:((List.range ops.size).all fun k=>k == i || bef ops i k)=true) (h2:hwx P n ops Q acts w0 O0 fuel (listed.setIfInBounds i true) l w):owp P n ops (loudX P n ops Q acts w0 O0 i fuel listed) [] l w:=by
  refine Nm ?_ h2
  refine List.all_eq_true.2 fun k hk=>?_
  have:=List.all_eq_true.1 hl k hk
  rw [Bool.or_eq_true] at this ⊢
  exact this.imp id IU
theorem BK [hm:Mixed P] {id:Nat} {L:List Oper} (acts:List (Nat×List Nat)) (O:Lab) (h:hwx P n L.toArray Q acts w O L.toArray.size (Array.replicate L.toArray.size false) l w):ewp P n (.region id L.toArray true) Q l w:=fun a d ha =>
  wp_region_any hm.eq (Ik _ _ _ _ (h (fun m om hm=>by
      simp only [Array.getD_eq_getD_getElem?,Array.getElem?_replicate] at hm
      split at hm<;>simp at hm) a (d + 1) ha))
end
end
section
open Go Go.RowKit
attribute [local irreducible] ewp owp hwp hwq hws Ev Evg Fn retPost loud loudS Res1
section
variable {w : World} {A : Nat → Prop} (hA : ∀ k, A k → k < w.heap.size) {v0 v1 : Value}
include hA
omit hA in
def Dm (f:List Fct) (s:List Int):Option Bool:=some (holdsB f s)
theorem Fx {x0:List Fct} (h0:Vb w A v0 x0) {x1:List Int} (h1:Vb w A v1 x1) {r:Bool} (hm:Dm x0 x1=some r):Fn Try.prog 43 [v0,v1] w fun v w'=>Ext w w'∧Vb w' (upA A w w') v r:=by
  obtain rfl:=sm hm
  refine (baseHolds (h0.mono hA) (h1.mono hA)).mono fun v w' h=>⟨h.2,?_⟩
  rw [h.1,bof_b];exact vBool
omit hA in
def Cq (f:List Fct) (s:List Int):Option Bool:=some (holdsB f s)
theorem Fy {x0:List Fct} (h0:Vb w A v0 x0) {x1:List Int} (h1:Vb w A v1 x1) {r:Bool} (hm:Cq x0 x1=some r):Fn Try.prog 37 [v0,v1] w fun v w'=>Ext w w'∧Vb w' (upA A w w') v r:=by
  obtain rfl:=sm hm
  refine (taskHolds (h0.mono hA) (h1.mono hA)).mono fun v w' h=>⟨h.2,?_⟩
  rw [h.1,bof_b];exact vBool
omit hA in
noncomputable def EQ (x:List Int) (y:List Int):Option Bool:=some (bof (x=y))
theorem Ke {x0:List Int} (h0:Vb w A v0 x0) {x1:List Int} (h1:Vb w A v1 x1) {r:Bool} (hm:EQ x0 x1=some r):Fn Try.prog 33 [v0,v1] w fun v w'=>Ext w w'∧Vb w' (upA A w w') v r:=by
  obtain rfl:=sm hm
  refine (baseInts (h0.mono hA) (h1.mono hA)).mono fun v w' h=>⟨h.2,?_⟩
  rw [h.1];exact vBool
end
theorem KT (t:Tsk):inI64 (checkN t):=by unfold checkN;(repeat' split)<;>decide
def Im (x:Err):Option Int:=some x.n
theorem KU {w:World} {A:Nat→Prop} (hA:∀ k,A k→k < w.heap.size) {x0:Err} (r0:inI64 x0.n) {r:Int} (hm:Im x0=some r):Fn Try.prog 28 [errV x0.n] w fun v w'=>Ext w w'∧Vb w' (upA A w w') v r:=by
  obtain rfl:=sm hm
  refine AN Try.func28 rfl Try.ntmps28 rfl ?_
  by_cases h:x0.n=0
  · rw [h,EY]
    ((repeat (first|refine Ah ?_|refine Al ?_|refine Ae ?_|refine Am ?_|refine Au ?_|refine At ?_|refine Ar rfl ?_|refine Aj rfl ?_))<;>(refine o_as rfl rfl ?_<;>(first|refine Ay ?_|refine AA ?_|refine Aw ?_|refine AB ?_))<;>(repeat (first|refine Ah ?_|refine Al ?_|refine Ae ?_|refine Am ?_|refine Au ?_|refine At ?_|refine Ar rfl ?_|refine Aj rfl ?_))<;>(refine o_mv rfl rfl ?_<;>(first|refine o_en rfl rfl ?_|refine o_eo rfl rfl ?_)<;>(first|refine Ay ?_|refine AA ?_|refine Aw ?_|refine AB ?_))<;>(repeat (first|refine Ah ?_|refine Al ?_|refine Ae ?_|refine Am ?_|refine Au ?_|refine At ?_|refine Ar rfl ?_|refine Aj rfl ?_))<;>(refine o_as rfl rfl ?_<;>(first|refine Ay ?_|refine AA ?_|refine Aw ?_|refine AB ?_))<;>(repeat (first|refine Ah ?_|refine Al ?_|refine Ae ?_|refine Am ?_|refine Au ?_|refine At ?_|refine Ar rfl ?_|refine Aj rfl ?_)))
    exact ret1 rfl rfl ⟨Below.refl _ _,vInt (by decide)⟩
  · rw [Fw h]
    have h2:-9223372036854775808≤x0.n∧x0.n≤9223372036854775807:=r0
    ((repeat (first|refine Ah ?_|refine Al ?_|refine Ae ?_|refine Am ?_|refine Au ?_|refine At ?_|refine Ar rfl ?_|refine Aj rfl ?_))<;>(refine o_as rfl rfl ?_<;>(first|refine Ay ?_|refine AA ?_|refine Aw ?_|refine AB ?_))<;>(repeat (first|refine Ah ?_|refine Al ?_|refine Ae ?_|refine Am ?_|refine Au ?_|refine At ?_|refine Ar rfl ?_|refine Aj rfl ?_))<;>(refine o_mv rfl rfl ?_<;>(first|refine o_en rfl rfl ?_|refine o_eo rfl rfl ?_)<;>(first|refine Ay ?_|refine AA ?_|refine Aw ?_|refine AB ?_))<;>(repeat (first|refine Ah ?_|refine Al ?_|refine Ae ?_|refine Am ?_|refine Au ?_|refine At ?_|refine Ar rfl ?_|refine Aj rfl ?_))<;>(refine o_mv rfl rfl ?_<;>refine o_ta rfl rfl ?_<;>refine o_mv rfl rfl ?_<;>refine o_ex rfl rfl rfl ?_<;>refine o_ex rfl rfl rfl ?_<;>refine o_as rfl rfl ?_<;>refine o_as rfl rfl ?_<;>(first|refine Ay ?_|refine AA ?_|refine Aw ?_|refine AB ?_))<;>(repeat (first|refine Ah ?_|refine Al ?_|refine Ae ?_|refine Am ?_|refine Au ?_|refine At ?_|refine Ar rfl ?_|refine Aj rfl ?_))<;>(refine o_mv rfl rfl ?_<;>(first|refine Ay ?_|refine AA ?_|refine Aw ?_|refine AB ?_))<;>(repeat (first|refine Ah ?_|refine Al ?_|refine Ae ?_|refine Am ?_|refine Au ?_|refine At ?_|refine Ar rfl ?_|refine Aj rfl ?_))<;>(refine o_mv rfl rfl ?_<;>refine o_as rfl rfl ?_<;>(first|refine Ay ?_|refine AA ?_|refine Aw ?_|refine AB ?_))<;>(repeat (first|refine Ah ?_|refine Al ?_|refine Ae ?_|refine Am ?_|refine Au ?_|refine At ?_|refine Ar rfl ?_|refine Aj rfl ?_)))
    exact ret1 rfl rfl ⟨Below.refl _ _,vInt r0⟩
def Cm (xs:List Int):Option (List Int):=if xs.length * 8≤140737488355328∧xs.length≤9223372036854775807 then some xs else none
theorem FE {w:World} {A:Nat→Prop} (hA:∀ k,A k→k < w.heap.size) {v0:Value} {x0:List Int} (h0:Vb w A v0 x0) {r:List Int} (hm:Cm x0=some r) :
    Fn Try.prog 65 [v0] w fun v w'=>Ext w w'∧RowR w w' (upA A w w') 3 v r:=by
  obtain ⟨⟨hl,hl2⟩,rfl⟩:=Fv hm
  obtain ⟨O,hB,hA0⟩:=enter hA
  replace h0:=h0.mono hA0
  obtain ⟨Ad,c,rfl⟩:=h0.form
  refine AN Try.func65 rfl Try.ntmps65 rfl ?_
  cases Ad with
  | none =>
    have hx:x0=[]:=by
      cases x0 with
      | nil=>rfl
      | cons x xs=>obtain ⟨_,_,_,h,_⟩:=h0.elem (k:=0) (x:=x) rfl;cases h
    subst hx
    ((repeat (first|refine Ah ?_|refine Al ?_|refine Ae ?_|refine Am ?_|refine Au ?_|refine At ?_|refine Ar rfl ?_|refine Aj rfl ?_))<;>(refine o_as rfl rfl ?_<;>(first|refine Ay ?_|refine AA ?_|refine Aw ?_|refine AB ?_))<;>(repeat (first|refine Ah ?_|refine Al ?_|refine Ae ?_|refine Am ?_|refine Au ?_|refine At ?_|refine Ar rfl ?_|refine Aj rfl ?_))<;>(refine o_mv rfl rfl ?_<;>refine o_sn rfl rfl ?_<;>(first|refine Ay ?_|refine AA ?_|refine Aw ?_|refine AB ?_))<;>(repeat (first|refine Ah ?_|refine Al ?_|refine Ae ?_|refine Am ?_|refine Au ?_|refine At ?_|refine Ar rfl ?_|refine Aj rfl ?_))<;>(refine o_as rfl rfl ?_<;>(first|refine Ay ?_|refine AA ?_|refine Aw ?_|refine AB ?_))<;>(repeat (first|refine Ah ?_|refine Al ?_|refine Ae ?_|refine Am ?_|refine Au ?_|refine At ?_|refine Ar rfl ?_|refine Aj rfl ?_)))
    exact ret1 rfl rfl ⟨Below.refl _ _,RowR.nil⟩
  | some ad =>
    ((repeat (first|refine Ah ?_|refine Al ?_|refine Ae ?_|refine Am ?_|refine Au ?_|refine At ?_|refine Ar rfl ?_|refine Aj rfl ?_))<;>(refine o_as rfl rfl ?_<;>(first|refine Ay ?_|refine AA ?_|refine Aw ?_|refine AB ?_))<;>(repeat (first|refine Ah ?_|refine Al ?_|refine Ae ?_|refine Am ?_|refine Au ?_|refine At ?_|refine Ar rfl ?_|refine Aj rfl ?_))<;>(refine o_mv rfl rfl ?_<;>refine o_sn rfl rfl ?_<;>(first|refine Ay ?_|refine AA ?_|refine Aw ?_|refine AB ?_))<;>(repeat (first|refine Ah ?_|refine Al ?_|refine Ae ?_|refine Am ?_|refine Au ?_|refine At ?_|refine Ar rfl ?_|refine Aj rfl ?_)))
    refine AR 2 (by decide) O (xs:=([]:List Int)) rfl rfl rfl rfl trivial (by decide) (by decide) rfl fun g w1 O1 S1 h1=>?_
    replace hB:=hB.st S1 (fun h=>h) (fun h=>h)
    replace h0:=h0.st S1 (fun h=>h)
    (refine o_mv rfl rfl ?_)
    refine AQ rfl h1 h0.rd rfl rfl (by decide) (by simpa using hl) (by simpa using hl2) rfl fun A2 c2 w2 O2 S2 h2=>?_
    replace hB:=hB.st S2 (by decide) (by decide)
    rw [List.nil_append] at h2 ⊢
    (refine o_as rfl rfl ?_<;>(first|refine Ay ?_|refine AA ?_|refine Aw ?_|refine AB ?_))
    repeat (first|refine Ah ?_|refine Al ?_|refine Ae ?_|refine Am ?_|refine Au ?_|refine At ?_|refine Ar rfl ?_|refine Aj rfl ?_)
    exact ret1 rfl rfl ⟨hB.ext,h2.out hB (by decide)⟩
end
section
open Go Go.RowKit
attribute [local irreducible] ewp owp hwp hwq hws Ev Evg Fn retPost loud loudS Res1
structure Rsl where
  verdict:Int
  plan:List Int
  cost:Int
  expanded:Int
instance:Rp Rsl where
  isAgg:=true
  size:=4
  R w F cs x:=∃ v0,cs=[.int .i64 x.verdict,v0,.int .i64 x.cost,.int .i64 x.expanded]∧Vb w F v0 x.plan∧inI64 x.verdict∧inI64 x.cost∧inI64 x.expanded
  len:=by rintro w F cs x ⟨v0,rfl,h0,h1,h2,h3⟩;rfl
  one:=by rintro w F cs x ⟨v0,rfl,h0,h1,h2,h3⟩ u hu;simp at hu;rcases hu with rfl|rfl|rfl|rfl<;>first|rfl|exact Vb.one rfl (by assumption)
  agree:=by rintro w w' F cs x ⟨v0,rfl,h0,h1,h2,h3⟩ ha;exact ⟨v0,rfl,h0.agree ha,h1,h2,h3⟩
  mono:=by rintro w F G cs x ⟨v0,rfl,h0,h1,h2,h3⟩ ha;exact ⟨v0,rfl,h0.mono ha,h1,h2,h3⟩
end
section
open Go Go.RowKit
attribute [local irreducible] ewp owp hwp hwq hws Ev Evg Fn retPost loud loudS Res1
def exts (n:Nat) (s:List Int):List (List Int):=(List.range n).map fun x:Nat=>s ++ [(x:Int)]
def grows (out:List (List Int)) (k:Int):List (List Int):=out.flatMap (exts k.toNat)
def statesL (vars:List Int):List (List Int):=vars.foldl grows [[]]
end
section
open Go Go.RowKit
theorem Hb {y x:Int} {vs s:List Int}:StateOk (y :: vs) (x :: s)↔(0≤x∧x < y)∧StateOk vs s:=by
  constructor
  · intro h
    exact ⟨h.2 0 x y rfl rfl,by have:=h.1;simpa using this,fun i a b ha hb=>h.2 (i + 1) a b (by simpa using ha) (by simpa using hb)⟩
  · rintro ⟨h1,h2,h3⟩
    refine ⟨by simpa using h2,fun i a b ha hb=>?_⟩
    cases i with
    | zero=>simp at ha hb;subst ha;subst hb;exact h1
    | succ i=>exact h3 i a b (by simpa using ha) (by simpa using hb)
theorem Kf:StateOk [] []:=⟨rfl,fun i a b ha=>by simp at ha⟩
theorem JA {n:Nat} {s t:List Int}:t∈exts n s↔∃ x:Nat,x < n∧t=s ++ [(x:Int)]:=by
  unfold exts
  rw [List.mem_map]
  constructor
  · rintro ⟨x,hx,rfl⟩;exact ⟨x,List.mem_range.1 hx,rfl⟩
  · rintro ⟨x,hx,rfl⟩;exact ⟨x,List.mem_range.2 hx,rfl⟩
theorem FK:∀ (vars:List Int) (out:List (List Int)) (s:List Int),s∈vars.foldl grows out↔∃ s0∈out,∃ r,s=s0 ++ r∧StateOk vars r
  | [],out,s=>by
    constructor
    · intro h;exact ⟨s,h,[],by simp,Kf⟩
    · rintro ⟨s0,h,r,rfl,hr⟩
      have:r=[]:=List.eq_nil_of_length_eq_zero hr.1
      subst this;simpa using h
  | k :: vs,out,s=>by
    simp only [List.foldl_cons]
    rw [FK vs (grows out k) s]
    constructor
    · rintro ⟨s1,h1,r,rfl,hr⟩
      obtain ⟨s0,h0,h2⟩:=List.mem_flatMap.1 h1
      obtain ⟨x,hx,rfl⟩:=JA.1 h2
      exact ⟨s0,h0,(x:Int) :: r,by simp,Hb.2 ⟨⟨by omega,by omega⟩,hr⟩⟩
    · rintro ⟨s0,h0,r,rfl,hr⟩
      cases r with
      | nil=>have:=hr.1;simp at this
      | cons x r =>
        obtain ⟨⟨h1,h2⟩,h3⟩:=Hb.1 hr
        exact ⟨s0 ++ [x],List.mem_flatMap.2 ⟨s0,h0,JA.2 ⟨x.toNat,by omega,by rw [show ((x.toNat:Nat):Int)=x from by omega]⟩⟩,r,by simp,h3⟩
theorem ER {vars s:List Int}:s∈statesL vars↔StateOk vars s:=by
  unfold statesL
  rw [FK]
  constructor
  · rintro ⟨s0,h0,r,rfl,hr⟩
    have:s0=[]:=by simpa using h0
    subst this;exact hr
  · intro h;exact ⟨[],by simp,s,rfl,h⟩
end
section
open Go Go.RowKit
attribute [local irreducible] ewp owp hwp hwq hws Ev Evg Fn retPost loud loudS Res1
noncomputable def DO (x0:Tsk) (x1:List Int) (x2:Int):Option ((List Int)×Bool) :=
  bnd (if x2 < 0 then (some true) else (if (x0.ops.length:Int)≤x2 then (some true) else (bnd (atI x0.ops x2) fun a36=>bnd (Dm a36.pre x1) fun q57=>if q57=true then some false else some true)):Option Bool) fun y28=>if y28=true then (some (([]:List Int),false)) else (bnd (appI 8 ([]:List Int) x1) fun u75=>bnd (atI x0.ops x2) fun a86=>bnd (rng (ρ:=(List Int)×Bool) (fun (k113:Nat) (a114:Eff) (s111:(List Int))=>bnd (Dm a114.cond x1) fun q148=>if q148=true then bnd (atI s111 a114.var) fun a155=>some (.next (s111.set (a114.var:Int).toNat a114.val)) else some (.next s111)) a86.effs 0 u75) fun res109=>fin res109 fun (s173:(List Int))=>some (s173,true))
theorem JB {w:World} {A:Nat→Prop} (hA:∀ k,A k→k < w.heap.size) {vx0:Value} {x0:Tsk} (hx0:Vb w A vx0 x0) {vx1:Value} {x1:List Int} (hx1:Vb w A vx1 x1) {x2:Int} (rx2:inI64 x2) {r:(List Int)×Bool} (hm:DO x0 x1 x2=some r) :
    Fn Try.prog 19 [vx0,vx1,(.int .i64 x2)] w fun v w'=>Ext w w'∧T2 w' (upA A w w') v r:=by
 obtain ⟨O,hB,hA0⟩:=enter hA
 replace hx0:=hx0.mono hA0
 obtain ⟨cs4,rfl,v5,v6,v7,v8,rfl,h9,h12,h15,h18⟩:=hx0
 obtain ⟨A10,c11,rfl⟩:=h9.form
 obtain ⟨A13,c14,rfl⟩:=h12.form
 obtain ⟨A16,c17,rfl⟩:=h15.form
 obtain ⟨A19,c20,rfl⟩:=h18.form
 replace hx1:=hx1.mono hA0
 obtain ⟨A21,c22,rfl⟩:=hx1.form
 refine AN Try.func19 rfl Try.ntmps19 rfl ?_
 unfold DO at hm
 refine Ah (Ae (l_box 2 O rfl rfl fun g23 w24 O25 S26 h27=>?_))
 replace h27:Lc 2 w24 O25 g23 26 [(.slice A10 x0.vars.length c11),(.slice A13 x0.init.length c14),(.slice A16 x0.goal.length c17),(.slice A19 x0.ops.length c20)]:=h27
 refine o_as rfl rfl (o_as rfl rfl (o_z ?_))
 refine Ah (Ah ?_)
 obtain ⟨y28,hy29,hm⟩:=bs hm
 refine AT (fun l' w'=>∃ (x31:Unit) (O':Lab),subs l' [(1,(.slice A21 x1.length c22)),(2,(.int .i64 x2)),(3,(.pointer (some ⟨g23,0,none⟩))),(30,(.bool y28))]∧Bs w A w' O'∧Vb w' (Fr 0 w' O') (.slice A21 x1.length c22) x1∧Lc 2 w' O' g23 26 [(.slice A10 x0.vars.length c11),(.slice A13 x0.init.length c14),(.slice A16 x0.goal.length c17),(.slice A19 x0.ops.length c20)]∧Vb w' (Fr 0 w' O') (.slice A10 x0.vars.length c11) x0.vars∧Vb w' (Fr 0 w' O') (.slice A13 x0.init.length c14) x0.init∧Vb w' (Fr 0 w' O') (.slice A16 x0.goal.length c17) x0.goal∧Vb w' (Fr 0 w' O') (.slice A19 x0.ops.length c20) x0.ops) ?_ ?_
 ·
  refine Ae (o_mv rfl rfl (o_ltS rfl rfl rfl (fun c32=>?_) fun c32=>?_))
  ·
   replace hy29:=ip hy29 c32
   refine o_mv rfl rfl (AC rfl rfl rfl rfl (AC rfl rfl rfl rfl (AC rfl rfl rfl rfl (AC rfl rfl rfl rfl (AC rfl rfl rfl rfl (o_pt rfl rfl rfl (o_mv rfl rfl (AC rfl rfl rfl rfl (AC rfl rfl rfl rfl (AC rfl rfl rfl rfl (AC rfl rfl rfl rfl (AC rfl rfl rfl rfl (AC rfl rfl rfl rfl (AC rfl rfl rfl rfl ?_))))))))))))))
   refine AC rfl rfl rfl rfl (AC rfl rfl rfl rfl (o_pt rfl rfl rfl (o_z ?_)))
   obtain rfl:=sm hy29
   replace hB:=hB.st S26
   replace hx1:=hx1.st S26
   replace h9:=h9.st S26
   replace h12:=h12.st S26
   replace h15:=h15.st S26
   replace h18:=h18.st S26
   exact ⟨(),_,⟨rfl,rfl,rfl,rfl,trivial⟩,hB,hx1,h27,h9,h12,h15,h18⟩
  ·
   replace hy29:=im hy29 c32
   refine o_mv rfl rfl (AD rfl rfl (o_mv rfl rfl (AD rfl rfl (o_fa rfl rfl (AD rfl rfl (o_ld (hc:=Blk.cell (i:=3) (h27.1) rfl) rfl rfl ?_))))))
   refine AD rfl rfl (o_ln rfl rfl ?_)
   replace h18:=h18.st S26
   have l34:x0.ops.length≤9223372036854775807:=Nat.le_trans h18.len.2.1 h18.len.2.2
   have r33:inI64 (x0.ops.length:Int):=rngNat l34
   refine AD rfl rfl (o_geS rfl rfl rfl (fun c35=>?_) fun c35=>?_)
   ·
    replace hy29:=ip hy29 c35
    refine o_pf rfl rfl rfl (o_mv rfl rfl (AC rfl rfl rfl rfl (AC rfl rfl rfl rfl (AC rfl rfl rfl rfl (AC rfl rfl rfl rfl (AC rfl rfl rfl rfl (AC rfl rfl rfl rfl (AC rfl rfl rfl rfl (AC rfl rfl rfl rfl (AC rfl rfl rfl rfl (o_pt rfl rfl rfl (o_z ?_))))))))))))
    obtain rfl:=sm hy29
    replace hB:=hB.st S26
    replace hx1:=hx1.st S26
    replace h9:=h9.st S26
    replace h12:=h12.st S26
    replace h15:=h15.st S26
    exact ⟨(),_,⟨rfl,rfl,rfl,rfl,trivial⟩,hB,hx1,h27,h9,h12,h15,h18⟩
   ·
    replace hy29:=im hy29 c35
    refine o_pf rfl rfl rfl (o_mv rfl rfl (AD rfl rfl (o_fa rfl rfl (AD rfl rfl (o_ld (hc:=Blk.cell (i:=3) (h27.1) rfl) rfl rfl ?_)))))
    refine AD rfl rfl (o_mv rfl rfl (AD rfl rfl ?_))
    obtain ⟨a36,e37,hy29⟩:=bs hy29
    obtain ⟨p39,x38⟩:=AX e37
    obtain ⟨b40,o41,ce42,hA43,hl44,hd45,v47,v48,rfl,h49,h52,r55,z56⟩:=h18.elem' x38
    obtain ⟨A50,c51,rfl⟩:=h49.form
    obtain ⟨A53,c54,rfl⟩:=h52.form
    refine o_iaE (hA:=hA43) (hj:=(Int.toNat_of_nonneg p39).symm) (hlt:=hl44) rfl rfl rfl ?_
    refine AD rfl rfl (o_fa rfl rfl (AD rfl rfl (o_ld (hc:=cat2 hd45) rfl rfl ?_)))
    refine AD rfl rfl (o_mv rfl rfl (AD rfl rfl ?_))
    obtain ⟨q57,e58,hy29⟩:=bs hy29
    replace hx1:=hx1.st S26
    refine Cf (O:=O25) (A:=All w24) (R:=fun w' F v=>Vb w' F v q57) (Fx (fun _ h=>h) (Vb.mono (F:=Fr 0 w24 O25) h49 Fr.lt) (Vb.mono (F:=Fr 0 w24 O25) hx1 Fr.lt) e58) rfl rfl fun v63 w59 O60 S61 h62=>?_
    obtain rfl:=h62.bool
    cases q57
    case false =>
     replace hy29:=iF hy29
     refine AD rfl rfl (o_nf rfl rfl (o_pf rfl rfl rfl (o_z ?_)))
     obtain rfl:=sm hy29
     replace hB:=(hB.st S26).st S61
     replace hx1:=hx1.st S61
     replace h9:=(h9.st S26).st S61
     replace h12:=(h12.st S26).st S61
     replace h15:=(h15.st S26).st S61
     replace h18:=h18.st S61
     replace h27:=h27.st S61
     exact ⟨(),_,⟨rfl,rfl,rfl,rfl,trivial⟩,hB,hx1,h27,h9,h12,h15,h18⟩
    replace hy29:=iT hy29
    refine AD rfl rfl (o_nt rfl rfl (o_pf rfl rfl rfl (o_z ?_)))
    obtain rfl:=sm hy29
    replace hB:=(hB.st S26).st S61
    replace hx1:=hx1.st S61
    replace h9:=(h9.st S26).st S61
    replace h12:=(h12.st S26).st S61
    replace h15:=(h15.st S26).st S61
    replace h18:=h18.st S61
    replace h27:=h27.st S61
    exact ⟨(),_,⟨rfl,rfl,rfl,rfl,trivial⟩,hB,hx1,h27,h9,h12,h15,h18⟩
 replace hB:=hB.st S26
 replace hx1:=hx1.st S26
 replace h9:=h9.st S26
 replace h12:=h12.st S26
 replace h15:=h15.st S26
 replace h18:=h18.st S26
 rintro l64 w65 ⟨x31,O66,hs67,hB,hx1,h27,h9,h12,h15,h18⟩
 refine AW _ hs67 ?_
 refine Cu rfl (fun c68=>?_) (fun c68=>?_)
 ·
  replace hm:=ip hm c68
  refine Ah (Ae (o_as rfl rfl (o_as rfl rfl (o_z ?_))))
  refine At ?_
  obtain rfl:=sm hm
  exact ret2 rfl (AF rfl) (AF rfl) ⟨hB.ext,_,_,rfl,(Vb.mono (F:=Fr 0 w65 O66) (Vb.nil _ _) hB.out),vBool⟩
 ·
  replace hm:=im' hm c68
  refine Am (Ah (Ae (AR 3 (by decide) O66 (xs:=(([]:List Int):List Int)) rfl rfl rfl rfl trivial (by decide) (by decide) rfl fun g69 w70 O71 S72 h73=>?_)))
  refine o_mv rfl rfl ?_
  obtain ⟨u75,e76,hm⟩:=bs hm
  obtain ⟨e76,e77,e78⟩:=AO e76
  replace hx1:=hx1.st S72
  refine AQ rfl h73 (hx1.rd) rfl rfl (by decide) e77 e78 rfl fun A79 c80 w81 O82 S83 h84=>?_
  rw [← e76] at h84 ⊢
  refine o_as rfl rfl (o_z ?_)
  refine Ah (Ah (Ae (o_fa rfl rfl ?_)))
  replace h27:=(h27.st S72).st S83
  refine o_ld (hc:=Blk.cell (i:=3) (h27.1) rfl) rfl rfl ?_
  refine o_mv rfl rfl ?_
  obtain ⟨a86,e87,hm⟩:=bs hm
  obtain ⟨p89,x88⟩:=AX e87
  replace h18:=(h18.st S72).st S83
  obtain ⟨b90,o91,ce92,hA93,hl94,hd95,v97,v98,rfl,h99,h102,r105,z106⟩:=h18.elem' x88
  obtain ⟨A100,c101,rfl⟩:=h99.form
  obtain ⟨A103,c104,rfl⟩:=h102.form
  refine o_iaE (hA:=hA93) (hj:=(Int.toNat_of_nonneg p89).symm) (hlt:=hl94) rfl rfl rfl ?_
  refine o_fa rfl rfl (o_ld (hc:=cat3 hd95) rfl rfl ?_)
  refine o_ln rfl rfl ?_
  have l108:a86.effs.length≤9223372036854775807:=Nat.le_trans h102.len.2.1 h102.len.2.2
  have r107:inI64 (a86.effs.length:Int):=rngNat l108
  refine o_mv rfl rfl (o_z ?_)
  obtain ⟨res109,hL110,hm⟩:=bs hm
  refine AT (aft res109 (fun (s111:(List Int)) (x112:Unit)=>[(8,(.slice A79 u75.length c80))]) (fun s111 x112 w'=>∃ O':Lab,Bs w A w' O'∧Rw 3 w' O' 3 (.slice A79 u75.length c80) s111)) ?_ ?_
  ·
   refine Al ?_
   replace hB:=(hB.st S72).st S83
   replace hx1:=hx1.st S83
   refine CC (σ:=(List Int)) (X:=Unit) (a86.effs.length) hL110 rfl l108 (fun (s111:(List Int)) (x112:Unit)=>[(1,(.slice A21 x1.length c22)),(8,(.slice A79 u75.length c80)),(39,(.slice A103 a86.effs.length c104))]) _ (fun s111 x112 w'=>∃ O':Lab,Bs w A w' O'∧Vb w' (Fr 0 w' O') (.slice A21 x1.length c22) x1∧Rw 3 w' O' 3 (.slice A79 u75.length c80) s111∧Vb w' (Fr 0 w' O') (.slice A103 a86.effs.length c104) a86.effs) _ () ⟨O82,hB,hx1,h84,h102⟩ ⟨rfl,rfl,rfl,rfl,rfl,trivial⟩ (fun _ _=>⟨rfl,rfl⟩) (fun _ _=>⟨rfl,trivial⟩) (fun _ _ _ ⟨O',hB,hx1,h126,h102⟩=>⟨O',hB,h126⟩) ⟨rfl,rfl,rfl⟩ ⟨rfl,rfl⟩ ?_
   rintro k113 a114 s111 x112 w115 cc117 hx118 ⟨O116,hB,hx1,h126,h102⟩ hf119 hret120 hbrk121
   have rk113:inI64 (k113:Int):=rngK hx118 l108
   refine Ah (Ae ?_)
   obtain ⟨b128,o129,ce130,hA131,hl132,hd133,v135,rfl,h136,r139,r140⟩:=h102.elem' hx118
   obtain ⟨A137,c138,rfl⟩:=h136.form
   refine o_iaE (hA:=hA131) (hj:=rfl) (hlt:=hl132) rfl rfl rfl ?_
   refine o_la (hl:=rfl) (hc:=hd133) rfl rfl ?_
   refine BR 4 O116 rfl fun g141 w142 O143 S144 h145=>?_
   refine AL h145 rfl rfl rfl (Nat.le_of_ble_eq_true rfl) (by first|exact allOne rfl|simp [Value.cells,Value.oneCell',AJ]) fun w146 S147 h145=>?_
   replace h145:Lc 4 w146 O143 g141 59 [(.slice A137 a114.cond.length c138),(.int .i64 a114.var),(.int .i64 a114.val)]:=h145
   refine o_z ?_
   refine Ah (Ae (o_fa rfl rfl (o_ld (hc:=Blk.cell (i:=0) (h145.1) rfl) rfl rfl ?_)))
   refine o_mv rfl rfl ?_
   obtain ⟨q148,e149,hf119⟩:=bs hf119
   replace hx1:=(hx1.st S144).st S147
   replace h136:=(h136.st S144).st S147
   refine Cf (O:=O143) (A:=All w146) (R:=fun w' F v=>Vb w' F v q148) (Fx (fun _ h=>h) (Vb.mono (F:=Fr 0 w146 O143) h136 Fr.lt) (Vb.mono (F:=Fr 0 w146 O143) hx1 Fr.lt) e149) rfl rfl fun v154 w150 O151 S152 h153=>?_
   obtain rfl:=h153.bool
   cases q148
   case false =>
    replace hf119:=iF hf119
    refine o_z ?_
    refine Aj rfl (Am ?_)
    obtain rfl:=sm hf119
    refine (?_:Exists _)
    replace hB:=((hB.st S144).st S147).st S152
    replace hx1:=hx1.st S152
    replace h102:=((h102.st S144).st S147).st S152
    replace h126:=((h126.st S144).st S147).st S152
    exact ⟨_,(),rfl,⟨rfl,rfl,rfl,rfl,rfl,trivial⟩,_,hB,hx1,h126,h102⟩
   replace hf119:=iT hf119
   refine o_z ?_
   refine Ar rfl (Ae (o_mv rfl rfl (o_fa rfl rfl ?_)))
   replace h145:=h145.st S152
   refine o_ld (hc:=Blk.cell (i:=1) (h145.1) rfl) rfl rfl ?_
   refine o_fa rfl rfl (o_ld (hc:=Blk.cell (i:=2) (h145.1) rfl) rfl rfl ?_)
   obtain ⟨a155,e156,hf119⟩:=bs hf119
   obtain ⟨p158,x157⟩:=AX e156
   replace h126:=((h126.st S144).st S147).st S152
   obtain ⟨b159,o160,ce161,hA162,hl163,hd164,rfl,r166⟩:=h126.elem x157
   refine o_iaE (hA:=hA162) (hj:=(Int.toNat_of_nonneg p158).symm) (hlt:=hl163) rfl rfl rfl ?_
   refine DN rfl h126 (a:=a114.val) (vInt r140) hA162 rfl rfl (AK x157) fun w167 S168 h126=>?_
   refine o_z ?_
   obtain rfl:=sm hf119
   refine (?_:Exists _)
   replace hB:=(((hB.st S144).st S147).st S152).st S168
   replace hx1:=(hx1.st S152).st S168
   replace h102:=(((h102.st S144).st S147).st S152).st S168
   exact ⟨_,(),rfl,⟨rfl,rfl,rfl,rfl,rfl,trivial⟩,_,hB,hx1,h126,h102⟩
  replace hB:=(hB.st S72).st S83
  rintro l169 w170 ⟨s173,x174,rfl,hs172,O171,hB,h126⟩
  replace hm:=Br hm
  refine AW _ hs172 ?_
  refine Ah (Ae (o_mv rfl rfl (o_as rfl rfl (o_as rfl rfl (o_z ?_)))))
  refine At ?_
  obtain ⟨O175,S176,h126⟩:=h126.freeze
  obtain rfl:=sm hm
  replace hB:=hB.st S176
  exact ret2 rfl (AF rfl) (AF rfl) ⟨hB.ext,_,_,rfl,(Vb.mono (F:=Fr 0 w170 O175) h126 hB.out),vBool⟩
noncomputable def Ee (x0:Tsk) (x1:List Int) (x2:List Int):Option (Int×Bool) :=
  bnd (rng (ρ:=Int×Bool) (fun (k36:Nat) (a37:Int) (s34:(List Int)×Int)=>bnd (DO x0 s34.1 a37) fun q59=>if (!q59.2)=true then (some (.ret (0,false))) else (bnd (atI x0.ops a37) fun a73=>bnd (chkI (s34.2 + a73.cost)) fun n94=>some (.next (q59.1,n94)))) x2 0 (x1,0)) fun res32=>fin res32 fun (s101:(List Int)×Int)=>bnd (bnd (Dm x0.goal s101.1) fun q107=>if q107=true then some true else some false:Option Bool) fun y103=>some (s101.2,y103)
theorem Kg {w:World} {A:Nat→Prop} (hA:∀ k,A k→k < w.heap.size) {vx0:Value} {x0:Tsk} (hx0:Vb w A vx0 x0) {vx1:Value} {x1:List Int} (hx1:Vb w A vx1 x1) {vx2:Value} {x2:List Int} (hx2:Vb w A vx2 x2) {r:Int×Bool} (hm:Ee x0 x1 x2=some r) :
    Fn Try.prog 18 [vx0,vx1,vx2] w fun v w'=>Ext w w'∧T2 w' (upA A w w') v r:=by
 obtain ⟨O,hB,hA0⟩:=enter hA
 replace hx0:=hx0.mono hA0
 obtain ⟨cs4,rfl,v5,v6,v7,v8,rfl,h9,h12,h15,h18⟩:=hx0
 obtain ⟨A10,c11,rfl⟩:=h9.form
 obtain ⟨A13,c14,rfl⟩:=h12.form
 obtain ⟨A16,c17,rfl⟩:=h15.form
 obtain ⟨A19,c20,rfl⟩:=h18.form
 replace hx1:=hx1.mono hA0
 obtain ⟨A21,c22,rfl⟩:=hx1.form
 replace hx2:=hx2.mono hA0
 obtain ⟨A23,c24,rfl⟩:=hx2.form
 refine AN Try.func18 rfl Try.ntmps18 rfl ?_
 unfold Ee at hm
 refine Ah (Ae (l_box 2 O rfl rfl fun g25 w26 O27 S28 h29=>?_))
 replace h29:Lc 2 w26 O27 g25 26 [(.slice A10 x0.vars.length c11),(.slice A13 x0.init.length c14),(.slice A16 x0.goal.length c17),(.slice A19 x0.ops.length c20)]:=h29
 refine o_as rfl rfl (o_as rfl rfl (o_z ?_))
 refine Ah (Ae (o_as rfl rfl (o_z ?_)))
 refine Ah (Ah (Ae (o_mv rfl rfl (o_ln rfl rfl ?_))))
 replace hx2:=hx2.st S28
 have l31:x2.length≤9223372036854775807:=Nat.le_trans hx2.len.2.1 hx2.len.2.2
 have r30:inI64 (x2.length:Int):=rngNat l31
 refine o_mv rfl rfl (o_z ?_)
 obtain ⟨res32,hL33,hm⟩:=bs hm
 refine AT (aft res32 (fun (s34:(List Int)×Int) (x35:(Option Addr×Nat))=>[(1,(.slice x35.1 s34.1.length x35.2)),(3,(.pointer (some ⟨g25,0,none⟩))),(8,(.int .i64 s34.2))]) (fun s34 x35 w'=>∃ O':Lab,Bs w A w' O'∧Vb w' (Fr 0 w' O') (.slice x35.1 s34.1.length x35.2) s34.1∧Lc 2 w' O' g25 26 [(.slice A10 x0.vars.length c11),(.slice A13 x0.init.length c14),(.slice A16 x0.goal.length c17),(.slice A19 x0.ops.length c20)]∧Vb w' (Fr 0 w' O') (.slice A10 x0.vars.length c11) x0.vars∧Vb w' (Fr 0 w' O') (.slice A13 x0.init.length c14) x0.init∧Vb w' (Fr 0 w' O') (.slice A16 x0.goal.length c17) x0.goal∧Vb w' (Fr 0 w' O') (.slice A19 x0.ops.length c20) x0.ops∧inI64 s34.2)) ?_ ?_
 ·
  refine Al ?_
  replace hB:=hB.st S28
  replace hx1:=hx1.st S28
  replace h9:=h9.st S28
  replace h12:=h12.st S28
  replace h15:=h15.st S28
  replace h18:=h18.st S28
  refine CC (σ:=(List Int)×Int) (X:=(Option Addr×Nat)) (x2.length) hL33 rfl l31 (fun (s34:(List Int)×Int) (x35:(Option Addr×Nat))=>[(1,(.slice x35.1 s34.1.length x35.2)),(3,(.pointer (some ⟨g25,0,none⟩))),(8,(.int .i64 s34.2)),(13,(.slice A23 x2.length c24))]) _ (fun s34 x35 w'=>∃ O':Lab,Bs w A w' O'∧Vb w' (Fr 0 w' O') (.slice x35.1 s34.1.length x35.2) s34.1∧Lc 2 w' O' g25 26 [(.slice A10 x0.vars.length c11),(.slice A13 x0.init.length c14),(.slice A16 x0.goal.length c17),(.slice A19 x0.ops.length c20)]∧Vb w' (Fr 0 w' O') (.slice A10 x0.vars.length c11) x0.vars∧Vb w' (Fr 0 w' O') (.slice A13 x0.init.length c14) x0.init∧Vb w' (Fr 0 w' O') (.slice A16 x0.goal.length c17) x0.goal∧Vb w' (Fr 0 w' O') (.slice A19 x0.ops.length c20) x0.ops∧Vb w' (Fr 0 w' O') (.slice A23 x2.length c24) x2∧inI64 s34.2) _ (A21,c22) ⟨O27,hB,hx1,h29,h9,h12,h15,h18,hx2,(show inI64 (0) from by decide)⟩ ⟨rfl,rfl,rfl,rfl,rfl,rfl,trivial⟩ (fun _ _=>⟨rfl,rfl⟩) (fun _ _=>⟨rfl,rfl,rfl,trivial⟩) (fun _ _ _ ⟨O',hB,h49,h29,h9,h12,h15,h18,hx2,r50⟩=>⟨O',hB,h49,h29,h9,h12,h15,h18,r50⟩) ⟨rfl,rfl,rfl⟩ ⟨rfl,rfl⟩ ?_
  rintro k36 a37 s34 x35 w38 cc40 hx41 ⟨O39,hB,h49,h29,h9,h12,h15,h18,hx2,r50⟩ hf42 hret43 hbrk44
  have rk36:inI64 (k36:Int):=rngK hx41 l31
  refine Ah (Ae ?_)
  obtain ⟨b51,o52,ce53,hA54,hl55,hd56,rfl,r58⟩:=hx2.elem' hx41
  refine o_iaE (hA:=hA54) (hj:=rfl) (hlt:=hl55) rfl rfl rfl ?_
  refine o_ld (hc:=cat0 hd56) rfl rfl ?_
  refine o_as rfl rfl (o_z ?_)
  refine Ah (Ae (o_la (hl:=rfl) (hc:=(h29.1).cellsAt) rfl rfl ?_))
  refine o_mv rfl rfl (o_mv rfl rfl ?_)
  obtain ⟨q59,e60,hf42⟩:=bs hf42
  refine Cv (O:=O39) (R:=fun w' F v=>T2 w' F v q59) (JB Fr.lt (Vb.ofAgg (cs:=[(.slice A10 x0.vars.length c11),(.slice A13 x0.init.length c14),(.slice A16 x0.goal.length c17),(.slice A19 x0.ops.length c20)]) (x:=x0) rfl ⟨_,_,_,_,rfl,h9,h12,h15,h18⟩) h49 r58 e60) rfl rfl fun v65 w61 O62 S63 h64=>?_
  obtain ⟨v66,v67,rfl,h68,h69⟩:=h64
  obtain ⟨A70,c71,rfl⟩:=h68.form
  obtain rfl:=h69.bool
  refine o_mv rfl rfl (o_ex rfl rfl rfl (o_ex rfl rfl rfl (o_as rfl rfl (o_as rfl rfl (o_z ?_)))))
  refine Ah (Ah (Ae (o_mv rfl rfl (o_nn rfl rfl (o_z ?_)))))
  refine Cu rfl (fun c72=>?_) (fun c72=>?_)
  ·
   replace hf42:=ip hf42 c72
   refine Ah (Ae (o_as rfl rfl (o_as rfl rfl (o_z ?_))))
   refine At ?_
   obtain rfl:=sm hf42
   obtain rfl:=hret43 _ rfl
   obtain rfl:=sm (Bx hm)
   replace hB:=hB.st S63
   exact ret2 rfl (AF rfl) (AF rfl) ⟨hB.ext,_,_,rfl,(vInt (show inI64 (0) from by decide)),vBool⟩
  ·
   replace hf42:=im' hf42 c72
   refine Am (Ah (Ae (o_mv rfl rfl (o_as rfl rfl (o_z ?_)))))
   refine Ae (o_mv rfl rfl (o_fa rfl rfl ?_))
   replace h29:=h29.st S63
   refine o_ld (hc:=Blk.cell (i:=3) (h29.1) rfl) rfl rfl ?_
   refine o_mv rfl rfl ?_
   obtain ⟨a73,e74,hf42⟩:=bs hf42
   obtain ⟨p76,x75⟩:=AX e74
   replace h18:=h18.st S63
   obtain ⟨b77,o78,ce79,hA80,hl81,hd82,v84,v85,rfl,h86,h89,r92,z93⟩:=h18.elem' x75
   obtain ⟨A87,c88,rfl⟩:=h86.form
   obtain ⟨A90,c91,rfl⟩:=h89.form
   refine o_iaE (hA:=hA80) (hj:=(Int.toNat_of_nonneg p76).symm) (hlt:=hl81) rfl rfl rfl ?_
   refine o_fa rfl rfl (o_ld (hc:=cat1 hd82) rfl rfl ?_)
   obtain ⟨n94,e95,hf42⟩:=bs hf42
   have r96:=(Bl e95)
   refine o_adE (he:=e95) rfl rfl rfl ?_
   refine o_as rfl rfl (o_z ?_)
   obtain rfl:=sm hf42
   refine (?_:Exists _)
   replace hB:=hB.st S63
   replace hx2:=hx2.st S63
   replace h9:=h9.st S63
   replace h12:=h12.st S63
   replace h15:=h15.st S63
   exact ⟨_,(A70,c71),rfl,⟨rfl,rfl,rfl,rfl,rfl,rfl,trivial⟩,_,hB,h68,h29,h9,h12,h15,h18,hx2,r96⟩
 replace hB:=hB.st S28
 replace h9:=h9.st S28
 replace h12:=h12.st S28
 replace h15:=h15.st S28
 replace h18:=h18.st S28
 rintro l97 w98 ⟨s101,x102,rfl,hs100,O99,hB,h49,h29,h9,h12,h15,h18,r50⟩
 replace hm:=Br hm
 refine AW _ hs100 ?_
 refine Ah ?_
 obtain ⟨y103,hy104,hm⟩:=bs hm
 refine AT (fun l' w'=>∃ (x106:Unit) (O':Lab),subs l' [(6,(.int .i64 s101.2)),(7,(.bool y103))]∧Bs w A w' O') ?_ ?_
 ·
  refine Ae (o_mv rfl rfl (o_fa rfl rfl (o_ld (hc:=Blk.cell (i:=2) (h29.1) rfl) rfl rfl ?_)))
  refine o_mv rfl rfl ?_
  obtain ⟨q107,e108,hy104⟩:=bs hy104
  refine Cf (O:=O99) (A:=All w98) (R:=fun w' F v=>Vb w' F v q107) (Fx (fun _ h=>h) (Vb.mono (F:=Fr 0 w98 O99) h15 Fr.lt) (Vb.mono (F:=Fr 0 w98 O99) h49 Fr.lt) e108) rfl rfl fun v113 w109 O110 S111 h112=>?_
  obtain rfl:=h112.bool
  cases q107
  case false =>
   replace hy104:=iF hy104
   refine o_as rfl rfl (o_as rfl rfl (o_z ?_))
   obtain rfl:=sm hy104
   replace hB:=hB.st S111
   exact ⟨(),_,⟨rfl,rfl,trivial⟩,hB⟩
  replace hy104:=iT hy104
  refine o_as rfl rfl (o_as rfl rfl (o_z ?_))
  obtain rfl:=sm hy104
  replace hB:=hB.st S111
  exact ⟨(),_,⟨rfl,rfl,trivial⟩,hB⟩
 rintro l114 w115 ⟨x106,O116,hs117,hB⟩
 refine AW _ hs117 ?_
 refine At ?_
 obtain rfl:=sm hm
 exact ret2 rfl (AF rfl) (AF rfl) ⟨hB.ext,_,_,rfl,(vInt r50),vBool⟩
end
section
section
variable {α σ ρ : Type}
theorem fin_d {s:σ} {f:σ→Option ρ}:fin (.done s) f=f s:=rfl
theorem if_t {x y:α}:(if true=true then x else y)=x:=rfl
theorem if_f {x y:α}:(if false=true then x else y)=y:=rfl
theorem Hc {f:Nat→α→σ→Option (Ctl σ ρ)} {I:Nat→σ→Prop} {R:ρ→Prop}:∀ (ys:List α) (j:Nat) (s:σ),I j s →
    (∀ k x s,ys[k]?=some x→I (j + k) s→(∃ s',f (j + k) x s=some (.next s')∧I (j + k + 1) s')∨(∃ r,f (j + k) x s=some (.ret r)∧R r)) →
    (∃ s',rng f ys j s=some (.done s')∧I (j + ys.length) s')∨∃ r,rng f ys j s=some (.ret r)∧R r
  | [],j,s,h0,_=>.inl ⟨s,rfl,h0⟩
  | y :: ys,j,s,h0,h=>by
    rcases h 0 y s rfl h0 with ⟨s',h1,h2⟩|⟨r,h1,h2⟩
    · have h1':f j y s=some (.next s'):=h1
      simp only [rng,h1']
      rcases Hc (I:=I) (R:=R) ys (j + 1) s' h2 (fun k x s hk hI=>by
        have:=h (k + 1) x s (by simpa using hk) (by rwa [show j + (k + 1)=j + 1 + k from by omega])
        rwa [show j + (k + 1)=j + 1 + k from by omega] at this) with ⟨s2,h3,h4⟩|h3
      · exact .inl ⟨s2,h3,by rw [List.length_cons,show j + (ys.length + 1)=j + 1 + ys.length from by omega];exact h4⟩
      · exact .inr h3
    · have h1':f j y s=some (.ret r):=h1
      simp only [rng,h1']
      exact .inr ⟨r,rfl,h2⟩
theorem MD {f:Nat→α→σ→Option (Ctl σ ρ)} {xs:List α} {s₀:σ} (I:Nat→σ→Prop) (R:ρ→Prop) (h0:I 0 s₀)
    (h:∀ k x s,xs[k]?=some x→I k s→(∃ s',f k x s=some (.next s')∧I (k + 1) s')∨(∃ r,f k x s=some (.ret r)∧R r)) :
    (∃ s',rng f xs 0 s₀=some (.done s')∧I xs.length s')∨∃ r,rng f xs 0 s₀=some (.ret r)∧R r:=by
  have:=Hc (f:=f) (I:=I) (R:=R) xs 0 s₀ h0 (fun k x s hk hI=>by rw [Nat.zero_add] at hI ⊢;exact h k x s hk hI)
  rwa [Nat.zero_add] at this
theorem Ge {f:Nat→α→σ→Option (Ctl σ ρ)} {xs:List α} {s₀:σ} (I:Nat→σ→Prop) (h0:I 0 s₀) (h:∀ k x s,xs[k]?=some x→I k s→∃ s',f k x s=some (.next s')∧I (k + 1) s') :
    ∃ s',rng f xs 0 s₀=some (.done s')∧I xs.length s':=by
  rcases MD I (fun _=>False) h0 (fun k x s hk hI=>.inl (h k x s hk hI)) with h|⟨_,_,h⟩
  · exact h
  · exact h.elim
theorem Kv {f:Nat→α→σ→Option (Ctl σ ρ)} {xs:List α} (g:Nat→σ) (h:∀ k x,xs[k]?=some x→f k x (g k)=some (.next (g (k + 1)))):rng f xs 0 (g 0)=some (.done (g xs.length)):=by
  obtain ⟨s',h1,h2⟩:=Ge (f:=f) (xs:=xs) (s₀:=g 0) (fun k s=>s=g k) rfl (fun k x s hk hI=>⟨_,by rw [hI];exact h k x hk,rfl⟩)
  rw [h1,h2]
theorem JC {f:Nat→α→σ→Option (Ctl σ ρ)} {xs:List α} {s₀:σ} (g:Nat→σ) (h0:s₀=g 0) (h:∀ k x,xs[k]?=some x→f k x (g k)=some (.next (g (k + 1)))):rng f xs 0 s₀=some (.done (g xs.length)):=by
  rw [h0];exact Kv g h
theorem LT {f:Nat→σ→Option (Ctl σ ρ)} {N:Nat} (g:Nat→σ) (h:∀ k,k < N→f k (g k)=some (.next (g (k + 1)))):rngN f N (g 0)=some (.done (g N)):=by
  have:=Kv (f:=fun _ k s=>f k s) (xs:=List.range N) g (fun k x hk=>by
    obtain ⟨hlt,rfl⟩:=List.getElem?_eq_some_iff.1 hk
    simpa using h k (by simpa using hlt))
  rwa [List.length_range] at this
theorem IV {f:Nat→σ→Option (Ctl σ ρ)} {N:Nat} {s₀:σ} (g:Nat→σ) (h0:s₀=g 0) (h:∀ k,k < N→f k (g k)=some (.next (g (k + 1)))):rngN f N s₀=some (.done (g N)):=by
  rw [h0];exact LT g h
end
end
section
open Go Go.RowKit
def effsOn (s:List Int):List Eff→List Int→List Int
  | [],out=>out
  | e :: r,out=>effsOn s r (if holdsB e.cond s=true then out.set e.var.toNat e.val else out)
theorem Fe (s:List Int):∀ (a b:List Eff) (out:List Int),effsOn s (a ++ b) out=effsOn s b (effsOn s a out)
  | [],_,_=>rfl
  | e :: a,b,out=>by simp [effsOn,Fe s a b]
theorem GL (s:List Int):∀ (a:List Eff) (out:List Int),(effsOn s a out).length=out.length
  | [],_=>rfl
  | e :: a,out=>by
    rw [effsOn,GL s a]
    split<;>simp
theorem Kh (s:List Int) {l:List Eff} {k:Nat} {e:Eff} (h:l[k]?=some e) (out:List Int):effsOn s (l.take (k + 1)) out=if holdsB e.cond s=true then (effsOn s (l.take k) out).set e.var.toNat e.val else effsOn s (l.take k) out:=by
  rw [List.take_add_one,h,Fe];rfl
def EffsIn (s:List Int) (l:List Eff):Prop:=∀ (i:Nat) e,l[i]?=some e→0≤e.var∧e.var < s.length
def succ (o:Opr) (s:List Int):List Int:=effsOn s o.effs s
end
section
open Go Go.RowKit
theorem TaskOk.effs {t:Tsk} (h:TaskOk t) {s:List Int} (hs:StateOk t.vars s):∀ (i:Nat) o,t.ops[i]?=some o→EffsIn s o.effs:=fun i o ho j e he=>by
  obtain ⟨h1,_,y,hy,_⟩:=((h.2.2.2.2.2 i o ho).2.2.2.2.2 j e he).2
  refine ⟨h1,?_⟩
  have:=(List.getElem?_eq_some_iff.1 hy).1
  rw [hs.1]
  simp only at h1 this
  omega
end
section
open Go Go.RowKit
theorem LU {ρ:Type} {s:List Int} {effs:List Eff} (he:EffsIn s effs) (m:List Fct→List Int→Option Bool) (hm:∀ f s,m f s=some (holdsB f s)) (u:List Int) (hu:u.length=s.length) :
    rng (ρ:=ρ) (fun (_:Nat) (e:Eff) (out:List Int)=>bnd (m e.cond s) fun q=>if q=true then bnd (atI out e.var) fun _=>some (.next (out.set (e.var).toNat e.val)) else some (.next out)) effs 0 u=some (.done (effsOn s effs u)):=by
  rw [JC (fun k=>effsOn s (effs.take k) u) ?_ ?_,List.take_length]
  · rfl
  intro k e hk
  rw [hm,Az,Kh s hk]
  have hin:=he k e hk
  have hl:=GL s (effs.take k) u
  by_cases hb:holdsB e.cond s=true
  · rw [if_pos hb,if_pos hb]
    obtain ⟨j,hj⟩:=Int.eq_ofNat_of_zero_le hin.1
    rw [hj,BH,List.getElem?_eq_getElem (by omega),Az]
  · rw [if_neg hb,if_neg hb]
theorem IW {vars s:List Int}:∀ (l:List Eff),(∀ e∈l,EffOk vars e)→∀ (u:List Int),StateOk vars u→StateOk vars (effsOn s l u)
  | [],_,_,hu=>hu
  | e :: l,he,u,hu=>by
    refine IW l (fun e' h'=>he e' (List.mem_cons_of_mem _ h')) _ ?_
    split
    · obtain ⟨_,h1,h2,y,hy,h3⟩:=he e List.mem_cons_self
      refine ⟨by rw [List.length_set];exact hu.1,fun i x n hx hn=>?_⟩
      rw [List.getElem?_set] at hx
      by_cases hi:e.var.toNat=i
      · subst hi
        rw [if_pos rfl] at hx
        split at hx
        · obtain rfl:=Option.some.inj hx
          simp only at hy h2 h3
          rw [hy] at hn
          obtain rfl:=Option.some.inj hn
          exact ⟨h2,h3⟩
        · cases hx
      · rw [if_neg hi] at hx
        exact hu.2 i x n hx hn
    · exact hu
theorem Hz {t:Tsk} (h:TaskOk t) {s:List Int} (hs:StateOk t.vars s) {k:Nat} {o:Opr} (ho:t.ops[k]?=some o):StateOk t.vars (succ o s) :=
  IW o.effs (fun e he=>by obtain ⟨j,hj⟩:=List.getElem?_of_mem he;exact (h.2.2.2.2.2 k o ho).2.2.2.2.2 j e hj) s hs
end
section
open Go Go.RowKit
inductive PlanR (t:Tsk):List Int→List Int→List Int→Int→Prop
  | nil {s:List Int}:PlanR t s [] s 0
  | cons {s rest s':List Int} {k:Nat} {o:Opr} {C:Int}:t.ops[k]?=some o→holdsB o.pre s=true→PlanR t (succ o s) rest s' C→PlanR t s ((k:Int) :: rest) s' (o.cost + C)
theorem FL (f:List Fct) (s:List Int):Cq f s=some (holdsB f s):=rfl
end
section
section
variable {α σ ρ β : Type}
theorem Kw {f:σ→Option (Ctl σ ρ)} (I:σ→Prop) (B:σ→Prop) (R:ρ→Prop) (μ:σ→Nat) (h:∀ s,I s→(∃ s',f s=some (.next s')∧I s'∧μ s' < μ s)∨(∃ s',f s=some (.brk s')∧B s')∨∃ r,f s=some (.ret r)∧R r) :
    ∀ s,I s→(∃ s',lop f s=some (.done s')∧B s')∨∃ r,lop f s=some (.ret r)∧R r:=by
  have key:∀ (n:Nat) s,I s→μ s < n→(∃ s',lop f s=some (.done s')∧B s')∨∃ r,lop f s=some (.ret r)∧R r:=by
    intro n
    induction n with
    | zero=>intro s _ hn;omega
    | succ n ih =>
      intro s hI hn
      rw [Cw]
      rcases h s hI with ⟨s',h1,h2,h3⟩|⟨s',h1,h2⟩|⟨r,h1,h2⟩
      · rw [h1];exact ih s' h2 (by omega)
      · rw [h1];exact .inl ⟨s',rfl,h2⟩
      · rw [h1];exact .inr ⟨r,rfl,h2⟩
  exact fun s hI=>key (μ s + 1) s hI (by omega)
theorem JD {f:σ→Option (Ctl σ ρ)} {s₀:σ} {k:Fin σ ρ→Option β} {P:β→Prop} (I:σ→Prop) (B:σ→Prop) (R:ρ→Prop) (μ:σ→Nat) (h0:I s₀)
    (h:∀ s,I s→(∃ s',f s=some (.next s')∧I s'∧μ s' < μ s)∨(∃ s',f s=some (.brk s')∧B s')∨∃ r,f s=some (.ret r)∧R r)
    (hb:∀ s,B s→∃ r,k (.done s)=some r∧P r) (hr:∀ q,R q→∃ r,k (.ret q)=some r∧P r):∃ r,bnd (lop f s₀) k=some r∧P r:=by
  rcases Kw I B R μ h s₀ h0 with ⟨s,h1,h2⟩|⟨q,h1,h2⟩
  · rw [h1,Az];exact hb s h2
  · rw [h1,Az];exact hr q h2
theorem ME {f:σ→Option (Ctl σ ρ)} {s₀:σ} {k:Fin σ ρ→Option β} {r:Option β} (I:σ→Prop) (B:σ→Prop) (μ:σ→Nat) (h0:I s₀)
    (h:∀ s,I s→(∃ s',f s=some (.next s')∧I s'∧μ s' < μ s)∨(∃ s',f s=some (.brk s')∧B s')) (hb:∀ s,B s→k (.done s)=r):bnd (lop f s₀) k=r:=by
  rcases Kw I B (fun _=>False) μ (fun s hI=>(h s hI).imp id .inl) s₀ h0 with ⟨s,h1,h2⟩|⟨q,_,h2⟩
  · rw [h1,Az];exact hb s h2
  · exact h2.elim
theorem Hd {f:Nat→α→σ→Option (Ctl σ ρ)} {xs:List α} {s₀:σ} {k:Fin σ ρ→Option β} {P:β→Prop} (I:Nat→σ→Prop) (R:ρ→Prop) (h0:I 0 s₀)
    (h:∀ i x s,xs[i]?=some x→I i s→(∃ s',f i x s=some (.next s')∧I (i + 1) s')∨∃ q,f i x s=some (.ret q)∧R q)
    (hb:∀ s,I xs.length s→∃ r,k (.done s)=some r∧P r) (hr:∀ q,R q→∃ r,k (.ret q)=some r∧P r):∃ r,bnd (rng f xs 0 s₀) k=some r∧P r:=by
  have key:∀ (ys:List α) (j:Nat) (s:σ),(∀ i,ys[i]?=xs[j + i]?)→j + ys.length=xs.length→I j s→∃ r,bnd (rng f ys j s) k=some r∧P r:=by
    intro ys
    induction ys with
    | nil=>intro j s _ hl hI;exact hb s (by simp at hl;rw [← hl];exact hI)
    | cons y ys ih =>
      intro j s hg hl hI
      have hy:xs[j]?=some y:=by have:=hg 0;simpa using this.symm
      simp only [rng]
      rcases h j y s hy hI with ⟨s',h1,h2⟩|⟨q,h1,h2⟩
      · rw [h1]
        exact ih (j + 1) s' (fun i=>by have:=hg (i + 1);rw [show j + 1 + i=j + (i + 1) from by omega,← this];simp) (by simp at hl;omega) h2
      · rw [h1,Az];exact hr q h2
  exact key xs 0 s₀ (fun i=>by rw [Nat.zero_add]) (by omega) h0
theorem Kx {f:Nat→α→σ→Option (Ctl σ ρ)} {xs:List α} {s₀:σ} {k:Fin σ ρ→Option β} {r:Option β} (I:Nat→σ→Prop) (h0:I 0 s₀)
    (h:∀ i x s,xs[i]?=some x→I i s→∃ s',f i x s=some (.next s')∧I (i + 1) s') (hb:∀ s,I xs.length s→k (.done s)=r):bnd (rng f xs 0 s₀) k=r:=by
  obtain ⟨s,h1,h2⟩:=Ge I h0 h
  rw [h1,Az]
  exact hb s h2
end
end
section
open Go Go.RowKit
inductive Walk (t:Tsk):List Int→Int→Prop
  | goal {s:List Int}:holdsB t.goal s=true→Walk t s 0
  | step {s:List Int} {k:Nat} {o:Opr} {c:Int}:t.ops[k]?=some o→holdsB o.pre s=true→Walk t (succ o s) c→Walk t s (c + o.cost)
theorem JE {α:Type} {l:List α} {k:Nat} {x y:α} (h:l[k]?=some x):y∈l.take (k + 1)↔y∈l.take k∨y=x:=by
  rw [List.take_add_one,h,List.mem_append];simp
end
section
open Go Go.RowKit
structure QEn where
  key:Int
  tie:Int
  item:Int
  number:Int
theorem He {α:Type} {l:List α} {m i:Nat} {x:α} (h:(l.take m)[i]?=some x):l[i]?=some x:=by
  by_cases hi:i < m
  · rwa [List.getElem?_take_of_lt hi] at h
  · rw [List.getElem?_take_eq_none (by omega)] at h;cases h
def bfr (x y:QEn):Prop:=x.key < y.key∨(x.key=y.key∧(x.tie < y.tie∨(x.tie=y.tie∧x.number < y.number)))
instance (x y:QEn):Decidable (bfr x y):=by unfold bfr;infer_instance
def nb (x y:QEn):Prop:=¬ bfr x y
theorem Gv {x y z:QEn} (h1:nb x y) (h2:nb y z):nb x z:=by unfold nb bfr at *;omega
theorem nb_of {x y:QEn} (h:bfr x y):nb y x:=by unfold nb bfr at *;omega
theorem In (x:QEn):nb x x:=by unfold nb bfr;omega
theorem JF {x y:QEn} (h:nb x y):y.key≤x.key:=by unfold nb bfr at h;omega
def HeapOk (l:List QEn):Prop:=∀ (j:Nat) x y,0 < j→l[j]?=some x→l[(j - 1) / 2]?=some y→nb x y
def Over (l:List QEn) (i:Nat):Prop:=∀ (j:Nat) x y,0 < i→0 < j→(j - 1) / 2=i→l[j]?=some x→l[(i - 1) / 2]?=some y→nb x y
def UpI (l:List QEn) (i:Nat):Prop:=(∀ (j:Nat) x y,0 < j→j≠i→l[j]?=some x→l[(j - 1) / 2]?=some y→nb x y)∧Over l i
def DownI (l:List QEn) (i:Nat):Prop:=(∀ (j:Nat) x y,0 < j→(j - 1) / 2≠i→l[j]?=some x→l[(j - 1) / 2]?=some y→nb x y)∧Over l i
theorem Gf {l:List QEn} {i j:Nat} {a b:QEn} (hi:l[i]?=some a) (hj:l[j]?=some b) (hne:i≠j) (k:Nat):((l.set i b).set j a)[k]?=if k=j then some a else if k=i then some b else l[k]?:=by
  by_cases h1:k=j
  · subst h1;rw [if_pos rfl,List.getElem?_set_self (by simpa using AK hj)]
  · rw [if_neg h1,List.getElem?_set_ne (by omega)]
    by_cases h2:k=i
    · subst h2;rw [if_pos rfl,List.getElem?_set_self (AK hi)]
    · rw [if_neg h2,List.getElem?_set_ne (by omega)]
theorem JG {l:List QEn} {i j:Nat} {a b:QEn} (hi:l[i]?=some a) (hj:l[j]?=some b):((l.set i b).set j a).Perm l:=by
  have h1:=AK hi
  have h2:=AK hj
  have e1:l[i]=a:=by rw [List.getElem?_eq_getElem h1] at hi;exact Option.some.inj hi
  have e2:l[j]=b:=by rw [List.getElem?_eq_getElem h2] at hj;exact Option.some.inj hj
  rw [← e1,← e2]
  exact List.set_set_perm h1 h2
theorem UpI.step {l:List QEn} {i:Nat} {a b:QEn} (h:UpI l i) (h0:0 < i) (hi:l[i]?=some a) (hj:l[(i - 1) / 2]?=some b) (hb:bfr a b):UpI ((l.set i b).set ((i - 1) / 2) a) ((i - 1) / 2):=by
  have hne:i≠(i - 1) / 2:=by omega
  constructor
  · intro j x y hj0 hjp hx hy
    rw [Gf hi hj hne,if_neg hjp] at hx
    rw [Gf hi hj hne] at hy
    by_cases e1:j=i
    · subst e1
      rw [if_pos rfl] at hx hy
      obtain rfl:=Option.some.inj hx
      obtain rfl:=Option.some.inj hy
      exact nb_of hb
    · rw [if_neg e1] at hx
      by_cases e2:(j - 1) / 2=(i - 1) / 2
      · rw [if_pos e2] at hy
        obtain rfl:=Option.some.inj hy
        have:=h.1 j x b hj0 e1 hx (by rw [e2];exact hj)
        exact Gv this (nb_of hb)
      · rw [if_neg e2] at hy
        by_cases e3:(j - 1) / 2=i
        · rw [if_pos e3] at hy
          obtain rfl:=Option.some.inj hy
          exact h.2 j x b h0 hj0 e3 hx hj
        · rw [if_neg e3] at hy
          exact h.1 j x y hj0 e1 hx hy
  · intro j x y hp0 hj0 hjp hx hy
    rw [Gf hi hj hne] at hx hy
    have n1:((i - 1) / 2 - 1) / 2≠(i - 1) / 2:=by omega
    have n2:((i - 1) / 2 - 1) / 2≠i:=by omega
    rw [if_neg n1,if_neg n2] at hy
    have hpp:=h.1 ((i - 1) / 2) b y hp0 (by omega) hj hy
    rw [if_neg (by omega)] at hx
    by_cases e1:j=i
    · subst e1
      rw [if_pos rfl] at hx
      obtain rfl:=Option.some.inj hx
      exact hpp
    · rw [if_neg e1] at hx
      exact Gv (h.1 j x b hj0 e1 hx (by rw [hjp];exact hj)) hpp
theorem UpI.heap {l:List QEn} {i:Nat} (h:UpI l i) (hi:i=0∨∀ x y,l[i]?=some x→l[(i - 1) / 2]?=some y→nb x y):HeapOk l:=fun j x y hj hx hy=>by
  by_cases e:j=i
  · subst e
    rcases hi with h0|h1
    · omega
    · exact h1 x y hx hy
  · exact h.1 j x y hj e hx hy
theorem DownI.step {l:List QEn} {i c:Nat} {a b:QEn} (h:DownI l i) (hc:c=2 * i + 1∨c=2 * i + 2) (hi:l[i]?=some a) (hj:l[c]?=some b) (hb:bfr b a) (hs:∀ (j:Nat) x,0 < j→(j - 1) / 2=i→l[j]?=some x→nb x b):DownI ((l.set i b).set c a) c:=by
  have hne:i≠c:=by omega
  have hcp:(c - 1) / 2=i:=by omega
  constructor
  · intro j x y hj0 hjp hx hy
    rw [Gf hi hj hne] at hx hy
    rw [if_neg hjp] at hy
    by_cases e1:j=c
    · subst e1
      rw [if_pos rfl] at hx
      rw [if_pos hcp] at hy
      obtain rfl:=Option.some.inj hx
      obtain rfl:=Option.some.inj hy
      exact nb_of hb
    · rw [if_neg e1] at hx
      by_cases e2:j=i
      · subst e2
        rw [if_pos rfl] at hx
        rw [if_neg (by omega)] at hy
        obtain rfl:=Option.some.inj hx
        exact h.2 c _ y hj0 (by omega) hcp hj hy
      · rw [if_neg e2] at hx
        by_cases e3:(j - 1) / 2=i
        · rw [if_pos e3] at hy
          obtain rfl:=Option.some.inj hy
          exact hs j x hj0 e3 hx
        · rw [if_neg e3] at hy
          exact h.1 j x y hj0 e3 hx hy
  · intro j x y hc0 hj0 hjc hx hy
    rw [Gf hi hj hne] at hx hy
    rw [if_neg (by omega),if_neg (by omega)] at hx
    rw [if_neg (by omega),if_pos hcp] at hy
    obtain rfl:=Option.some.inj hy
    exact h.1 j x _ hj0 (by omega) hx (by rw [hjc];exact hj)
theorem DownI.heap {l:List QEn} {i:Nat} (h:DownI l i) (hi:∀ (j:Nat) x y,0 < j→(j - 1) / 2=i→l[j]?=some x→l[i]?=some y→nb x y):HeapOk l:=fun j x y hj hx hy=>by
  by_cases e:(j - 1) / 2=i
  · exact hi j x y hj e hx (by rw [← e];exact hy)
  · exact h.1 j x y hj e hx hy
theorem Lt {l:List QEn} (h:HeapOk l) {e:QEn} (he:l[0]?=some e):∀ x∈l,nb x e:=by
  have key:∀ (n j:Nat) x,j≤n→l[j]?=some x→nb x e:=by
    intro n
    induction n with
    | zero =>
      intro j x hj hx
      have hj0:j=0:=by omega
      rw [hj0,he] at hx
      rw [← Option.some.inj hx]
      exact In _
    | succ n ih =>
      intro j x hj hx
      by_cases h0:j=0
      · exact ih j x (by omega) hx
      · obtain ⟨y,hy⟩:=AH (l:=l) (k:=(j - 1) / 2) (by have:=AK hx;omega)
        exact Gv (h j x y (by omega) hx hy) (ih ((j - 1) / 2) y (by omega) hy)
  intro x hx
  obtain ⟨j,hj⟩:=List.getElem?_of_mem hx
  exact key j j x (by omega) hj
end
section
open Go Go.RowKit
abbrev U64:=BitVec 64
instance:Rp U64 where
  isAgg:=false
  size:=1
  R _ _ cs x:=cs=[.int .u64 (x.toNat:Int)]
  len:=by rintro w F cs x rfl;rfl
  one:=by
    rintro w F cs x rfl u hu
    have:u=.int .u64 (x.toNat:Int):=by simpa using hu
    subst this;rfl
  agree:=fun h _=>h
  mono:=fun h _=>h
theorem Vb.u64 {w:World} {F:Nat→Prop} {v:Value} {x:U64} (h:Vb w F v x):v=.int .u64 (x.toNat:Int):=by
  have:[v]=[.int .u64 (x.toNat:Int)]:=h
  simpa using this
theorem vU64 {w:World} {F:Nat→Prop} {x:U64}:Vb w F (.int .u64 (x.toNat:Int)) x:=rfl
theorem wrapU (a:Int):IntKind.u64.wrap a=a % 18446744073709551616:=by simp [IntKind.wrap,IntKind.bits,IntKind.signed]
theorem wrapN (x:BitVec 64):IntKind.u64.wrap (x.toNat:Int)=(x.toNat:Int):=by
  rw [wrapU]
  have:=x.isLt
  omega
theorem ofIntU (x:U64):BitVec.ofInt 64 (x.toNat:Int)=x:=by simp
def shlU (a:U64) (q:Int):Option U64:=if 0≤q then some (a <<< q.toNat) else none
def shrU (a:U64) (q:Int):Option U64:=if 0≤q then some (a >>> q.toNat) else none
def shlI (a q:Int):Option Int:=if 0≤q then some (wr (a * 2 ^ (min q.toNat 64))) else none
theorem JH {a q c:Int} (h:shlI a q=some c):inI64 c:=by
  unfold shlI at h
  split at h
  · rw [← sm h];exact Ng _
  · cases h
theorem toIntR (a:U64):inI64 a.toInt:=by
  have h1:=BitVec.toInt_lt (x:=a)
  have h2:=BitVec.le_toInt (x:=a)
  simp at h1 h2
  exact ⟨by omega,by omega⟩
section
variable {P : Program} {l : Env} {w : World} {dst : Option Tmp} {ty : TypeId} {pos : String} {aft : Array Edge}
theorem Nn {t u:TypeId} {x y:Operand} {a b:U64} (hx:opv l x=some (.int .u64 (a.toNat:Int))) (hy:opv l y=some (.int .u64 (b.toNat:Int))):Ev P ⟨dst,.binOp .and t x y u,ty,pos,aft,none⟩ l w (.int .u64 ((a &&& b).toNat:Int)):=fun _ _ d ha=>by
  have h:=wrapN (a &&& b)
  have h1:(BitVec.ofInt IntKind.u64.bits (a.toNat:Int))=a:=ofIntU a
  have h2:(BitVec.ofInt IntKind.u64.bits (b.toNat:Int))=b:=ofIntU b
  simp only [execOp,ha.eval hx,ha.eval hy,eqGuard,binOp,Op.intBits,h1,h2]
  simp
  exact h.trans (by simp)
theorem No {t u:TypeId} {x y:Operand} {a b:U64} (hx:opv l x=some (.int .u64 (a.toNat:Int))) (hy:opv l y=some (.int .u64 (b.toNat:Int))):Ev P ⟨dst,.binOp .or t x y u,ty,pos,aft,none⟩ l w (.int .u64 ((a ||| b).toNat:Int)):=fun _ _ d ha=>by
  have h:=wrapN (a ||| b)
  have h1:(BitVec.ofInt IntKind.u64.bits (a.toNat:Int))=a:=ofIntU a
  have h2:(BitVec.ofInt IntKind.u64.bits (b.toNat:Int))=b:=ofIntU b
  simp only [execOp,ha.eval hx,ha.eval hy,eqGuard,binOp,Op.intBits,h1,h2]
  simp
  exact h.trans (by simp)
theorem Np {t u:TypeId} {x y:Operand} {a b:U64} (hx:opv l x=some (.int .u64 (a.toNat:Int))) (hy:opv l y=some (.int .u64 (b.toNat:Int))):Ev P ⟨dst,.binOp .xor t x y u,ty,pos,aft,none⟩ l w (.int .u64 ((a ^^^ b).toNat:Int)):=fun _ _ d ha=>by
  have h:=wrapN (a ^^^ b)
  have h1:(BitVec.ofInt IntKind.u64.bits (a.toNat:Int))=a:=ofIntU a
  have h2:(BitVec.ofInt IntKind.u64.bits (b.toNat:Int))=b:=ofIntU b
  simp only [execOp,ha.eval hx,ha.eval hy,eqGuard,binOp,Op.intBits,h1,h2]
  simp
  exact h.trans (by simp)
theorem Nq {t u:TypeId} {x y:Operand} {a b:U64} (hx:opv l x=some (.int .u64 (a.toNat:Int))) (hy:opv l y=some (.int .u64 (b.toNat:Int))):Ev P ⟨dst,.binOp .andNot t x y u,ty,pos,aft,none⟩ l w (.int .u64 ((a &&& ~~~b).toNat:Int)):=fun _ _ d ha=>by
  have h:=wrapN (a &&& ~~~b)
  have h1:(BitVec.ofInt IntKind.u64.bits (a.toNat:Int))=a:=ofIntU a
  have h2:(BitVec.ofInt IntKind.u64.bits (b.toNat:Int))=b:=ofIntU b
  simp only [execOp,ha.eval hx,ha.eval hy,eqGuard,binOp,Op.intBits,h1,h2]
  simp
  exact h.trans (by simp)
theorem Nr {t u:TypeId} {x y:Operand} {a b:U64} (hx:opv l x=some (.int .u64 (a.toNat:Int))) (hy:opv l y=some (.int .u64 (b.toNat:Int))):Ev P ⟨dst,.binOp .add t x y u,ty,pos,aft,none⟩ l w (.int .u64 ((a + b).toNat:Int)):=fun _ _ d ha=>by
  have h:IntKind.u64.wrap ((a.toNat:Int) + (b.toNat:Int))=((a + b).toNat:Int):=by
    rw [wrapU]
    have h1:=a.isLt
    have h2:=b.isLt
    rw [BitVec.toNat_add];omega
  simp [execOp,ha.eval hx,ha.eval hy,eqGuard,binOp,Op.intArith,h]
theorem Ns {t u:TypeId} {x y:Operand} {a b:U64} (hx:opv l x=some (.int .u64 (a.toNat:Int))) (hy:opv l y=some (.int .u64 (b.toNat:Int))):Ev P ⟨dst,.binOp .sub t x y u,ty,pos,aft,none⟩ l w (.int .u64 ((a - b).toNat:Int)):=fun _ _ d ha=>by
  have h:IntKind.u64.wrap ((a.toNat:Int) - (b.toNat:Int))=((a - b).toNat:Int):=by
    rw [wrapU]
    have h1:=a.isLt
    have h2:=b.isLt
    rw [BitVec.toNat_sub];omega
  simp [execOp,ha.eval hx,ha.eval hy,eqGuard,binOp,Op.intArith,h]
theorem Nt {t u:TypeId} {x y:Operand} {a b:U64} (hx:opv l x=some (.int .u64 (a.toNat:Int))) (hy:opv l y=some (.int .u64 (b.toNat:Int))):Ev P ⟨dst,.binOp .mul t x y u,ty,pos,aft,none⟩ l w (.int .u64 ((a * b).toNat:Int)):=fun _ _ d ha=>by
  have h:IntKind.u64.wrap ((a.toNat:Int) * (b.toNat:Int))=((a * b).toNat:Int):=by
    rw [wrapU]
    have h1:=a.isLt
    have h2:=b.isLt
    rw [BitVec.toNat_mul,Int.natCast_emod,Int.natCast_mul];rfl
  simp [execOp,ha.eval hx,ha.eval hy,eqGuard,binOp,Op.intArith,h]
theorem Nu {t u:TypeId} {x y:Operand} {a c:U64} {q:Int} {k:IntKind} (hx:opv l x=some (.int .u64 (a.toNat:Int))) (hy:opv l y=some (.int k q)) (he:shlU a q=some c):Ev P ⟨dst,.binOp .shl t x y u,ty,pos,aft,none⟩ l w (.int .u64 (c.toNat:Int)):=fun _ _ d ha=>by
  unfold shlU at he
  split at he
  · rename_i hq
    have hc:=sm he
    subst hc
    have h:IntKind.u64.wrap ((a.toNat:Int) * 2 ^ (min q.toNat IntKind.u64.bits))=((a <<< q.toNat).toNat:Int):=by
      rw [wrapU,BitVec.toNat_shiftLeft,Nat.shiftLeft_eq]
      show (a.toNat:Int) * 2 ^ (min q.toNat 64) % 18446744073709551616=((a.toNat * 2 ^ q.toNat % 18446744073709551616:Nat):Int)
      by_cases hk:q.toNat≤64
      · rw [Nat.min_eq_left hk,Int.natCast_emod,Int.natCast_mul,Int.natCast_pow];rfl
      · have hb:q.toNat=64 + (q.toNat - 64):=by omega
        rw [Nat.min_eq_right (by omega),hb,Nat.pow_add]
        have e1:a.toNat * (2 ^ 64 * 2 ^ (q.toNat - 64)) % 18446744073709551616=0:=by
          rw [← Nat.mul_assoc,Nat.mul_right_comm]
          exact Nat.mul_mod_left _ _
        have e2:(a.toNat:Int) * 2 ^ 64 % 18446744073709551616=0:=Int.mul_emod_left _ _
        rw [e1,e2];rfl
    have hn:¬ q < 0:=by omega
    simp [execOp,ha.eval hx,ha.eval hy,eqGuard,binOp,Op.shift,hn,h]
  · cases he
theorem Lu {t u:TypeId} {x y:Operand} {a c:U64} {q:Int} {k:IntKind} (hx:opv l x=some (.int .u64 (a.toNat:Int))) (hy:opv l y=some (.int k q)) (he:shrU a q=some c):Ev P ⟨dst,.binOp .shr t x y u,ty,pos,aft,none⟩ l w (.int .u64 (c.toNat:Int)):=fun _ _ d ha=>by
  unfold shrU at he
  split at he
  · rename_i hq
    have hc:=sm he
    subst hc
    have h:(a.toNat:Int).fdiv (2 ^ (min q.toNat IntKind.u64.bits))=((a >>> q.toNat).toNat:Int):=by
      rw [BitVec.toNat_ushiftRight,Nat.shiftRight_eq_div_pow]
      show (a.toNat:Int).fdiv (2 ^ (min q.toNat 64))=_
      have hl:=a.isLt
      rw [Int.fdiv_eq_ediv_of_nonneg _ (by exact_mod_cast Nat.zero_le (2 ^ (min q.toNat 64)))]
      by_cases hk:q.toNat≤64
      · rw [Nat.min_eq_left hk,Int.natCast_ediv,Int.natCast_pow];rfl
      · rw [Nat.min_eq_right (by omega)]
        have e1:a.toNat / 2 ^ q.toNat=0:=Nat.div_eq_of_lt (Nat.lt_of_lt_of_le hl (Nat.pow_le_pow_right (by decide) (by omega)))
        rw [e1]
        omega
    have hn:¬ q < 0:=by omega
    simp [execOp,ha.eval hx,ha.eval hy,eqGuard,binOp,Op.shift,hn,h]
  · cases he
theorem Nv {t u:TypeId} {x y:Operand} {a c q:Int} (hx:opv l x=some (.int .i64 a)) (hy:opv l y=some (.int .i64 q)) (he:shlI a q=some c):Ev P ⟨dst,.binOp .shl t x y u,ty,pos,aft,none⟩ l w (.int .i64 c):=fun _ _ d ha=>by
  unfold shlI at he
  split at he
  · rename_i hq
    have hc:=sm he
    subst hc
    have hn:¬ q < 0:=by omega
    simp [execOp,ha.eval hx,ha.eval hy,eqGuard,binOp,Op.shift,hn,wr,IntKind.bits]
  · cases he
theorem Lv {s t:TypeId} {k:IntKind} [hs:TInt P s k] [ht:TInt P t .u64] {x:Operand} {a:Int} (hx:opv l x=some (.int k a)):Ev P ⟨dst,.convert s t x,ty,pos,aft,none⟩ l w (.int .u64 ((BitVec.ofInt 64 a).toNat:Int)):=fun _ _ d ha=>by
  have h:IntKind.u64.wrap a=((BitVec.ofInt 64 a).toNat:Int):=by
    rw [wrapU,BitVec.toNat_ofInt]
    have:(0:Int)≤a % 18446744073709551616:=by omega
    simp
    omega
  simp [execOp,ha.eval hx,convert,run_underlying hs.eq,run_underlying ht.eq,Conv.intToInt,h]
theorem Lw {s t:TypeId} [hs:TInt P s .u64] [ht:TInt P t .i64] {x:Operand} {a:U64} (hx:opv l x=some (.int .u64 (a.toNat:Int))):Ev P ⟨dst,.convert s t x,ty,pos,aft,none⟩ l w (.int .i64 a.toInt):=fun _ _ d ha=>by
  have h:IntKind.i64.wrap (a.toNat:Int)=a.toInt:=by
    rw [IntKind.wrap_i64,BitVec.toInt_eq_toNat_cond]
    have:=a.isLt
    split<;>omega
  simp [execOp,ha.eval hx,convert,run_underlying hs.eq,run_underlying ht.eq,Conv.intToInt,h]
end
section
variable {P : Program} {n : Nat} {ops : Array Oper} {Q : Post} {rest : List Oper} {l : Env} {w : World} {d : Tmp} {ty : TypeId} {pos : String} {aft : Array Edge}
theorem o_uxo {t u:TypeId} {x y:Operand} {a b:U64} (hx:opv l x=some (.int .u64 (a.toNat:Int))) (hy:opv l y=some (.int .u64 (b.toNat:Int))) (hd:Nat.blt d n=true) (h:owp P n ops Q rest ((d,.int .u64 ((a ^^^ b).toNat:Int)) :: l) w)  : owp P n ops Q (⟨some d,.binOp .xor t x y u,ty,pos,aft,none⟩ :: rest) l w:=AV (Np hx hy) hd h
theorem o_uad {t u:TypeId} {x y:Operand} {a b:U64} (hx:opv l x=some (.int .u64 (a.toNat:Int))) (hy:opv l y=some (.int .u64 (b.toNat:Int))) (hd:Nat.blt d n=true) (h:owp P n ops Q rest ((d,.int .u64 ((a + b).toNat:Int)) :: l) w)  : owp P n ops Q (⟨some d,.binOp .add t x y u,ty,pos,aft,none⟩ :: rest) l w:=AV (Nr hx hy) hd h
theorem o_uml {t u:TypeId} {x y:Operand} {a b:U64} (hx:opv l x=some (.int .u64 (a.toNat:Int))) (hy:opv l y=some (.int .u64 (b.toNat:Int))) (hd:Nat.blt d n=true) (h:owp P n ops Q rest ((d,.int .u64 ((a * b).toNat:Int)) :: l) w)  : owp P n ops Q (⟨some d,.binOp .mul t x y u,ty,pos,aft,none⟩ :: rest) l w:=AV (Nt hx hy) hd h
theorem o_usr {t u:TypeId} {x y:Operand} {a c:U64} {q:Int} {k:IntKind} (hx:opv l x=some (.int .u64 (a.toNat:Int))) (hy:opv l y=some (.int k q)) (hd:Nat.blt d n=true) (h:owp P n ops Q rest ((d,.int .u64 (c.toNat:Int)) :: l) w) (he:shrU a q=some c:=by assumption):owp P n ops Q (⟨some d,.binOp .shr t x y u,ty,pos,aft,none⟩ :: rest) l w:=AV (Lu hx hy he) hd h
theorem o_ish {t u:TypeId} {x y:Operand} {a c q:Int} (hx:opv l x=some (.int .i64 a)) (hy:opv l y=some (.int .i64 q)) (hd:Nat.blt d n=true) (h:owp P n ops Q rest ((d,.int .i64 c) :: l) w) (he:shlI a q=some c:=by assumption):owp P n ops Q (⟨some d,.binOp .shl t x y u,ty,pos,aft,none⟩ :: rest) l w:=AV (Nv hx hy he) hd h
theorem o_cvU {s t:TypeId} {k:IntKind} [TInt P s k] [TInt P t .u64] {x:Operand} {a:Int} (hx:opv l x=some (.int k a)) (hd:Nat.blt d n=true) (h:owp P n ops Q rest ((d,.int .u64 ((BitVec.ofInt 64 a).toNat:Int)) :: l) w)  : owp P n ops Q (⟨some d,.convert s t x,ty,pos,aft,none⟩ :: rest) l w:=AV (Lv hx) hd h
theorem o_cvI {s t:TypeId} [TInt P s .u64] [TInt P t .i64] {x:Operand} {a:U64} (hx:opv l x=some (.int .u64 (a.toNat:Int))) (hd:Nat.blt d n=true) (h:owp P n ops Q rest ((d,.int .i64 a.toInt) :: l) w)  : owp P n ops Q (⟨some d,.convert s t x,ty,pos,aft,none⟩ :: rest) l w:=AV (Lw hx) hd h
variable {S : World → Prop} {r : List (Nat × Bool)} {i : Nat}
theorem h_uan {t u:TypeId} {x y:Operand} {a b:U64} (hi:ops[i]?=some ⟨some d,.binOp .and t x y u,ty,pos,aft,none⟩) (hx:opv l x=some (.int .u64 (a.toNat:Int))) (hy:opv l y=some (.int .u64 (b.toNat:Int))) (hd:Nat.blt d n=true) (h:hwp P n ops Q S r ((d,.int .u64 ((a &&& b).toNat:Int)) :: l) w)  : hwp P n ops Q S ((i,true) :: r) l w:=hwp_o hi (Ba (fun _ _=>Nn hx hy) hd h)
theorem h_uor {t u:TypeId} {x y:Operand} {a b:U64} (hi:ops[i]?=some ⟨some d,.binOp .or t x y u,ty,pos,aft,none⟩) (hx:opv l x=some (.int .u64 (a.toNat:Int))) (hy:opv l y=some (.int .u64 (b.toNat:Int))) (hd:Nat.blt d n=true) (h:hwp P n ops Q S r ((d,.int .u64 ((a ||| b).toNat:Int)) :: l) w)  : hwp P n ops Q S ((i,true) :: r) l w:=hwp_o hi (Ba (fun _ _=>No hx hy) hd h)
theorem h_uns {t u:TypeId} {x y:Operand} {a b:U64} (hi:ops[i]?=some ⟨some d,.binOp .andNot t x y u,ty,pos,aft,none⟩) (hx:opv l x=some (.int .u64 (a.toNat:Int))) (hy:opv l y=some (.int .u64 (b.toNat:Int))) (hd:Nat.blt d n=true) (h:hwp P n ops Q S r ((d,.int .u64 ((a &&& ~~~b).toNat:Int)) :: l) w)  : hwp P n ops Q S ((i,true) :: r) l w:=hwp_o hi (Ba (fun _ _=>Nq hx hy) hd h)
theorem h_usb {t u:TypeId} {x y:Operand} {a b:U64} (hi:ops[i]?=some ⟨some d,.binOp .sub t x y u,ty,pos,aft,none⟩) (hx:opv l x=some (.int .u64 (a.toNat:Int))) (hy:opv l y=some (.int .u64 (b.toNat:Int))) (hd:Nat.blt d n=true) (h:hwp P n ops Q S r ((d,.int .u64 ((a - b).toNat:Int)) :: l) w)  : hwp P n ops Q S ((i,true) :: r) l w:=hwp_o hi (Ba (fun _ _=>Ns hx hy) hd h)
theorem h_ush {t u:TypeId} {x y:Operand} {a c:U64} {q:Int} {k:IntKind} (hi:ops[i]?=some ⟨some d,.binOp .shl t x y u,ty,pos,aft,none⟩) (hx:opv l x=some (.int .u64 (a.toNat:Int))) (hy:opv l y=some (.int k q)) (hd:Nat.blt d n=true) (h:hwp P n ops Q S r ((d,.int .u64 (c.toNat:Int)) :: l) w) (he:shlU a q=some c:=by assumption):hwp P n ops Q S ((i,true) :: r) l w:=hwp_o hi (Ba (fun _ _=>Nu hx hy he) hd h)
theorem h_usr {t u:TypeId} {x y:Operand} {a c:U64} {q:Int} {k:IntKind} (hi:ops[i]?=some ⟨some d,.binOp .shr t x y u,ty,pos,aft,none⟩) (hx:opv l x=some (.int .u64 (a.toNat:Int))) (hy:opv l y=some (.int k q)) (hd:Nat.blt d n=true) (h:hwp P n ops Q S r ((d,.int .u64 (c.toNat:Int)) :: l) w) (he:shrU a q=some c:=by assumption):hwp P n ops Q S ((i,true) :: r) l w:=hwp_o hi (Ba (fun _ _=>Lu hx hy he) hd h)
theorem h_cvU {s t:TypeId} {k:IntKind} [TInt P s k] [TInt P t .u64] {x:Operand} {a:Int} (hi:ops[i]?=some ⟨some d,.convert s t x,ty,pos,aft,none⟩) (hx:opv l x=some (.int k a)) (hd:Nat.blt d n=true) (h:hwp P n ops Q S r ((d,.int .u64 ((BitVec.ofInt 64 a).toNat:Int)) :: l) w)  : hwp P n ops Q S ((i,true) :: r) l w:=hwp_o hi (Ba (fun _ _=>Lv hx) hd h)
theorem h_cvI {s t:TypeId} [TInt P s .u64] [TInt P t .i64] {x:Operand} {a:U64} (hi:ops[i]?=some ⟨some d,.convert s t x,ty,pos,aft,none⟩) (hx:opv l x=some (.int .u64 (a.toNat:Int))) (hd:Nat.blt d n=true) (h:hwp P n ops Q S r ((d,.int .i64 a.toInt) :: l) w)  : hwp P n ops Q S ((i,true) :: r) l w:=hwp_o hi (Ba (fun _ _=>Lw hx) hd h)
end
end
section
open Go Go.RowKit
attribute [local irreducible] ewp owp hwp hwq hws Ev Evg Fn retPost loud loudS Res1
attribute [local irreducible] hwx loudX
def BS (xs:List U64):Option (List U64):=if xs.length * 8≤140737488355328∧xs.length≤9223372036854775807 then some xs else none
theorem EG {w:World} {A:Nat→Prop} (hA:∀ k,A k→k < w.heap.size) {v0:Value} {x0:List U64} (h0:Vb w A v0 x0) {r:List U64} (hm:BS x0=some r) :
    Fn Try.prog 75 [v0] w fun v w'=>Ext w w'∧RowR w w' (upA A w w') 150 v r:=by
  obtain ⟨⟨hl,hl2⟩,rfl⟩:=Fv hm
  obtain ⟨O,hB,hA0⟩:=enter hA
  replace h0:=h0.mono hA0
  obtain ⟨Ad,c,rfl⟩:=h0.form
  refine AN Try.func75 rfl Try.ntmps75 rfl ?_
  cases Ad with
  | none =>
    have hx:x0=[]:=by
      cases x0 with
      | nil=>rfl
      | cons x xs=>obtain ⟨_,_,_,h,_⟩:=h0.elem (k:=0) (x:=x) rfl;cases h
    subst hx
    ((repeat (first|refine Ah ?_|refine Al ?_|refine Ae ?_|refine Am ?_|refine Au ?_|refine At ?_|refine Ar rfl ?_|refine Aj rfl ?_))<;>(refine o_as rfl rfl ?_<;>(first|refine Ay ?_|refine AA ?_|refine Aw ?_|refine AB ?_))<;>(repeat (first|refine Ah ?_|refine Al ?_|refine Ae ?_|refine Am ?_|refine Au ?_|refine At ?_|refine Ar rfl ?_|refine Aj rfl ?_))<;>(refine o_mv rfl rfl ?_<;>refine o_sn rfl rfl ?_<;>(first|refine Ay ?_|refine AA ?_|refine Aw ?_|refine AB ?_))<;>(repeat (first|refine Ah ?_|refine Al ?_|refine Ae ?_|refine Am ?_|refine Au ?_|refine At ?_|refine Ar rfl ?_|refine Aj rfl ?_))<;>(refine o_as rfl rfl ?_<;>(first|refine Ay ?_|refine AA ?_|refine Aw ?_|refine AB ?_))<;>(repeat (first|refine Ah ?_|refine Al ?_|refine Ae ?_|refine Am ?_|refine Au ?_|refine At ?_|refine Ar rfl ?_|refine Aj rfl ?_)))
    exact ret1 rfl rfl ⟨Below.refl _ _,RowR.nil⟩
  | some ad =>
    ((repeat (first|refine Ah ?_|refine Al ?_|refine Ae ?_|refine Am ?_|refine Au ?_|refine At ?_|refine Ar rfl ?_|refine Aj rfl ?_))<;>(refine o_as rfl rfl ?_<;>(first|refine Ay ?_|refine AA ?_|refine Aw ?_|refine AB ?_))<;>(repeat (first|refine Ah ?_|refine Al ?_|refine Ae ?_|refine Am ?_|refine Au ?_|refine At ?_|refine Ar rfl ?_|refine Aj rfl ?_))<;>(refine o_mv rfl rfl ?_<;>refine o_sn rfl rfl ?_<;>(first|refine Ay ?_|refine AA ?_|refine Aw ?_|refine AB ?_))<;>(repeat (first|refine Ah ?_|refine Al ?_|refine Ae ?_|refine Am ?_|refine Au ?_|refine At ?_|refine Ar rfl ?_|refine Aj rfl ?_)))
    refine AR 2 (by decide) O (xs:=([]:List U64)) rfl rfl rfl rfl trivial (by decide) (by decide) rfl fun g w1 O1 S1 h1=>?_
    replace hB:=hB.st S1 (fun h=>h) (fun h=>h)
    replace h0:=h0.st S1 (fun h=>h)
    (refine o_mv rfl rfl ?_)
    refine AQ rfl h1 h0.rd rfl rfl (by decide) (by simpa using hl) (by simpa using hl2) rfl fun A2 c2 w2 O2 S2 h2=>?_
    replace hB:=hB.st S2 (by decide) (by decide)
    rw [List.nil_append] at h2 ⊢
    (refine o_as rfl rfl ?_<;>(first|refine Ay ?_|refine AA ?_|refine Aw ?_|refine AB ?_))
    repeat (first|refine Ah ?_|refine Al ?_|refine Ae ?_|refine Am ?_|refine Au ?_|refine At ?_|refine Ar rfl ?_|refine Aj rfl ?_)
    exact ret1 rfl rfl ⟨hB.ext,h2.out hB (by decide)⟩
structure PFd where
  word:Int
  bit:Int
  width:Int
  size:Int
instance:Rp PFd where
  isAgg:=true
  size:=4
  R w F cs x:=cs=[.int .i64 x.word,.int .i64 x.bit,.int .i64 x.width,.int .i64 x.size]∧inI64 x.word∧inI64 x.bit∧inI64 x.width∧inI64 x.size
  len:=by rintro w F cs x ⟨rfl,h0,h1,h2,h3⟩;rfl
  one:=by rintro w F cs x ⟨rfl,h0,h1,h2,h3⟩ u hu;simp at hu;rcases hu with rfl|rfl|rfl|rfl<;>first|rfl|exact Vb.one rfl (by assumption)
  agree:=by rintro w w' F cs x ⟨rfl,h0,h1,h2,h3⟩ ha;exact ⟨rfl,h0,h1,h2,h3⟩
  mono:=by rintro w F G cs x ⟨rfl,h0,h1,h2,h3⟩ ha;exact ⟨rfl,h0,h1,h2,h3⟩
structure Pkr where
  fields:List PFd
  words:Int
instance:Ow Pkr where
  R w F M v x:=∃ (g:Nat) (L:Lab) (c0:Value),v=.pointer (some ⟨g,0,none⟩)∧Blk w g 148 [c0,.int .i64 x.words]∧M g∧L g=0∧RwM w F (fun k=>M k∧L k=1) 152 c0 x.fields∧inI64 x.words
  agree:=by rintro w w' F M v x ⟨g,L,c0,rfl,hb,hM,hL,h0,h1⟩ a1 a2;exact ⟨g,L,c0,rfl,hb.keep (a2 g hM),hM,hL,h0.agree a1 fun k hk=>a2 k hk.1,h1⟩
  mono:=by rintro w F M F' M' v x ⟨g,L,c0,rfl,hb,hM,hL,h0,h1⟩ a1 a2 a3;exact ⟨g,L,c0,rfl,hb,a2 g hM,hL,h0.mono a1 (fun k hk=>⟨a2 k hk.1,hk.2⟩) fun k hf hm=>a3 k hf hm.1,h1⟩
instance:OwP Pkr:=⟨by rintro w F M v x ⟨g,L,c0,rfl,_⟩;exact ⟨g,rfl⟩⟩
theorem Pkr.opn {i:Nat} {w:World} {O:Lab} {p:Nat} {x:Pkr} (h:Ob i w O (.pointer (some ⟨p,0,none⟩)) x) (l0 l1:Nat) (hl:l0≠0∧l1≠0):∃ (O':Lab) (c0:Value),St (eT i) w O w O'∧(∀ k,Fr i w O k→∃ q,q∈[l0,l1]∧Fr q w O' k)∧Lc l0 w O' p 148 [c0,.int .i64 x.words]∧Rw l1 w O' 152 c0 x.fields∧inI64 x.words:=by
  obtain ⟨⟨g,L,c0,hv,hb,hM,hL,h0,h1⟩,hi⟩:=h
  obtain rfl:p=g:=by injection hv with hv;injection hv with hv;injection hv
  exact ⟨part O i L [l0,l1],c0,Hy hi,Gt (by simp),⟨hb,(DF (j:=0) rfl p ⟨hM,hL⟩).2⟩,h0.rw (CU hi) (DF (j:=1) rfl) hl.2,h1⟩
theorem Pkr.shut {w:World} {O:Lab} {p:Nat} {x:Pkr} {l0 l1:Nat} {c0:Value} (hd:¬ 0∈[l0,l1]∧[l0,l1].idxOf l0=0∧[l0,l1].idxOf l1=1) (hb:Lc l0 w O p 148 [c0,.int .i64 x.words]) (h0:Rw l1 w O 152 c0 x.fields) (h1:inI64 x.words):∃ O',St (·∈[l0,l1]) w O w O'∧(∀ k,Fr 0 w O k→Fr 0 w O' k)∧(∀ q,q∈[l0,l1]→∀ k,Fr q w O k→Fr l0 w O' k)∧Ob l0 w O' (.pointer (some ⟨p,0,none⟩)) x:=by
  have hb1:l0≠0:=fun e=>hd.1 (by simp [e])
  have hg:=Df (i:=l0) hd.2.1 (by simp) p ⟨hb.1.lt,hb.2⟩
  exact ⟨whole O l0 [l0,l1],Gu,Cj hd.1,FJ,⟨p,fun k=>[l0,l1].idxOf (O k),c0,rfl,hb.1,hg.1,hg.2,h0.m (Cj hd.1) (Df hd.2.2 (by simp)) (fun k a b=>frNe0 hb1 k a b.1),h1⟩,hb1⟩
noncomputable def Dw (x0:List Int):Option ((Option Pkr)×Err) :=
  if 64 < (x0.length:Int) then (some (none,(⟨5⟩:Err))) else (bnd (rng (ρ:=(Option Pkr)×Err) (fun (k25:Nat) (a26:Int) (s23:Int×Pkr)=>bnd (if a26 < 1 then (some true) else (if 64 < a26 then (some true) else (some false)):Option Bool) fun y48=>if y48=true then (some (.ret (none,(⟨1⟩:Err)))) else (bnd (lop (ρ:=Ctl (Int×Pkr) ((Option Pkr)×Err)) (fun (s61:Int)=>bnd (shlI 1 s61) fun n76=>if n76 < a26 then (bnd (chkI (s61 + 1)) fun n80=>some (.next n80)) else (some (.brk s61))) 0) fun res59=>fin res59 fun (s87:Int)=>bnd (bnd (chkI (s23.1 + s87)) fun n95=>if 64 < n95 then (bnd (chkI (s23.2.words + 1)) fun n109=>some (0,(⟨s23.2.fields,n109⟩:Pkr))) else (some (s23.1,s23.2)):Option (Int×Pkr)) fun y89=>bnd (chkI (y89.2.words - 1)) fun n133=>bnd (appI 32 y89.2.fields [(⟨n133,y89.1,s87,a26⟩:PFd)]) fun u142=>bnd (chkI (y89.1 + s87)) fun n155=>some (.next (n155,(⟨u142,y89.2.words⟩:Pkr))))) x0 0 (0,(⟨([]:List PFd),1⟩:Pkr))) fun res21=>fin res21 fun (s167:Int×Pkr)=>some ((some s167.2),(⟨0⟩:Err)))
theorem KV {w:World} {O:Lab} {vx0:Value} {x0:List Int} (hx0:Vb w (Fr 0 w O) vx0 x0) (j0:Nat) (hj0:j0≠0) {r:(Option Pkr)×Err} (hm:Dw x0=some r) :
    Fn Try.prog 74 [vx0] w fun v w'=>∃ O',St nT w O w' O'∧∃ v0 v1:Value,v=.tuple #[v0,v1]∧Obo j0 w' O' v0 r.1∧Vb w' (Fr 0 w' O') v1 r.2:=by
 obtain ⟨O0,hE,hz0⟩:=ent0 (w:=w) (O:=O)
 have hB:Bm w O0 w O0:=Bm.refl
 replace hx0:=hx0.mono hz0
 obtain ⟨A2,c3,rfl⟩:=hx0.form
 refine AN Try.func74 rfl Try.ntmps74 rfl ?_
 unfold Dw at hm
 refine Ah (Ae (o_as rfl rfl (o_as rfl rfl (o_z ?_))))
 refine Ah (Ah (Ae (o_mv rfl rfl (o_ln rfl rfl ?_))))
 have l5:x0.length≤9223372036854775807:=Nat.le_trans hx0.len.2.1 hx0.len.2.2
 have r4:inI64 (x0.length:Int):=rngNat l5
 refine o_gtS rfl rfl rfl (fun c6=>?_) fun c6=>?_
 ·
  replace hm:=ip hm c6
  refine o_z ?_
  refine Ar rfl (Ah (Ae (o_miE rfl rfl ?_)))
  refine o_as rfl rfl (o_as rfl rfl (o_z ?_))
  refine At ?_
  obtain rfl:=sm hm
  obtain ⟨O',hS',hz,hl⟩:=hE.leave (fun _=>0) rfl hB
  exact ret2 rfl (AF rfl) (AF rfl) ⟨O',hS',_,_,rfl,rfl,(vErr (by decide))⟩
 ·
  replace hm:=im hm c6
  refine o_z ?_
  refine Aj rfl (Am (Ah (Ae (o_bd rfl rfl rfl ?_))))
  refine l_box 2 O0 rfl rfl fun g7 w8 O9 S10 h11=>?_
  replace h11:Lc 2 w8 O9 g7 148 [(.slice none 0 0),(.int .i64 1)]:=h11
  refine o_as rfl rfl (o_z ?_)
  refine Ah (Ae (o_as rfl rfl (o_z ?_)))
  refine Ah (Ah (Ae (o_mv rfl rfl (o_ln rfl rfl ?_))))
  replace hx0:=hx0.st S10
  have l13:x0.length≤9223372036854775807:=Nat.le_trans hx0.len.2.1 hx0.len.2.2
  have r12:inI64 (x0.length:Int):=rngNat l13
  refine o_mv rfl rfl (o_z ?_)
  have h14:Rw 3 w8 O9 152 (.slice none 0 0) ([]:List PFd):=Rw.nil 3 (by decide)
  obtain ⟨O16,S17,hz19,ha20,h18⟩:=Pkr.shut (x:=(⟨([]:List PFd),1⟩:Pkr)) (l0:=2) (l1:=3) (by decide) h11 h14 (show inI64 (1) from by decide)
  obtain ⟨res21,hL22,hm⟩:=bs hm
  refine AT (aft res21 (fun (s23:Int×Pkr) (x24:Unit)=>[(4,(.pointer (some ⟨g7,0,none⟩)))]) (fun s23 x24 w'=>∃ O':Lab,Bm w O0 w' O'∧Ob 2 w' O' (.pointer (some ⟨g7,0,none⟩)) s23.2∧inI64 s23.1)) ?_ ?_
  ·
   refine Al ?_
   replace hB:=(hB.st S10).st S17
   replace hx0:=hx0.st S17
   refine CC (σ:=Int×Pkr) (X:=Unit) (x0.length) hL22 rfl l13 (fun (s23:Int×Pkr) (x24:Unit)=>[(4,(.pointer (some ⟨g7,0,none⟩))),(5,(.int .i64 s23.1)),(15,(.slice A2 x0.length c3))]) _ (fun s23 x24 w'=>∃ O':Lab,Bm w O0 w' O'∧Ob 2 w' O' (.pointer (some ⟨g7,0,none⟩)) s23.2∧Vb w' (Fr 0 w' O') (.slice A2 x0.length c3) x0∧inI64 s23.1) _ () ⟨O16,hB,h18,hx0,(show inI64 (0) from by decide)⟩ ⟨rfl,rfl,rfl,rfl,rfl,trivial⟩ (fun _ _=>⟨rfl,rfl⟩) (fun _ _=>⟨rfl,trivial⟩) (fun _ _ _ ⟨O',hB,h39,hx0,r38⟩=>⟨O',hB,h39,r38⟩) ⟨rfl,rfl,rfl⟩ ⟨rfl,rfl⟩ ?_
   rintro k25 a26 s23 x24 w27 cc29 hx30 ⟨O28,hB,h39,hx0,r38⟩ hf31 hret32 hbrk33
   have rk25:inI64 (k25:Int):=rngK hx30 l13
   refine Ah (Ae ?_)
   obtain ⟨b40,o41,ce42,hA43,hl44,hd45,rfl,r47⟩:=hx0.elem' hx30
   refine o_iaE (hA:=hA43) (hj:=rfl) (hlt:=hl44) rfl rfl rfl ?_
   refine o_ld (hc:=cat0 hd45) rfl rfl ?_
   refine o_as rfl rfl (o_z ?_)
   refine Ah (Ah ?_)
   obtain ⟨y48,hy49,hf31⟩:=bs hf31
   refine AT (fun l' w'=>∃ (x51:Unit) (O':Lab),subs l' [(4,(.pointer (some ⟨g7,0,none⟩))),(5,(.int .i64 s23.1)),(7,(.int .i64 a26)),(15,(.slice A2 x0.length c3)),(16,(.int .i64 (x0.length:Int))),(17,(.int .i64 (k25:Int))),(26,(.bool y48))]∧Bm w O0 w' O'∧Ob 2 w' O' (.pointer (some ⟨g7,0,none⟩)) s23.2∧Vb w' (Fr 0 w' O') (.slice A2 x0.length c3) x0) ?_ ?_
   ·
    refine Ae (o_mv rfl rfl (o_ltS rfl rfl rfl (fun c52=>?_) fun c52=>?_))
    ·
     replace hy49:=ip hy49 c52
     refine o_mv rfl rfl (AC rfl rfl rfl rfl (AC rfl rfl rfl rfl (o_pt rfl rfl rfl (o_z ?_))))
     obtain rfl:=sm hy49
     exact ⟨(),_,⟨rfl,rfl,rfl,rfl,rfl,rfl,rfl,trivial⟩,hB,h39,hx0⟩
    ·
     replace hy49:=im hy49 c52
     refine o_mv rfl rfl (AD rfl rfl (o_mv rfl rfl (AD rfl rfl (o_gtS rfl rfl rfl (fun c53=>?_) fun c53=>?_))))
     ·
      replace hy49:=ip hy49 c53
      refine o_pf rfl rfl rfl (o_z ?_)
      obtain rfl:=sm hy49
      exact ⟨(),_,⟨rfl,rfl,rfl,rfl,rfl,rfl,rfl,trivial⟩,hB,h39,hx0⟩
     ·
      replace hy49:=im hy49 c53
      refine o_pf rfl rfl rfl (o_z ?_)
      obtain rfl:=sm hy49
      exact ⟨(),_,⟨rfl,rfl,rfl,rfl,rfl,rfl,rfl,trivial⟩,hB,h39,hx0⟩
   rintro l54 w55 ⟨x51,O56,hs57,hB,h39,hx0⟩
   refine AW _ hs57 ?_
   refine Cu rfl (fun c58=>?_) (fun c58=>?_)
   ·
    replace hf31:=ip hf31 c58
    refine Ah (Ae (o_miE rfl rfl ?_))
    refine o_as rfl rfl (o_as rfl rfl (o_z ?_))
    refine At ?_
    obtain rfl:=sm hf31
    obtain rfl:=hret32 _ rfl
    obtain rfl:=sm (Bx hm)
    obtain ⟨O',hS',hz,hl⟩:=hE.leave (fun _=>0) rfl hB
    exact ret2 rfl (AF rfl) (AF rfl) ⟨O',hS',_,_,rfl,rfl,(vErr (by decide))⟩
   ·
    replace hf31:=im' hf31 c58
    refine Am (Ah (Ae (o_as rfl rfl (o_z ?_))))
    refine Ah ?_
    obtain ⟨res59,hL60,hf31⟩:=bs hf31
    refine AT (aft res59 (fun (s61:Int) (x62:Unit)=>[(4,(.pointer (some ⟨g7,0,none⟩))),(5,(.int .i64 s23.1)),(7,(.int .i64 a26)),(8,(.int .i64 s61)),(15,(.slice A2 x0.length c3)),(16,(.int .i64 (x0.length:Int))),(17,(.int .i64 (k25:Int)))]) (fun s61 x62 w'=>∃ O':Lab,Bm w O0 w' O'∧Ob 2 w' O' (.pointer (some ⟨g7,0,none⟩)) s23.2∧Vb w' (Fr 0 w' O') (.slice A2 x0.length c3) x0∧inI64 s61)) ?_ ?_
    ·
     refine Al (Er (σ:=Int) (X:=Unit) hL60 (fun (s61:Int) (x62:Unit)=>[(4,(.pointer (some ⟨g7,0,none⟩))),(5,(.int .i64 s23.1)),(7,(.int .i64 a26)),(8,(.int .i64 s61)),(15,(.slice A2 x0.length c3)),(16,(.int .i64 (x0.length:Int))),(17,(.int .i64 (k25:Int)))]) _ (fun s61 x62 w'=>∃ O':Lab,Bm w O0 w' O'∧Ob 2 w' O' (.pointer (some ⟨g7,0,none⟩)) s23.2∧Vb w' (Fr 0 w' O') (.slice A2 x0.length c3) x0∧inI64 s61) _ () ⟨O56,hB,h39,hx0,(show inI64 (0) from by decide)⟩ ⟨rfl,rfl,rfl,rfl,rfl,rfl,rfl,trivial⟩ ?_)
     rintro s61 x62 w65 cc67 ⟨O66,hB,h39,hx0,r75⟩ hf69 hret70 hbrk71
     refine Ah (Ah (Ae (o_mv rfl rfl ?_)))
     obtain ⟨n76,e77,hf69⟩:=bs hf69
     have r78:=JH e77
     refine o_ish (he:=e77) rfl rfl rfl ?_
     refine o_mv rfl rfl (o_ltS rfl rfl rfl (fun c79=>?_) fun c79=>?_)
     ·
      replace hf69:=ip hf69 c79
      refine o_z ?_
      refine Ar rfl (Am (Al (Ae (o_mv rfl rfl ?_))))
      obtain ⟨n80,e81,hf69⟩:=bs hf69
      have r82:=(Bl e81)
      refine o_adE (he:=e81) rfl rfl rfl ?_
      refine o_as rfl rfl (o_z ?_)
      obtain rfl:=sm hf69
      refine (?_:Exists _)
      exact ⟨_,(),rfl,⟨rfl,rfl,rfl,rfl,rfl,rfl,rfl,trivial⟩,_,hB,h39,hx0,r82⟩
     ·
      replace hf69:=im hf69 c79
      refine o_z ?_
      refine Aj rfl (Au ?_)
      obtain rfl:=sm hf69
      refine (?_:Exists _)
      exact ⟨_,(),hbrk71 _ rfl,⟨rfl,rfl,rfl,rfl,rfl,rfl,rfl,trivial⟩,_,hB,h39,hx0,r75⟩
    rintro l83 w84 ⟨s87,x88,rfl,hs86,O85,hB,h39,hx0,r75⟩
    replace hf31:=Br hf31
    refine AW _ hs86 ?_
    refine Ah ?_
    obtain ⟨y89,hy90,hf31⟩:=bs hf31
    refine AT (fun l' w'=>∃ (x92:Unit) (O':Lab),subs l' [(4,(.pointer (some ⟨g7,0,none⟩))),(5,(.int .i64 y89.1)),(7,(.int .i64 a26)),(8,(.int .i64 s87)),(15,(.slice A2 x0.length c3)),(16,(.int .i64 (x0.length:Int))),(17,(.int .i64 (k25:Int)))]∧Bm w O0 w' O'∧Ob 2 w' O' (.pointer (some ⟨g7,0,none⟩)) y89.2∧Vb w' (Fr 0 w' O') (.slice A2 x0.length c3) x0∧inI64 y89.1) ?_ ?_
    ·
     refine Ah (Ae (o_mv rfl rfl (o_mv rfl rfl ?_)))
     obtain ⟨n95,e96,hy90⟩:=bs hy90
     have r97:=(Bl e96)
     refine o_adE (he:=e96) rfl rfl rfl ?_
     refine o_gtS rfl rfl rfl (fun c98=>?_) fun c98=>?_
     ·
      replace hy90:=ip hy90 c98
      refine o_z ?_
      refine Ar rfl (Ah (Ae (o_mv rfl rfl (o_nc rfl rfl ?_))))
      obtain ⟨O99,v103,S100,ha102,h101,h104,r108⟩:=Pkr.opn h39 2 4 (by decide)
      obtain ⟨A105,c106,rfl⟩:=h104.form
      refine o_fa rfl rfl (o_ld (hc:=Blk.cell (i:=1) (h101.1) rfl) rfl rfl ?_)
      obtain ⟨n109,e110,hy90⟩:=bs hy90
      have r111:=(Bl e110)
      refine o_adE (he:=e110) rfl rfl rfl ?_
      refine o_nc rfl rfl (o_fa rfl rfl (AL h101 rfl rfl rfl (Nat.le_of_ble_eq_true rfl) (by first|exact allOne rfl|simp [Value.cells,Value.oneCell',AJ]) fun w112 S113 h101=>?_))
      replace h101:Lc 2 w112 O99 g7 148 [(.slice A105 s23.2.fields.length c106),(.int .i64 n109)]:=h101
      refine o_z ?_
      refine Ae (o_as rfl rfl (o_z ?_))
      replace h104:=h104.st S113
      obtain ⟨O114,S115,hz117,ha118,h116⟩:=Pkr.shut (x:=(⟨s23.2.fields,n109⟩:Pkr)) (l0:=2) (l1:=4) (by decide) h101 h104 r111
      obtain rfl:=sm hy90
      replace hB:=((hB.st S100).st S113).st S115
      replace hx0:=((hx0.st S100).st S113).st S115
      exact ⟨(),_,⟨rfl,rfl,rfl,rfl,rfl,rfl,rfl,trivial⟩,hB,h116,hx0,(show inI64 (0) from by decide)⟩
     ·
      replace hy90:=im hy90 c98
      refine o_z ?_
      refine Aj rfl (Am ?_)
      obtain rfl:=sm hy90
      exact ⟨(),_,⟨rfl,rfl,rfl,rfl,rfl,rfl,rfl,trivial⟩,hB,h39,hx0,r38⟩
    rintro l119 w120 ⟨x92,O121,hs122,hB,h94,hx0,r93⟩
    refine AW _ hs122 ?_
    refine Ah ?_
    obtain ⟨O123,v127,S124,ha126,h125,h128,r132⟩:=Pkr.opn h94 2 4 (by decide)
    obtain ⟨A129,c130,rfl⟩:=h128.form
    refine BK [(14,[]),(15,[4])] O123 ?_
    refine x_pre (fuel:=6) [] [(1,true),(2,true),(3,true),(4,true),(5,true),(6,true),(7,true),(8,true),(9,true),(10,true),(11,true),(12,true),(13,true)] (by kernel_rfl) rfl ?_
    refine h_mv rfl rfl rfl (h_nc rfl rfl rfl (h_fa rfl rfl rfl (h_ldC (hc:=fun w' ⟨O',hq⟩=>Blk.cell (i:=0) ((h125.st hq (by decide)).1) rfl) rfl rfl rfl ?_)))
    refine h_mv rfl rfl rfl (h_nc rfl rfl rfl (h_fa rfl rfl rfl (h_ldC (hc:=fun w' ⟨O',hq⟩=>Blk.cell (i:=1) ((h125.st hq (by decide)).1) rfl) rfl rfl rfl ?_)))
    obtain ⟨n133,e134,hf31⟩:=bs hf31
    have r135:=(Bl e134)
    refine h_sbE (he:=e134) rfl rfl rfl rfl ?_
    refine h_mv rfl rfl rfl (h_mv rfl rfl rfl (h_mv rfl rfl rfl (h_bd rfl rfl rfl rfl ?_)))
    refine AE ?_
    refine x_pre (fuel:=5) [4] [(0,true)] (by kernel_rfl) rfl ?_
    refine h_mv rfl rfl rfl (AE ?_)
    refine x_one (i:=14) (by kernel_rfl) rfl ?_
    refine AR 5 (by decide) O123 (xs:=([(⟨n133,y89.1,s87,a26⟩:PFd)]:List PFd)) rfl rfl rfl rfl ⟨(Vb.ofAgg (cs:=[(.int .i64 n133),(.int .i64 y89.1),(.int .i64 s87),(.int .i64 a26)]) (x:=(⟨n133,y89.1,s87,a26⟩:PFd)) rfl ⟨rfl,r135,r93,r75,r47⟩),trivial⟩ (by decide) (by decide) rfl fun g136 w137 O138 S139 h140=>?_
    have hZ:=S139.lst [] (fun _ h=>h.elim)
    refine x_go [(15,[4])] hZ (by kernel_rfl) ?_
    refine x_one (i:=15) (by kernel_rfl) rfl ?_
    obtain ⟨u142,e143,hf31⟩:=bs hf31
    obtain ⟨e143,e144,e145⟩:=AO e143
    replace h128:=h128.st S139
    refine AQ rfl h128 (h140.rd) rfl rfl (by decide) e144 e145 rfl fun A146 c147 w148 O149 S150 h151=>?_
    rw [← e143] at h151 ⊢
    have hZ:=S150.lst [4] (fun _ h=>by cases h;decide)
    refine x_go [] hZ (by kernel_rfl) ?_
    refine x_pre (fuel:=1) [] [(16,true),(17,true)] (by kernel_rfl) rfl ?_
    refine h_nc rfl rfl rfl (h_fa rfl rfl rfl (AE ?_))
    refine x_one (i:=18) (by kernel_rfl) rfl ?_
    replace h125:=(h125.st S139).st S150
    refine AL h125 rfl rfl rfl (Nat.le_of_ble_eq_true rfl) (by first|exact allOne rfl|simp [Value.cells,Value.oneCell',AJ]) fun w153 S154 h125=>?_
    replace h125:Lc 2 w153 O149 g7 148 [(.slice A146 u142.length c147),(.int .i64 y89.2.words)]:=h125
    refine x_end (by kernel_rfl) ?_
    refine x_nil (by kernel_rfl) ?_
    refine Ae (o_mv rfl rfl (o_mv rfl rfl ?_))
    obtain ⟨n155,e156,hf31⟩:=bs hf31
    have r157:=(Bl e156)
    refine o_adE (he:=e156) rfl rfl rfl ?_
    refine o_as rfl rfl (o_z ?_)
    replace h151:=h151.st S154
    obtain ⟨O158,S159,hz161,ha162,h160⟩:=Pkr.shut (x:=(⟨u142,y89.2.words⟩:Pkr)) (l0:=2) (l1:=4) (by decide) h125 h151 r132
    obtain rfl:=sm hf31
    refine (?_:Exists _)
    replace hB:=((((hB.st S124).st S139).st S150).st S154).st S159
    replace hx0:=((((hx0.st S124).st S139).st S150).st S154).st S159
    exact ⟨_,(),rfl,⟨rfl,rfl,rfl,rfl,rfl,trivial⟩,_,hB,h160,hx0,r157⟩
  replace hB:=(hB.st S10).st S17
  rintro l163 w164 ⟨s167,x168,rfl,hs166,O165,hB,h39,r38⟩
  replace hm:=Br hm
  refine AW _ hs166 ?_
  refine Ah (Ae (o_mv rfl rfl (o_as rfl rfl (o_as rfl rfl (o_z ?_)))))
  refine At ?_
  obtain rfl:=sm hm
  obtain ⟨O',hS',hz,hl⟩:=hE.leave (fun q=>if q=2 then j0 else 0) rfl hB
  exact ret2 rfl (AF rfl) (AF rfl) ⟨O',hS',_,_,rfl,(Ob.leave h39 hz (hl 2 (by decide) (by decide)) hj0),(vErr (show inI64 0 from by decide))⟩
noncomputable def Cb (x0:PFd):Option U64 :=
  bnd (shlU (1:U64) x0.width) fun n12=>bnd (shlU (n12 - (1:U64)) x0.bit) fun n14=>some n14
theorem Fi {w:World} {A:Nat→Prop} (hA:∀ k,A k→k < w.heap.size) {vx0:Value} {x0:PFd} (hx0:Vb w A vx0 x0) {r:U64} (hm:Cb x0=some r) :
    Fn Try.prog 77 [vx0] w fun v w'=>Ext w w'∧Vb w' (upA A w w') v r:=by
 obtain ⟨O,hB,hA0⟩:=enter hA
 replace hx0:=hx0.mono hA0
 obtain ⟨cs2,rfl,rfl,r3,r4,r5,r6⟩:=hx0
 refine AN Try.func77 rfl Try.ntmps77 rfl ?_
 unfold Cb at hm
 refine Ah (Ae (l_box 2 O rfl rfl fun g7 w8 O9 S10 h11=>?_))
 replace h11:Lc 2 w8 O9 g7 152 [(.int .i64 x0.word),(.int .i64 x0.bit),(.int .i64 x0.width),(.int .i64 x0.size)]:=h11
 refine o_as rfl rfl (o_z ?_)
 refine Ah (Ch (·=w8) [(0,true),(1,true),(2,true),(3,true),(4,true),(5,true),(6,true),(7,true)] (by kernel_rfl) rfl (by kernel_rfl) rfl ?_)
 refine h_fa rfl rfl rfl (h_ldA (hc:=Blk.cell (i:=2) (h11.1) rfl) rfl rfl rfl ?_)
 obtain ⟨n12,e13,hm⟩:=bs hm
 refine h_ush (a:=(1:U64)) (he:=e13) rfl rfl rfl rfl ?_
 refine h_usb (a:=n12) (b:=(1:U64)) rfl rfl rfl rfl ?_
 refine h_fa rfl rfl rfl (h_ldA (hc:=Blk.cell (i:=1) (h11.1) rfl) rfl rfl rfl ?_)
 obtain ⟨n14,e15,hm⟩:=bs hm
 refine h_ush (a:=(n12 - (1:U64))) (he:=e15) rfl rfl rfl rfl ?_
 refine h_as rfl rfl rfl (h_z ?_)
 refine At ?_
 obtain rfl:=sm hm
 replace hB:=hB.st S10
 exact ret1v rfl (AF rfl) ⟨hB.ext,vU64⟩
noncomputable def Cr (x0:PFd) (x1:List U64):Option Int :=
  bnd (atI x1 x0.word) fun a15=>bnd (Cb x0) fun q26=>bnd (shrU (a15 &&& q26) x0.bit) fun n33=>some n33.toInt
theorem HR {w:World} {A:Nat→Prop} (hA:∀ k,A k→k < w.heap.size) {vx0:Value} {x0:PFd} (hx0:Vb w A vx0 x0) {vx1:Value} {x1:List U64} (hx1:Vb w A vx1 x1) {r:Int} (hm:Cr x0 x1=some r) :
    Fn Try.prog 76 [vx0,vx1] w fun v w'=>Ext w w'∧Vb w' (upA A w w') v r:=by
 obtain ⟨O,hB,hA0⟩:=enter hA
 replace hx0:=hx0.mono hA0
 obtain ⟨cs3,rfl,rfl,r4,r5,r6,r7⟩:=hx0
 replace hx1:=hx1.mono hA0
 obtain ⟨A8,c9,rfl⟩:=hx1.form
 refine AN Try.func76 rfl Try.ntmps76 rfl ?_
 unfold Cr at hm
 refine Ah (Ae (l_box 2 O rfl rfl fun g10 w11 O12 S13 h14=>?_))
 replace h14:Lc 2 w11 O12 g10 152 [(.int .i64 x0.word),(.int .i64 x0.bit),(.int .i64 x0.width),(.int .i64 x0.size)]:=h14
 refine o_as rfl rfl (o_z ?_)
 refine Ah (BK [(6,[])] O12 ?_)
 refine x_pre (fuel:=5) [] [(0,true),(1,true),(2,true),(3,true),(4,true),(5,true),(8,true),(9,true)] (by kernel_rfl) rfl ?_
 refine h_mv rfl rfl rfl (h_fa rfl rfl rfl (h_ldC (hc:=fun w' ⟨O',hq⟩=>Blk.cell (i:=0) ((h14.st hq (by decide)).1) rfl) rfl rfl rfl ?_))
 obtain ⟨a15,e16,hm⟩:=bs hm
 obtain ⟨p18,x17⟩:=AX e16
 replace hx1:=hx1.st S13
 obtain ⟨b19,o20,ce21,hA22,hF25,hl23,hd24,rfl⟩:=hx1.elem x17
 refine h_iaE (hA:=hA22) (hj:=(Int.toNat_of_nonneg p18).symm) (hlt:=hl23) rfl rfl rfl rfl ?_
 refine h_ldC (hc:=fun w' ⟨O',hq⟩=>cat0 (BA (hq.agree (i:=0) (by decide)) hF25 hd24)) rfl rfl rfl ?_
 refine h_laB (hl:=rfl) (hb:=fun w' ⟨O',hq⟩=>((h14.st hq (by decide)).1).cellsAt) rfl rfl rfl ?_
 refine h_fa rfl rfl rfl (h_ldC (hc:=fun w' ⟨O',hq⟩=>Blk.cell (i:=1) ((h14.st hq (by decide)).1) rfl) rfl rfl rfl ?_)
 refine AE ?_
 refine x_one (i:=6) (by kernel_rfl) rfl ?_
 obtain ⟨q26,e27,hm⟩:=bs hm
 refine Cf (O:=O12) (A:=All w11) (R:=fun w' F v=>Vb w' F v q26) (Fi (fun _ h=>h) (Vb.mono (F:=Fr 0 w11 O12) (Vb.ofAgg (cs:=[(.int .i64 x0.word),(.int .i64 x0.bit),(.int .i64 x0.width),(.int .i64 x0.size)]) (x:=x0) rfl ⟨rfl,r4,r5,r6,r7⟩) Fr.lt) e27) rfl rfl fun v32 w28 O29 S30 h31=>?_
 obtain rfl:=h31.u64
 have hZ:=S30.lst [] (fun _ h=>h.elim)
 refine x_go [] hZ (by kernel_rfl) ?_
 refine x_pre (fuel:=0) [] [(7,true),(10,true),(11,true),(12,true)] (by kernel_rfl) rfl ?_
 refine h_uan (a:=a15) (b:=q26) rfl rfl rfl rfl ?_
 obtain ⟨n33,e34,hm⟩:=bs hm
 refine h_usr (a:=(a15 &&& q26)) (he:=e34) rfl rfl rfl rfl ?_
 refine h_cvI (a:=n33) rfl rfl rfl ?_
 refine h_as rfl rfl rfl (AE ?_)
 refine x_nil (by kernel_rfl) ?_
 refine At ?_
 obtain rfl:=sm hm
 replace hB:=(hB.st S13).st S30
 exact ret1v rfl (AF rfl) ⟨hB.ext,(vInt (toIntR _))⟩
noncomputable def Bt (x0:Pkr) (x1:List Int):Option ((List U64)×Err) :=
  if (x1.length:Int)≠(x0.fields.length:Int) then (some (([]:List U64),(⟨2⟩:Err))) else (bnd (mkI 8 ((0:U64):U64) x0.words) fun u25=>bnd (rng (ρ:=(List U64)×Err) (fun (k50:Nat) (a51:PFd) (s48:(List U64))=>bnd (bnd (x1[k50]?) fun a87=>if a87 < 0 then (some true) else (bnd (x1[k50]?) fun a98=>if a51.size≤a98 then (some true) else (some false)):Option Bool) fun y83=>if y83=true then (some (.ret (([]:List U64),(⟨2⟩:Err)))) else (bnd (atI s48 a51.word) fun a114=>bnd (x1[k50]?) fun a125=>bnd (shlU (BitVec.ofInt 64 a125) a51.bit) fun n135=>bnd (atI s48 a51.word) fun a137=>some (.next (s48.set (a51.word:Int).toNat (a114 ||| n135))))) x0.fields 0 u25) fun res46=>fin res46 fun (s154:(List U64))=>some (s154,(⟨0⟩:Err)))
theorem Hf {w:World} {O:Lab} {p0 i0:Nat} {x0:Pkr} (hx0:Ob i0 w O (.pointer (some ⟨p0,0,none⟩)) x0) {vx1:Value} {x1:List Int} (hx1:Vb w (Fr 0 w O) vx1 x1) {r:(List U64)×Err} (hm:Bt x0 x1=some r) :
    Fn Try.prog 80 [(.pointer (some ⟨p0,0,none⟩)),vx1] w fun v w'=>∃ O',St (eT i0) w O w' O'∧∃ v0 v1:Value,Ob i0 w' O' (.pointer (some ⟨p0,0,none⟩)) x0∧v=.tuple #[v0,v1]∧Vb w' (Fr 0 w' O') v0 r.1∧Vb w' (Fr 0 w' O') v1 r.2:=by
 obtain ⟨O0,hE,hz0,hl2⟩:=ent1 (w:=w) (O:=O) hx0.2
 have hx0':=Ob.leave hx0 hz0 hl2 (j:=2) (by decide)
 have hB:Bm w O0 w O0:=Bm.refl
 replace hx1:=hx1.mono hz0
 obtain ⟨A3,c4,rfl⟩:=hx1.form
 refine AN Try.func80 rfl Try.ntmps80 rfl ?_
 unfold Bt at hm
 refine Ah (Ae (o_as rfl rfl (o_as rfl rfl (o_z ?_))))
 refine Ah (Ah (Ae (o_mv rfl rfl (o_pn rfl rfl ?_))))
 refine o_z ?_
 refine Aj rfl (Am (Ah (Ah (Ae (o_mv rfl rfl (o_ln rfl rfl ?_))))))
 have l6:x1.length≤9223372036854775807:=Nat.le_trans hx1.len.2.1 hx1.len.2.2
 have r5:inI64 (x1.length:Int):=rngNat l6
 refine o_mv rfl rfl (o_nc rfl rfl ?_)
 obtain ⟨O7,v11,S8,ha10,h9,h12,r16⟩:=Pkr.opn hx0' 2 3 (by decide)
 obtain ⟨A13,c14,rfl⟩:=h12.form
 refine o_fa rfl rfl (o_ld (hc:=Blk.cell (i:=0) (h9.1) rfl) rfl rfl ?_)
 refine o_ln rfl rfl ?_
 have l18:x0.fields.length≤9223372036854775807:=Nat.le_trans h12.len.2.1 h12.len.2.2
 have r17:inI64 (x0.fields.length:Int):=rngNat l18
 refine o_neS rfl rfl rfl (fun c19=>?_) fun c19=>?_
 ·
  replace hm:=ip hm c19
  refine o_z ?_
  refine Ar rfl (Ah (Ae (o_miE rfl rfl ?_)))
  refine o_as rfl rfl (o_as rfl rfl (o_z ?_))
  refine At ?_
  obtain ⟨O20,S21,hz23,ha24,h22⟩:=Pkr.shut (x:=x0) (l0:=2) (l1:=3) (by decide) h9 h12 r16
  obtain rfl:=sm hm
  replace hB:=(hB.st S8).st S21
  obtain ⟨O',hS',hz,hl⟩:=hE.leave (fun q=>if q=2 then i0 else 0) rfl hB
  exact ret2 rfl (AF rfl) (AF rfl) ⟨O',hS',_,_,(Ob.leave h22 hz (hl 2 (by decide) (by decide)) hx0.2),rfl,(Vb.mono (Vb.nil _ _) hz),(vErr (by decide))⟩
 ·
  replace hm:=im hm c19
  refine o_z ?_
  refine Aj rfl (Am (Ah (Ae (o_mv rfl rfl (o_nc rfl rfl (o_fa rfl rfl (o_ld (hc:=Blk.cell (i:=1) (h9.1) rfl) rfl rfl ?_)))))))
  obtain ⟨u25,e26,hm⟩:=bs hm
  obtain ⟨m27,e28,e29,e30,e31⟩:=Jv e26
  refine Lo 4 (by decide) O7 (z0:=((0:U64):U64)) rfl rfl rfl rfl rfl e28 vU64 e29 e30 rfl fun g32 w33 O34 S35 h36=>?_
  rw [← e31] at h36 ⊢
  refine o_as rfl rfl (o_z ?_)
  refine Ah (Ah (Ae (o_mv rfl rfl (o_nc rfl rfl (o_fa rfl rfl ?_)))))
  replace h9:=h9.st S35
  refine o_ld (hc:=Blk.cell (i:=0) (h9.1) rfl) rfl rfl ?_
  refine o_ln rfl rfl ?_
  replace h12:=h12.st S35
  have l39:x0.fields.length≤9223372036854775807:=Nat.le_trans h12.len.2.1 h12.len.2.2
  have r38:inI64 (x0.fields.length:Int):=rngNat l39
  refine o_mv rfl rfl (o_z ?_)
  obtain ⟨O40,S41,hz43,ha44,h42⟩:=Pkr.shut (x:=x0) (l0:=2) (l1:=3) (by decide) h9 h12 r16
  have h45:=(h12.lend [3] (by decide)).shutS S41 hz43 ha44 [2] (by decide)
  obtain ⟨res46,hL47,hm⟩:=bs hm
  refine AT (aft res46 (fun (s48:(List U64)) (x49:Unit)=>[(6,(.slice (some ⟨g32,0,none⟩) u25.length m27))]) (fun s48 x49 w'=>∃ O':Lab,Bm w O0 w' O'∧Rw 4 w' O' 150 (.slice (some ⟨g32,0,none⟩) u25.length m27) s48∧Ob 2 w' O' (.pointer (some ⟨p0,0,none⟩)) x0)) ?_ ?_
  ·
   refine Al ?_
   replace hB:=((hB.st S8).st S35).st S41
   replace hx1:=((hx1.st S8).st S35).st S41
   replace h36:=h36.st S41
   refine CC (σ:=(List U64)) (X:=Unit) (x0.fields.length) hL47 rfl l39 (fun (s48:(List U64)) (x49:Unit)=>[(1,(.slice A3 x1.length c4)),(6,(.slice (some ⟨g32,0,none⟩) u25.length m27)),(29,(.slice A13 x0.fields.length c14))]) _ (fun s48 x49 w'=>∃ O':Lab,Bm w O0 w' O'∧Vb w' (Fr 0 w' O') (.slice A3 x1.length c4) x1∧Rw 4 w' O' 150 (.slice (some ⟨g32,0,none⟩) u25.length m27) s48∧Vb w' (FrS [2] w' O') (.slice A13 x0.fields.length c14) x0.fields∧Ob 2 w' O' (.pointer (some ⟨p0,0,none⟩)) x0) _ () ⟨O40,hB,hx1,h36,h45,h42⟩ ⟨rfl,rfl,rfl,rfl,rfl,trivial⟩ (fun _ _=>⟨rfl,rfl⟩) (fun _ _=>⟨rfl,trivial⟩) (fun _ _ _ ⟨O',hB,hx1,h63,h45,h42⟩=>⟨O',hB,h63,h42⟩) ⟨rfl,rfl,rfl⟩ ⟨rfl,rfl⟩ ?_
   rintro k50 a51 s48 x49 w52 cc54 hx55 ⟨O53,hB,hx1,h63,h45,h42⟩ hf56 hret57 hbrk58
   have rk50:inI64 (k50:Int):=rngK hx55 l39
   refine Ah (Ae (o_mv rfl rfl ?_))
   obtain ⟨b65,o66,ce67,hA68,hl69,hd70,rfl,r72,r73,r74,r75⟩:=h45.elem' hx55
   refine o_iaE (hA:=hA68) (hj:=rfl) (hlt:=hl69) rfl rfl rfl ?_
   refine o_la (hl:=rfl) (hc:=hd70) rfl rfl ?_
   refine BR 5 O53 rfl fun g76 w77 O78 S79 h80=>?_
   replace h45:=h45.stS S79 id (fun _ _=>id)
   refine o_as rfl rfl (AL h80 rfl rfl rfl (Nat.le_of_ble_eq_true rfl) (by first|exact allOne rfl|simp [Value.cells,Value.oneCell',AJ]) fun w81 S82 h80=>?_)
   replace h80:Lc 5 w81 O78 g76 152 [(.int .i64 a51.word),(.int .i64 a51.bit),(.int .i64 a51.width),(.int .i64 a51.size)]:=h80
   replace h45:=h45.stS S82 (by decide) (by decide)
   refine o_z ?_
   refine Ah (Ah ?_)
   obtain ⟨y83,hy84,hf56⟩:=bs hf56
   refine AT (fun l' w'=>∃ (x86:Unit) (O':Lab),subs l' [(1,(.slice A3 x1.length c4)),(6,(.slice (some ⟨g32,0,none⟩) u25.length m27)),(7,(.int .i64 (k50:Int))),(8,(.pointer (some ⟨g76,0,none⟩))),(29,(.slice A13 x0.fields.length c14)),(30,(.int .i64 (x0.fields.length:Int))),(31,(.int .i64 (k50:Int))),(49,(.bool y83))]∧Bm w O0 w' O'∧Vb w' (Fr 0 w' O') (.slice A3 x1.length c4) x1∧Rw 4 w' O' 150 (.slice (some ⟨g32,0,none⟩) u25.length m27) s48∧Lc 5 w' O' g76 152 [(.int .i64 a51.word),(.int .i64 a51.bit),(.int .i64 a51.width),(.int .i64 a51.size)]∧Vb w' (FrS [2] w' O') (.slice A13 x0.fields.length c14) x0.fields∧Ob 2 w' O' (.pointer (some ⟨p0,0,none⟩)) x0) ?_ ?_
   ·
    refine Ch (·=w81) [(0,true),(1,true),(2,true),(3,true),(4,true),(5,true),(6,true),(7,true),(8,true),(9,true),(10,true),(11,true),(12,true),(13,true)] (by kernel_rfl) rfl (by kernel_rfl) rfl ?_
    refine h_mv rfl rfl rfl (h_mv rfl rfl rfl ?_)
    obtain ⟨a87,e88,hy84⟩:=bs hy84
    replace hx1:=(hx1.st S79).st S82
    obtain ⟨b89,o90,ce91,hA92,hl93,hd94,rfl,r96⟩:=hx1.elem' e88
    refine h_iaE (hA:=hA92) (hj:=rfl) (hlt:=hl93) rfl rfl rfl rfl ?_
    refine h_ldA (hc:=cat0 hd94) rfl rfl rfl ?_
    refine h_ltS rfl rfl rfl rfl (fun c97=>?_) fun c97=>?_
    ·
     replace hy84:=ip hy84 c97
     refine h_mv rfl rfl rfl (h_no rfl rfl rfl rfl rfl (h_no rfl rfl rfl rfl rfl (h_no rfl rfl rfl rfl rfl (h_no rfl rfl rfl rfl rfl (h_no rfl rfl rfl rfl rfl (h_no rfl rfl rfl rfl rfl (h_no rfl rfl rfl rfl rfl (h_pt rfl rfl rfl rfl (h_z ?_)))))))))
     obtain rfl:=sm hy84
     replace hB:=(hB.st S79).st S82
     replace h42:=(h42.st S79).st S82
     replace h63:=(h63.st S79).st S82
     exact ⟨(),_,⟨rfl,rfl,rfl,rfl,rfl,rfl,rfl,rfl,trivial⟩,hB,hx1,h63,h80,h45,h42⟩
    ·
     replace hy84:=im hy84 c97
     refine h_mv rfl rfl rfl (hwp_o rfl (AG rfl rfl (g_mv rfl rfl (hwp_o rfl (AG rfl rfl (g_mv rfl rfl (hwp_o rfl (AG rfl rfl ?_))))))))
     obtain ⟨a98,e99,hy84⟩:=bs hy84
     obtain ⟨b100,o101,ce102,hA103,hl104,hd105,rfl,r107⟩:=hx1.elem' e99
     refine g_iaE (hA:=hA103) (hj:=rfl) (hlt:=hl104) rfl rfl rfl ?_
     refine hwp_o rfl (AG rfl rfl (g_ldA (hc:=cat0 hd105) rfl rfl ?_))
     refine hwp_o rfl (AG rfl rfl (g_fa rfl rfl (hwp_o rfl (AG rfl rfl (g_ldA (hc:=Blk.cell (i:=3) (h80.1) rfl) rfl rfl ?_)))))
     refine hwp_o rfl (AG rfl rfl (Bi (fun _ _=>BE rfl rfl) rfl (fun c108=>?_) (fun c108=>?_)))
     ·
      replace hy84:=ip hy84 c108
      refine h_pf rfl rfl rfl rfl (h_z ?_)
      obtain rfl:=sm hy84
      replace hB:=(hB.st S79).st S82
      replace h42:=(h42.st S79).st S82
      replace h63:=(h63.st S79).st S82
      exact ⟨(),_,⟨rfl,rfl,rfl,rfl,rfl,rfl,rfl,rfl,trivial⟩,hB,hx1,h63,h80,h45,h42⟩
     ·
      replace hy84:=im hy84 c108
      refine h_pf rfl rfl rfl rfl (h_z ?_)
      obtain rfl:=sm hy84
      replace hB:=(hB.st S79).st S82
      replace h42:=(h42.st S79).st S82
      replace h63:=(h63.st S79).st S82
      exact ⟨(),_,⟨rfl,rfl,rfl,rfl,rfl,rfl,rfl,rfl,trivial⟩,hB,hx1,h63,h80,h45,h42⟩
   replace hB:=(hB.st S79).st S82
   replace hx1:=(hx1.st S79).st S82
   replace h42:=(h42.st S79).st S82
   replace h63:=(h63.st S79).st S82
   rintro l109 w110 ⟨x86,O111,hs112,hB,hx1,h63,h80,h45,h42⟩
   refine AW _ hs112 ?_
   refine Cu rfl (fun c113=>?_) (fun c113=>?_)
   ·
    replace hf56:=ip hf56 c113
    refine Ah (Ae (o_miE rfl rfl ?_))
    refine o_as rfl rfl (o_as rfl rfl (o_z ?_))
    refine At ?_
    obtain rfl:=sm hf56
    obtain rfl:=hret57 _ rfl
    obtain rfl:=sm (Bx hm)
    obtain ⟨O',hS',hz,hl⟩:=hE.leave (fun q=>if q=2 then i0 else 0) rfl hB
    exact ret2 rfl (AF rfl) (AF rfl) ⟨O',hS',_,_,(Ob.leave h42 hz (hl 2 (by decide) (by decide)) hx0.2),rfl,(Vb.mono (Vb.nil _ _) hz),(vErr (by decide))⟩
   ·
    replace hf56:=im' hf56 c113
    refine Am (BK [] O111 ?_)
    refine x_pre (fuel:=1) [] [(0,true),(1,true),(2,true),(3,true),(4,true),(5,true),(6,true),(7,true),(8,true),(9,true),(10,true),(11,true),(12,true),(13,true),(14,true)] (by kernel_rfl) rfl ?_
    refine h_mv rfl rfl rfl (h_fa rfl rfl rfl (h_ldC (hc:=fun w' ⟨O',hq⟩=>Blk.cell (i:=0) ((h80.st hq (by decide)).1) rfl) rfl rfl rfl ?_))
    obtain ⟨a114,e115,hf56⟩:=bs hf56
    obtain ⟨p117,x116⟩:=AX e115
    obtain ⟨b118,o119,ce120,hA121,hF124,hl122,hd123,rfl⟩:=h63.elemF x116
    refine h_iaE (hA:=hA121) (hj:=(Int.toNat_of_nonneg p117).symm) (hlt:=hl122) rfl rfl rfl rfl ?_
    refine h_ldC (hc:=fun w' ⟨O',hq⟩=>cat0 (BA (hq.agree (i:=4) (by decide)) hF124 hd123)) rfl rfl rfl ?_
    refine h_mv rfl rfl rfl (h_mv rfl rfl rfl ?_)
    obtain ⟨a125,e126,hf56⟩:=bs hf56
    obtain ⟨b127,o128,ce129,hA130,hF133,hl131,hd132,rfl,r134⟩:=hx1.elem e126
    refine h_iaE (hA:=hA130) (hj:=rfl) (hlt:=hl131) rfl rfl rfl rfl ?_
    refine h_ldC (hc:=fun w' ⟨O',hq⟩=>cat0 (BA (hq.agree (i:=0) (by decide)) hF133 hd132)) rfl rfl rfl ?_
    refine h_cvU rfl rfl rfl ?_
    refine h_fa rfl rfl rfl (h_ldC (hc:=fun w' ⟨O',hq⟩=>Blk.cell (i:=1) ((h80.st hq (by decide)).1) rfl) rfl rfl rfl ?_)
    obtain ⟨n135,e136,hf56⟩:=bs hf56
    refine h_ush (a:=(BitVec.ofInt 64 a125)) (he:=e136) rfl rfl rfl rfl ?_
    refine h_uor (a:=a114) (b:=n135) rfl rfl rfl rfl ?_
    obtain ⟨a137,e138,hf56⟩:=bs hf56
    obtain ⟨p140,x139⟩:=AX e138
    obtain ⟨b141,o142,ce143,hA144,hF147,hl145,hd146,rfl⟩:=h63.elemF x139
    refine h_iaE (hA:=hA144) (hj:=(Int.toNat_of_nonneg p140).symm) (hlt:=hl145) rfl rfl rfl rfl ?_
    refine AE ?_
    refine x_one (i:=15) (by kernel_rfl) rfl ?_
    refine DN rfl h63 (a:=(a114 ||| n135)) vU64 hA144 rfl rfl (AK x139) fun w148 S149 h63=>?_
    replace h45:=h45.stS S149 (by decide) (by decide)
    refine x_end (by kernel_rfl) ?_
    refine x_nil (by kernel_rfl) ?_
    obtain rfl:=sm hf56
    refine (?_:Exists _)
    replace hB:=hB.st S149
    replace hx1:=hx1.st S149
    replace h42:=h42.st S149
    exact ⟨_,(),rfl,⟨rfl,rfl,rfl,rfl,rfl,trivial⟩,_,hB,hx1,h63,h45,h42⟩
  replace hB:=((hB.st S8).st S35).st S41
  rintro l150 w151 ⟨s154,x155,rfl,hs153,O152,hB,h63,h42⟩
  replace hm:=Br hm
  refine AW _ hs153 ?_
  refine Ah (Ae (o_mv rfl rfl (o_as rfl rfl (o_as rfl rfl (o_z ?_)))))
  refine At ?_
  obtain ⟨O156,S157,h63⟩:=h63.freeze
  obtain rfl:=sm hm
  replace hB:=hB.st S157
  obtain ⟨O',hS',hz,hl⟩:=hE.leave (fun q=>if q=2 then i0 else 0) rfl hB
  replace h42:=h42.st S157
  exact ret2 rfl (AF rfl) (AF rfl) ⟨O',hS',_,_,(Ob.leave h42 hz (hl 2 (by decide) (by decide)) hx0.2),rfl,(Vb.mono h63 hz),(vErr (show inI64 0 from by decide))⟩
noncomputable def BZ (x0:Pkr) (x1:List U64):Option ((List Int)×Err) :=
  if (x1.length:Int)≠x0.words then (some (([]:List Int),(⟨2⟩:Err))) else (bnd (mkI 8 (0:Int) (x0.fields.length:Int)) fun u25=>bnd (BS x1) fun q38=>bnd (rng (ρ:=(List Int)×Err) (fun (k60:Nat) (a61:PFd) (s58:(List Int)×(List U64))=>bnd (Cr a61 x1) fun q97=>bnd (s58.1[k60]?) fun a105=>bnd ((s58.1.set k60 q97)[k60]?) fun a117=>if a61.size≤a117 then (some (.ret (([]:List Int),(⟨2⟩:Err)))) else (bnd (atI s58.2 a61.word) fun a128=>bnd (Cb a61) fun q139=>bnd (atI s58.2 a61.word) fun a146=>some (.next ((s58.1.set k60 q97),(s58.2.set (a61.word:Int).toNat (a128 &&& ~~~q139)))))) x0.fields 0 (u25,q38)) fun res56=>fin res56 fun (s163:(List Int)×(List U64))=>bnd (rng (ρ:=(List Int)×Err) (fun (k171:Nat) (a172:U64) (s169:Unit)=>bnd (s163.2[k171]?) fun a182=>if (a182.toNat:Int)≠((0:U64).toNat:Int) then (some (.ret (([]:List Int),(⟨2⟩:Err)))) else (some (.next ()))) q38 0 ()) fun res167=>fin res167 fun (s196:Unit)=>some (s163.1,(⟨0⟩:Err)))
theorem Gw {w:World} {O:Lab} {p0 i0:Nat} {x0:Pkr} (hx0:Ob i0 w O (.pointer (some ⟨p0,0,none⟩)) x0) {vx1:Value} {x1:List U64} (hx1:Vb w (Fr 0 w O) vx1 x1) {r:(List Int)×Err} (hm:BZ x0 x1=some r) :
    Fn Try.prog 62 [(.pointer (some ⟨p0,0,none⟩)),vx1] w fun v w'=>∃ O',St (eT i0) w O w' O'∧∃ v0 v1:Value,Ob i0 w' O' (.pointer (some ⟨p0,0,none⟩)) x0∧v=.tuple #[v0,v1]∧Vb w' (Fr 0 w' O') v0 r.1∧Vb w' (Fr 0 w' O') v1 r.2:=by
 obtain ⟨O0,hE,hz0,hl2⟩:=ent1 (w:=w) (O:=O) hx0.2
 have hx0':=Ob.leave hx0 hz0 hl2 (j:=2) (by decide)
 have hB:Bm w O0 w O0:=Bm.refl
 replace hx1:=hx1.mono hz0
 obtain ⟨A3,c4,rfl⟩:=hx1.form
 refine AN Try.func62 rfl Try.ntmps62 rfl ?_
 unfold BZ at hm
 refine Ah (Ae (o_as rfl rfl (o_as rfl rfl (o_z ?_))))
 refine Ah (Ah (Ae (o_mv rfl rfl (o_pn rfl rfl ?_))))
 refine o_z ?_
 refine Aj rfl (Am (Ah (Ah (Ae (o_mv rfl rfl (o_ln rfl rfl ?_))))))
 have l6:x1.length≤9223372036854775807:=Nat.le_trans hx1.len.2.1 hx1.len.2.2
 have r5:inI64 (x1.length:Int):=rngNat l6
 refine o_mv rfl rfl (o_nc rfl rfl ?_)
 obtain ⟨O7,v11,S8,ha10,h9,h12,r16⟩:=Pkr.opn hx0' 2 3 (by decide)
 obtain ⟨A13,c14,rfl⟩:=h12.form
 refine o_fa rfl rfl (o_ld (hc:=Blk.cell (i:=1) (h9.1) rfl) rfl rfl ?_)
 refine o_neS rfl rfl rfl (fun c17=>?_) fun c17=>?_
 ·
  replace hm:=ip hm c17
  refine o_z ?_
  refine Ar rfl (Ah (Ae (o_miE rfl rfl ?_)))
  refine o_as rfl rfl (o_as rfl rfl (o_z ?_))
  refine At ?_
  obtain ⟨O18,S19,hz21,ha22,h20⟩:=Pkr.shut (x:=x0) (l0:=2) (l1:=3) (by decide) h9 h12 r16
  obtain rfl:=sm hm
  replace hB:=(hB.st S8).st S19
  obtain ⟨O',hS',hz,hl⟩:=hE.leave (fun q=>if q=2 then i0 else 0) rfl hB
  exact ret2 rfl (AF rfl) (AF rfl) ⟨O',hS',_,_,(Ob.leave h20 hz (hl 2 (by decide) (by decide)) hx0.2),rfl,(Vb.mono (Vb.nil _ _) hz),(vErr (by decide))⟩
 ·
  replace hm:=im hm c17
  refine o_z ?_
  refine Aj rfl (Am (Ah (Ae (o_mv rfl rfl (o_nc rfl rfl (o_fa rfl rfl (o_ld (hc:=Blk.cell (i:=0) (h9.1) rfl) rfl rfl ?_)))))))
  refine o_ln rfl rfl ?_
  have l24:x0.fields.length≤9223372036854775807:=Nat.le_trans h12.len.2.1 h12.len.2.2
  have r23:inI64 (x0.fields.length:Int):=rngNat l24
  obtain ⟨u25,e26,hm⟩:=bs hm
  obtain ⟨m27,e28,e29,e30,e31⟩:=Jv e26
  refine Lo 4 (by decide) O7 (z0:=(0:Int)) rfl rfl rfl rfl rfl e28 (vInt (show inI64 0 from by decide)) e29 e30 rfl fun g32 w33 O34 S35 h36=>?_
  rw [← e31] at h36 ⊢
  refine o_as rfl rfl (o_z ?_)
  refine Ah (Ae (o_mv rfl rfl ?_))
  obtain ⟨q38,e39,hm⟩:=bs hm
  replace hx1:=(hx1.st S8).st S35
  refine Ha 5 (by decide) (O:=O34) (EG Fr.lt hx1 e39) rfl rfl fun A45 c46 w40 O41 S42 h43=>?_
  refine o_as rfl rfl (o_z ?_)
  refine Ah (Ah (Ae (o_mv rfl rfl (o_nc rfl rfl (o_fa rfl rfl ?_)))))
  replace h9:=(h9.st S35).st S42
  refine o_ld (hc:=Blk.cell (i:=0) (h9.1) rfl) rfl rfl ?_
  refine o_ln rfl rfl ?_
  replace h12:=(h12.st S35).st S42
  have l49:x0.fields.length≤9223372036854775807:=Nat.le_trans h12.len.2.1 h12.len.2.2
  have r48:inI64 (x0.fields.length:Int):=rngNat l49
  refine o_mv rfl rfl (o_z ?_)
  obtain ⟨O50,S51,hz53,ha54,h52⟩:=Pkr.shut (x:=x0) (l0:=2) (l1:=3) (by decide) h9 h12 r16
  have h55:=(h12.lend [3] (by decide)).shutS S51 hz53 ha54 [2] (by decide)
  obtain ⟨res56,hL57,hm⟩:=bs hm
  refine AT (aft res56 (fun (s58:(List Int)×(List U64)) (x59:Unit)=>[(6,(.slice (some ⟨g32,0,none⟩) u25.length m27)),(7,(.slice A45 q38.length c46))]) (fun s58 x59 w'=>∃ O':Lab,Bm w O0 w' O'∧Rw 4 w' O' 3 (.slice (some ⟨g32,0,none⟩) u25.length m27) s58.1∧Rw 5 w' O' 150 (.slice A45 q38.length c46) s58.2∧Ob 2 w' O' (.pointer (some ⟨p0,0,none⟩)) x0)) ?_ ?_
  ·
   refine Al ?_
   replace hB:=(((hB.st S8).st S35).st S42).st S51
   replace hx1:=(hx1.st S42).st S51
   replace h36:=(h36.st S42).st S51
   replace h43:=h43.st S51
   refine CC (σ:=(List Int)×(List U64)) (X:=Unit) (x0.fields.length) hL57 rfl l49 (fun (s58:(List Int)×(List U64)) (x59:Unit)=>[(1,(.slice A3 x1.length c4)),(6,(.slice (some ⟨g32,0,none⟩) u25.length m27)),(7,(.slice A45 q38.length c46)),(34,(.slice A13 x0.fields.length c14))]) _ (fun s58 x59 w'=>∃ O':Lab,Bm w O0 w' O'∧Vb w' (Fr 0 w' O') (.slice A3 x1.length c4) x1∧Rw 4 w' O' 3 (.slice (some ⟨g32,0,none⟩) u25.length m27) s58.1∧Rw 5 w' O' 150 (.slice A45 q38.length c46) s58.2∧Vb w' (FrS [2] w' O') (.slice A13 x0.fields.length c14) x0.fields∧Ob 2 w' O' (.pointer (some ⟨p0,0,none⟩)) x0) _ () ⟨O50,hB,hx1,h36,h43,h55,h52⟩ ⟨rfl,rfl,rfl,rfl,rfl,rfl,trivial⟩ (fun _ _=>⟨rfl,rfl⟩) (fun _ _=>⟨rfl,rfl,trivial⟩) (fun _ _ _ ⟨O',hB,hx1,h75,h77,h55,h52⟩=>⟨O',hB,h75,h77,h52⟩) ⟨rfl,rfl,rfl⟩ ⟨rfl,rfl⟩ ?_
   rintro k60 a61 s58 x59 w62 cc64 hx65 ⟨O63,hB,hx1,h75,h77,h55,h52⟩ hf66 hret67 hbrk68
   have rk60:inI64 (k60:Int):=rngK hx65 l49
   refine Ah (Ae (o_mv rfl rfl ?_))
   obtain ⟨b79,o80,ce81,hA82,hl83,hd84,rfl,r86,r87,r88,r89⟩:=h55.elem' hx65
   refine o_iaE (hA:=hA82) (hj:=rfl) (hlt:=hl83) rfl rfl rfl ?_
   refine o_la (hl:=rfl) (hc:=hd84) rfl rfl ?_
   refine BR 6 O63 rfl fun g90 w91 O92 S93 h94=>?_
   replace h55:=h55.stS S93 id (fun _ _=>id)
   refine o_as rfl rfl (AL h94 rfl rfl rfl (Nat.le_of_ble_eq_true rfl) (by first|exact allOne rfl|simp [Value.cells,Value.oneCell',AJ]) fun w95 S96 h94=>?_)
   replace h94:Lc 6 w95 O92 g90 152 [(.int .i64 a61.word),(.int .i64 a61.bit),(.int .i64 a61.width),(.int .i64 a61.size)]:=h94
   replace h55:=h55.stS S96 (by decide) (by decide)
   refine o_z ?_
   refine Ah (Ae (o_mv rfl rfl (o_mv rfl rfl (o_la (hl:=rfl) (hc:=(h94.1).cellsAt) rfl rfl ?_))))
   refine o_mv rfl rfl ?_
   obtain ⟨q97,e98,hf66⟩:=bs hf66
   replace hx1:=(hx1.st S93).st S96
   refine Cf (O:=O92) (A:=All w95) (R:=fun w' F v=>Vb w' F v q97) (HR (fun _ h=>h) (Vb.mono (F:=Fr 0 w95 O92) (Vb.ofAgg (cs:=[(.int .i64 a61.word),(.int .i64 a61.bit),(.int .i64 a61.width),(.int .i64 a61.size)]) (x:=a61) rfl ⟨rfl,r86,r87,r88,r89⟩) Fr.lt) (Vb.mono (F:=Fr 0 w95 O92) hx1 Fr.lt) e98) rfl rfl fun v103 w99 O100 S101 h102=>?_
   obtain ⟨rfl,r104⟩:=h102.int
   replace h55:=h55.stS S101 id (fun _ _=>id)
   obtain ⟨a105,e106,hf66⟩:=bs hf66
   replace h75:=((h75.st S93).st S96).st S101
   obtain ⟨b107,o108,ce109,hA110,hl111,hd112,rfl,r114⟩:=h75.elem e106
   refine o_iaE (hA:=hA110) (hj:=rfl) (hlt:=hl111) rfl rfl rfl ?_
   refine DN rfl h75 (a:=q97) (vInt r104) hA110 rfl rfl (AK e106) fun w115 S116 h75=>?_
   replace h55:=h55.stS S116 (by decide) (by decide)
   refine o_z ?_
   refine Ah (Ah (Ch (·=w115) [(0,true),(1,true),(2,true),(3,true),(4,true),(5,true),(6,true)] (by kernel_rfl) rfl (by kernel_rfl) rfl ?_))
   refine h_mv rfl rfl rfl (h_mv rfl rfl rfl ?_)
   obtain ⟨a117,e118,hf66⟩:=bs hf66
   obtain ⟨b119,o120,ce121,hA122,hl123,hd124,rfl,r126⟩:=h75.elem e118
   refine h_iaE (hA:=hA122) (hj:=rfl) (hlt:=hl123) rfl rfl rfl rfl ?_
   refine h_ldA (hc:=cat0 hd124) rfl rfl rfl ?_
   refine h_fa rfl rfl rfl ?_
   replace h94:=(h94.st S101).st S116
   refine h_ldA (hc:=Blk.cell (i:=3) (h94.1) rfl) rfl rfl rfl ?_
   refine h_geS rfl rfl rfl rfl (fun c127=>?_) fun c127=>?_
   ·
    replace hf66:=ip hf66 c127
    refine h_z ?_
    refine Ar rfl (Ah (Ae (o_miE rfl rfl ?_)))
    refine o_as rfl rfl (o_as rfl rfl (o_z ?_))
    refine At ?_
    obtain rfl:=sm hf66
    obtain rfl:=hret67 _ rfl
    obtain rfl:=sm (Bx hm)
    replace hB:=(((hB.st S93).st S96).st S101).st S116
    obtain ⟨O',hS',hz,hl⟩:=hE.leave (fun q=>if q=2 then i0 else 0) rfl hB
    replace h52:=(((h52.st S93).st S96).st S101).st S116
    exact ret2 rfl (AF rfl) (AF rfl) ⟨O',hS',_,_,(Ob.leave h52 hz (hl 2 (by decide) (by decide)) hx0.2),rfl,(Vb.mono (Vb.nil _ _) hz),(vErr (by decide))⟩
   ·
    replace hf66:=im hf66 c127
    refine h_z ?_
    refine Aj rfl (Am (BK [(6,[])] O100 ?_))
    refine x_pre (fuel:=4) [] [(0,true),(1,true),(2,true),(3,true),(4,true),(5,true)] (by kernel_rfl) rfl ?_
    refine h_mv rfl rfl rfl (h_fa rfl rfl rfl (h_ldC (hc:=fun w' ⟨O',hq⟩=>Blk.cell (i:=0) ((h94.st hq (by decide)).1) rfl) rfl rfl rfl ?_))
    obtain ⟨a128,e129,hf66⟩:=bs hf66
    obtain ⟨p131,x130⟩:=AX e129
    replace h77:=(((h77.st S93).st S96).st S101).st S116
    obtain ⟨b132,o133,ce134,hA135,hF138,hl136,hd137,rfl⟩:=h77.elemF x130
    refine h_iaE (hA:=hA135) (hj:=(Int.toNat_of_nonneg p131).symm) (hlt:=hl136) rfl rfl rfl rfl ?_
    refine h_ldC (hc:=fun w' ⟨O',hq⟩=>cat0 (BA (hq.agree (i:=5) (by decide)) hF138 hd137)) rfl rfl rfl ?_
    refine h_laB (hl:=rfl) (hb:=fun w' ⟨O',hq⟩=>((h94.st hq (by decide)).1).cellsAt) rfl rfl rfl ?_
    refine AE ?_
    refine x_one (i:=6) (by kernel_rfl) rfl ?_
    obtain ⟨q139,e140,hf66⟩:=bs hf66
    refine Cf (O:=O100) (A:=All w115) (R:=fun w' F v=>Vb w' F v q139) (Fi (fun _ h=>h) (Vb.mono (F:=Fr 0 w115 O100) (Vb.ofAgg (cs:=[(.int .i64 a61.word),(.int .i64 a61.bit),(.int .i64 a61.width),(.int .i64 a61.size)]) (x:=a61) rfl ⟨rfl,r86,r87,r88,r89⟩) Fr.lt) e140) rfl rfl fun v145 w141 O142 S143 h144=>?_
    obtain rfl:=h144.u64
    have hZ:=S143.lst [] (fun _ h=>h.elim)
    replace h55:=h55.stS S143 id (fun _ _=>id)
    refine x_go [] hZ (by kernel_rfl) ?_
    refine x_pre (fuel:=1) [] [(7,true),(8,true)] (by kernel_rfl) rfl ?_
    refine h_uns (a:=a128) (b:=q139) rfl rfl rfl rfl ?_
    obtain ⟨a146,e147,hf66⟩:=bs hf66
    obtain ⟨p149,x148⟩:=AX e147
    replace h77:=h77.st S143
    obtain ⟨b150,o151,ce152,hA153,hF156,hl154,hd155,rfl⟩:=h77.elemF x148
    refine h_iaE (hA:=hA153) (hj:=(Int.toNat_of_nonneg p149).symm) (hlt:=hl154) rfl rfl rfl rfl ?_
    refine AE ?_
    refine x_one (i:=9) (by kernel_rfl) rfl ?_
    refine DN rfl h77 (a:=(a128 &&& ~~~q139)) vU64 hA153 rfl rfl (AK x148) fun w157 S158 h77=>?_
    replace h55:=h55.stS S158 (by decide) (by decide)
    refine x_end (by kernel_rfl) ?_
    refine x_nil (by kernel_rfl) ?_
    obtain rfl:=sm hf66
    refine (?_:Exists _)
    replace hB:=(((((hB.st S93).st S96).st S101).st S116).st S143).st S158
    replace hx1:=(((hx1.st S101).st S116).st S143).st S158
    replace h52:=(((((h52.st S93).st S96).st S101).st S116).st S143).st S158
    replace h75:=(h75.st S143).st S158
    exact ⟨_,(),rfl,⟨rfl,rfl,rfl,rfl,rfl,rfl,trivial⟩,_,hB,hx1,h75,h77,h55,h52⟩
  replace hB:=(((hB.st S8).st S35).st S42).st S51
  rintro l159 w160 ⟨s163,x164,rfl,hs162,O161,hB,h75,h77,h52⟩
  replace hm:=Br hm
  refine AW _ hs162 ?_
  refine Ah (Ah (Ae (o_mv rfl rfl (o_ln rfl rfl ?_))))
  have l166:q38.length≤9223372036854775807:=Nat.le_trans h77.len.2.1 h77.len.2.2
  have r165:inI64 (q38.length:Int):=rngNat l166
  refine o_mv rfl rfl (o_z ?_)
  obtain ⟨res167,hL168,hm⟩:=bs hm
  refine AT (aft res167 (fun (s169:Unit) (x170:Unit)=>[(6,(.slice (some ⟨g32,0,none⟩) u25.length m27))]) (fun s169 x170 w'=>∃ O':Lab,Bm w O0 w' O'∧Rw 4 w' O' 3 (.slice (some ⟨g32,0,none⟩) u25.length m27) s163.1∧Ob 2 w' O' (.pointer (some ⟨p0,0,none⟩)) x0)) ?_ ?_
  ·
   refine Al (CC (σ:=Unit) (X:=Unit) (q38.length) hL168 rfl l166 (fun (s169:Unit) (x170:Unit)=>[(6,(.slice (some ⟨g32,0,none⟩) u25.length m27)),(65,(.slice A45 q38.length c46))]) _ (fun s169 x170 w'=>∃ O':Lab,Bm w O0 w' O'∧Rw 4 w' O' 3 (.slice (some ⟨g32,0,none⟩) u25.length m27) s163.1∧Rw 5 w' O' 150 (.slice A45 q38.length c46) s163.2∧Ob 2 w' O' (.pointer (some ⟨p0,0,none⟩)) x0) _ () ⟨O161,hB,h75,h77,h52⟩ ⟨rfl,rfl,rfl,rfl,trivial⟩ (fun _ _=>⟨rfl,rfl⟩) (fun _ _=>⟨rfl,trivial⟩) (fun _ _ _ ⟨O',hB,h75,h77,h52⟩=>⟨O',hB,h75,h52⟩) ⟨rfl,rfl,rfl⟩ ⟨rfl,rfl⟩ ?_)
   rintro k171 a172 s169 x170 w173 cc175 hx176 ⟨O174,hB,h75,h77,h52⟩ hf177 hret178 hbrk179
   have rk171:inI64 (k171:Int):=rngK hx176 l166
   refine Ah (Ae ?_)
   obtain ⟨a182,e183,hf177⟩:=bs hf177
   obtain ⟨b184,o185,ce186,hA187,hl188,hd189,rfl⟩:=h77.elem e183
   refine o_iaE (hA:=hA187) (hj:=rfl) (hlt:=hl188) rfl rfl rfl ?_
   refine o_ld (hc:=cat0 hd189) rfl rfl ?_
   refine o_as rfl rfl (o_z ?_)
   refine Ah (Ae (o_mv rfl rfl (o_neS rfl rfl rfl (fun c191=>?_) fun c191=>?_)))
   ·
    replace hf177:=ip hf177 c191
    refine o_z ?_
    refine Ar rfl (Ah (Ae (o_miE rfl rfl ?_)))
    refine o_as rfl rfl (o_as rfl rfl (o_z ?_))
    refine At ?_
    obtain rfl:=sm hf177
    obtain rfl:=hret178 _ rfl
    obtain rfl:=sm (Bx hm)
    obtain ⟨O',hS',hz,hl⟩:=hE.leave (fun q=>if q=2 then i0 else 0) rfl hB
    exact ret2 rfl (AF rfl) (AF rfl) ⟨O',hS',_,_,(Ob.leave h52 hz (hl 2 (by decide) (by decide)) hx0.2),rfl,(Vb.mono (Vb.nil _ _) hz),(vErr (by decide))⟩
   ·
    replace hf177:=im hf177 c191
    refine o_z ?_
    refine Aj rfl (Am ?_)
    obtain rfl:=sm hf177
    refine (?_:Exists _)
    exact ⟨_,(),rfl,⟨rfl,rfl,rfl,rfl,trivial⟩,_,hB,h75,h77,h52⟩
  rintro l192 w193 ⟨s196,x197,rfl,hs195,O194,hB,h75,h52⟩
  replace hm:=Br hm
  refine AW _ hs195 ?_
  refine Ah (Ae (o_mv rfl rfl (o_as rfl rfl (o_as rfl rfl (o_z ?_)))))
  refine At ?_
  obtain ⟨O198,S199,h75⟩:=h75.freeze
  obtain rfl:=sm hm
  replace hB:=hB.st S199
  obtain ⟨O',hS',hz,hl⟩:=hE.leave (fun q=>if q=2 then i0 else 0) rfl hB
  replace h52:=h52.st S199
  exact ret2 rfl (AF rfl) (AF rfl) ⟨O',hS',_,_,(Ob.leave h52 hz (hl 2 (by decide) (by decide)) hx0.2),rfl,(Vb.mono h75 hz),(vErr (show inI64 0 from by decide))⟩
noncomputable def Bz (x0:Pkr) (x1:List U64):Option Int :=
  bnd (rng (ρ:=Int) (fun (k13:Nat) (a14:U64) (s11:U64)=>bnd (shrU ((s11 ^^^ a14) * (13787848793156543929:U64)) 29) fun n31=>some (.next (((s11 ^^^ a14) * (13787848793156543929:U64)) ^^^ n31))) x1 0 ((BitVec.ofInt 64 (x1.length:Int)) + (11400714819323198485:U64))) fun res9=>fin res9 fun (s37:U64)=>bnd (shrU s37 2) fun n39=>some n39.toInt
theorem Hg {w:World} {O:Lab} {p0 i0:Nat} {x0:Pkr} (hx0:Ob i0 w O (.pointer (some ⟨p0,0,none⟩)) x0) {vx1:Value} {x1:List U64} (hx1:Vb w (Fr 0 w O) vx1 x1) {r:Int} (hm:Bz x0 x1=some r) :
    Fn Try.prog 81 [(.pointer (some ⟨p0,0,none⟩)),vx1] w fun v w'=>∃ O',St (eT i0) w O w' O'∧Ob i0 w' O' (.pointer (some ⟨p0,0,none⟩)) x0∧Vb w' (Fr 0 w' O') v r:=by
 obtain ⟨O0,hE,hz0,hl2⟩:=ent1 (w:=w) (O:=O) hx0.2
 have hx0':=Ob.leave hx0 hz0 hl2 (j:=2) (by decide)
 have hB:Bm w O0 w O0:=Bm.refl
 replace hx1:=hx1.mono hz0
 obtain ⟨A3,c4,rfl⟩:=hx1.form
 refine AN Try.func81 rfl Try.ntmps81 rfl ?_
 unfold Bz at hm
 refine Ah (Ae (o_as rfl rfl (o_z ?_)))
 refine Ah (Ah (Ae (o_mv rfl rfl (o_pn rfl rfl ?_))))
 refine o_z ?_
 refine Aj rfl (Am (Ah (Ae (o_mv rfl rfl (o_ln rfl rfl ?_)))))
 have l6:x1.length≤9223372036854775807:=Nat.le_trans hx1.len.2.1 hx1.len.2.2
 have r5:inI64 (x1.length:Int):=rngNat l6
 refine o_cvU rfl rfl ?_
 refine o_uad (a:=(BitVec.ofInt 64 (x1.length:Int))) (b:=(11400714819323198485:U64)) rfl rfl rfl ?_
 refine o_as rfl rfl (o_z ?_)
 refine Ah (Ah (Ae (o_mv rfl rfl (o_ln rfl rfl ?_))))
 have l8:x1.length≤9223372036854775807:=Nat.le_trans hx1.len.2.1 hx1.len.2.2
 have r7:inI64 (x1.length:Int):=rngNat l8
 refine o_mv rfl rfl (o_z ?_)
 obtain ⟨res9,hL10,hm⟩:=bs hm
 refine AT (aft res9 (fun (s11:U64) (x12:Unit)=>[(5,(.int .u64 s11.toNat))]) (fun s11 x12 w'=>∃ O':Lab,Bm w O0 w' O'∧Ob 2 w' O' (.pointer (some ⟨p0,0,none⟩)) x0)) ?_ ?_
 ·
  refine Al (CC (σ:=U64) (X:=Unit) (x1.length) hL10 rfl l8 (fun (s11:U64) (x12:Unit)=>[(5,(.int .u64 s11.toNat)),(14,(.slice A3 x1.length c4))]) _ (fun s11 x12 w'=>∃ O':Lab,Bm w O0 w' O'∧Vb w' (Fr 0 w' O') (.slice A3 x1.length c4) x1∧Ob 2 w' O' (.pointer (some ⟨p0,0,none⟩)) x0) _ () ⟨O0,hB,hx1,hx0'⟩ ⟨rfl,rfl,rfl,rfl,trivial⟩ (fun _ _=>⟨rfl,rfl⟩) (fun _ _=>⟨rfl,trivial⟩) (fun _ _ _ ⟨O',hB,hx1,hx0'⟩=>⟨O',hB,hx0'⟩) ⟨rfl,rfl,rfl⟩ ⟨rfl,rfl⟩ ?_)
  rintro k13 a14 s11 x12 w15 cc17 hx18 ⟨O16,hB,hx1,hx0'⟩ hf19 hret20 hbrk21
  have rk13:inI64 (k13:Int):=rngK hx18 l8
  refine Ah (Ae ?_)
  obtain ⟨b24,o25,ce26,hA27,hl28,hd29,rfl⟩:=hx1.elem' hx18
  refine o_iaE (hA:=hA27) (hj:=rfl) (hlt:=hl28) rfl rfl rfl ?_
  refine o_ld (hc:=cat0 hd29) rfl rfl ?_
  refine o_as rfl rfl (o_z ?_)
  refine Ah (Ae (o_mv rfl rfl (o_mv rfl rfl (o_uxo (a:=s11) (b:=a14) rfl rfl rfl ?_))))
  refine o_as rfl rfl (o_z ?_)
  refine Ah (Ae (o_mv rfl rfl (o_uml (a:=(s11 ^^^ a14)) (b:=(13787848793156543929:U64)) rfl rfl rfl ?_)))
  refine o_as rfl rfl (o_z ?_)
  refine Ae (o_mv rfl rfl (o_mv rfl rfl ?_))
  obtain ⟨n31,e32,hf19⟩:=bs hf19
  refine o_usr (a:=((s11 ^^^ a14) * (13787848793156543929:U64))) (he:=e32) rfl rfl rfl ?_
  refine o_uxo (a:=((s11 ^^^ a14) * (13787848793156543929:U64))) (b:=n31) rfl rfl rfl ?_
  refine o_as rfl rfl (o_z ?_)
  obtain rfl:=sm hf19
  refine (?_:Exists _)
  exact ⟨_,(),rfl,⟨rfl,rfl,rfl,rfl,trivial⟩,_,hB,hx1,hx0'⟩
 rintro l33 w34 ⟨s37,x38,rfl,hs36,O35,hB,hx0'⟩
 replace hm:=Br hm
 refine AW _ hs36 ?_
 refine Ah (Ae (o_mv rfl rfl ?_))
 obtain ⟨n39,e40,hm⟩:=bs hm
 refine o_usr (a:=s37) (he:=e40) rfl rfl rfl ?_
 refine o_cvI (a:=n39) rfl rfl ?_
 refine o_as rfl rfl (o_z ?_)
 refine At ?_
 obtain rfl:=sm hm
 obtain ⟨O',hS',hz,hl⟩:=hE.leave (fun q=>if q=2 then i0 else 0) rfl hB
 exact ret1v rfl (AF rfl) ⟨O',hS',(Ob.leave hx0' hz (hl 2 (by decide) (by decide)) hx0.2),(vInt (toIntR _))⟩
noncomputable def Bo (x0:List U64) (x1:List U64):Option Bool :=
  if (x0.length:Int)≠(x1.length:Int) then (some false) else (bnd (rng (ρ:=Bool) (fun (k18:Nat) (a19:U64) (s16:Unit)=>bnd (x1[k18]?) fun a36=>if (a19.toNat:Int)≠(a36.toNat:Int) then (some (.ret false)) else (some (.next ()))) x0 0 ()) fun res14=>fin res14 fun (s50:Unit)=>some true)
theorem EH {w:World} {A:Nat→Prop} (hA:∀ k,A k→k < w.heap.size) {vx0:Value} {x0:List U64} (hx0:Vb w A vx0 x0) {vx1:Value} {x1:List U64} (hx1:Vb w A vx1 x1) {r:Bool} (hm:Bo x0 x1=some r) :
    Fn Try.prog 82 [vx0,vx1] w fun v w'=>Ext w w'∧Vb w' (upA A w w') v r:=by
 obtain ⟨O,hB,hA0⟩:=enter hA
 replace hx0:=hx0.mono hA0
 obtain ⟨A3,c4,rfl⟩:=hx0.form
 replace hx1:=hx1.mono hA0
 obtain ⟨A5,c6,rfl⟩:=hx1.form
 refine AN Try.func82 rfl Try.ntmps82 rfl ?_
 unfold Bo at hm
 refine Ah (Ae (o_as rfl rfl (o_z ?_)))
 refine Ah (Ah (Ae (o_mv rfl rfl (o_ln rfl rfl ?_))))
 have l8:x0.length≤9223372036854775807:=Nat.le_trans hx0.len.2.1 hx0.len.2.2
 have r7:inI64 (x0.length:Int):=rngNat l8
 refine o_mv rfl rfl (o_ln rfl rfl ?_)
 have l10:x1.length≤9223372036854775807:=Nat.le_trans hx1.len.2.1 hx1.len.2.2
 have r9:inI64 (x1.length:Int):=rngNat l10
 refine o_neS rfl rfl rfl (fun c11=>?_) fun c11=>?_
 ·
  replace hm:=ip hm c11
  refine o_z ?_
  refine Ar rfl (Ah (Ae (o_as rfl rfl (o_z ?_))))
  refine At ?_
  obtain rfl:=sm hm
  exact ret1v rfl (AF rfl) ⟨hB.ext,vBool⟩
 ·
  replace hm:=im hm c11
  refine o_z ?_
  refine Aj rfl (Am (Ah (Ah (Ae (o_mv rfl rfl (o_ln rfl rfl ?_))))))
  have l13:x0.length≤9223372036854775807:=Nat.le_trans hx0.len.2.1 hx0.len.2.2
  have r12:inI64 (x0.length:Int):=rngNat l13
  refine o_mv rfl rfl (o_z ?_)
  obtain ⟨res14,hL15,hm⟩:=bs hm
  refine AT (aft res14 (fun (s16:Unit) (x17:Unit)=>[]) (fun s16 x17 w'=>∃ O':Lab,Bs w A w' O')) ?_ ?_
  ·
   refine Al (CC (σ:=Unit) (X:=Unit) (x0.length) hL15 rfl l13 (fun (s16:Unit) (x17:Unit)=>[(0,(.slice A3 x0.length c4)),(1,(.slice A5 x1.length c6))]) _ (fun s16 x17 w'=>∃ O':Lab,Bs w A w' O'∧Vb w' (Fr 0 w' O') (.slice A3 x0.length c4) x0∧Vb w' (Fr 0 w' O') (.slice A5 x1.length c6) x1) _ () ⟨O,hB,hx0,hx1⟩ ⟨rfl,rfl,rfl,rfl,trivial⟩ (fun _ _=>⟨rfl,rfl⟩) (fun _ _=>trivial) (fun _ _ _ ⟨O',hB,hx0,hx1⟩=>⟨O',hB⟩) ⟨rfl,rfl,rfl⟩ ⟨rfl,rfl⟩ ?_)
   rintro k18 a19 s16 x17 w20 cc22 hx23 ⟨O21,hB,hx0,hx1⟩ hf24 hret25 hbrk26
   have rk18:inI64 (k18:Int):=rngK hx23 l13
   refine Ah (Ae (o_mv rfl rfl (o_as rfl rfl (o_z ?_))))
   refine Ah (Ch (·=w20) [(0,true),(1,true),(2,true),(3,true),(4,true),(5,true),(6,true),(7,true),(8,true)] (by kernel_rfl) rfl (by kernel_rfl) rfl ?_)
   refine h_mv rfl rfl rfl (h_mv rfl rfl rfl ?_)
   obtain ⟨b29,o30,ce31,hA32,hl33,hd34,rfl⟩:=hx0.elem' hx23
   refine h_iaE (hA:=hA32) (hj:=rfl) (hlt:=hl33) rfl rfl rfl rfl ?_
   refine h_ldA (hc:=cat0 hd34) rfl rfl rfl ?_
   refine h_mv rfl rfl rfl (h_mv rfl rfl rfl ?_)
   obtain ⟨a36,e37,hf24⟩:=bs hf24
   obtain ⟨b38,o39,ce40,hA41,hl42,hd43,rfl⟩:=hx1.elem' e37
   refine h_iaE (hA:=hA41) (hj:=rfl) (hlt:=hl42) rfl rfl rfl rfl ?_
   refine h_ldA (hc:=cat0 hd43) rfl rfl rfl ?_
   refine h_neS rfl rfl rfl rfl (fun c45=>?_) fun c45=>?_
   ·
    replace hf24:=ip hf24 c45
    refine h_z ?_
    refine Ar rfl (Ah (Ae (o_as rfl rfl (o_z ?_))))
    refine At ?_
    obtain rfl:=sm hf24
    obtain rfl:=hret25 _ rfl
    obtain rfl:=sm (Bx hm)
    exact ret1v rfl (AF rfl) ⟨hB.ext,vBool⟩
   ·
    replace hf24:=im hf24 c45
    refine h_z ?_
    refine Aj rfl (Am ?_)
    obtain rfl:=sm hf24
    refine (?_:Exists _)
    exact ⟨_,(),rfl,⟨rfl,rfl,rfl,rfl,trivial⟩,_,hB,hx0,hx1⟩
  rintro l46 w47 ⟨s50,x51,rfl,hs49,O48,hB⟩
  replace hm:=Br hm
  refine AW _ hs49 ?_
  refine Ah (Ae (o_as rfl rfl (o_z ?_)))
  refine At ?_
  obtain rfl:=sm hm
  exact ret1v rfl (AF rfl) ⟨hB.ext,vBool⟩
end
section
open Go Go.RowKit
class TMap (P:Program) (t:TypeId) (k e:outParam TypeId):Prop where eq:P.underlying t=some (.map k e)
class MKey (K:Type) where
  dec:DecidableEq K
  enc:K→Value
  desc:TypeDesc
  key:∀ a,MapKept.IsKey desc (enc a)
  inj:∀ a b,enc a=enc b→a=b
class TKey (P:Program) (t:TypeId) (K:Type) [MKey K]:Prop where eq:P.underlying t=some (MKey.desc K)
instance:MKey Int where
  dec:=inferInstance
  enc a:=.int .i64 a
  desc:=.int .i64
  key _:=rfl
  inj _ _ h:=by injection h
section
variable {K V : Type} [MKey K]
instance keyDec:DecidableEq K:=MKey.dec
def mhas:List (K×V)→K→Bool
  | [],_=>false
  | p :: r,k=>if p.1=k then true else mhas r k
def mget (z:V):List (K×V)→K→V
  | [],_=>z
  | p :: r,k=>if p.1=k then p.2 else mget z r k
def mput:List (K×V)→K→V→List (K×V)
  | [],k,v=>[(k,v)]
  | p :: r,k,v=>if p.1=k then (k,v) :: r else p :: mput r k v
def midx:List (K×V)→K→Option Nat
  | [],_=>none
  | p :: r,k=>if p.1=k then some 0 else (midx r k).map (· + 1)
theorem Es (a:K):∀ (es:List MapEntry) (x:List (K×V)) (i:Nat),es.map (·.key)=x.map (fun p=>MKey.enc p.1) →
    (midx x a=none∧Instr.findNow (MKey.desc K) (MKey.enc a) es i=some none∧mhas x a=false∧(∀ z,mget z x a=z)∧∀ v,mput x a v=x ++ [(a,v)]) ∨
    ∃ j e p,midx x a=some j∧es[j]?=some e∧x[j]?=some p∧Instr.findNow (MKey.desc K) (MKey.enc a) es i=some (some (i + j,e.val))∧e.key=MKey.enc a∧mhas x a=true∧(∀ z,mget z x a=p.2)∧∀ v,mput x a v=x.set j (a,v)
  | [],[],_,_=>.inl ⟨rfl,rfl,rfl,fun _=>rfl,fun _=>rfl⟩
  | [],_ :: _,_,h=>by simp at h
  | _ :: _,[],_,h=>by simp at h
  | e :: es,p :: x,i,h=>by
    rw [List.map_cons,List.map_cons] at h
    injection h with h1 h2
    obtain ⟨r,hr,hiff⟩:=MapKept.sameNow_of_keys (MKey.key a) (MKey.key p.1)
    by_cases hp:p.1=a
    · have:r=true:=hiff.2 (by rw [hp])
      subst this
      refine .inr ⟨0,e,p,by simp [midx,hp],rfl,rfl,?_,by rw [h1,hp],by simp [mhas,hp],fun z=>by simp [mget,hp],fun v=>by simp [mput,hp]⟩
      simp [Instr.findNow,h1,hr]
    · have:r=false:=by
        cases r with
        | false=>rfl
        | true=>exact absurd (MKey.inj _ _ (hiff.1 rfl)).symm hp
      subst this
      rcases Es a es x (i + 1) h2 with ⟨g0,g1,g2,g3,g4⟩|⟨j,e',p',g0,g1,g2,g3,g4,g5,g6,g7⟩
      · exact .inl ⟨by simp [midx,hp,g0],by simp [Instr.findNow,h1,hr,g1],by simp [mhas,hp,g2],fun z=>by simp [mget,hp,g3],fun v=>by simp [mput,hp,g4]⟩
      · refine .inr ⟨j + 1,e',p',by simp [midx,hp,g0],by simpa using g1,by simpa using g2,?_,g4,by simp [mhas,hp,g5],fun z=>by simp [mget,hp,g6],fun v=>by simp [mput,hp,g7]⟩
        simp [Instr.findNow,h1,hr,g3];omega
end
def LkV (d:TypeDesc) (z:Value) (w:World) (r:Nat) (key v:Value) (b:Bool):Prop:=∃ es ck a,w.heap[r]?=some (.map es ck)∧Instr.findNow d key es.toList 0=some a∧v=(match a with|some p=>p.2|none=>z)∧b=a.isSome
theorem LkV.keep {d:TypeDesc} {z:Value} {w w':World} {r:Nat} {key v:Value} {b:Bool} (h:LkV d z w r key v b) (e:w'.heap[r]?=w.heap[r]?):LkV d z w' r key v b:=by
  obtain ⟨es,ck,a,h1,h2⟩:=h
  exact ⟨es,ck,a,e.trans h1,h2⟩
section
variable {P : Program} {l : Env} {w : World} {dst : Option Tmp} {ty : TypeId} {pos : String} {aft : Array Edge}
theorem ev_lk {K:Type} [MKey K] {t k e:TypeId} [ht:TMap P t k e] [hk:TKey P k K] {z:Value} {size bytes:Nat} [TInfo P e z size bytes] {x y:Operand} {r:Nat} {a:K} {v:Value} {b:Bool} (hx:opv l x=some (.map (some r))) (hy:opv l y=some (MKey.enc a)) (hv:LkV (MKey.desc K) z w r (MKey.enc a) v b) :
    Ev P ⟨dst,.lookup t x y false,ty,pos,aft,none⟩ l w v:=fun _ _ d ha=>by
  obtain ⟨es,ck,q,h1,h2,h3,h4⟩:=hv
  have hb:(dr w d).heap[r]?=some (.map es ck):=h1
  subst h3
  cases q with
  | none=>simp [execOp,ha.eval hx,ha.eval hy,Instr.lookup,run_underlying ht.eq,MapKept.run_getObj_map hb,MapKept.run_checkKey hk.eq (MKey.key a),MapKept.run_findKey hk.eq h2,Result.andThen,Gm (P:=P) (t:=e)]
  | some p=>simp [execOp,ha.eval hx,ha.eval hy,Instr.lookup,run_underlying ht.eq,MapKept.run_getObj_map hb,MapKept.run_checkKey hk.eq (MKey.key a),MapKept.run_findKey hk.eq h2,Result.andThen]
end
def putEs (es:List MapEntry) (ck:Nat) (key v:Value):Option Nat→List MapEntry
  | none=>es ++ [{ key:=key,val:=v,born:=ck }]
  | some j=>es.modify j fun e=>{ e with key:=key,val:=v }
section
variable {P : Program} {n : Nat} {ops : Array Oper} {Q : Post} {rest : List Oper} {l : Env} {w : World} {d : Tmp} {ty : TypeId} {pos : String} {aft : Array Edge}
theorem LV {K V:Type} [MKey K] {t k e:TypeId} [ht:TMap P t k e] [hk:TKey P k K] {x y u:Operand} {r ck:Nat} {a:K} {v:Value} {es:List MapEntry} {xs:List (K×V)} (hb:w.heap[r]?=some (.map es.toArray ck)) (hks:es.map (·.key)=xs.map (fun p=>MKey.enc p.1)) (hx:opv l x=some (.map (some r))) (hy:opv l y=some (MKey.enc a)) (hu:opv l u=some v)
    (h:∀ w' ck',w'.os=w.os→w'.tape=w.tape→w'.output=w.output→w'.heap.size=w.heap.size→w'.heap[r]?=some (.map (putEs es ck (MKey.enc a) v (midx xs a)).toArray ck')→(∀ q,q≠r→w'.heap[q]?=w.heap[q]?)→owp P n ops Q rest l w'):owp P n ops Q (⟨none,.mapUpdate t x y u,ty,pos,aft,none⟩ :: rest) l w:=fun ac d ha=>by
  refine wpList_plain rfl fun K' hK=>?_
  have hbd:(dr w d).heap[r]?=some (.map es.toArray ck):=hb
  unfold Oper.wp
  rcases Es a es xs 0 hks with ⟨g0,g1,_⟩|⟨j,e',p,g0,g1,g2,g3,g4,_⟩
  · have hr:(execOp ac.eval ⟨none,.mapUpdate t x y u,ty,pos,aft,none⟩).run P (dr w d)=.ok .skip { (dr w d) with heap:=(dr w d).heap.setIfInBounds r (.map (es.toArray.push { key:=MKey.enc a,val:=v,born:=ck }) (ck + 1)) }:=by
      simp [execOp,ha.eval hx,ha.eval hy,ha.eval hu,Instr.mapUpdate,run_underlying ht.eq,MapKept.run_getObj_map hbd,MapKept.run_checkKey hk.eq (MKey.key a),MapKept.run_findKey hk.eq g1,MapKept.run_setObj_map _ hbd,Result.andThen]
    rw [hr]
    refine hK _ _ (h { w with heap:=w.heap.setIfInBounds r (.map (es.toArray.push { key:=MKey.enc a,val:=v,born:=ck }) (ck + 1)) } (ck + 1) rfl rfl rfl (by simp) ?_ (fun q hq=>(MapKept.heap_set hb).2 q hq) _ d ha)
    rw [g0]
    simpa [putEs] using (MapKept.heap_set hb).1
  · have hj:es.toArray[j]?=some e':=by simpa using g1
    have hj':es[j]?=some e':=g1
    rw [Nat.zero_add] at g3
    have hr:(execOp ac.eval ⟨none,.mapUpdate t x y u,ty,pos,aft,none⟩).run P (dr w d)=.ok .skip { (dr w d) with heap:=(dr w d).heap.setIfInBounds r (.map (es.toArray.modify j fun e=>{ e with key:=MKey.enc a,val:=v }) ck) }:=by
      simp [execOp,ha.eval hx,ha.eval hy,ha.eval hu,Instr.mapUpdate,run_underlying ht.eq,MapKept.run_getObj_map hbd,MapKept.run_checkKey hk.eq (MKey.key a),MapKept.run_findKey hk.eq g3,hj',g4,MapKept.run_keyThatStays (MKey.key a),MapKept.run_setObj_map _ hbd,Result.andThen]
    rw [hr]
    refine hK _ _ (h { w with heap:=w.heap.setIfInBounds r (.map (es.toArray.modify j fun e=>{ e with key:=MKey.enc a,val:=v }) ck) } ck rfl rfl rfl (by simp) ?_ (fun q hq=>(MapKept.heap_set hb).2 q hq) _ d ha)
    rw [g0]
    have:=(MapKept.heap_set (o':=.map (es.toArray.modify j fun e=>{ e with key:=MKey.enc a,val:=v }) ck) hb).1
    simpa [putEs] using this
theorem Lx {t:TypeId} (hd:Nat.blt d n=true) (h:∀ w',Ext w w'→w'.heap.size=w.heap.size + 1→w'.heap[w.heap.size]?=some (.map #[] 0)→owp P n ops Q rest ((d,.map (some w.heap.size)) :: l) w'):owp P n ops Q (⟨some d,.makeMap t none,ty,pos,aft,none⟩ :: rest) l w :=
  Gb (w':=w.alloc (.map #[] 0)) (fun a e ha=>.inl ⟨.map (some w.heap.size),e,by simp [execOp,Instr.makeMap];exact ⟨rfl,rfl⟩,ha.put hd _⟩)
    (h _ ((Below.refl _ _).alloc (Nat.le_refl _) _) (by simp) (by show (w.heap.push _)[_]?=_;simp))
end
theorem KW {K V:Type} [MKey K] {es:List MapEntry} {xs:List (K×V)} (ck:Nat) (a:K) (v:Value) (y:V) (h:es.map (·.key)=xs.map (fun p=>MKey.enc p.1)):(putEs es ck (MKey.enc a) v (midx xs a)).map (·.key)=(mput xs a y).map (fun p=>MKey.enc p.1):=by
  rcases Es a es xs 0 h with ⟨g0,_,_,_,g4⟩|⟨j,e',p,g0,g1,g2,g3,g4,_,_,g7⟩
  · rw [g0,g4];simp [putEs,h]
  · rw [g0,g7]
    simp only [putEs,List.map_set,← h]
    apply List.ext_getElem?
    intro q
    rw [List.getElem?_map,List.getElem?_modify,List.getElem?_set]
    by_cases hq:j=q
    · subst hq
      have hlt:j < es.length:=AK g1
      simp [g1,hlt]
    · simp [hq]
class OwM (α:Type) [Ow α]:Prop where
  mptr:∀ {w:World} {F M:Nat→Prop} {v:Value} {x:α},Ow.R w F M v x→∃ r,v=.map (some r)
theorem Ob.mptr {α:Type} [Ow α] [OwM α] {i:Nat} {w:World} {O:Lab} {v:Value} {x:α} (h:Ob i w O v x):∃ r,v=.map (some r):=OwM.mptr h.1
structure MapR (e:TypeId) (K V:Type) where
  l:List (K×List V)
def RA {K V:Type} [Rp V] (w:World) (F M:Nat→Prop) (L:Lab) (e:TypeId) (es:List MapEntry) (xs:List (K×List V)) (skip:Option Nat):Prop:=∀ (j:Nat) (en:MapEntry) (p:K×List V),es[j]?=some en→xs[j]?=some p→skip≠some j→RwM w F (fun k=>M k∧L k=j + 1) e en.val p.2
instance {e:TypeId} {K V:Type} [MKey K] [Rp V]:Ow (MapR e K V) where
  R w F M v x:=∃ (r:Nat) (L:Lab) (es:List MapEntry) (ck:Nat),v=.map (some r)∧w.heap[r]?=some (.map es.toArray ck)∧M r∧L r=0∧es.map (·.key)=x.l.map (fun p=>MKey.enc p.1)∧RA w F M L e es x.l none
  agree:=by rintro w w' F M v x ⟨r,L,es,ck,rfl,hb,hM,hL,hk,hv⟩ a1 a2;exact ⟨r,L,es,ck,rfl,(a2 r hM).trans hb,hM,hL,hk,fun j en p h1 h2 h3=>(hv j en p h1 h2 h3).agree a1 fun k hk=>a2 k hk.1⟩
  mono:=by rintro w F M F' M' v x ⟨r,L,es,ck,rfl,hb,hM,hL,hk,hv⟩ a1 a2 a3;exact ⟨r,L,es,ck,rfl,hb,a2 r hM,hL,hk,fun j en p h1 h2 h3=>(hv j en p h1 h2 h3).mono a1 (fun k hk=>⟨a2 k hk.1,hk.2⟩) fun k hf hm=>a3 k hf hm.1⟩
instance {e:TypeId} {K V:Type} [MKey K] [Rp V]:OwM (MapR e K V):=⟨by rintro w F M v x ⟨r,L,es,ck,rfl,_⟩;exact ⟨r,rfl⟩⟩
def MapH {K V:Type} [MKey K] [Rp V] (i:Nat) (w:World) (O:Lab) (r:Nat) (e:TypeId) (x:MapR e K V) (a:K):Prop :=
  (∃ (L:Lab) (es:List MapEntry) (ck:Nat),w.heap[r]?=some (.map es.toArray ck)∧Fr i w O r∧es.map (·.key)=x.l.map (fun p=>MKey.enc p.1)∧RA w (Fr 0 w O) (Fr i w O) L e es x.l (midx x.l a))∧i≠0
section
variable {e : TypeId} {K V : Type} [MKey K] [Rp V] {i j : Nat} {T : Nat → Prop} {w w' : World} {O O' : Lab} {r : Nat} {x : MapR e K V} {a : K}
theorem MapH.st (h:MapH i w O r e x a) (hS:St T w O w' O') (h0:¬ T 0:=by decide) (hi:¬ T i:=by decide):MapH i w' O' r e x a:=by
  obtain ⟨⟨L,es,ck,hb,hM,hk,hr⟩,h1⟩:=h
  refine ⟨⟨L,es,ck,(hS.agree hi r hM).trans hb,hS.fr hi r hM,hk,fun q en p g1 g2 g3=>?_⟩,h1⟩
  exact ((hr q en p g1 g2 g3).agree (hS.agree h0) fun k hk=>hS.agree hi k hk.1).mono (hS.fr h0) (fun k hk=>⟨hS.fr hi k hk.1,hk.2⟩) fun k hf hm=>frNe0 h1 k hf hm.1
theorem MapR.at (h:Ob i w O (.map (some r)) x):Fr i w O r:=by
  obtain ⟨⟨r',L,es,ck,hv,hb,hM,_⟩,_⟩:=h
  injection hv with hv
  injection hv with hv
  subst hv
  exact hM
theorem MapR.get (h:Ob i w O (.map (some r)) x) (a:K):∃ A c,LkV (MKey.desc K) (.slice none 0 0) w r (MKey.enc a) (.slice A (mget ([]:List V) x.l a).length c) (mhas x.l a)∧Vb w (FrS [i] w O) (.slice A (mget ([]:List V) x.l a).length c) (mget ([]:List V) x.l a):=by
  obtain ⟨⟨r',L,es,ck,hv,hb,hM,hL,hk,hra⟩,hi⟩:=h
  injection hv with hv
  injection hv with hv
  subst hv
  rcases Es a es x.l 0 hk with ⟨g0,g1,g2,g3,g4⟩|⟨q,e',p,g0,g1,g2,g3,g4,g5,g6,g7⟩
  · rw [g3,g2]
    exact ⟨none,0,⟨_,ck,none,hb,by simpa using g1,rfl,rfl⟩,Vb.nil _ _⟩
  · rw [g6,g5]
    have h1:=hra q e' p g1 g2 (by simp)
    have h2:Rw i w O e e'.val p.2:=h1.rw (fun _ h=>h) (fun _ h=>h.1) hi
    obtain ⟨A,c,hA⟩:=h2.form
    refine ⟨A,c,⟨_,ck,some (0 + q,e'.val),hb,by simpa using g3,hA.symm,rfl⟩,?_⟩
    rw [← hA]
    exact h2.lend [i] (by simp)
theorem MapR.take (h:Ob i w O (.map (some r)) x) {v:Value} {b:Bool} (hl:LkV (MKey.desc K) (.slice none 0 0) w r (MKey.enc a) v b) (j:Nat) (hj:j≠0) (hij:j≠i):∃ O',St (eT i) w O w O'∧MapH i w O' r e x a∧Rw j w O' e v (mget ([]:List V) x.l a):=by
  obtain ⟨⟨r',L,es,ck,hv,hb,hM,hL,hk,hra⟩,hi⟩:=h
  injection hv with hv
  injection hv with hv
  subst hv
  obtain ⟨es',ck',q,h1,h2,h3,h4⟩:=hl
  rw [hb] at h1
  injection h1 with h1
  injection h1 with h1 h1'
  subst h1
  rw [List.toList_toArray] at h2
  rcases Es a es x.l 0 hk with ⟨g0,g1,g2,g3,g4⟩|⟨n,e',p,g0,g1,g2,g3,g4,g5,g6,g7⟩
  · rw [g1] at h2
    have:=sm h2
    subst this
    rw [g3,h3]
    exact ⟨O,St.refl _ _ _,⟨⟨L,es,ck,hb,hM,hk,fun q en p a1 a2 _=>hra q en p a1 a2 (by simp)⟩,hi⟩,Rw.nil j hj⟩
  · rw [g3] at h2
    have:=sm h2
    subst this
    rw [g6,h3]
    have hrow:=hra n e' p g1 g2 (by simp)
    refine ⟨fun k=>if O k=i∧L k=n + 1 then j else O k,⟨rfl,rfl,rfl,Nat.le_refl _,fun k _ hk=>⟨rfl,if_neg fun h=>hk h.1⟩⟩,⟨⟨L,es,ck,hb,⟨hM.1,?_⟩,hk,fun q en p' a1 a2 a3=>?_⟩,hi⟩,hrow.rw (fun k hk=>⟨hk.1,?_⟩) (fun k hk=>⟨hk.1.1,if_pos ⟨hk.1.2,hk.2⟩⟩) hj⟩
    · show (if _ then _ else _)=_
      rw [if_neg (by rw [hL];omega)];exact hM.2
    · rw [g0] at a3
      have hne:n≠q:=fun e=>a3 (by rw [e])
      refine (hra q en p' a1 a2 (by simp)).mono (fun k hk=>⟨hk.1,?_⟩) (fun k hk=>⟨⟨hk.1.1,?_⟩,hk.2⟩) (fun k hf hm=>frNe0 hi k hf hm.1)
      · show (if _ then _ else _)=_
        rw [if_neg (by rw [hk.2];exact fun h=>hi h.1.symm)];exact hk.2
      · show (if _ then _ else _)=_
        rw [if_neg (by rw [hk.2];omega)];exact hk.1.2
    · show (if _ then _ else _)=_
      rw [if_neg (by rw [hk.2];exact fun h=>hi h.1.symm)];exact hk.2
end
section
variable {P : Program} {n : Nat} {ops : Array Oper} {Q : Post} {rest : List Oper} {l : Env} {w : World} {d : Tmp} {ty : TypeId} {pos : String} {aft : Array Edge} {K V : Type} [MKey K] [Rp V] {i j : Nat} {O : Lab} {r : Nat}
theorem MF {e':TypeId} {x:MapR e' K V} {t k e:TypeId} [TMap P t k e] [TKey P k K] {m y u:Operand} {a:K} {v:Value} {ys:List V} (hM:MapH i w O r e' x a) (hv:Rw j w O e' v ys) (hij:j≠i) (hx:opv l m=some (.map (some r))) (hy:opv l y=some (MKey.enc a)) (hu:opv l u=some v)
    (h:∀ w' O',St (fun q=>q=i∨q=j) w O w' O'→Ob i w' O' (.map (some r)) (⟨mput x.l a ys⟩:MapR e' K V)→owp P n ops Q rest l w'):owp P n ops Q (⟨none,.mapUpdate t m y u,ty,pos,aft,none⟩ :: rest) l w:=by
  obtain ⟨⟨L,es,ck,hb,hM',hk,hra⟩,hi⟩:=hM
  refine LV hb hk hx hy hu fun w' ck' e1 e2 e3 e4 e5 e6=>?_
  have hlen:es.length=x.l.length:=by have:=congrArg List.length hk;simpa using this
  have hj0:j≠0:=hv.2.2
  have hrj:O r≠j:=by rw [hM'.2];exact Ne.symm hij
  let n0:Nat:=match midx x.l a with|some q=>q|none=>es.length
  have hS:St (fun q=>q=i∨q=j) w O w' (fun k=>if O k=j then i else O k):=⟨e1,e2,e3,by omega,fun q hq hT=>⟨e6 q fun e=>hT (by rw [e];exact .inl hM'.2),if_neg fun e=>hT (.inr e)⟩⟩
  have hF:∀ k,Fr 0 w O k→Fr 0 w' (fun k=>if O k=j then i else O k) k:=fun k hk=>⟨by rw [e4];exact hk.1,by show (if _ then _ else _)=_;rw [if_neg (by rw [hk.2];exact Ne.symm hj0)];exact hk.2⟩
  have hA0:Agree (Fr 0 w O) w w':=fun k hk=>e6 k fun e=>by rw [e] at hk;exact hi (hM'.2.symm.trans hk.2)
  have hdis:∀ m:Nat,∀ k,Fr 0 w' (fun k=>if O k=j then i else O k) k→¬ (Fr i w' (fun k=>if O k=j then i else O k) k∧(if O k=j then n0 + 1 else if k=r then 0 else L k)=m):=fun m k hf hm=>frNe0 hi k hf hm.1
  have hnew:RwM w' (Fr 0 w' (fun k=>if O k=j then i else O k)) (fun k=>Fr i w' (fun k=>if O k=j then i else O k) k∧(if O k=j then n0 + 1 else if k=r then 0 else L k)=n0 + 1) e' v ys:=by
    have h1:RwM w (Fr 0 w O) (Fr j w O) e' v ys:=hv.m (fun _ h=>h) (fun _ h=>h) (frNe0 hj0)
    have h2:=h1.agree hA0 (fun k hk=>e6 k fun e=>by rw [e] at hk;exact hrj hk.2)
    exact h2.mono hF (fun k hk=>⟨⟨by rw [e4];exact hk.1,if_pos hk.2⟩,if_pos hk.2⟩) (hdis _)
  have hkeep:∀ q en (p:K×List V),es[q]?=some en→x.l[q]?=some p→midx x.l a≠some q→RwM w' (Fr 0 w' (fun k=>if O k=j then i else O k)) (fun k=>Fr i w' (fun k=>if O k=j then i else O k) k∧(if O k=j then n0 + 1 else if k=r then 0 else L k)=q + 1) e' en.val p.2:=fun q en p g1 g2 g3=>by
    have h1:=hra q en p g1 g2 g3
    have hnr:∀ g,en.val.ownBlock=some g→g≠r:=fun g hg e=>by
      subst e
      have h2:=h1.1
      obtain ⟨cells,o1,o2,o3⟩:=h2
      rcases o1.2 with ⟨hv0,_⟩|⟨g',cap,cur,hv0,_,hh,_⟩
      · rw [hv0] at hg;simp [Value.ownBlock] at hg
      · rw [hv0] at hg
        have:g'=g:=by simpa [Value.ownBlock] using hg
        subst this
        rw [hb] at hh;cases hh
    have h2:RwM w (Fr 0 w O) (fun k=>(Fr i w O k∧L k=q + 1)∧k≠r) e' en.val p.2:=⟨h1.1,fun g hg=>⟨h1.2 g hg,hnr g hg⟩⟩
    have h3:=h2.agree hA0 (fun k hk=>e6 k hk.2)
    refine h3.mono hF (fun k hk=>?_) (hdis _)
    have hkj:O k≠j:=by rw [hk.1.1.2];exact Ne.symm hij
    exact ⟨⟨by rw [e4];exact hk.1.1.1,by show (if _ then _ else _)=_;rw [if_neg hkj];exact hk.1.1.2⟩,by rw [if_neg hkj,if_neg hk.2];exact hk.1.2⟩
  refine h w' _ hS ⟨⟨r,fun k=>if O k=j then n0 + 1 else if k=r then 0 else L k,_,ck',rfl,e5,⟨by rw [e4];exact hM'.1,by show (if _ then _ else _)=_;rw [if_neg hrj];exact hM'.2⟩,by show (if _ then _ else _)=_;rw [if_neg hrj,if_pos rfl],KW ck a v ys hk,?_⟩,hi⟩
  intro q en p h1 h2 _
  rcases Es a es x.l 0 hk with ⟨g0,_,_,_,g4⟩|⟨m,e'',p',g0,g1,g2,g3,g4,_,_,g7⟩
  · have hn0:n0=es.length:=by show (match midx x.l a with|some q=>q|none=>es.length)=_;rw [g0]
    rw [g0] at h1
    rw [g4] at h2
    simp only [putEs] at h1
    by_cases hq:q < es.length
    · rw [List.getElem?_append_left hq] at h1
      rw [List.getElem?_append_left (by omega)] at h2
      exact hkeep q en p h1 h2 (by rw [g0];simp)
    · rw [List.getElem?_append_right (by omega)] at h1
      rw [List.getElem?_append_right (by omega)] at h2
      cases hz:q - es.length with
      | zero =>
        rw [hz] at h1
        rw [show q - x.l.length=0 from by omega] at h2
        simp at h1 h2
        subst h1;subst h2
        have hqe:q=n0:=by rw [hn0];omega
        rw [hqe]
        exact hnew
      | succ m=>rw [hz] at h1;simp at h1
  · have hn0:n0=m:=by show (match midx x.l a with|some q=>q|none=>es.length)=_;rw [g0]
    rw [g0] at h1
    rw [g7] at h2
    simp only [putEs] at h1
    rw [List.getElem?_modify] at h1
    rw [List.getElem?_set] at h2
    by_cases hq:m=q
    · subst hq
      have hlt:=AK g2
      rw [g1] at h1
      simp [hlt] at h1 h2
      subst h1;subst h2
      rw [← hn0]
      exact hnew
    · simp [hq] at h1 h2
      exact hkeep q en p h1 h2 (by rw [g0];simpa using hq)
theorem LW {t:TypeId} (e:TypeId) (i:Nat) (hi:i≠0) (O:Lab) (hd:Nat.blt d n=true) (h:∀ g w' O',St nT w O w' O'→Ob i w' O' (.map (some g)) (⟨[]⟩:MapR e K V)→owp P n ops Q rest ((d,.map (some g)) :: l) w'):owp P n ops Q (⟨some d,.makeMap t none,ty,pos,aft,none⟩ :: rest) l w :=
  Lx hd fun w' hE hs hb=>h _ w' _ (hE.st O fun _=>i) ⟨⟨w.heap.size,fun _=>0,[],0,rfl,hb,⟨by omega,DU (Nat.le_refl _)⟩,rfl,rfl,fun j e p h1 _=>by simp at h1⟩,hi⟩
end
section
variable {P : Program} {n : Nat} {ops : Array Oper} {Q : Post} {rest : List Oper} {l : Env} {w : World} {d : Tmp} {ty : TypeId} {pos : String} {aft : Array Edge} {S : World → Prop} {rr : List (Nat × Bool)} {i' : Nat}
theorem o_lk {K:Type} [MKey K] {t k e:TypeId} [TMap P t k e] [TKey P k K] {z:Value} {size bytes:Nat} [TInfo P e z size bytes] {x y:Operand} {r:Nat} {v:Value} {b:Bool} (a:K) (hv:LkV (MKey.desc K) z w r (MKey.enc a) v b) (hx:opv l x=some (.map (some r))) (hy:opv l y=some (MKey.enc a)) (hd:Nat.blt d n=true) (h:owp P n ops Q rest ((d,v) :: l) w):owp P n ops Q (⟨some d,.lookup t x y false,ty,pos,aft,none⟩ :: rest) l w:=AV (ev_lk hx hy hv) hd h
theorem h_lk {K:Type} [MKey K] {t k e:TypeId} [TMap P t k e] [TKey P k K] {z:Value} {size bytes:Nat} [TInfo P e z size bytes] {x y:Operand} {r:Nat} {v:Value} {b:Bool} (a:K) (hv:∀ w',S w'→LkV (MKey.desc K) z w' r (MKey.enc a) v b) (hi:ops[i']?=some ⟨some d,.lookup t x y false,ty,pos,aft,none⟩) (hx:opv l x=some (.map (some r))) (hy:opv l y=some (MKey.enc a)) (hd:Nat.blt d n=true) (h:hwp P n ops Q S rr ((d,v) :: l) w):hwp P n ops Q S ((i',true) :: rr) l w:=hwp_o hi (Ba (fun w' hS=>ev_lk hx hy (hv w' hS)) hd h)
end
end
end Go.Proofs.Ythomfnkaicjmbaa

/- Own text: what the proof of orbitSame_holds uses, part 4: rules, models and their proofs, plain laws. -/
import Derived.Test.YtecegaabajeolaaGreatOsaC
set_option linter.unusedVariables false
set_option linter.unusedSimpArgs false
namespace Go.Proofs.YtecegaabajeolaaGreat
open Go Go.RowKit
section
open Go Go.RowKit
attribute [local irreducible] ewp owp hwp hwq hws Ev Evg Fn retPost loud loudS Res1
def preOf (t:Tsk) (op:Int):List Fct:=match t.ops[op.toNat]? with|some o=>o.pre|none=>[]
def tests (t:Tsk) (ops:List Int) (v:Nat):Bool:=ops.any fun op=>(factOn (preOf t op) (v:Int)).isSome
def nextF (t:Tsk) (ops:List Int):Nat→Nat→Nat
  | 0,v=>v
  | k + 1,v=>if tests t ops v=true then v else nextF t ops k (v + 1)
def nextV (t:Tsk) (ops:List Int) (v:Nat):Nat:=nextF t ops (t.vars.length - v) v
def valB (t:Tsk) (u:Nat) (x:Nat) (op:Int):Bool:=match factOn (preOf t op) (u:Int) with|some f=>decide (f.val=(x:Int))|none=>false
def restB (t:Tsk) (u:Nat) (op:Int):Bool:=(factOn (preOf t op) (u:Int)).isNone
def mkT (t:Tsk):Nat→List Int→Nat→Tr
  | 0,_,_=>.nil
  | fuel + 1,ops,v =>
    if ops.isEmpty then .nil
    else if nextV t ops v=t.vars.length then .leaf ops
    else .node (nextV t ops v) (t.vars[nextV t ops v]?.getD 0).toNat (fun x=>mkT t fuel (ops.filter (valB t (nextV t ops v) x)) (nextV t ops v + 1)) (mkT t fuel (ops.filter (restB t (nextV t ops v))) (nextV t ops v + 1))
theorem Hi (t:Tsk) (ops:List Int):∀ (k v:Nat),v≤nextF t ops k v∧nextF t ops k v≤v + k∧(∀ u,v≤u→u < nextF t ops k v→tests t ops u=false)∧(nextF t ops k v < v + k→tests t ops (nextF t ops k v)=true)
  | 0,v=>by simp [nextF];intro u h1 h2;omega
  | k + 1,v=>by
    by_cases h:tests t ops v=true
    · simp only [nextF,h,if_true]
      exact ⟨Nat.le_refl _,by omega,fun u h1 h2=>by omega,fun _=>trivial⟩
    · obtain ⟨h1,h2,h3,h4⟩:=Hi t ops k (v + 1)
      simp only [nextF,h]
      refine ⟨by simp;omega,by simp;omega,fun u hu1 hu2=>?_,fun hlt=>h4 (by simp at hlt;omega)⟩
      by_cases he:u=v
      · subst he;simpa using h
      · exact h3 u (by omega) (by simpa using hu2)
theorem Oc (t:Tsk) (ops:List Int) {v u:Nat} (h1:v≤u) (h2:u≤t.vars.length) (h3:∀ x,v≤x→x < u→tests t ops x=false) (h4:u < t.vars.length→tests t ops u=true):nextV t ops v=u:=by
  obtain ⟨g1,g2,g3,g4⟩:=Hi t ops (t.vars.length - v) v
  unfold nextV
  rcases Nat.lt_trichotomy (nextF t ops (t.vars.length - v) v) u with h|h|h
  · have:=h3 _ g1 h
    rw [g4 (by omega)] at this;cases this
  · exact h
  · have:=g3 u h1 h
    rw [h4 (by omega)] at this;cases this
def OpsIn (t:Tsk) (ops:List Int):Prop:=∀ op∈ops,0≤op∧op < t.ops.length
def FitsVals (t:Tsk):Prop:=∀ (i:Nat) o,t.ops[i]?=some o→∀ (v:Nat) f,factOn o.pre (v:Int)=some f→v < t.vars.length→0≤f.val∧∃ n,t.vars[v]?=some n∧f.val < n
structure ByInv (w:World) (base gby:Nat) (vals:List Value) (rv:Value) (L:Nat→List Int) (R:List Int) (m:Nat):Prop where
  len:vals.length=m
  blk:Blk w gby 22 vals
  own:∀ (i:Nat) (u:Value),vals[i]?=some u→Own w base (fun _=>False) 3 u (L i)
  rest:Own w base (fun _=>False) 3 rv R
  apart:∀ (i j:Nat) (u u':Value),i≠j→vals[i]?=some u→vals[j]?=some u'→∀ g,u.ownBlock=some g→u'.ownBlock≠some g
  apartR:∀ (i:Nat) (u:Value),vals[i]?=some u→∀ g,u.ownBlock=some g→rv.ownBlock≠some g
theorem ByInv.ext {w w':World} {base gby:Nat} {vals:List Value} {rv:Value} {L:Nat→List Int} {R:List Int} {m:Nat} (h:ByInv w base gby vals rv L R m) (hE:Ext w w'):ByInv w' base gby vals rv L R m :=
  ⟨h.len,h.blk.ext hE,fun i u hu=>(h.own i u hu).ext hE fun _ hk=>hk.elim,h.rest.ext hE fun _ hk=>hk.elim,h.apart,h.apartR⟩
theorem ByInv.putRest {w w':World} {base gby:Nat} {vals:List Value} {rv rv':Value} {L:Nat→List Int} {R R':List Int} {m:Nat} (h:ByInv w base gby vals rv L R m) (hK:Kept w w' rv) (ho:Own w' base (fun _=>False) 3 rv' R')
    (hat:rv'.ownBlock=rv.ownBlock∨∃ g,rv'.ownBlock=some g∧w.heap.size≤g):ByInv w' base gby vals rv' L R' m:=by
  refine ⟨h.len,hK.blk h.blk (h.rest.blk_ne h.blk (by decide)),fun i u hu=>(h.own i u hu).kept hK (fun _ hk=>hk.elim) (h.apartR i u hu),ho,h.apart,fun i u hu g hg he=>?_⟩
  rcases hat with hat|⟨g',hat,hge⟩
  · exact h.apartR i u hu g hg (hat ▸ he)
  · have:=((h.own i u hu).lt g hg).2
    rw [hat] at he;injection he with he;omega
theorem ByInv.putVal {w w' w'':World} {base gby:Nat} {vals:List Value} {rv u v':Value} {L:Nat→List Int} {R:List Int} {m i:Nat} {xs:List Int} (h:ByInv w base gby vals rv L R m) (hu:vals[i]?=some u) (hK:Kept w w' u) (ho:Own w' base (fun _=>False) 3 v' xs)
    (hat:v'.ownBlock=u.ownBlock∨∃ g,v'.ownBlock=some g∧w.heap.size≤g) (hU:Upd w' w'' gby 22 (vals.set i v')):ByInv w'' base gby (vals.set i v') rv (fun j=>if j=i then xs else L j) R m:=by
  have hi:i < vals.length:=(List.getElem?_eq_some_iff.1 hu).1
  have key:∀ {v:Value} {ys:List Int},Own w' base (fun _=>False) 3 v ys→Own w'' base (fun _=>False) 3 v ys:=fun hv=>by
    have hne:=hv.blk_ne (hK.blk h.blk ((h.own i u hu).blk_ne h.blk (by decide))) (by decide)
    exact hv.agree (fun _ hk=>hk.elim) fun g hg=>hU.other g fun he=>hne (he ▸ hg)
  have sep:∀ {y:Value} {ys:List Int},Own w base (fun _=>False) 3 y ys→(∀ g,u.ownBlock=some g→y.ownBlock≠some g)→∀ g,v'.ownBlock=some g→y.ownBlock≠some g:=fun hy hsep g hg he=>by
    rcases hat with hat|⟨g',hat,hge⟩
    · exact hsep g (hat ▸ hg) he
    · have:=(hy.lt g he).2
      rw [hat] at hg;injection hg with hg;omega
  refine ⟨by rw [List.length_set];exact h.len,hU.blk,fun j y hy=>?_,key (h.rest.kept hK (fun _ hk=>hk.elim) fun g hg he=>h.apartR i u hu g he hg),fun j k y y' hjk hy hy' g hg=>?_,fun j y hy g hg=>?_⟩
  · by_cases hj:j=i
    · subst hj
      rw [List.getElem?_set_self hi] at hy
      injection hy with hy;subst hy
      rw [if_pos rfl];exact key ho
    · rw [List.getElem?_set_ne (Ne.symm hj)] at hy
      rw [if_neg hj]
      exact key ((h.own j y hy).kept hK (fun _ hk=>hk.elim) (h.apart j i y u hj hy hu))
  · by_cases hj:j=i
    · subst hj
      rw [List.getElem?_set_self hi] at hy
      injection hy with hy;subst hy
      rw [List.getElem?_set_ne hjk] at hy'
      exact sep (h.own k y' hy') (h.apart j k u y' hjk hu hy') g hg
    · rw [List.getElem?_set_ne (Ne.symm hj)] at hy
      by_cases hk:k=i
      · subst hk
        rw [List.getElem?_set_self hi] at hy'
        injection hy' with hy';subst hy'
        intro he
        exact sep (h.own j y hy) (h.apart k j u y (Ne.symm hj) hu hy) g he hg
      · rw [List.getElem?_set_ne (Ne.symm hk)] at hy'
        exact h.apart j k y y' hjk hy hy' g hg
  · by_cases hj:j=i
    · subst hj
      rw [List.getElem?_set_self hi] at hy
      injection hy with hy;subst hy
      exact sep h.rest (h.apartR j u hu) g hg
    · rw [List.getElem?_set_ne (Ne.symm hj)] at hy
      exact h.apartR j y hy g hg
instance:Rp Tr where
  isAgg:=false
  size:=1
  R w F cs T:=∃ q,cs=[.pointer q]∧TrR w F T (.pointer q)
  len:=by rintro w F cs x ⟨v,rfl,_⟩;rfl
  one:=by rintro w F cs x ⟨v,rfl,h⟩ u hu;simp at hu;subst hu;rfl
  agree:=by rintro w w' F cs x ⟨v,rfl,h⟩ ha;exact ⟨v,rfl,TrR.agree ha h⟩
  mono:=by rintro w F G cs x ⟨v,rfl,h⟩ ha;exact ⟨v,rfl,TrR.mono ha h⟩
def more (F:Nat→Prop) (w w':World):Nat→Prop:=fun k=>F k∨w.heap.size≤k∧k < w'.heap.size
theorem FC {p:Int→Bool} {l:List Int} {k:Nat} {x:Int} (h:l[k]?=some x):(l.take (k + 1)).filter p=(l.take k).filter p ++ if p x=true then [x] else []:=by
  rw [List.take_add_one,h,List.filter_append]
  cases hp:p x<;>simp [hp]
theorem Ns (n:Nat):(madeCells (Value.slice none 0 0).cells (n * 1)).toList=List.replicate n (.slice none 0 0):=Ll _ n rfl
theorem genBuild (t:Tsk) (hdom:VarsOk t) (hfv:FitsVals t) (hvl:t.vars.length≤64):∀ (fuel:Nat) (w:World) (gv opsv:Value) (ops:List Int) (v:Nat) (F:Nat→Prop),GenB w (All w) gv t→Vb w F opsv ops→(∀ k,F k→k < w.heap.size)→OpsIn t ops→ops.length≤4096 →
    v≤t.vars.length→t.vars.length < fuel + v→Fn Tryz.prog 56 [gv,opsv,.int .i64 (v:Int)] w fun p w'=>TrR w' (more F w w') (mkT t fuel ops v) p∧Ext w w':=by
  intro fuel
  induction fuel with
  | zero=>intro w gv opsv ops v F _ _ _ _ _ h1 h2;omega
  | succ fuel ih =>
    intro w gv opsv ops v F hg0 hops hF hin hlen hvn hfuel
    obtain ⟨gb,a,b,c,d,rp,rfl,hgb,hbg,hvars,hinit,hgoal,hopsv⟩:=id hg0
    obtain ⟨Av,cv,rfl⟩:=hvars.form
    obtain ⟨Ax,cx,rfl⟩:=hops.form
    refine AK Tryz.func56 rfl Tryz.ntmps56 rfl ?_
    repeat (first|refine At ?_|refine Ah rfl ?_|refine Ae rfl ?_)
    refine Dg rfl rfl fun w1 hN1=>?_
    refine Dg rfl rfl fun w2 hN2=>?_
    have hE2:Ext w w2:=hN1.ext.trans' hN2.ext
    have hb1:Blk w2 w.heap.size 60 [.pointer (some ⟨gb,0,none⟩)]:=hN1.blk.ext hN2.ext
    have hb2:Blk w2 w1.heap.size 3 [.int .i64 (v:Int)]:=hN2.blk
    have hg12:w1.heap.size≠w.heap.size:=by rw [hN1.size];omega
    have hg2w:w.heap.size≤w1.heap.size:=hN1.ext.size
    have hz1:w1.heap.size=w.heap.size + 1:=hN1.size
    have hz2:w2.heap.size=w1.heap.size + 1:=hN2.size
    (refine Aw rfl rfl ?_<;>(refine o_z ?_))
    repeat (first|refine At ?_|refine Ah rfl ?_|refine Ae rfl ?_)
    by_cases hemp:ops.length=0
    · have:ops=[]:=List.eq_nil_of_length_eq_zero hemp
      subst this
      ((repeat (first|refine At ?_|refine Ah rfl ?_|refine Ae rfl ?_))<;>(refine Ar rfl rfl ?_<;>refine AY rfl rfl ?_<;>(first|refine MC rfl rfl rfl ?_|refine MD rfl rfl rfl ?_)<;>(refine o_z ?_))<;>(repeat (first|refine At ?_|refine Ah rfl ?_|refine Ae rfl ?_))<;>(refine Aw rfl rfl ?_<;>(refine o_z ?_))<;>(repeat (first|refine At ?_|refine Ah rfl ?_|refine Ae rfl ?_)))
      exact ret1 rfl rfl ⟨rfl,hE2⟩
    have hemp':ops.isEmpty=false:=by cases ops<;>simp at *
    (refine Ar rfl rfl ?_<;>refine AY rfl rfl ?_<;>(first|refine MC rfl rfl rfl ?_|refine MD rfl rfl rfl ?_)<;>(refine o_z ?_))
    refine Ae rfl (AO ?_)
    refine LY (fun l' w'=>∃ u:Nat,subs l' [(1,.slice Ax ops.length cx),(3,.pointer (some ⟨w.heap.size,0,none⟩)),(5,.pointer (some ⟨w1.heap.size,0,none⟩))]∧Ext w w'∧Blk w' w.heap.size 60 [.pointer (some ⟨gb,0,none⟩)]∧Blk w' w1.heap.size 3 [.int .i64 (u:Int)] ∧
      v≤u∧u≤t.vars.length∧(∀ x,v≤x→x < u→tests t ops x=false)∧(u < t.vars.length→tests t ops u=true)) ?_ ?_
    · repeat (first|refine At ?_|refine Ah rfl ?_|refine Ae rfl ?_)
      refine EI (fun _:Nat=>[(1,.slice Ax ops.length cx),(3,.pointer (some ⟨w.heap.size,0,none⟩)),(5,.pointer (some ⟨w1.heap.size,0,none⟩))]) (fun u w'=>Ext w w'∧Blk w' w.heap.size 60 [.pointer (some ⟨gb,0,none⟩)]∧Blk w' w1.heap.size 3 [.int .i64 (u:Int)] ∧
        v≤u∧u≤t.vars.length∧∀ x,v≤x→x < u→tests t ops x=false) (fun u=>t.vars.length - u) v ⟨hE2,hb1,hb2,Nat.le_refl _,hvn,fun x h1 h2=>by omega⟩ ⟨rfl,rfl,rfl,trivial⟩ ?_
      rintro u w3 ⟨hE3,hb1,hb2,hvu,hun,hno⟩
      have hb3:=hbg.ext hE3
      repeat (first|refine At ?_|refine Ah rfl ?_|refine Ae rfl ?_)
      refine Cw (Ext w3) [(0,true),(1,true),(2,true),(3,true),(4,true),(5,true),(6,true),(7,true),(8,true),(9,true),(10,true),(11,false),(12,true),(13,true)] (by kernel_rfl) rfl (by kernel_rfl) (Below.refl _ _) ?_
      by_cases hlt:u < t.vars.length
      · (refine FV rfl rfl rfl ?_<;>refine FV rfl rfl rfl ?_<;>refine Dr rfl rfl rfl ?_<;>refine Be rfl rfl rfl ?_<;>refine Be rfl rfl rfl ?_<;>refine FV rfl rfl rfl ?_<;>refine IM rfl rfl rfl ?_<;>(first|refine Gw rfl rfl rfl rfl ?_|refine Gx rfl rfl rfl rfl ?_|refine Fz rfl rfl rfl rfl (fun _=>?_) fun _=>?_)<;>refine AN rfl rfl rfl ?_<;>(refine AA rfl ?_;(first|(refine Ay rfl rfl ?_;refine Cs rfl rfl ?_)|refine AC rfl rfl rfl rfl ?_))<;>(refine AA rfl ?_;(first|(refine Ay rfl rfl ?_;refine Qj rfl rfl rfl ?_)|refine AC rfl rfl rfl rfl ?_)))
        refine BT rfl ?_
        refine Az rfl rfl ?_
        have hV3:V w3 (.slice Ax ops.length cx) ops:=Vb.mono (Vb.agree hops (hE3.agree hF)) fun k hk=>Nat.lt_of_lt_of_le (hF k hk) hE3.size
        have hex:(∃ x∈ops,(factOn (preOf t x) (u:Int)).isSome=true)↔tests t ops u=true:=by unfold tests;rw [List.any_eq_true]
        refine CJ rfl rfl (containsFuncInts (g:=83) (caps:=[.pointer (some ⟨w.heap.size,0,none⟩),.pointer (some ⟨w1.heap.size,0,none⟩)]) (p:=fun op=>(factOn (preOf t op) (u:Int)).isSome=true) hV3 ?_) ?_ ?_
        · intro vx x w' hx hE' hvx
          obtain ⟨hvx,_⟩:=hvx
          obtain rfl:vx=.int .i64 x:=by simpa using hvx
          obtain ⟨hx0,hx1⟩:=hin x hx
          obtain ⟨j,rfl⟩:=Int.eq_ofNat_of_zero_le hx0
          obtain ⟨o,ho⟩:=AD (l:=t.ops) (k:=j) (by omega)
          refine (genBuild1 (hg0.ext (hE3.trans' hE')) ho (hb1.ext hE') (hb2.ext hE')).mono fun r w'' ⟨hr,hE''⟩=>⟨?_,hE''⟩
          rw [hr,Jp]
          simp [preOf,ho]
        · intro w4 hp hE4
          refine Cl hE4 ?_
          ((refine AA rfl ?_;(first|(refine Ay rfl rfl ?_;(first|refine Gk rfl rfl ?_|refine Gl rfl rfl ?_|refine NV rfl rfl ?_))|refine AC rfl rfl rfl rfl ?_))<;>(first|refine Cm rfl rfl rfl rfl ?_|refine BX rfl rfl rfl rfl ?_)<;>(refine h_z ?_))
          repeat (first|refine At ?_|refine Ah rfl ?_|refine Ae rfl ?_)
          exact ⟨u,⟨rfl,rfl,rfl,trivial⟩,hE3.trans' hE4,hb1.ext hE4,hb2.ext hE4,hvu,hun,hno,fun _=>hex.1 hp⟩
        · intro w4 hp hE4
          refine Cl hE4 ?_
          ((refine AA rfl ?_;(first|(refine Ay rfl rfl ?_;(first|refine Gk rfl rfl ?_|refine Gl rfl rfl ?_|refine NV rfl rfl ?_))|refine AC rfl rfl rfl rfl ?_))<;>(first|refine Cm rfl rfl rfl rfl ?_|refine BX rfl rfl rfl rfl ?_)<;>(refine h_z ?_))
          repeat (first|refine At ?_|refine Ah rfl ?_|refine Ae rfl ?_)
          replace hb1:=hb1.ext hE4
          replace hb2:=hb2.ext hE4
          (refine AG rfl rfl ?_<;>(first|refine FO rfl rfl ?_|refine FN rfl rfl rfl ?_))
          refine Cc rfl rfl hb2 rfl (Nat.le_refl _) (by simp [Value.cells,Value.oneCell']) fun w5 hU=>?_
          ((refine o_z ?_))
          refine ⟨u + 1,⟨rfl,rfl,rfl,trivial⟩,⟨(hE3.trans' hE4).trans (hU.below hg2w),hb1.keep (hU.other _ (fun h=>hg12 h.symm)),hU.blk,by omega,by omega,fun x h1 h2=>?_⟩,by omega⟩
          by_cases he:x=u
          · subst he
            cases hq:tests t ops x
            · rfl
            · exact absurd (hex.2 hq) hp
          · exact hno x h1 (by omega)
      · (refine FV rfl rfl rfl ?_<;>refine FV rfl rfl rfl ?_<;>refine Dr rfl rfl rfl ?_<;>refine Be rfl rfl rfl ?_<;>refine Be rfl rfl rfl ?_<;>refine FV rfl rfl rfl ?_<;>refine IM rfl rfl rfl ?_<;>(first|refine Gw rfl rfl rfl rfl ?_|refine Gx rfl rfl rfl rfl ?_|refine Fz rfl rfl rfl rfl (fun _=>?_) fun _=>?_)<;>refine AN rfl rfl rfl ?_<;>(refine AA rfl ?_;(first|(refine Ay rfl rfl ?_;refine Cs rfl rfl ?_)|refine AC rfl rfl rfl rfl ?_))<;>(refine AA rfl ?_;(first|(refine Ay rfl rfl ?_;refine Qj rfl rfl rfl ?_)|refine AC rfl rfl rfl rfl ?_)))
        refine BT rfl ?_
        refine Au rfl rfl rfl rfl ?_
        refine Cl (Below.refl _ _) ?_
        ((refine AA rfl ?_;(first|(refine Ay rfl rfl ?_;(first|refine Gk rfl rfl ?_|refine Gl rfl rfl ?_|refine NV rfl rfl ?_))|refine AC rfl rfl rfl rfl ?_))<;>(first|refine Cm rfl rfl rfl rfl ?_|refine BX rfl rfl rfl rfl ?_)<;>(refine h_z ?_))
        repeat (first|refine At ?_|refine Ah rfl ?_|refine Ae rfl ?_)
        exact ⟨u,⟨rfl,rfl,rfl,trivial⟩,hE3,hb1,hb2,hvu,hun,hno,fun h=>absurd h hlt⟩
    rintro l' w3 ⟨u,hsub,hE3,hb1,hb2,hvu,hun,hno,hyes⟩
    refine AQ _ hsub ?_
    clear hsub
    have hnx:nextV t ops v=u:=Oc t ops hvu hun hno hyes
    have hb3:=hbg.ext hE3
    have hV3:Vb w3 F (.slice Ax ops.length cx) ops:=Vb.agree hops (hE3.agree hF)
    repeat (first|refine At ?_|refine Ah rfl ?_|refine Ae rfl ?_)
    refine Cw (·=w3) [(0,true),(1,true),(2,true),(3,true),(4,true),(5,true),(6,true),(7,true)] (by kernel_rfl) rfl (by kernel_rfl) rfl ?_
    by_cases hlast:u=t.vars.length
    · (refine CY rfl rfl rfl ?_<;>refine CY rfl rfl rfl ?_<;>refine Dr rfl rfl rfl ?_<;>refine Be rfl rfl rfl ?_<;>refine Be rfl rfl rfl ?_<;>refine CY rfl rfl rfl ?_<;>refine IM rfl rfl rfl ?_<;>(first|refine OU rfl rfl rfl rfl ?_|refine OV rfl rfl rfl rfl ?_|refine OW rfl rfl rfl rfl (fun _=>?_) fun _=>?_)<;>(refine h_z ?_))<;>(repeat (first|refine At ?_|refine Ah rfl ?_|refine Ae rfl ?_))
      (refine Ar rfl rfl ?_<;>refine Dd rfl rfl rfl ?_)
      refine Dg rfl rfl fun w4 hN4=>?_
      (refine Aw rfl rfl ?_<;>(refine o_z ?_))
      repeat (first|refine At ?_|refine Ah rfl ?_|refine Ae rfl ?_)
      have hE4:Ext w w4:=hE3.trans' hN4.ext
      have hT:mkT t (fuel + 1) ops v=.leaf ops:=by simp only [mkT,hemp',hnx,hlast];simp
      rw [hT]
      refine ret1 rfl rfl ⟨⟨w3.heap.size,.slice Ax ops.length cx,rfl,.inr ⟨hE3.size,hN4.blk.lt⟩,hN4.blk,?_⟩,hE4⟩
      exact Vb.mono (Vb.agree hV3 (hN4.ext.agree fun k hk=>Nat.lt_of_lt_of_le (hF k hk) hE3.size)) fun k hk=>.inl hk
    have hun':u < t.vars.length:=by omega
    obtain ⟨n,hn⟩:=AD hun'
    have hn1:=hdom u n hn
    obtain ⟨m,rfl⟩:=Int.eq_ofNat_of_zero_le (show 0≤n by omega)
    have hT:mkT t (fuel + 1) ops v=.node u m (fun x=>mkT t fuel (ops.filter (valB t u x)) (u + 1)) (mkT t fuel (ops.filter (restB t u)) (u + 1)):=by
      simp only [mkT,hemp',hnx,hlast,hn];simp
    rw [hT]
    clear hT hnx
    (refine CY rfl rfl rfl ?_<;>refine CY rfl rfl rfl ?_<;>refine Dr rfl rfl rfl ?_<;>refine Be rfl rfl rfl ?_<;>refine Be rfl rfl rfl ?_<;>refine CY rfl rfl rfl ?_<;>refine IM rfl rfl rfl ?_<;>(first|refine OU rfl rfl rfl rfl ?_|refine OV rfl rfl rfl rfl ?_|refine OW rfl rfl rfl rfl (fun _=>?_) fun _=>?_)<;>(refine h_z ?_))<;>(repeat (first|refine At ?_|refine Ah rfl ?_|refine Ae rfl ?_))
    obtain ⟨bv,ov,ce,rfl,hbv,_,hdv,rfl,_⟩:=hvars.elem hn
    refine Cw (Ext w3) [(0,true),(1,true),(2,true),(3,true),(4,true),(5,true),(6,true),(7,true),(8,false),(9,true)] (by kernel_rfl) rfl (by kernel_rfl) (Below.refl _ _) ?_
    have hb1s:=hb1
    have hb2s:=hb2
    replace hb1:∀ w',Ext w3 w'→Blk w' w.heap.size 60 [.pointer (some ⟨gb,0,none⟩)]:=fun w' h=>hb1s.ext h
    replace hb2:∀ w',Ext w3 w'→Blk w' w1.heap.size 3 [.int .i64 (u:Int)]:=fun w' h=>hb2s.ext h
    have hb3s:=hb3
    replace hb3:∀ w',Ext w3 w'→Blk w' gb 107 [.slice (some ⟨bv,ov,none⟩) t.vars.length cv,b,c,d,.pointer rp]:=fun w' h=>hb3s.ext h
    have hd1:∀ w',Ext w3 w'→cellsAt w' bv (ov + u * 1) [.int .i64 (m:Int)]:=fun w' h=>HG hdv hbv (hE3.trans' h)
    ((first|refine Eg rfl rfl rfl ?_|refine AW rfl rfl rfl ?_)<;>refine Dr rfl rfl rfl ?_<;>refine Be rfl rfl rfl ?_<;>refine Be rfl rfl rfl ?_<;>(first|refine Eg rfl rfl rfl ?_|refine AW rfl rfl rfl ?_)<;>(first|refine Eg rfl rfl rfl ?_|refine AW rfl rfl rfl ?_)<;>refine HL rfl rfl rfl rfl ?_<;>(first|refine Eg rfl rfl rfl ?_|refine AW rfl rfl rfl ?_))
    refine BT rfl ?_
    refine IJ rfl rfl (by omega) (by omega) rfl fun w4 hN4=>?_
    refine Cl hN4.ext ?_
    (refine Fa rfl rfl rfl ?_<;>(refine h_z ?_))
    have hE4:Ext w w4:=hE3.trans' hN4.ext
    have hw23:w2.heap.size≤w3.heap.size:=by have:=hb2s.lt;omega
    replace hb1:=hb1s.ext hN4.ext
    replace hb2:=hb2s.ext hN4.ext
    clear hb3 hd1
    repeat (first|refine At ?_|refine Ah rfl ?_|refine Ae rfl ?_)
    ((repeat (first|refine At ?_|refine Ah rfl ?_|refine Ae rfl ?_))<;>(refine Aw rfl rfl ?_<;>(refine o_z ?_))<;>(repeat (first|refine At ?_|refine Ah rfl ?_|refine Ae rfl ?_))<;>(refine Ar rfl rfl ?_<;>refine AY rfl rfl ?_<;>refine Ar rfl rfl ?_<;>(refine o_z ?_))<;>(repeat (first|refine At ?_|refine Ah rfl ?_|refine Ae rfl ?_)))
    have hby0:ByInv w4 w2.heap.size w3.heap.size (List.replicate m (.slice none 0 0)) (.slice none 0 0) (fun i=>((ops.take 0).filter (valB t u i))) ((ops.take 0).filter (restB t u)) m:=by
      have hget:∀ (i:Nat) (x:Value),(List.replicate m (Value.slice none 0 0))[i]?=some x→x=.slice none 0 0:=fun i x h=>by
        rw [List.getElem?_replicate] at h;split at h<;>simp at h;exact h.symm
      refine ⟨by simp,by have:=hN4.blk;rwa [Ns] at this,fun i x h=>?_,by simpa using Own.nil _ _ _ _,fun i j x y _ hx _ g hg=>?_,fun i x hx g hg=>?_⟩
      · rw [hget i x h];simpa using Own.nil _ _ _ _
      · rw [hget i x hx] at hg;simp [Value.ownBlock] at hg
      · rw [hget i x hx] at hg;simp [Value.ownBlock] at hg
    refine BM ops.length (by omega) (fun x:List Value×Value=>[(1,.slice Ax ops.length cx),(3,.pointer (some ⟨w.heap.size,0,none⟩)),(5,.pointer (some ⟨w1.heap.size,0,none⟩)),(7,.slice (some ⟨w3.heap.size,0,none⟩) m m),(8,x.2),(55,.slice Ax ops.length cx)])
      (fun k x w'=>Ext w w'∧Blk w' w.heap.size 60 [.pointer (some ⟨gb,0,none⟩)]∧Blk w' w1.heap.size 3 [.int .i64 (u:Int)]∧ByInv w' w2.heap.size w3.heap.size x.1 x.2 (fun i=>((ops.take k).filter (valB t u i))) ((ops.take k).filter (restB t u)) m) (List.replicate m (.slice none 0 0),.slice none 0 0)
      ⟨hE4,hb1,hb2,hby0⟩ ⟨rfl,rfl,rfl,rfl,rfl,rfl,rfl,rfl,trivial⟩ (fun _=>⟨rfl,rfl⟩) ⟨rfl,rfl,rfl⟩ ⟨rfl,rfl⟩ ?_ ?_
    · rintro k ⟨vals,rv⟩ w5 hk ⟨hE5,hb1,hb2,hby⟩
      dsimp only at hby
      obtain ⟨x,hx⟩:=AD hk
      obtain ⟨hx0,hx1⟩:=hin x (List.mem_of_getElem? hx)
      obtain ⟨j,rfl⟩:=Int.eq_ofNat_of_zero_le hx0
      obtain ⟨o,ho⟩:=AD (l:=t.ops) (k:=j) (by omega)
      have hpre:preOf t (j:Int)=o.pre:=by simp [preOf,ho]
      obtain ⟨b2,o2,ce,rfl,hbF,_,hd0,rfl,hxin⟩:=hops.elem hx
      have hd1:=HG hd0 (hF _ hbF) hE5
      ((repeat (first|refine At ?_|refine Ah rfl ?_|refine Ae rfl ?_))<;>(refine CQ rfl rfl rfl ?_<;>refine AG rfl rfl ?_<;>refine Aw rfl rfl ?_<;>(refine o_z ?_))<;>(repeat (first|refine At ?_|refine Ah rfl ?_|refine Ae rfl ?_))<;>(refine AG rfl rfl ?_<;>refine Ar rfl rfl ?_<;>refine AG rfl rfl ?_)<;>(repeat (first|refine At ?_|refine Ah rfl ?_|refine Ae rfl ?_)))
      refine By rfl rfl (genFact (hg0.ext hE5) ho) ?_
      rintro _ w6 ⟨rfl,hE6⟩
      replace hb1:=hb1.ext hE6
      replace hb2:=hb2.ext hE6
      replace hby:=hby.ext hE6
      have hE06:Ext w w6:=hE5.trans' hE6
      have hkl:((ops.take k).filter (restB t u)).length≤4096:=Nat.le_trans (List.length_filter_le _ _) (by rw [List.length_take];omega)
      cases hf:factOn o.pre (u:Int) with
      | none =>
        simp only [factV]
        (refine Ar rfl rfl ?_<;>refine CE rfl rfl rfl ?_<;>refine CE rfl rfl rfl ?_)
        refine Cg rfl rfl rfl (by simp [Value.cells,Value.oneCell']) fun w7 hN7=>?_
        replace hb1:=hb1.ext hN7.ext
        replace hb2:=hb2.ext hN7.ext
        replace hby:=hby.ext hN7.ext
        have hE7:Ext w w7:=hE06.trans' hN7.ext
        (refine Aw rfl rfl ?_<;>(refine o_z ?_))
        repeat (first|refine At ?_|refine Ah rfl ?_|refine Ae rfl ?_)
        ((repeat (first|refine At ?_|refine Ah rfl ?_|refine Ae rfl ?_))<;>(refine Ar rfl rfl ?_<;>(refine o_z ?_))<;>(repeat (first|refine At ?_|refine Ah rfl ?_|refine Ae rfl ?_)))
        (refine Ar rfl rfl ?_<;>refine Ar rfl rfl ?_)
        have hl2:=hb2.lt
        refine KU (a:=(j:Int)) rfl rfl rfl hby.rest (fun _ h=>h.elim) (by omega) ⟨rfl,hxin⟩ (by decide) (by decide) (by omega) (by omega) ⟨rfl,rfl⟩ fun rv' w8 ho8 hK8 hat=>?_
        have hB8:Below w2.heap.size w7 w8:=hby.rest.fits (Nat.le_refl _) (by omega) hK8
        have hby8:=hby.putRest hK8 ho8 hat
        (refine Aw rfl rfl ?_<;>(refine o_z ?_))
        repeat (first|refine At ?_|refine Ah rfl ?_|refine Ae rfl ?_)
        refine ⟨(vals,rv'),⟨rfl,rfl,rfl,rfl,rfl,rfl,rfl,rfl,trivial⟩,hE7.trans (hB8.mono (by omega)),hb1.keep (hB8.block _ (by omega)),hb2.keep (hB8.block _ (by omega)),?_⟩
        have e1:∀ i,(ops.take (k + 1)).filter (valB t u i)=(ops.take k).filter (valB t u i):=fun i=>by rw [FC hx];simp [valB,hpre,hf]
        have e2:(ops.take (k + 1)).filter (restB t u)=(ops.take k).filter (restB t u) ++ [(j:Int)]:=by rw [FC hx];simp [restB,hpre,hf]
        dsimp only
        rw [e2]
        simp only [e1]
        exact hby8
      | some f =>
        obtain ⟨hf0,n',hn',hf1⟩:=hfv j o ho u f hf hun'
        rw [hn] at hn';injection hn' with hn';subst hn'
        obtain ⟨x0,hj1⟩:=Int.eq_ofNat_of_zero_le hf0
        have hx0m:x0 < m:=by omega
        obtain ⟨u0,hu0⟩:=AD (l:=vals) (k:=x0) (by rw [hby.len];exact hx0m)
        simp only [factV]
        (refine Ar rfl rfl ?_<;>refine CE rfl rfl rfl ?_<;>refine CE rfl rfl rfl ?_)
        refine Cg rfl rfl rfl (by simp [Value.cells,Value.oneCell']) fun w7 hN7=>?_
        replace hb1:=hb1.ext hN7.ext
        replace hb2:=hb2.ext hN7.ext
        replace hby:=hby.ext hN7.ext
        have hE7:Ext w w7:=hE06.trans' hN7.ext
        have hbf:=hN7.blk
        (refine Aw rfl rfl ?_<;>(refine o_z ?_))
        repeat (first|refine At ?_|refine Ah rfl ?_|refine Ae rfl ?_)
        ((repeat (first|refine At ?_|refine Ah rfl ?_|refine Ae rfl ?_))<;>(refine Ar rfl rfl ?_<;>(refine o_z ?_))<;>(repeat (first|refine At ?_|refine Ah rfl ?_|refine Ae rfl ?_)))
        have hl2:=hb2.lt
        have hown0:=hby.own x0 u0 hu0
        have hkl0:((ops.take k).filter (valB t u x0)).length≤4096:=Nat.le_trans (List.length_filter_le _ _) (by rw [List.length_take];omega)
        refine Cw (fun w'=>Blk w' w6.heap.size 45 [.int .i64 f.var,.int .i64 f.val]∧Blk w' w3.heap.size 22 vals) [(0,true),(1,true),(2,true),(3,true),(4,true),(5,true),(6,true),(7,true),(8,true),(9,false),(10,false),(11,true),(12,false)] (by kernel_rfl) rfl (by kernel_rfl) ⟨hbf,hby.blk⟩ ?_
        have hb1s:=hb1
        have hb2s:=hb2
        clear hb2
        replace hb1:∀ w',(Blk w' w6.heap.size 45 [.int .i64 f.var,.int .i64 f.val]∧Blk w' w3.heap.size 22 vals)→Blk w' w6.heap.size 45 [.int .i64 f.var,.int .i64 f.val]:=fun _ h=>h.1
        have hc1:∀ w',(Blk w' w6.heap.size 45 [.int .i64 f.var,.int .i64 f.val]∧Blk w' w3.heap.size 22 vals)→w'.cell? ⟨w3.heap.size,0 + x0 * 1,none⟩=some u0:=fun _ h=>h.2.cell (by rw [Nat.zero_add,Nat.mul_one];exact hu0)
        (refine AN rfl rfl rfl ?_<;>refine Be rfl rfl rfl ?_<;>(first|refine Eg rfl rfl rfl ?_|refine AW rfl rfl rfl ?_)<;>refine AN rfl rfl rfl ?_<;>refine Be rfl rfl rfl ?_<;>(first|refine Eg rfl rfl rfl ?_|refine AW rfl rfl rfl ?_)<;>refine HL rfl rfl rfl rfl ?_<;>(first|refine Eg rfl rfl rfl ?_|refine AW rfl rfl rfl ?_)<;>refine AN rfl rfl rfl ?_)
        refine BT rfl ?_
        refine Ds rfl rfl rfl (by simp [Value.cells]) (by decide) rfl fun w8 hN8=>?_
        refine Cl ⟨hbf.ext hN8.ext,hby.blk.ext hN8.ext⟩ ?_
        refine BT rfl ?_
        refine EH (α:=Int) (A:=some ⟨w7.heap.size,0,none⟩) (c:=1) (ys:=[(j:Int)]) (cells:=[.int .i64 (j:Int)]) rfl rfl (hown0.ext hN8.ext fun _ h=>h.elim) (fun _ h=>h.elim) (by have:=hN8.size;omega) (.single ⟨rfl,hxin⟩) (fun _=>⟨_,_,rfl,hN8.blk.cellsAt⟩) (by decide) (by rw [List.length_singleton];omega) (by rw [List.length_singleton];omega) rfl fun v' w9 ho9 hg9 hat=>?_
        have hK9:Kept w7 w9 u0:=⟨hg9.os.trans hN8.ext.os,hg9.tape.trans hN8.ext.tape,hg9.output.trans hN8.ext.output,Nat.le_trans hN8.ext.size hg9.size,fun k hk hne=>by rw [hg9.block k (Nat.lt_of_lt_of_le hk hN8.ext.size) (fun he=>hne he.symm),hN8.ext.block k hk]⟩
        have hbf9:=hK9.blk hbf (hown0.blk_ne hbf (by decide))
        have hby9:=hK9.blk hby.blk (hown0.blk_ne hby.blk (by decide))
        have hB9:Below w2.heap.size w7 w9:=hown0.fits (Nat.le_refl _) (by omega) hK9
        refine Cl ⟨hbf9,hby9⟩ ?_
        (refine HL rfl rfl rfl rfl ?_)
        refine BT rfl ?_
        obtain ⟨A9,c9,rfl⟩:=ho9.form
        refine Cc (g:=w3.heap.size) (o:=0 + x0 * 1) rfl rfl hby9 rfl (by rw [hby.len];show 0 + x0 * 1 + 1≤m;omega) (by simp [Value.cells,Value.oneCell']) fun w10 hU=>?_
        have hset:setFrom vals (0 + x0 * 1) [.slice A9 (List.filter (valB t u x0) (List.take k ops) ++ [(j:Int)]).length c9]=vals.set x0 (.slice A9 (List.filter (valB t u x0) (List.take k ops) ++ [(j:Int)]).length c9):=by rw [Nat.zero_add,Nat.mul_one];rfl
        have hU':Upd w9 w10 w3.heap.size 22 (vals.set x0 (.slice A9 (List.filter (valB t u x0) (List.take k ops) ++ [(j:Int)]).length c9)):=hset ▸ hU
        have hby10:=hby.putVal hu0 hK9 ho9 (by
          rcases hat with hat|hat
          · exact .inl hat
          · exact .inr ⟨_,hat,hN8.ext.size⟩) hU'
        have hB10:Below w2.heap.size w9 w10:=hU.below hw23
        refine Fc ?_
        ((refine h_z ?_))
        repeat (first|refine At ?_|refine Ah rfl ?_|refine Ae rfl ?_)
        refine ⟨(vals.set x0 (.slice A9 (List.filter (valB t u x0) (List.take k ops) ++ [(j:Int)]).length c9),rv),⟨rfl,rfl,rfl,rfl,rfl,rfl,rfl,rfl,trivial⟩,hE7.trans ((hB9.trans hB10).mono (by omega)),hb1s.keep ((hB9.trans hB10).block _ (by omega)),hb2s.keep ((hB9.trans hB10).block _ (by omega)),?_⟩
        have e1:∀ i,(ops.take (k + 1)).filter (valB t u i)=if i=x0 then (ops.take k).filter (valB t u x0) ++ [(j:Int)] else (ops.take k).filter (valB t u i):=fun i=>by
          rw [FC hx]
          by_cases hi:i=x0
          · subst hi;simp [valB,hpre,hf,hj1]
          · have:¬ (f.val=(i:Int)):=by omega
            simp [valB,hpre,hf,hi,this]
        have e2:(ops.take (k + 1)).filter (restB t u)=(ops.take k).filter (restB t u):=by rw [FC hx];simp [restB,hpre,hf]
        dsimp only
        rw [e2]
        simp only [e1]
        exact hby10
    rintro ⟨vals,rv⟩ w5 ⟨hE5,hb1,hb2,hby⟩
    dsimp only at hby
    rw [List.take_length] at hby
    have hl2:=hb2.lt
    have hb1s:=hb1
    have hb2s:=hb2
    have hflt:∀ p:Int→Bool,OpsIn t (ops.filter p)∧(ops.filter p).length≤4096:=fun p=>⟨fun x hx=>hin x (List.mem_filter.1 hx).1,Nat.le_trans (List.length_filter_le _ _) hlen⟩
    have hrv:Vb w5 (fun k=>rv.ownBlock=some k) rv (ops.filter (restB t u)):=hby.rest.vb.mono fun k hk=>hk.resolve_left id
    repeat (first|refine At ?_|refine Ah rfl ?_|refine Ae rfl ?_)
    refine Cw (Ext w5) [(0,true),(1,true),(2,true),(3,true),(4,true),(5,false),(6,true),(7,false),(8,true)] (by kernel_rfl) rfl (by kernel_rfl) (Below.refl _ _) ?_
    (refine FV rfl rfl rfl ?_<;>refine FV rfl rfl rfl ?_<;>refine AN rfl rfl rfl ?_<;>refine FV rfl rfl rfl ?_<;>(first|refine Qh rfl rfl rfl ?_|refine Qg rfl rfl rfl rfl ?_))
    refine BT rfl ?_
    refine By rfl rfl (ih w5 _ rv _ (u + 1) (fun k=>rv.ownBlock=some k) (hg0.ext hE5) hrv (fun k hk=>(hby.rest.lt k hk).2) (hflt _).1 (hflt _).2 (by omega) (by omega)) ?_
    rintro p6 w6 ⟨hT6,hE6⟩
    obtain ⟨q6,rfl⟩:=hT6.form
    refine Cl hE6 ?_
    (refine Dj rfl rfl rfl rfl ?_)
    refine BT rfl ?_
    refine Dg rfl rfl fun w7 hN7=>?_
    refine Cl (hE6.trans' hN7.ext) ?_
    (refine Fa rfl rfl rfl ?_<;>(refine h_z ?_))
    have hnode:Blk w7 w6.heap.size 144 [.slice none 0 0,.bool false,.int .i64 (u:Int),.slice none 0 0,.pointer q6]:=hN7.blk
    have hby6:=hby.ext hE6
    repeat (first|refine At ?_|refine Ah rfl ?_|refine Ae rfl ?_)
    ((repeat (first|refine At ?_|refine Ah rfl ?_|refine Ae rfl ?_))<;>(refine Ar rfl rfl ?_<;>refine AY rfl rfl ?_<;>refine Ar rfl rfl ?_<;>(refine o_z ?_))<;>(repeat (first|refine At ?_|refine Ah rfl ?_|refine Ae rfl ?_)))
    refine BM m (by omega) (fun x:Value=>[(3,.pointer (some ⟨w.heap.size,0,none⟩)),(5,.pointer (some ⟨w1.heap.size,0,none⟩)),(13,.pointer (some ⟨w6.heap.size,0,none⟩)),(94,.slice (some ⟨w3.heap.size,0,none⟩) m m)])
      (fun k x w'=>Ext w6 w'∧Blk w' w6.heap.size 144 [.slice none 0 0,.bool false,.int .i64 (u:Int),x,.pointer q6]∧∃ G:Nat→Prop,(∀ k,G k→k < w'.heap.size∧w2.heap.size≤k)∧¬ G w6.heap.size∧Own w' w7.heap.size G 105 x ((List.range k).map fun i=>mkT t fuel (ops.filter (valB t u i)) (u + 1))) (.slice none 0 0)
      ⟨hN7.ext,hnode,fun _=>False,fun _ h=>h.elim,id,Own.nil _ _ _ _⟩ ⟨rfl,rfl,rfl,rfl,rfl,rfl,trivial⟩ (fun _=>⟨rfl,rfl⟩) ⟨rfl,rfl,rfl⟩ ⟨rfl,rfl⟩ ?_ ?_
    · rintro k xv w8 hk ⟨hE8,hnd,G,hG,hGn,hown⟩
      obtain ⟨u0,hu0⟩:=AD (l:=vals) (k:=k) (by rw [hby.len];exact hk)
      have hby8:=hby6.ext hE8
      have hE58:Ext w5 w8:=hE6.trans' hE8
      have hE08:Ext w w8:=hE5.trans' hE58
      have hc1:w8.cell? ⟨w3.heap.size,0 + k * 1,none⟩=some u0:=hby8.blk.cell (by rw [Nat.zero_add,Nat.mul_one];exact hu0)
      have hown0:=hby8.own k u0 hu0
      obtain ⟨Ak,ck,rfl⟩:=hown0.form
      obtain ⟨Ax',cx',rfl⟩:=hown.form
      have hz78:w7.heap.size≤w8.heap.size:=by have:=hnd.lt;have:=hN7.size;omega
      ((repeat (first|refine At ?_|refine Ah rfl ?_|refine Ae rfl ?_))<;>(refine CQ rfl rfl rfl ?_<;>refine AG rfl rfl ?_<;>refine Aw rfl rfl ?_<;>(refine o_z ?_))<;>(repeat (first|refine At ?_|refine Ah rfl ?_|refine Ae rfl ?_)))
      refine Cw (fun w'=>Blk w' w6.heap.size 144 [.slice none 0 0,.bool false,.int .i64 (u:Int),.slice Ax' ((List.range k).map fun i=>mkT t fuel (ops.filter (valB t u i)) (u + 1)).length cx',.pointer q6]∧Blk w' w.heap.size 60 [.pointer (some ⟨gb,0,none⟩)]∧Blk w' w1.heap.size 3 [.int .i64 (u:Int)]) [(0,true),(1,true),(2,true),(3,true),(4,true),(5,true),(6,true),(7,true),(8,true),(9,false),(10,false),(11,false),(12,true),(13,true),(14,false)] (by kernel_rfl) rfl (by kernel_rfl) ⟨hnd,hb1s.ext hE58,hb2s.ext hE58⟩ ?_
      have hS8:∀ w',Ext w8 w'→Blk w' w6.heap.size 144 [.slice none 0 0,.bool false,.int .i64 (u:Int),.slice Ax' ((List.range k).map fun i=>mkT t fuel (ops.filter (valB t u i)) (u + 1)).length cx',.pointer q6]∧Blk w' w.heap.size 60 [.pointer (some ⟨gb,0,none⟩)]∧Blk w' w1.heap.size 3 [.int .i64 (u:Int)]:=fun w' h=>⟨hnd.ext h,(hb1s.ext hE58).ext h,(hb2s.ext hE58).ext h⟩
      clear hb1 hb2 hc1
      have hb1:∀ w',(Blk w' w6.heap.size 144 [.slice none 0 0,.bool false,.int .i64 (u:Int),.slice Ax' ((List.range k).map fun i=>mkT t fuel (ops.filter (valB t u i)) (u + 1)).length cx',.pointer q6]∧Blk w' w.heap.size 60 [.pointer (some ⟨gb,0,none⟩)]∧Blk w' w1.heap.size 3 [.int .i64 (u:Int)])→Blk w' w6.heap.size 144 [.slice none 0 0,.bool false,.int .i64 (u:Int),.slice Ax' ((List.range k).map fun i=>mkT t fuel (ops.filter (valB t u i)) (u + 1)).length cx',.pointer q6]:=fun _ h=>h.1
      have hb2:∀ w',(Blk w' w6.heap.size 144 [.slice none 0 0,.bool false,.int .i64 (u:Int),.slice Ax' ((List.range k).map fun i=>mkT t fuel (ops.filter (valB t u i)) (u + 1)).length cx',.pointer q6]∧Blk w' w.heap.size 60 [.pointer (some ⟨gb,0,none⟩)]∧Blk w' w1.heap.size 3 [.int .i64 (u:Int)])→Blk w' w.heap.size 60 [.pointer (some ⟨gb,0,none⟩)]:=fun _ h=>h.2.1
      have hb3:∀ w',(Blk w' w6.heap.size 144 [.slice none 0 0,.bool false,.int .i64 (u:Int),.slice Ax' ((List.range k).map fun i=>mkT t fuel (ops.filter (valB t u i)) (u + 1)).length cx',.pointer q6]∧Blk w' w.heap.size 60 [.pointer (some ⟨gb,0,none⟩)]∧Blk w' w1.heap.size 3 [.int .i64 (u:Int)])→Blk w' w1.heap.size 3 [.int .i64 (u:Int)]:=fun _ h=>h.2.2
      (refine AN rfl rfl rfl ?_<;>refine AN rfl rfl rfl ?_<;>refine Dr rfl rfl rfl ?_<;>refine Be rfl rfl rfl ?_<;>(first|refine Eg rfl rfl rfl ?_|refine AW rfl rfl rfl ?_)<;>(first|refine Eg rfl rfl rfl ?_|refine AW rfl rfl rfl ?_)<;>refine AN rfl rfl rfl ?_<;>(first|refine Eg rfl rfl rfl ?_|refine AW rfl rfl rfl ?_)<;>(first|refine Qh rfl rfl rfl ?_|refine Qg rfl rfl rfl rfl ?_))
      refine BT rfl ?_
      have hu0v:Vb w8 (fun q=>(Value.slice Ak (ops.filter (valB t u k)).length ck).ownBlock=some q) (.slice Ak (ops.filter (valB t u k)).length ck) (ops.filter (valB t u k)):=hown0.vb.mono fun q hq=>hq.resolve_left id
      refine By rfl rfl (ih w8 _ _ _ (u + 1) _ (hg0.ext hE08) hu0v (fun q hq=>(hown0.lt q hq).2) (hflt _).1 (hflt _).2 (by omega) (by omega)) ?_
      rintro p9 w9 ⟨hT9,hE9⟩
      obtain ⟨q9,rfl⟩:=hT9.form
      refine Cl (hS8 w9 hE9) ?_
      refine BT rfl ?_
      refine Ds rfl rfl rfl (by simp [Value.cells]) (by decide) rfl fun w10 hN10=>?_
      have hE10:Ext w8 w10:=hE9.trans' hN10.ext
      refine Cl (hS8 w10 hE10) ?_
      have hG':∀ q,(G q∨(Value.slice Ak (ops.filter (valB t u k)).length ck).ownBlock=some q∨w8.heap.size≤q∧q < w9.heap.size)→q < w9.heap.size∧w2.heap.size≤q:=fun q hq=>by
        have h9:=hE9.size
        have h6:=hE6.size
        have h7:=hN7.size
        rcases hq with hq|hq|hq
        · have:=hG q hq;exact ⟨by omega,this.2⟩
        · have:=hown0.lt q hq;exact ⟨by omega,this.1⟩
        · exact ⟨hq.2,by omega⟩
      have hGx:∀ g,(Value.slice Ax' ((List.range k).map fun i=>mkT t fuel (ops.filter (valB t u i)) (u + 1)).length cx').ownBlock=some g→¬ (G g∨(Value.slice Ak (ops.filter (valB t u k)).length ck).ownBlock=some g∨w8.heap.size≤g∧g < w9.heap.size):=fun g hg h=>by
        rcases h with h|h|h
        · obtain ⟨_,_,_,h3⟩:=hown;exact h3 g hg h
        · exact hown.own_ne hown0 (by decide) g hg h
        · have:=(hown.lt g hg).2;omega
      have hownG:Own w9 w7.heap.size (fun q=>G q∨(Value.slice Ak (ops.filter (valB t u k)).length ck).ownBlock=some q∨w8.heap.size≤q∧q < w9.heap.size) 105 _ _:=(hown.ext hE9 fun q hq=>(hG q hq).1).mono (fun q hq=>.inl hq) hGx
      have hch:Chunks w10 (fun q=>G q∨(Value.slice Ak (ops.filter (valB t u k)).length ck).ownBlock=some q∨w8.heap.size≤q∧q < w9.heap.size) [.pointer q9] [mkT t fuel (ops.filter (valB t u k)) (u + 1)] :=
        .single (show Rp.R w10 _ [.pointer q9] _ from ⟨q9,rfl,TrR.agree (hN10.ext.agree fun q hq=>(hG' q hq).1) (TrR.mono (fun q hq=>by
          rcases hq with hq|hq
          · exact .inr (.inl hq)
          · exact .inr (.inr hq)) hT9)⟩)
      refine BT rfl ?_
      have hmk:((List.range k).map fun i=>mkT t fuel (ops.filter (valB t u i)) (u + 1)).length≤64:=by simp;omega
      refine EH (α:=Tr) (A:=some ⟨w9.heap.size,0,none⟩) (c:=1) (ys:=[mkT t fuel (ops.filter (valB t u k)) (u + 1)]) (cells:=[.pointer q9]) rfl rfl (hownG.ext hN10.ext fun q hq=>(hG' q hq).1) (fun q hq=>Nat.lt_of_lt_of_le (hG' q hq).1 hN10.ext.size) (by have:=hE10.size;omega) hch (fun _=>⟨_,_,rfl,hN10.blk.cellsAt⟩) (by decide) (by rw [List.length_singleton];omega) (by rw [List.length_singleton];omega) rfl fun v' w11 ho11 hg11 hat=>?_
      have hown10:=hown.ext hE10 fun q hq=>(hG q hq).1
      have hK11:Kept w8 w11 (.slice Ax' ((List.range k).map fun i=>mkT t fuel (ops.filter (valB t u i)) (u + 1)).length cx'):=⟨hg11.os.trans hE10.os,hg11.tape.trans hE10.tape,hg11.output.trans hE10.output,Nat.le_trans hE10.size hg11.size,fun q hq hne=>by rw [hg11.block q (Nat.lt_of_lt_of_le hq hE10.size) (fun he=>hne he.symm),hE10.block q hq]⟩
      have hB11:Below w7.heap.size w8 w11:=hown.fits (Nat.le_refl _) hz78 hK11
      have hnd11:=hK11.blk hnd (hown.blk_ne hnd (by decide))
      have hz67:=hN7.size
      refine Cl ⟨hnd11,(hb1s.ext hE58).keep (hB11.block _ (by have:=hE6.size;omega)),(hb2s.ext hE58).keep (hB11.block _ (by have:=hE6.size;omega))⟩ ?_
      (refine Dr rfl rfl rfl ?_<;>refine Be rfl rfl rfl ?_)
      refine BT rfl ?_
      obtain ⟨A11,c11,rfl⟩:=ho11.form
      refine Cc (g:=w6.heap.size) rfl rfl hnd11 rfl (show 0 + 3 + 1≤5 by decide) (by simp [Value.cells,Value.oneCell']) fun w12 hU=>?_
      refine Fc ?_
      ((refine h_z ?_))
      repeat (first|refine At ?_|refine Ah rfl ?_|refine Ae rfl ?_)
      refine ⟨_,⟨rfl,rfl,rfl,rfl,rfl,rfl,trivial⟩,?_,hU.blk,(fun q=>G q∨(Value.slice Ak (ops.filter (valB t u k)).length ck).ownBlock=some q∨w8.heap.size≤q∧q < w9.heap.size),?_,?_,?_⟩
      · exact hE8.trans ((hB11.mono (by omega)).trans (hU.below (Nat.le_refl _)))
      · intro q hq
        have:=hG' q hq
        have h1:=hN10.ext.size
        have h2:=hg11.size
        exact ⟨by rw [hU.size];omega,this.2⟩
      · rintro (h|h|h)
        · exact hGn h
        · exact hown0.blk_ne hnd (by decide) h
        · have:=hnd.lt;omega
      · rw [List.range_succ,List.map_append]
        have hne:(Value.slice A11 (((List.range k).map fun i=>mkT t fuel (ops.filter (valB t u i)) (u + 1)) ++ [mkT t fuel (ops.filter (valB t u k)) (u + 1)]).length c11).ownBlock≠some w6.heap.size:=ho11.blk_ne hnd11 (by decide)
        exact ho11.agree (hU.agree (by
          rintro (h|h|h)
          · exact hGn h
          · exact hown0.blk_ne hnd (by decide) h
          · have:=hnd.lt;omega)) fun g hg=>hU.other g fun he=>hne (he ▸ hg)
    rintro xv w8 ⟨hE8,hnd,G,hG,hGn,hown⟩
    repeat (first|refine At ?_|refine Ah rfl ?_|refine Ae rfl ?_)
    ((repeat (first|refine At ?_|refine Ah rfl ?_|refine Ae rfl ?_))<;>(refine Ar rfl rfl ?_<;>refine Aw rfl rfl ?_<;>(refine o_z ?_))<;>(repeat (first|refine At ?_|refine Ah rfl ?_|refine Ae rfl ?_)))
    have hE08:Ext w w8:=hE5.trans' (hE6.trans' hE8)
    obtain ⟨Ax',cx',rfl⟩:=hown.form
    have hxl:((List.range m).map fun i=>mkT t fuel (ops.filter (valB t u i)) (u + 1)).length=m:=by simp
    rw [hxl] at hnd
    refine ret1 rfl rfl ⟨⟨w6.heap.size,Ax',cx',q6,rfl,.inr ⟨by have:=hE5.size;have:=hE6.size;omega,hnd.lt⟩,hnd,?_,fun i hi=>?_⟩,hE08⟩
    · refine TrR.mono (fun q hq=>?_) (TrR.agree (hE8.agree fun q hq=>?_) hT6)
      · rcases hq with hq|hq
        · have:=hby.rest.lt q hq;have:=hE6.size;have:=hE8.size;exact .inr ⟨by omega,by omega⟩
        · have:=hE8.size;have:=hE5.size;exact .inr ⟨by omega,by omega⟩
      · rcases hq with hq|hq
        · have:=hby.rest.lt q hq;have:=hE6.size;omega
        · exact hq.2
    · have hvb:=hown.vb
      obtain ⟨b9,o9,cs9,hA,hF9,_,hc9,q9,rfl,hT9⟩:=hvb.elem (k:=i) (x:=mkT t fuel (ops.filter (valB t u i)) (u + 1)) (by rw [List.getElem?_map,List.getElem?_range hi];rfl)
      have hsub:∀ q,(G q∨(Value.slice Ax' ((List.range m).map fun i=>mkT t fuel (ops.filter (valB t u i)) (u + 1)).length cx').ownBlock=some q)→more F w w8 q:=fun q hq=>by
        rcases hq with hq|hq
        · have:=hG q hq;exact .inr ⟨by omega,this.1⟩
        · have h1:=hown.lt q hq;have:=hN7.size;have:=hE6.size;exact .inr ⟨by omega,h1.2⟩
      exact ⟨b9,o9,q9,hA,hsub _ hF9,by have:=hc9.1;rwa [show i * Rp.size Tr=i from Nat.mul_one i] at this,TrR.mono hsub hT9⟩
end
section
open Go Go.RowKit
attribute [local irreducible] ewp owp hwp hwq hws Ev Evg Fn retPost loud loudS Res1
def nw (w w':World):Nat→Prop:=fun k=>w.heap.size≤k∧k < w'.heap.size
theorem JC {w:World} {F G:Nat→Prop}:∀ {xs:List Fct} {cells:List Value},Chunks w F cells xs→Chunks w G cells xs
  | [],_,h=>h
  | _ :: _,_,⟨cs,rest,he,hr,hc⟩=>⟨cs,rest,he,hr,JC hc⟩
theorem GJ {w:World} {F G:Nat→Prop}:∀ {xs:List Int} {cells:List Value},Chunks w F cells xs→Chunks w G cells xs
  | [],_,h=>h
  | _ :: _,_,⟨cs,rest,he,hr,hc⟩=>⟨cs,rest,he,hr,GJ hc⟩
theorem cloneIntsN {w:World} {sv:Value} {xs:List Int} (hs:V w sv xs) (hl:xs.length≤1000000):Fn Tryz.prog 66 [sv] w fun v w'=>Vb w' (nw w w') v xs∧Ext w w' :=
  (cloneInts hs (by omega)).mono fun v w' ⟨ho,hE⟩=>⟨by
    obtain ⟨cells,q1,q2,q3⟩:=id ho
    have ho':Own w' w.heap.size (fun _=>False) 3 v xs:=⟨cells,q1,GJ q2,fun _ _ h=>h⟩
    exact ho'.vb.mono fun k hk=>ho.lt k (hk.resolve_left id),hE⟩
theorem cloneFactsN {w:World} {sv:Value} {xs:List Fct} (hs:V w sv xs) (hl:xs.length≤1000000):Fn Tryz.prog 81 [sv] w fun v w'=>Vb w' (nw w w') v xs∧Ext w w' :=
  (cloneFacts hs (by omega)).mono fun v w' ⟨ho,hE⟩=>⟨by
    obtain ⟨cells,q1,q2,q3⟩:=id ho
    have ho':Own w' w.heap.size (fun _=>False) 45 v xs:=⟨cells,q1,JC q2,fun _ _ h=>h⟩
    exact ho'.vb.mono fun k hk=>ho.lt k (hk.resolve_left id),hE⟩
theorem Vb.nwext {α:Type} [Rp α] {w w' w'':World} {v:Value} {x:α} (h:Vb w' (nw w w') v x) (hE:Ext w' w''):Vb w'' (nw w w') v x:=h.agree (hE.agree fun _ hk=>hk.2)
theorem genCopied {w:World} {tv:Value} {t:Tsk} (ht:V w tv t) (hl1:t.vars.length≤1000000) (hl2:t.init.length≤1000000) (hl3:t.goal.length≤1000000) (hl4:t.ops.length≤1000000)
    (hl5:∀ (i:Nat) o,t.ops[i]?=some o→o.pre.length≤1000000∧o.effs.length≤1000000∧∀ (j:Nat) e,o.effs[j]?=some e→e.cond.length≤1000000) :
    Fn Tryz.prog 55 [tv] w fun v w'=>Vb w' (nw w w') v t∧Ext w w':=by
  obtain ⟨cs,rfl,a,b,c,d,rfl,hvars,hinit,hgoal,hops⟩:=ht
  obtain ⟨Av,cv,rfl⟩:=hvars.form
  obtain ⟨Ai,ci,rfl⟩:=hinit.form
  obtain ⟨Ag,cg,rfl⟩:=hgoal.form
  obtain ⟨Ao,co,rfl⟩:=hops.form
  refine AK Tryz.func55 rfl Tryz.ntmps55 rfl ?_
  repeat (first|refine At ?_|refine Ah rfl ?_|refine Ae rfl ?_)
  refine Dg rfl rfl fun w1 hN1=>?_
  refine DH rfl fun w2 hN2=>?_
  have hE2:Ext w w2:=hN1.ext.trans' hN2.ext
  have hz1:w1.heap.size=w.heap.size + 1:=hN1.size
  have hz2:w2.heap.size=w1.heap.size + 1:=hN2.size
  have hb1:Blk w2 w.heap.size 26 [.slice Av t.vars.length cv,.slice Ai t.init.length ci,.slice Ag t.goal.length cg,.slice Ao t.ops.length co]:=hN1.blk.ext hN2.ext
  have hres:Blk w2 w1.heap.size 26 [.slice none 0 0,.slice none 0 0,.slice none 0 0,.slice none 0 0]:=hN2.blk
  ((refine o_z ?_))
  refine LY (fun l' w'=>∃ g3 av bv cv',subs l' [(1,.pointer (some ⟨w.heap.size,0,none⟩)),(2,.pointer (some ⟨w1.heap.size,0,none⟩)),(3,.pointer (some ⟨g3,0,none⟩))]∧Ext w2 w'∧w2.heap.size≤g3∧Blk w' g3 26 [av,bv,cv',.slice none 0 0] ∧
    Vb w' (fun k=>nw w2 w' k∧k≠g3) av t.vars∧Vb w' (fun k=>nw w2 w' k∧k≠g3) bv t.init∧Vb w' (fun k=>nw w2 w' k∧k≠g3) cv' t.goal) ?_ ?_
  · have q0:∀ w',Ext w2 w'→Blk w' w.heap.size 26 [.slice Av t.vars.length cv,.slice Ai t.init.length ci,.slice Ag t.goal.length cg,.slice Ao t.ops.length co]:=fun w' h=>hb1.ext h
    refine Nf (Ext w2) ?_
    refine Ig (i:=0) rfl (by kernel_rfl) (by kernel_rfl) (by kernel_rfl) rfl rfl (evg fun _ _=>Du rfl) (Below.refl _ _) ?_
    refine Ig (i:=1) rfl (by kernel_rfl) (by kernel_rfl) (by kernel_rfl) rfl rfl (evg fun _ hS=>DN rfl ((hb1.ext hS).cell rfl)) (Below.refl _ _) ?_
    refine Ig (i:=3) rfl (by kernel_rfl) (by kernel_rfl) (by kernel_rfl) rfl rfl (evg fun _ _=>Du rfl) (Below.refl _ _) ?_
    refine Ig (i:=4) rfl (by kernel_rfl) (by kernel_rfl) (by kernel_rfl) rfl rfl (evg fun _ hS=>DN rfl ((hb1.ext hS).cell rfl)) (Below.refl _ _) ?_
    refine Ig (i:=6) rfl (by kernel_rfl) (by kernel_rfl) (by kernel_rfl) rfl rfl (evg fun _ _=>Du rfl) (Below.refl _ _) ?_
    refine Ig (i:=7) rfl (by kernel_rfl) (by kernel_rfl) (by kernel_rfl) rfl rfl (evg fun _ hS=>DN rfl ((hb1.ext hS).cell rfl)) (Below.refl _ _) ?_
    refine JN (i:=2) (j:=10) (by kernel_rfl) rfl rfl ?_ ?_
    · refine By rfl rfl (cloneIntsN (hvars.ext hE2) hl1) ?_
      rintro av w3 ⟨hav,hE3⟩
      refine Fd hE3 ?_
      refine JN (i:=5) (j:=10) (by kernel_rfl) rfl rfl ?_ ?_
      · refine By rfl rfl (cloneIntsN (hinit.ext (hE2.trans' hE3)) hl2) ?_
        rintro bv w4 ⟨hbv,hE4⟩
        refine Fd (hE3.trans' hE4) ?_
        refine JN (i:=8) (j:=10) (by kernel_rfl) rfl rfl ?_ ?_
        · refine By rfl rfl (cloneFactsN (hgoal.ext (hE2.trans' (hE3.trans' hE4))) hl3) ?_
          rintro cv' w5 ⟨hcv,hE5⟩
          refine Fd (hE3.trans' (hE4.trans' hE5)) ?_
          refine Ih [(9,true),(10,false),(11,false)] (by kernel_rfl) rfl (by kernel_rfl) (hE3.trans' (hE4.trans' hE5)) ?_
          obtain ⟨Aa,ca,rfl⟩:=hav.form
          obtain ⟨Ab,cb,rfl⟩:=hbv.form
          obtain ⟨Ac,cc,rfl⟩:=hcv.form
          refine AA rfl ?_
          refine BC (fun _ _=>Fq rfl rfl) rfl ?_
          refine BT rfl ?_
          refine DH rfl fun w6 hN6=>?_
          refine Cl (hE3.trans' (hE4.trans' (hE5.trans' hN6.ext))) ?_
          refine BT rfl ?_
          refine Cc rfl rfl hN6.blk rfl (Nat.le_refl _) (by simp [Value.cells,Value.oneCell',setParts,setFrom]) fun w7 hU=>?_
          refine Fc (AB ?_)
          have hE7:Ext w5 w7:=(hN6.upd hU).ext
          have s3:=hE3.size;have s4:=hE4.size;have s5:=hE5.size;have s7:=hE7.size
          refine ⟨w5.heap.size,_,_,_,⟨rfl,rfl,rfl,trivial⟩,hE3.trans' (hE4.trans' (hE5.trans' hE7)),by omega,hU.blk,?_,?_,?_⟩
          · exact ((((hav.nwext hE4).agree (hE5.agree fun k hk=>by have:=hk.2;omega)).agree (hE7.agree fun k hk=>by have:=hk.2;omega)).mono fun k hk=>⟨⟨by have:=hk.1;omega,by have:=hk.2;omega⟩,by have:=hk.2;omega⟩)
          · exact ((hbv.nwext hE5).agree (hE7.agree fun k hk=>by have:=hk.2;omega)).mono fun k hk=>⟨⟨by have:=hk.1;omega,by have:=hk.2;omega⟩,by have:=hk.2;omega⟩
          · exact (hcv.nwext hE7).mono fun k hk=>⟨⟨by have:=hk.1;omega,by have:=hk.2;omega⟩,by have:=hk.2;omega⟩
        · refine DH rfl fun w5 hN=>?_
          have hE5:=hN.ext
          refine Fd (hE3.trans' (hE4.trans' hE5)) ?_
          refine Ih [(8,false),(9,true),(11,false)] (by kernel_rfl) rfl (by kernel_rfl) (hE3.trans' (hE4.trans' hE5)) ?_
          refine BT rfl ?_
          refine By rfl rfl (cloneFactsN (hgoal.ext (hE2.trans' (hE3.trans' (hE4.trans' hE5)))) hl3) ?_
          rintro cv' w6 ⟨hcv,hE6⟩
          refine Cl (hE3.trans' (hE4.trans' (hE5.trans' hE6))) ?_
          have hg3:=hN.blk.ext hE6
          obtain ⟨Aa,ca,rfl⟩:=hav.form
          obtain ⟨Ab,cb,rfl⟩:=hbv.form
          obtain ⟨Ac,cc,rfl⟩:=hcv.form
          refine AA rfl ?_
          refine BC (fun _ _=>Fq rfl rfl) rfl ?_
          refine BT rfl ?_
          refine Cc rfl rfl hg3 rfl (Nat.le_refl _) (by simp [Value.cells,Value.oneCell',setParts,setFrom]) fun w7 hU=>?_
          refine Fc (AB ?_)
          have s3:=hE3.size;have s4:=hE4.size;have s5:=hE5.size;have s6:=hE6.size;have s7:=hU.size;have sN:=hN.size
          refine ⟨_,_,_,_,⟨rfl,rfl,rfl,trivial⟩,(hE3.trans' (hE4.trans' (hE5.trans' hE6))).trans (hU.below (by omega)),by omega,hU.blk,?_,?_,?_⟩
          · exact (hav.agree fun k hk=>(hU.other k (by have:=hk.2;omega)).trans ((hE4.trans' (hE5.trans' hE6)).block k hk.2)).mono fun k hk=>⟨⟨by have:=hk.1;omega,by have:=hk.2;omega⟩,by have:=hk.2;omega⟩
          · exact (hbv.agree fun k hk=>(hU.other k (by have:=hk.2;omega)).trans ((hE5.trans' hE6).block k hk.2)).mono fun k hk=>⟨⟨by have:=hk.1;omega,by have:=hk.2;omega⟩,by have:=hk.2;omega⟩
          · exact (hcv.agree fun k hk=>hU.other k (by have:=hk.1;omega)).mono fun k hk=>⟨⟨by have:=hk.1;omega,by have:=hk.2;omega⟩,by have:=hk.1;omega⟩
      · refine DH rfl fun w4 hN=>?_
        have hE4:=hN.ext
        refine Fd (hE3.trans' hE4) ?_
        refine Ih [(5,false),(8,false),(9,true),(11,false)] (by kernel_rfl) rfl (by kernel_rfl) (hE3.trans' hE4) ?_
        refine BT rfl ?_
        refine By rfl rfl (cloneIntsN (hinit.ext (hE2.trans' (hE3.trans' hE4))) hl2) ?_
        rintro bv w5 ⟨hbv,hE5⟩
        refine Cl (hE3.trans' (hE4.trans' hE5)) ?_
        refine BT rfl ?_
        refine By rfl rfl (cloneFactsN (hgoal.ext (hE2.trans' (hE3.trans' (hE4.trans' hE5)))) hl3) ?_
        rintro cv' w6 ⟨hcv,hE6⟩
        refine Cl (hE3.trans' (hE4.trans' (hE5.trans' hE6))) ?_
        have hg3:=(hN.blk.ext hE5).ext hE6
        obtain ⟨Aa,ca,rfl⟩:=hav.form
        obtain ⟨Ab,cb,rfl⟩:=hbv.form
        obtain ⟨Ac,cc,rfl⟩:=hcv.form
        refine AA rfl ?_
        refine BC (fun _ _=>Fq rfl rfl) rfl ?_
        refine BT rfl ?_
        refine Cc rfl rfl hg3 rfl (Nat.le_refl _) (by simp [Value.cells,Value.oneCell',setParts,setFrom]) fun w7 hU=>?_
        refine Fc (AB ?_)
        have s3:=hE3.size;have s4:=hE4.size;have s5:=hE5.size;have s6:=hE6.size;have s7:=hU.size;have sN:=hN.size
        refine ⟨_,_,_,_,⟨rfl,rfl,rfl,trivial⟩,(hE3.trans' (hE4.trans' (hE5.trans' hE6))).trans (hU.below (by omega)),by omega,hU.blk,?_,?_,?_⟩
        · exact (hav.agree fun k hk=>(hU.other k (by have:=hk.2;omega)).trans ((hE4.trans' (hE5.trans' hE6)).block k hk.2)).mono fun k hk=>⟨⟨by have:=hk.1;omega,by have:=hk.2;omega⟩,by have:=hk.2;omega⟩
        · exact (hbv.agree fun k hk=>(hU.other k (by have:=hk.1;omega)).trans (hE6.block k hk.2)).mono fun k hk=>⟨⟨by have:=hk.1;omega,by have:=hk.2;omega⟩,by have:=hk.1;omega⟩
        · exact (hcv.agree fun k hk=>hU.other k (by have:=hk.1;omega)).mono fun k hk=>⟨⟨by have:=hk.1;omega,by have:=hk.2;omega⟩,by have:=hk.1;omega⟩
    · refine DH rfl fun w3 hN=>?_
      have hE3:=hN.ext
      refine Fd hE3 ?_
      refine Ih [(2,false),(5,false),(8,false),(9,true),(11,false)] (by kernel_rfl) rfl (by kernel_rfl) hE3 ?_
      refine BT rfl ?_
      refine By rfl rfl (cloneIntsN (hvars.ext (hE2.trans' hE3)) hl1) ?_
      rintro av w4 ⟨hav,hE4⟩
      refine Cl (hE3.trans' hE4) ?_
      refine BT rfl ?_
      refine By rfl rfl (cloneIntsN (hinit.ext (hE2.trans' (hE3.trans' hE4))) hl2) ?_
      rintro bv w5 ⟨hbv,hE5⟩
      refine Cl (hE3.trans' (hE4.trans' hE5)) ?_
      refine BT rfl ?_
      refine By rfl rfl (cloneFactsN (hgoal.ext (hE2.trans' (hE3.trans' (hE4.trans' hE5)))) hl3) ?_
      rintro cv' w6 ⟨hcv,hE6⟩
      refine Cl (hE3.trans' (hE4.trans' (hE5.trans' hE6))) ?_
      have hg3:=((hN.blk.ext hE4).ext hE5).ext hE6
      obtain ⟨Aa,ca,rfl⟩:=hav.form
      obtain ⟨Ab,cb,rfl⟩:=hbv.form
      obtain ⟨Ac,cc,rfl⟩:=hcv.form
      refine AA rfl ?_
      refine BC (fun _ _=>Fq rfl rfl) rfl ?_
      refine BT rfl ?_
      refine Cc rfl rfl hg3 rfl (Nat.le_refl _) (by simp [Value.cells,Value.oneCell',setParts,setFrom]) fun w7 hU=>?_
      refine Fc (AB ?_)
      have s3:=hE3.size;have s4:=hE4.size;have s5:=hE5.size;have s6:=hE6.size;have s7:=hU.size;have sN:=hN.size
      refine ⟨_,_,_,_,⟨rfl,rfl,rfl,trivial⟩,(hE3.trans' (hE4.trans' (hE5.trans' hE6))).trans (hU.below (by omega)),by omega,hU.blk,?_,?_,?_⟩
      · exact (hav.agree fun k hk=>(hU.other k (by have:=hk.1;omega)).trans ((hE5.trans' hE6).block k hk.2)).mono fun k hk=>⟨⟨by have:=hk.1;omega,by have:=hk.2;omega⟩,by have:=hk.1;omega⟩
      · exact (hbv.agree fun k hk=>(hU.other k (by have:=hk.1;omega)).trans (hE6.block k hk.2)).mono fun k hk=>⟨⟨by have:=hk.1;omega,by have:=hk.2;omega⟩,by have:=hk.1;omega⟩
      · exact (hcv.agree fun k hk=>hU.other k (by have:=hk.1;omega)).mono fun k hk=>⟨⟨by have:=hk.1;omega,by have:=hk.2;omega⟩,by have:=hk.1;omega⟩
  · rintro l' w3 ⟨g3,av,bv,cv',hsub,hE3,hg3,hb3,hav,hbv,hcv⟩
    refine AQ _ hsub ?_
    clear hsub
    replace hb1:=hb1.ext hE3
    replace hres:=hres.ext hE3
    have hE03:Ext w w3:=hE2.trans' hE3
    have hg3z:g3 < w3.heap.size:=hb3.lt
    repeat (first|refine At ?_|refine Ah rfl ?_|refine Ae rfl ?_)
    ((repeat (first|refine At ?_|refine Ah rfl ?_|refine Ae rfl ?_))<;>(refine AJ rfl rfl ?_<;>refine AG rfl rfl ?_<;>refine AY rfl rfl ?_<;>refine Ar rfl rfl ?_<;>(refine o_z ?_))<;>(repeat (first|refine At ?_|refine Ah rfl ?_|refine Ae rfl ?_)))
    refine BM t.ops.length (by omega) (fun _:Unit=>[(2,.pointer (some ⟨w1.heap.size,0,none⟩)),(3,.pointer (some ⟨g3,0,none⟩)),(20,.slice Ao t.ops.length co)])
      (fun k _ w'=>Below w2.heap.size w2 w'∧w3.heap.size≤w'.heap.size∧(∀ q,q < w3.heap.size→q≠g3→w'.heap[q]?=w3.heap[q]?)∧∃ (ov:Value) (G:Nat→Prop),Blk w' g3 26 [av,bv,cv',ov]∧(∀ q,G q→w3.heap.size≤q∧q < w'.heap.size)∧Own w' w3.heap.size G 50 ov (t.ops.take k)) ()
      ⟨hE3,Nat.le_refl _,fun _ _ _=>rfl,.slice none 0 0,fun _=>False,hb3,fun _ h=>h.elim,Own.nil _ _ _ _⟩ ⟨rfl,rfl,rfl,rfl,rfl,trivial⟩ (fun _=>⟨rfl,rfl⟩) ⟨rfl,rfl,rfl⟩ ⟨rfl,rfl⟩ ?_ ?_
    · rintro k _ w4 hk ⟨hB4,hz34,hkeep,ov,G,hb3,hG,hown⟩
      have hE04:Ext w w4:=hE2.trans (hB4.mono (by omega))
      obtain ⟨o,ho⟩:=AD hk
      obtain ⟨hp5,hq5,hc5⟩:=hl5 k o ho
      obtain ⟨b2,o2,ce,rfl,_,_,hd1,p,q,rfl,hp,hq,hc,hn⟩:=(hops.ext hE04).elem ho
      obtain ⟨Ap,cp,rfl⟩:=hp.form
      obtain ⟨Aq,cq,rfl⟩:=hq.form
      obtain ⟨Aov,cov,rfl⟩:=hown.form
      ((repeat (first|refine At ?_|refine Ah rfl ?_|refine Ae rfl ?_))<;>(refine CQ rfl rfl rfl ?_<;>refine Bi rfl rfl ?_)<;>(repeat (first|refine At ?_|refine Ah rfl ?_|refine Ae rfl ?_)))
      refine Cg rfl rfl rfl (by simp [Value.cells,Value.oneCell']) fun w5 hN5=>?_
      have hb2:Blk w5 w4.heap.size 50 [.string o.name,.int .i64 o.cost,.slice Ap o.pre.length cp,.slice Aq o.effs.length cq]:=hN5.blk
      have hz5:=hN5.size
      ((refine o_z ?_))
      repeat (first|refine At ?_|refine Ah rfl ?_|refine Ae rfl ?_)
      clear hd1
      (refine AJ rfl rfl ?_<;>refine AG rfl rfl ?_)
      refine By rfl rfl (cloneFactsN (hp.ext hN5.ext) hp5) ?_
      rintro pv w6 ⟨hpv,hE6⟩
      obtain ⟨Ap',cp',rfl⟩:=hpv.form
      replace hb2:=hb2.ext hE6
      (refine AJ rfl rfl ?_)
      refine Cc rfl rfl hb2 rfl (show 0 + 2 + 1≤4 by decide) (by simp [Value.cells,Value.oneCell']) fun w7 hU7=>?_
      have hE47:Ext w4 w7:=(hN5.ext.trans' hE6).trans (hU7.below (Nat.le_refl _))
      replace hb2:Blk w7 w4.heap.size 50 [.string o.name,.int .i64 o.cost,.slice Ap' o.pre.length cp',.slice Aq o.effs.length cq]:=hU7.blk
      have hpv7:Vb w7 (nw w5 w6) (.slice Ap' o.pre.length cp') o.pre:=hpv.agree fun q hq=>hU7.other q (by have:=hq.1;omega)
      ((refine o_z ?_))
      repeat (first|refine At ?_|refine Ah rfl ?_|refine Ae rfl ?_)
      ((repeat (first|refine At ?_|refine Ah rfl ?_|refine Ae rfl ?_))<;>(refine Aw rfl rfl ?_<;>(refine o_z ?_))<;>(repeat (first|refine At ?_|refine Ah rfl ?_|refine Ae rfl ?_))<;>(refine AJ rfl rfl ?_<;>refine AG rfl rfl ?_<;>refine AY rfl rfl ?_<;>refine Ar rfl rfl ?_<;>(refine o_z ?_))<;>(repeat (first|refine At ?_|refine Ah rfl ?_|refine Ae rfl ?_)))
      refine BM o.effs.length (by omega) (fun ev:Value=>[(2,.pointer (some ⟨w1.heap.size,0,none⟩)),(3,.pointer (some ⟨g3,0,none⟩)),(5,.pointer (some ⟨w4.heap.size,0,none⟩)),(6,ev),(20,.slice (some ⟨b2,o2,none⟩) t.ops.length co),(21,.int .i64 (t.ops.length:Int)),(22,.int .i64 (k:Int)),(31,.slice Aq o.effs.length cq)])
        (fun i ev w'=>Ext w7 w'∧∃ H:Nat→Prop,(∀ q,H q→w7.heap.size≤q∧q < w'.heap.size)∧Own w' w7.heap.size H 47 ev (o.effs.take i)) (.slice none 0 0)
        ⟨Below.refl _ _,fun _=>False,fun _ h=>h.elim,Own.nil _ _ _ _⟩ ⟨rfl,rfl,rfl,rfl,rfl,rfl,rfl,rfl,rfl,rfl,trivial⟩ (fun _=>⟨rfl,rfl⟩) ⟨rfl,rfl,rfl⟩ ⟨rfl,rfl⟩ ?_ ?_
      · rintro i ev w8 hi ⟨hE8,H,hH,hev⟩
        obtain ⟨e,he⟩:=AD hi
        have hce:=hc5 i e he
        obtain ⟨b3,o3,ce,rfl,_,_,hd1,cv8,rfl,hcn,hr1,hr2⟩:=(hq.ext (hE47.trans' hE8)).elem he
        obtain ⟨Acn,ccn,rfl⟩:=hcn.form
        ((repeat (first|refine At ?_|refine Ah rfl ?_|refine Ae rfl ?_))<;>(refine CQ rfl rfl rfl ?_<;>refine Bi rfl rfl ?_)<;>(repeat (first|refine At ?_|refine Ah rfl ?_|refine Ae rfl ?_)))
        refine Cg rfl rfl rfl (by simp [Value.cells,Value.oneCell']) fun w9 hN9=>?_
        have hb4:Blk w9 w8.heap.size 47 [.slice Acn e.cond.length ccn,.int .i64 e.var,.int .i64 e.val]:=hN9.blk
        have hz9:=hN9.size
        ((refine o_z ?_))
        repeat (first|refine At ?_|refine Ah rfl ?_|refine Ae rfl ?_)
        clear hd1
        (refine AJ rfl rfl ?_<;>refine AG rfl rfl ?_)
        refine By rfl rfl (cloneFactsN (hcn.ext hN9.ext) hce) ?_
        rintro cw w10 ⟨hcw,hE10⟩
        obtain ⟨Acw,ccw,rfl⟩:=hcw.form
        replace hb4:=hb4.ext hE10
        (refine AJ rfl rfl ?_)
        refine Cc rfl rfl hb4 rfl (show 0 + 0 + 1≤3 by decide) (by simp [Value.cells,Value.oneCell']) fun w11 hU11=>?_
        replace hb4:Blk w11 w8.heap.size 47 [.slice Acw e.cond.length ccw,.int .i64 e.var,.int .i64 e.val]:=hU11.blk
        have hE811:Ext w8 w11:=(hN9.ext.trans' hE10).trans (hU11.below (Nat.le_refl _))
        have hE711:Ext w7 w11:=hE8.trans' hE811
        have hcw11:Vb w11 (nw w9 w10) (.slice Acw e.cond.length ccw) e.cond:=hcw.agree fun q hq=>hU11.other q (by have:=hq.1;omega)
        have s10:=hE10.size
        have s11:=hU11.size
        have hne:∀ g,ev.ownBlock=some g→¬ (H g∨nw w9 w10 g):=fun g hg h=>by
          have hlt:=(hev.lt g hg).2
          rcases h with h|h
          · obtain ⟨_,_,_,h3⟩:=hev;exact h3 g hg h
          · have:=h.1;omega
        have hev11:Own w11 w7.heap.size (fun q=>H q∨nw w9 w10 q) 47 ev _:=(hev.ext hE811 fun q hq=>(hH q hq).2).mono (fun q hq=>.inl hq) hne
        have hH11:∀ q,(H q∨nw w9 w10 q)→w7.heap.size≤q∧q < w11.heap.size:=fun q hq=>by
          rcases hq with hq|hq
          · have:=hH q hq;omega
          · have h1:=hq.1;have h2:=hq.2;have:=hE8.size;omega
        have hil:(o.effs.take i).length≤1000000:=by rw [List.length_take];omega
        ((refine o_z ?_))
        repeat (first|refine At ?_|refine Ah rfl ?_|refine Ae rfl ?_)
        (refine Ar rfl rfl ?_<;>refine Bi rfl rfl ?_)
        refine EU (a:=e) rfl rfl rfl hev11 (fun q hq=>(hH11 q hq).2) hE711.size ⟨_,rfl,_,rfl,hcw11.mono fun q hq=>.inr hq,hr1,hr2⟩ (by decide) (by decide) (by omega) (by omega) ⟨rfl,rfl⟩ fun ev' w12 hev12 hK12=>?_
        (refine Aw rfl rfl ?_<;>(refine o_z ?_))
        repeat (first|refine At ?_|refine Ah rfl ?_|refine Ae rfl ?_)
        exact ⟨ev',⟨rfl,rfl,rfl,rfl,rfl,rfl,rfl,rfl,rfl,rfl,trivial⟩,hE711.trans (hev11.fits (Nat.le_refl _) hE711.size hK12),_,fun q hq=>⟨(hH11 q hq).1,Nat.lt_of_lt_of_le (hH11 q hq).2 hK12.size⟩,by rw [List.take_add_one,he];simpa using hev12⟩
      rintro ev w12 ⟨hE12,H,hH,hev⟩
      rw [List.take_length] at hev
      obtain ⟨Aev,cev,rfl⟩:=hev.form
      replace hb2:=hb2.ext hE12
      repeat (first|refine At ?_|refine Ah rfl ?_|refine Ae rfl ?_)
      (refine Ar rfl rfl ?_<;>refine AJ rfl rfl ?_)
      refine Cc rfl rfl hb2 rfl (show 0 + 3 + 1≤4 by decide) (by simp [Value.cells,Value.oneCell']) fun w13 hU13=>?_
      replace hb2:Blk w13 w4.heap.size 50 [.string o.name,.int .i64 o.cost,.slice Ap' o.pre.length cp',.slice Aev o.effs.length cev]:=hU13.blk
      have hE413:Ext w4 w13:=(hE47.trans' hE12).trans (hU13.below (Nat.le_refl _))
      have s6:=hE6.size
      have s7:=hU7.size
      have s12:=hE12.size
      have s13:=hU13.size
      have hb3':=hb3.ext hE413
      have hg3lt:=hb3.lt
      have hpv13:Vb w13 (nw w5 w6) (.slice Ap' o.pre.length cp') o.pre:=hpv7.agree fun q hq=>(hU13.other q (by have:=hq.1;omega)).trans (hE12.block q (by have:=hq.2;omega))
      have hev13:Vb w13 (fun q=>H q∨(Value.slice Aev o.effs.length cev).ownBlock=some q) (.slice Aev o.effs.length cev) o.effs:=hev.vb.agree fun q hq=>hU13.other q (by
        rcases hq with hq|hq
        · have:=(hH q hq).1;omega
        · have:=(hev.lt q hq).1;omega)
      have hne:∀ g,(Value.slice Aov (t.ops.take k).length cov).ownBlock=some g→¬ (G g∨w4.heap.size≤g∧g < w13.heap.size):=fun g hg h=>by
        have hlt:=(hown.lt g hg).2
        rcases h with h|h
        · obtain ⟨_,_,_,h3⟩:=hown;exact h3 g hg h
        · omega
      have hown13:Own w13 w3.heap.size (fun q=>G q∨w4.heap.size≤q∧q < w13.heap.size) 50 _ _:=(hown.ext hE413 fun q hq=>(hG q hq).2).mono (fun q hq=>.inl hq) hne
      have hG13:∀ q,(G q∨w4.heap.size≤q∧q < w13.heap.size)→w3.heap.size≤q∧q < w13.heap.size:=fun q hq=>by
        have:=hE413.size
        rcases hq with hq|hq
        · have:=hG q hq;omega
        · omega
      have hopr:Vb w13 (fun q=>G q∨w4.heap.size≤q∧q < w13.heap.size) (.agg #[.string o.name,.int .i64 o.cost,.slice Ap' o.pre.length cp',.slice Aev o.effs.length cev]) o :=
        ⟨[.string o.name,.int .i64 o.cost,.slice Ap' o.pre.length cp',.slice Aev o.effs.length cev],rfl,_,_,rfl,hpv13.mono fun q hq=>.inr (by have h1:=hq.1;have h2:=hq.2;omega),hev13.mono fun q hq=>.inr (by
          rcases hq with hq|hq
          · have:=hH q hq;omega
          · have:=hev.lt q hq;omega),hc,hn⟩
      have hkl:(t.ops.take k).length≤1000000:=by rw [List.length_take];omega
      ((refine o_z ?_))
      repeat (first|refine At ?_|refine Ah rfl ?_|refine Ae rfl ?_)
      have hbx:=hb2
      clear hb1
      have hb1:=hb3'
      (refine AJ rfl rfl ?_<;>refine AG rfl rfl ?_<;>refine Bi rfl rfl ?_)
      refine EU (a:=o) rfl rfl rfl hown13 (fun q hq=>(hG13 q hq).2) (by have:=hE413.size;omega) hopr (by decide) (by decide) (by omega) (by omega) ⟨rfl,rfl⟩ fun ov' w14 hov14 hK14=>?_
      obtain ⟨Aov',cov',rfl⟩:=hov14.form
      have hb3k:=hK14.blk hb3' (hown13.blk_ne hb3' (by decide))
      (refine AJ rfl rfl ?_)
      refine Cc rfl rfl hb3k rfl (show 0 + 3 + 1≤4 by decide) (by simp [Value.cells,Value.oneCell']) fun w15 hU15=>?_
      ((refine o_z ?_))
      repeat (first|refine At ?_|refine Ah rfl ?_|refine Ae rfl ?_)
      have hB14:Below w3.heap.size w13 w14:=hown13.fits (Nat.le_refl _) (by have:=hE413.size;omega) hK14
      have sz14:=hK14.size
      have sz15:=hU15.size
      refine ⟨(),⟨rfl,rfl,rfl,rfl,rfl,trivial⟩,?_,?_,?_,_,(fun q=>G q∨w4.heap.size≤q∧q < w13.heap.size),hU15.blk,fun q hq=>?_,?_⟩
      · exact hB4.trans (((hE413.mono (by omega)).trans (hB14.mono (by omega))).trans (hU15.below (by omega)))
      · have:=hE413.size;omega
      · intro q hq hne'
        rw [hU15.other q hne',hB14.block q hq,hE413.block q (by omega),hkeep q hq hne']
      · have:=hG13 q hq;omega
      · have hne15:=hov14.blk_ne hb3k (by decide)
        rw [List.take_add_one,ho]
        refine hov14.agree (hU15.agree ?_) fun g hg=>hU15.other g fun he=>hne15 (he ▸ hg)
        rintro (h|h)
        · have:=(hG g3 h).1;omega
        · omega
    rintro _ w4 ⟨hB4,hz34,hkeep,ov,G,hb3,hG,hown⟩
    rw [List.take_length] at hown
    obtain ⟨Aov,cov,rfl⟩:=hown.form
    have hresz:=hres.lt
    replace hres:=hres.keep (hkeep _ hresz (by omega))
    clear hb1
    have hb1:=hb3
    repeat (first|refine At ?_|refine Ah rfl ?_|refine Ae rfl ?_)
    obtain ⟨Aa,ca,rfl⟩:=hav.form
    obtain ⟨Ab,cb,rfl⟩:=hbv.form
    obtain ⟨Ac,cc,rfl⟩:=hcv.form
    (refine Bi rfl rfl ?_)
    refine Cc rfl rfl hres rfl (Nat.le_refl _) (by simp [Value.cells,Value.oneCell']) fun w5 hU=>?_
    ((refine o_z ?_))
    repeat (first|refine At ?_|refine Ah rfl ?_|refine Ae rfl ?_)
    have hE4:Ext w w4:=hE2.trans (hB4.mono (by omega))
    have s5:=hU.size
    have s04:=hE4.size
    have hcl:∀ {α:Type} [Rp α] {v:Value} {x:α},Vb w3 (fun k=>nw w2 w3 k∧k≠g3) v x→Vb w5 (nw w w5) v x:=fun h=>(h.agree fun q hq=>(hU.other q (by have:=hq.1.1;omega)).trans (hkeep q hq.1.2 hq.2)).mono fun q hq=>⟨by have:=hq.1.1;omega,by have:=hq.1.2;omega⟩
    have hovv:Vb w5 (nw w w5) (.slice Aov t.ops.length cov) t.ops:=(hown.vb.agree fun q hq=>hU.other q (by
      rcases hq with hq|hq
      · have:=(hG q hq).1;omega
      · have:=(hown.lt q hq).1;omega)).mono fun q hq=>by
        rcases hq with hq|hq
        · have:=hG q hq;exact ⟨by omega,by omega⟩
        · have:=hown.lt q hq;exact ⟨by omega,by omega⟩
    refine ret1v rfl (Ck rfl rfl hU.blk.cellsAt) ⟨⟨_,rfl,_,_,_,_,rfl,hcl hav,hcl hbv,hcl hcv,hovv⟩,hE4.trans (hU.below (by omega))⟩
end
section
def PreOk (t:Tsk):Prop:=∀ (i:Nat) o,t.ops[i]?=some o→FactsOk t.vars o.pre
theorem TaskOk.pre {t:Tsk} (h:TaskOk t):PreOk t:=fun i o ho=>(h.2.2.2.2.2 i o ho).2.2.2.2.1
theorem Lm {t:Tsk} (h:PreOk t) (op:Int):FactsOk t.vars (preOf t op):=by
  unfold preOf
  cases ho:t.ops[op.toNat]? with
  | none=>exact ⟨fun i x hx=>by simp at hx,fun i x y hx=>by simp at hx⟩
  | some o=>exact h _ o ho
theorem GK {l:List Fct} {v:Int} {f:Fct} (h:factOn l v=some f):f∈l∧f.var=v:=by
  unfold factOn at h
  exact ⟨List.mem_of_find?_eq_some h,by simpa using List.find?_some h⟩
theorem LR {l:List Fct} {v:Int} (h:factOn l v=none):∀ f∈l,f.var≠v:=by
  unfold factOn at h
  rw [List.find?_eq_none] at h
  intro f hf
  simpa using h f hf
theorem LS {vars:List Int} {l:List Fct} (hl:FactsOk vars l) {f g:Fct} (hf:f∈l) (hg:g∈l) (he:f.var=g.var):f=g:=by
  obtain ⟨i,hi⟩:=List.getElem?_of_mem hf
  obtain ⟨j,hj⟩:=List.getElem?_of_mem hg
  rcases Nat.lt_trichotomy i j with h|h|h
  · have:=FW hl j i f g h hi hj;omega
  · subst h;rw [hi] at hj;injection hj
  · have:=FW hl i j g f h hj hi;omega
theorem TaskOk.fits {t:Tsk} (h:TaskOk t):FitsVals t:=by
  intro i o ho v f hf hv
  obtain ⟨h1,h2⟩:=GK hf
  obtain ⟨j,hj⟩:=List.getElem?_of_mem h1
  obtain ⟨g1,g2,n,g3,g4⟩:=(h.pre i o ho).1 j f hj
  rw [h2] at g3
  exact ⟨g2,n,by simpa using g3,g4⟩
def hf (t:Tsk) (s:List Int) (v:Nat) (op:Int):Bool:=(preOf t op).all fun f=>decide (f.var < (v:Int)) || hasB s f
theorem HV {t:Tsk} {s:List Int} {v:Nat} {op:Int}:hf t s v op=true↔∀ f∈preOf t op,f.var < (v:Int)∨hasB s f=true:=by
  unfold hf
  simp [List.all_eq_true]
theorem Ml {t:Tsk} {s:List Int} {v:Nat} {op:Int} (h:factOn (preOf t op) (v:Int)=none):hf t s v op=hf t s (v + 1) op:=by
  rw [Bool.eq_iff_iff,HV,HV]
  constructor
  · intro hh f hm
    rcases hh f hm with h1|h1
    · exact .inl (by omega)
    · exact .inr h1
  · intro hh f hm
    have:=LR h f hm
    rcases hh f hm with h1|h1
    · exact .inl (by omega)
    · exact .inr h1
theorem Pt {t:Tsk} {s:List Int} {v:Nat} {op:Int} {f:Fct} (hp:PreOk t) (h:factOn (preOf t op) (v:Int)=some f):hf t s v op=(hasB s f && hf t s (v + 1) op):=by
  obtain ⟨h1,h2⟩:=GK h
  rw [Bool.eq_iff_iff,Bool.and_eq_true,HV,HV]
  constructor
  · intro hh
    refine ⟨(hh f h1).resolve_left (by omega),fun g hg=>?_⟩
    rcases hh g hg with h3|h3
    · exact .inl (by omega)
    · exact .inr h3
  · rintro ⟨h3,hh⟩ g hg
    rcases hh g hg with h4|h4
    · by_cases he:g.var=(v:Int)
      · have:g=f:=LS (Lm hp op) hg h1 (by omega)
        subst this;exact .inr h3
      · exact .inl (by omega)
    · exact .inr h4
theorem Mm {t:Tsk} {s:List Int} {ops:List Int}:∀ (k v:Nat),(∀ x,v≤x→x < v + k→tests t ops x=false)→∀ op∈ops,hf t s v op=hf t s (v + k) op
  | 0,_,_,_,_=>rfl
  | k + 1,v,h,op,ho=>by
    have h0:=h v (Nat.le_refl _) (by omega)
    unfold tests at h0
    rw [List.any_eq_false] at h0
    have h1:=h0 op ho
    have h2:factOn (preOf t op) (v:Int)=none:=by simpa using h1
    rw [Ml h2,Mm k (v + 1) (fun x hx1 hx2=>h x (by omega) (by omega)) op ho]
    congr 1;omega
theorem JD {a b c:Int→Bool} {p:Int→Bool} (h:∀ x,p x=if a x=true then b x else if c x=true then b x else false) (hac:∀ x,a x=true→c x=false) :
    ∀ l:List Int,(l.filter p).Perm ((l.filter a).filter b ++ (l.filter c).filter b)
  | []=>by simp
  | x :: l=>by
    have ih:=JD h hac l
    have hx:=h x
    cases ha:a x
    · cases hc:c x
      · simp only [ha,hc] at hx
        simpa [List.filter_cons,ha,hc,hx] using ih
      · simp only [ha,hc] at hx
        cases hb:b x
        · rw [hb] at hx
          simpa [List.filter_cons,ha,hc,hb,hx] using ih
        · rw [hb] at hx
          simp only [List.filter_cons,ha,hc,hb,hx,if_true,Bool.false_eq_true,if_false]
          exact (ih.cons x).trans (List.perm_middle.symm)
    · have hc:=hac x ha
      simp only [ha] at hx
      cases hb:b x
      · rw [hb] at hx
        simpa [List.filter_cons,ha,hc,hb,hx] using ih
      · rw [hb] at hx
        simp only [List.filter_cons,ha,hc,hb,hx,if_true,Bool.false_eq_true,if_false,List.cons_append]
        exact ih.cons x
theorem QA {t:Tsk} {s:List Int} (hp:PreOk t) (op:Int):hf t s t.vars.length op=true:=by
  rw [HV]
  intro f hfm
  obtain ⟨i,hi⟩:=List.getElem?_of_mem hfm
  obtain ⟨h1,h2,n,h3,_⟩:=(Lm hp op).1 i f hi
  have:=BG h3
  exact .inl (by omega)
theorem ML (t:Tsk) (ops:List Int) {v:Nat} (h:v≤t.vars.length):v≤nextV t ops v∧nextV t ops v≤t.vars.length∧(∀ u,v≤u→u < nextV t ops v→tests t ops u=false)∧(nextV t ops v < t.vars.length→tests t ops (nextV t ops v)=true):=by
  obtain ⟨h1,h2,h3,h4⟩:=Hi t ops (t.vars.length - v) v
  exact ⟨h1,by unfold nextV;omega,h3,fun h=>h4 (by unfold nextV at h;omega)⟩
theorem StateOk.at {vars s:List Int} (h:StateOk vars s) {u:Nat} (hu:u < vars.length):∃ (x:Nat) (n:Int),s[u]?=some (x:Int)∧vars[u]?=some n∧(x:Int) < n∧atN s u=x:=by
  obtain ⟨y,hy⟩:=AD (l:=s) (k:=u) (by rw [h.1];exact hu)
  obtain ⟨n,hn⟩:=AD hu
  obtain ⟨h1,h2⟩:=h.2 u y n hy hn
  obtain ⟨x,rfl⟩:=Int.eq_ofNat_of_zero_le h1
  exact ⟨x,n,hy,hn,h2,by simp [atN,hy]⟩
theorem Ln {t:Tsk} {s:List Int} (hp:PreOk t) (hs:StateOk t.vars s):∀ (fuel:Nat) (ops:List Int) (v:Nat),v≤t.vars.length→t.vars.length < fuel + v →
    (coll s (mkT t fuel ops v)).Perm (ops.filter (hf t s v))∧Fits s (mkT t fuel ops v):=by
  intro fuel
  induction fuel with
  | zero=>intro ops v h1 h2;omega
  | succ fuel ih =>
    intro ops v h1 h2
    obtain ⟨g1,g2,g3,g4⟩:=ML t ops h1
    have hsame:=Mm (t:=t) (s:=s) (ops:=ops) (nextV t ops v - v) v (fun x hx1 hx2=>g3 x hx1 (by omega))
    rw [show v + (nextV t ops v - v)=nextV t ops v from by omega] at hsame
    have hfil:ops.filter (hf t s v)=ops.filter (hf t s (nextV t ops v)):=List.filter_congr hsame
    rw [hfil]
    unfold mkT
    by_cases he:ops.isEmpty=true
    · rw [if_pos he]
      have:ops=[]:=by simpa using he
      subst this
      exact ⟨by simp [coll],trivial⟩
    rw [if_neg he]
    by_cases hn:nextV t ops v=t.vars.length
    · rw [if_pos hn,hn]
      have:ops.filter (hf t s t.vars.length)=ops:=List.filter_eq_self.2 fun x _=>QA hp x
      rw [this]
      exact ⟨List.Perm.refl _,trivial⟩
    rw [if_neg hn]
    obtain ⟨x,n,q1,q2,q3,q4⟩:=hs.at (u:=nextV t ops v) (by omega)
    have i1:=ih (ops.filter (valB t (nextV t ops v) x)) (nextV t ops v + 1) (by omega) (by omega)
    have i2:=ih (ops.filter (restB t (nextV t ops v))) (nextV t ops v + 1) (by omega) (by omega)
    refine ⟨?_,⟨x,q1,by rw [q2];simp;omega⟩,by rw [q4];exact i1.2,i2.2⟩
    rw [coll,q4]
    refine (i1.1.append i2.1).trans (JD (a:=valB t (nextV t ops v) x) (c:=restB t (nextV t ops v)) (fun op=>?_) (fun op h=>?_) ops).symm
    · unfold valB restB
      cases ho:factOn (preOf t op) (nextV t ops v:Int) with
      | none=>rw [Ml ho];simp
      | some f =>
        rw [Pt hp ho]
        obtain ⟨_,hv⟩:=GK ho
        rw [Ma (s:=s) hv q1]
        by_cases hx:f.val=(x:Int)
        · simp [hx]
        · simp [hx,Ne.symm hx]
    · unfold valB at h
      unfold restB
      cases ho:factOn (preOf t op) (nextV t ops v:Int) with
      | none=>rw [ho] at h;simp at h
      | some f=>rfl
def allOps (t:Tsk):List Int:=(List.range t.ops.length).map fun i:Nat=>(i:Int)
def treeOf (t:Tsk):Tr:=mkT t (t.vars.length + 1) (allOps t) 0
theorem Km {α:Type} {p q:α→Bool}:∀ {l:List α},(∀ x∈l,p x=q x)→l.all p=l.all q
  | [],_=>rfl
  | x :: l,h=>by rw [List.all_cons,List.all_cons,h x List.mem_cons_self,Km fun y hy=>h y (List.mem_cons_of_mem _ hy)]
theorem Pu {t:Tsk} (hp:PreOk t) (s:List Int):appl t s=(allOps t).filter (hf t s 0):=by
  unfold appl applK allOps
  rw [List.filter_map]
  congr 1
  refine List.filter_congr fun i hi=>?_
  obtain ⟨o,ho⟩:=AD (l:=t.ops) (k:=i) (List.mem_range.1 hi)
  simp only [Function.comp,hf,preOf,holdsB,Int.toNat_natCast,ho]
  refine Km fun f hfm=>?_
  obtain ⟨j,hj⟩:=List.getElem?_of_mem hfm
  have:=((hp i o ho).1 j f hj).1
  have:decide (f.var < ((0:Nat):Int))=false:=decide_eq_false (by omega)
  rw [this,Bool.false_or]
theorem LT (t:Tsk) (s:List Int):(appl t s).Pairwise fun x y=>decide (x≤y)=true:=by
  unfold appl applK
  refine List.Pairwise.map _ (fun a b h=>?_) (List.Pairwise.filter _ List.pairwise_lt_range)
  exact decide_eq_true (by omega)
theorem MM {l m:List Int} (h:l.Perm m) (hm:m.Pairwise fun x y=>decide (x≤y)=true):sortL l=m:=by
  refine List.Perm.eq_of_pairwise (le:=fun x y:Int=>decide (x≤y)=true) (fun a b _ _ h1 h2=>?_) (List.pairwise_mergeSort (fun a b c h1 h2=>?_) (fun a b=>?_) l) hm ((List.mergeSort_perm _ _).trans h)
  · have:=of_decide_eq_true h1;have:=of_decide_eq_true h2;omega
  · have:=of_decide_eq_true h1;have:=of_decide_eq_true h2;exact decide_eq_true (by omega)
  · simp;omega
theorem MN {t:Tsk} {s:List Int} (hp:PreOk t) (hs:StateOk t.vars s):findL t (treeOf t) s=appl t s:=by
  unfold findL
  rw [if_pos (Bd hs)]
  refine MM ?_ (LT t s)
  rw [Pu hp]
  exact (Ln hp hs _ _ 0 (Nat.zero_le _) (by omega)).1
theorem Nt {t:Tsk} {s:List Int} (hp:PreOk t) (hs:StateOk t.vars s):Fits s (treeOf t):=(Ln hp hs _ _ 0 (Nat.zero_le _) (by omega)).2
theorem Od (t:Tsk) (s:List Int):∀ (fuel:Nat) (ops:List Int) (v:Nat),(coll s (mkT t fuel ops v)).length≤ops.length:=by
  intro fuel
  induction fuel with
  | zero=>intro ops v;exact Nat.zero_le _
  | succ fuel ih =>
    intro ops v
    unfold mkT
    by_cases he:ops.isEmpty=true
    · rw [if_pos he];exact Nat.zero_le _
    rw [if_neg he]
    by_cases hn:nextV t ops v=t.vars.length
    · rw [if_pos hn];exact Nat.le_refl _
    rw [if_neg hn,coll,List.length_append]
    refine Nat.le_trans (Nat.add_le_add (ih _ _) (ih _ _)) ?_
    generalize nextV t ops v=u
    generalize atN s u=x
    clear he hn ih
    induction ops with
    | nil=>simp
    | cons op ops ih2 =>
      have hac:valB t u x op=true→restB t u op=false:=by
        unfold valB restB
        cases factOn (preOf t op) (u:Int)<;>simp
      rw [List.filter_cons,List.filter_cons]
      cases ha:valB t u x op
      · cases hc:restB t u op<;>simp<;>omega
      · rw [hac ha];simp;omega
theorem JE (t:Tsk):(allOps t).length=t.ops.length:=by simp [allOps]
theorem Oe (t:Tsk) (s:List Int):(coll s (treeOf t)).length≤t.ops.length:=by
  have:=Od t s (t.vars.length + 1) (allOps t) 0
  rwa [JE] at this
end
section
open Go Go.RowKit
attribute [local irreducible] ewp owp hwp hwq hws Ev Evg Fn retPost loud loudS Res1
theorem LU:∀ k,((List.range (k + 1)).map fun i:Nat=>(i:Int))=((List.range k).map fun i:Nat=>(i:Int)) ++ [(k:Int)]:=fun k=>by
  rw [List.range_succ,List.map_append];rfl
theorem genNew {w:World} {tv:Value} {t:Tsk} (ht:V w tv t):Fn Tryz.prog 24 [tv] w fun v w'=>Ext w w' ∧
    ((TaskOk t∧∃ gv,v=.tuple #[gv,.nilIface]∧GenR w' (nw w w') gv t (treeOf t))∨(¬ TaskOk t∧v=.tuple #[.pointer none,errV (checkN t)])):=by
  have ht0:=ht
  obtain ⟨cs,rfl,a,b,c,d,rfl,hvars,hinit,hgoal,hops⟩:=ht
  refine AK Tryz.func24 rfl Tryz.ntmps24 rfl ?_
  repeat (first|refine At ?_|refine Ah rfl ?_|refine Ae rfl ?_)
  refine Dg rfl rfl fun w1 hN1=>?_
  have hE1:Ext w w1:=hN1.ext
  have hb1:Blk w1 w.heap.size 26 [a,b,c,d]:=hN1.blk
  have ht1:=ht0.ext hE1
  (refine Aw rfl rfl ?_<;>refine Aw rfl rfl ?_<;>(refine o_z ?_))
  repeat (first|refine At ?_|refine Ah rfl ?_|refine Ae rfl ?_)
  (refine Bi rfl rfl ?_)
  refine By rfl rfl (taskCheck ht1) ?_
  rintro _ w2 ⟨rfl,hE2⟩
  have hE02:Ext w w2:=hE1.trans' hE2
  have hb1:=hb1.ext hE2
  by_cases hok:TaskOk t
  case neg =>
    have hne:checkN t≠0:=fun h=>hok (CN.1 h)
    rw [Hc hne]
    (refine Aw rfl rfl ?_<;>(refine o_z ?_))
    repeat (first|refine At ?_|refine Ah rfl ?_|refine Ae rfl ?_)
    ((repeat (first|refine At ?_|refine Ah rfl ?_|refine Ae rfl ?_))<;>(refine Ar rfl rfl ?_<;>(first|refine Qe rfl rfl ?_|refine Qf rfl rfl ?_)<;>(refine o_z ?_))<;>(repeat (first|refine At ?_|refine Ah rfl ?_|refine Ae rfl ?_)))
    ((repeat (first|refine At ?_|refine Ah rfl ?_|refine Ae rfl ?_))<;>(refine Ar rfl rfl ?_<;>refine Aw rfl rfl ?_<;>refine Aw rfl rfl ?_<;>(refine o_z ?_))<;>(repeat (first|refine At ?_|refine Ah rfl ?_|refine Ae rfl ?_)))
    exact ret2 rfl (AE rfl) (AE rfl) ⟨hE02,.inr ⟨hok,rfl⟩⟩
  rw [CN.2 hok,Gz]
  (refine Aw rfl rfl ?_<;>(refine o_z ?_))
  repeat (first|refine At ?_|refine Ah rfl ?_|refine Ae rfl ?_)
  ((repeat (first|refine At ?_|refine Ah rfl ?_|refine Ae rfl ?_))<;>(refine Ar rfl rfl ?_<;>(first|refine Qe rfl rfl ?_|refine Qf rfl rfl ?_)<;>(refine o_z ?_))<;>(repeat (first|refine At ?_|refine Ah rfl ?_|refine Ae rfl ?_)))
  have hpre:=hok.pre
  have hl1:t.vars.length≤64:=hok.1
  have hl4:t.ops.length≤4096:=hok.2.1
  have hcp:=genCopied (ht1.ext hE2) (by omega) (by rw [hok.2.2.2.1.1];omega) (by have:=EV hok.2.2.2.2.1;omega) (by omega) (fun i o ho=>by
    obtain ⟨_,_,h3,_,h5,h6⟩:=hok.2.2.2.2.2 i o ho
    exact ⟨by have:=EV h5;omega,by omega,fun j e he=>by have:=EV (h6 j e he).1;omega⟩)
  (refine Bi rfl rfl ?_)
  refine By rfl rfl hcp ?_
  rintro cvv w3 ⟨hcv,hE3⟩
  obtain ⟨cs',rfl,a',b',c',d',rfl,hvars',hinit',hgoal',hops'⟩:=hcv
  (refine Dd rfl rfl rfl ?_)
  refine Dg rfl rfl fun w4 hN4=>?_
  have hbg:Blk w4 w3.heap.size 107 [a',b',c',d',.pointer none]:=hN4.blk
  have hE34:Ext w3 w4:=hN4.ext
  have s2:=hE02.size
  have s3:=hE3.size
  have s4:w4.heap.size=w3.heap.size + 1:=hN4.size
  obtain ⟨Ao,co,rfl⟩:=hops'.form
  (refine Aw rfl rfl ?_<;>(refine o_z ?_))
  repeat (first|refine At ?_|refine Ah rfl ?_|refine Ae rfl ?_)
  ((repeat (first|refine At ?_|refine Ah rfl ?_|refine Ae rfl ?_))<;>(refine Aw rfl rfl ?_<;>(refine o_z ?_))<;>(repeat (first|refine At ?_|refine Ah rfl ?_|refine Ae rfl ?_)))
  clear hb1
  have hb1:=hbg
  ((repeat (first|refine At ?_|refine Ah rfl ?_|refine Ae rfl ?_))<;>(refine Ar rfl rfl ?_<;>refine Do rfl rfl ?_<;>refine AJ rfl rfl ?_<;>refine AJ rfl rfl ?_<;>refine AG rfl rfl ?_<;>refine AY rfl rfl ?_<;>refine Ar rfl rfl ?_<;>(refine o_z ?_))<;>(repeat (first|refine At ?_|refine Ah rfl ?_|refine Ae rfl ?_)))
  refine BM t.ops.length (by omega) (fun v:Value=>[(1,.pointer (some ⟨w.heap.size,0,none⟩)),(5,.pointer (some ⟨w3.heap.size,0,none⟩)),(6,v)]) (fun k v w'=>Ext w4 w'∧Own w' w4.heap.size (fun _=>False) 3 v ((List.range k).map fun i:Nat=>(i:Int))) (.slice none 0 0)
    ⟨Below.refl _ _,Own.nil _ _ _ _⟩ ⟨rfl,rfl,rfl,rfl,rfl,trivial⟩ (fun _=>⟨rfl,rfl⟩) ⟨rfl,rfl,rfl⟩ ⟨rfl,rfl⟩ ?_ ?_
  · rintro k v w5 hk ⟨hE5,hown⟩
    ((repeat (first|refine At ?_|refine Ah rfl ?_|refine Ae rfl ?_))<;>(refine Ar rfl rfl ?_<;>refine Aw rfl rfl ?_<;>(refine o_z ?_))<;>(repeat (first|refine At ?_|refine Ah rfl ?_|refine Ae rfl ?_)))
    (refine Ar rfl rfl ?_<;>refine Ar rfl rfl ?_)
    refine EU (a:=(k:Int)) rfl rfl rfl hown (fun _ h=>h.elim) hE5.size ⟨rfl,by omega,by omega⟩ (by decide) (by decide) (by simp;omega) (by simp;omega) ⟨rfl,rfl⟩ fun v' w6 hown6 hK=>?_
    (refine Aw rfl rfl ?_<;>(refine o_z ?_))
    repeat (first|refine At ?_|refine Ah rfl ?_|refine Ae rfl ?_)
    exact ⟨v',⟨rfl,rfl,rfl,rfl,rfl,trivial⟩,hE5.trans (hown.fits (Nat.le_refl _) hE5.size hK),by rw [LU];exact hown6⟩
  rintro v w5 ⟨hE5,hown⟩
  have s5:=hE5.size
  have hE35:=hE34.trans' hE5
  have hbg5:=hbg.ext hE5
  have hB5:GenB w5 (All w5) (.pointer (some ⟨w3.heap.size,0,none⟩)) t:=⟨_,_,_,_,_,_,rfl,by show _ < _;omega,hbg5,(hvars'.agree (hE35.agree fun _ h=>h.2)).mono fun k hk=>by have:=hk.2;show _ < _;omega,(hinit'.agree (hE35.agree fun _ h=>h.2)).mono fun k hk=>by have:=hk.2;show _ < _;omega,(hgoal'.agree (hE35.agree fun _ h=>h.2)).mono fun k hk=>by have:=hk.2;show _ < _;omega,(hops'.agree (hE35.agree fun _ h=>h.2)).mono fun k hk=>by have:=hk.2;show _ < _;omega⟩
  have hov:Vb w5 (nw w4 w5) v (allOps t):=hown.vb.mono fun k hk=>hown.lt k (hk.resolve_left id)
  have hbuild:=genBuild t hok.vars hok.fits hl1 (t.vars.length + 1) w5 _ v (allOps t) 0 (nw w4 w5) hB5 hov (fun k hk=>hk.2) (fun op hop=>by
    obtain ⟨i,hi,rfl⟩:=List.mem_map.1 hop
    have:=List.mem_range.1 hi
    exact ⟨by omega,by omega⟩) (by rw [JE];omega) (Nat.zero_le _) (by omega)
  repeat (first|refine At ?_|refine Ah rfl ?_|refine Ae rfl ?_)
  (refine Ar rfl rfl ?_<;>refine Ar rfl rfl ?_<;>refine Ar rfl rfl ?_)
  refine By rfl rfl hbuild ?_
  rintro p w6 ⟨hT,hE6⟩
  obtain ⟨rp,rfl⟩:=hT.form
  have s6:=hE6.size
  (refine Do rfl rfl ?_<;>refine AJ rfl rfl ?_)
  refine Cc rfl rfl (hbg5.ext hE6) rfl (Nat.le_refl _) (by simp [Value.cells,Value.oneCell']) fun w7 hU=>?_
  ((refine o_z ?_))
  repeat (first|refine At ?_|refine Ah rfl ?_|refine Ae rfl ?_)
  ((repeat (first|refine At ?_|refine Ah rfl ?_|refine Ae rfl ?_))<;>(refine Ar rfl rfl ?_<;>refine Aw rfl rfl ?_<;>refine Aw rfl rfl ?_<;>(refine o_z ?_))<;>(repeat (first|refine At ?_|refine Ah rfl ?_|refine Ae rfl ?_)))
  have hE36:=hE35.trans' hE6
  have s7:=hU.size
  have hcl:∀ {α:Type} [Rp α] {v:Value} {x:α},Vb w3 (nw w2 w3) v x→Vb w7 (nw w w7) v x:=fun h=>((h.agree (hE36.agree fun _ h=>h.2)).agree fun q hq=>hU.other q (by have:=hq.2;omega)).mono fun k hk=>⟨by have:=hk.1;omega,by have:=hk.2;omega⟩
  refine ret2 rfl (AE rfl) (AE rfl) ⟨(((hE02.trans' hE3).trans' hE36).trans (hU.below (by omega))),.inl ⟨hok,_,rfl,_,_,_,_,_,_,rfl,⟨by omega,by omega⟩,hU.blk,hcl hvars',hcl hinit',hcl hgoal',hcl hops',?_⟩⟩
  refine TrR.mono (fun k hk=>?_) (TrR.agree (fun q hq=>hU.other q ?_) hT)
  · rcases hk with hk|hk
    · exact ⟨by have:=hk.1;omega,by have:=hk.2;omega⟩
    · exact ⟨by omega,by omega⟩
  · rcases hq with hk|hk
    · have:=hk.1;omega
    · omega
end
section
open Go Go.RowKit
theorem TaskOk.effs {t:Tsk} (h:TaskOk t) {s:List Int} (hs:StateOk t.vars s):∀ (i:Nat) o,t.ops[i]?=some o→EffsIn s o.effs:=fun i o ho j e he=>by
  obtain ⟨h1,_,y,hy,_⟩:=((h.2.2.2.2.2 i o ho).2.2.2.2.2 j e he).2
  refine ⟨h1,?_⟩
  have:=(List.getElem?_eq_some_iff.1 hy).1
  rw [hs.1]
  simp only at h1 this
  omega
end
section
open Go Go.RowKit
attribute [local irreducible] ewp owp hwp hwq hws Ev Evg Fn retPost loud loudS Res1
theorem GenR.mono {w:World} {F G:Nat→Prop} {gv:Value} {t:Tsk} {T:Tr} (h:GenR w F gv t T) (hk:∀ k,F k→G k):GenR w G gv t T:=by
  obtain ⟨gb,a,b,c,d,r,h1,h2,h3,h4,h5,h6,h7,h8⟩:=h
  exact ⟨gb,a,b,c,d,r,h1,hk _ h2,h3,h4.mono hk,h5.mono hk,h6.mono hk,h7.mono hk,TrR.mono hk h8⟩
theorem GenR.agree {w w':World} {F:Nat→Prop} {gv:Value} {t:Tsk} {T:Tr} (h:GenR w F gv t T) (ha:Agree F w w'):GenR w' F gv t T:=by
  obtain ⟨gb,a,b,c,d,r,h1,h2,h3,h4,h5,h6,h7,h8⟩:=h
  exact ⟨gb,a,b,c,d,r,h1,h2,h3.keep (ha gb h2),h4.agree ha,h5.agree ha,h6.agree ha,h7.agree ha,TrR.agree ha h8⟩
theorem GenR.form {w:World} {F:Nat→Prop} {gv:Value} {t:Tsk} {T:Tr} (h:GenR w F gv t T):∃ gb,gv=.pointer (some ⟨gb,0,none⟩):=by
  obtain ⟨gb,a,b,c,d,r,h1,_⟩:=h
  exact ⟨gb,h1⟩
noncomputable def appS (t:Tsk) (s:List Int):List Int:=if bof (StateOk t.vars s)=true then appl t s else []
theorem Iq {t:Tsk} {s:List Int} (h:StateOk t.vars s):appS t s=appl t s:=by unfold appS;rw [if_pos (Bd h)]
theorem JT {t:Tsk} {s:List Int} (h:¬ StateOk t.vars s):appS t s=[]:=by unfold appS;rw [AM h];rfl
theorem MO {t:Tsk} (hp:PreOk t) (s:List Int):findL t (treeOf t) s=appS t s:=by
  by_cases h:StateOk t.vars s
  · rw [MN hp h,Iq h]
  · rw [JT h];unfold findL;rw [AM h];rfl
theorem Lo {t:Tsk} {s:List Int} {x:Int} (h:x∈appl t s):∃ (j:Nat) (o:Opr),x=(j:Int)∧t.ops[j]?=some o∧holdsB o.pre s=true:=by
  unfold appl applK at h
  obtain ⟨j,hj,rfl⟩:=List.mem_map.1 h
  obtain ⟨h1,h2⟩:=List.mem_filter.1 hj
  obtain ⟨o,ho⟩:=AD (List.mem_range.1 h1)
  rw [ho] at h2
  exact ⟨j,o,rfl,ho,h2⟩
theorem Of {t:Tsk} {s:List Int} {x:Int} (h:x∈appS t s):StateOk t.vars s∧x∈appl t s:=by
  by_cases hs:StateOk t.vars s
  · rw [Iq hs] at h;exact ⟨hs,h⟩
  · rw [JT hs] at h;cases h
theorem Lp (t:Tsk) (s:List Int):(appl t s).length≤t.ops.length:=Nq t s _
theorem Og (t:Tsk) (s:List Int):(appS t s).length≤t.ops.length:=by
  by_cases hs:StateOk t.vars s
  · rw [Iq hs];exact Lp t s
  · rw [JT hs];exact Nat.zero_le _
section
variable {w : World} {gv sv : Value} {t : Tsk} {s : List Int}
theorem applT (hok:TaskOk t) (hg:GenR w (All w) gv t (treeOf t)) (hs:V w sv s) (hsl:s.length≤1000000) :
    Fn Tryz.prog 65 [gv,sv] w fun v w'=>Ext w w'∧Own w' w.heap.size (All w) 3 v (appS t s):=by
  have:=genApplicable hg hs (Nt hok.pre) (by have:=Oe t s;have:=hok.2.1;omega) hsl
  rwa [MO hok.pre] at this
end
theorem nilFind {w:World} {sv:Value}:Fn Tryz.prog 92 [.pointer none,sv] w fun v w'=>v=.tuple #[.slice none 0 0,.int .i64 0]∧Ext w w':=by
  refine AK Tryz.func92 rfl Tryz.ntmps92 rfl ?_
  ((repeat (first|refine At ?_|refine Ah rfl ?_|refine Ae rfl ?_))<;>(refine Aw rfl rfl ?_<;>refine Aw rfl rfl ?_<;>(refine o_z ?_))<;>(repeat (first|refine At ?_|refine Ah rfl ?_|refine Ae rfl ?_)))
  (refine Ar rfl rfl ?_<;>refine KV rfl rfl ?_<;>refine Ar rfl rfl ?_<;>(first|(refine Az rfl rfl ?_;refine Ar rfl rfl ?_)|refine Au rfl rfl rfl rfl ?_)<;>(first|(refine Az rfl rfl ?_;refine Do rfl rfl ?_)|refine Au rfl rfl rfl rfl ?_)<;>(first|(refine Az rfl rfl ?_;refine AJ rfl rfl ?_)|refine Au rfl rfl rfl rfl ?_)<;>(first|(refine Az rfl rfl ?_;refine AJ rfl rfl ?_)|refine Au rfl rfl rfl rfl ?_)<;>(first|(refine Az rfl rfl ?_;refine AG rfl rfl ?_)|refine Au rfl rfl rfl rfl ?_)<;>(first|(refine Az rfl rfl ?_;refine Ar rfl rfl ?_)|refine Au rfl rfl rfl rfl ?_))
  refine Au rfl rfl rfl rfl ?_
  ((first|(refine Az rfl rfl ?_;(first|refine Cq rfl rfl ?_|refine Cr rfl rfl ?_|refine CU rfl rfl ?_))|refine Au rfl rfl rfl rfl ?_)<;>(first|refine Bq rfl rfl rfl ?_|refine Br rfl rfl rfl ?_)<;>(refine o_z ?_))
  repeat (first|refine At ?_|refine Ah rfl ?_|refine Ae rfl ?_)
  ((repeat (first|refine At ?_|refine Ah rfl ?_|refine Ae rfl ?_))<;>(refine Aw rfl rfl ?_<;>refine Aw rfl rfl ?_<;>(refine o_z ?_))<;>(repeat (first|refine At ?_|refine Ah rfl ?_|refine Ae rfl ?_)))
  exact ret2 rfl (AE rfl) (AE rfl) ⟨rfl,Below.refl _ _⟩
theorem nilApplicable {w:World} {sv:Value}:Fn Tryz.prog 65 [.pointer none,sv] w fun v w'=>v=.slice none 0 0∧Ext w w':=by
  refine AK Tryz.func65 rfl Tryz.ntmps65 rfl ?_
  ((repeat (first|refine At ?_|refine Ah rfl ?_|refine Ae rfl ?_))<;>(refine Aw rfl rfl ?_<;>(refine o_z ?_))<;>(repeat (first|refine At ?_|refine Ah rfl ?_|refine Ae rfl ?_))<;>(refine Ar rfl rfl ?_<;>refine Ar rfl rfl ?_)<;>(repeat (first|refine At ?_|refine Ah rfl ?_|refine Ae rfl ?_)))
  refine By rfl rfl nilFind ?_
  rintro _ w1 ⟨rfl,hE⟩
  (refine Ar rfl rfl ?_<;>refine CE rfl rfl rfl ?_<;>refine CE rfl rfl rfl ?_<;>refine Aw rfl rfl ?_<;>refine Aw rfl rfl ?_<;>(refine o_z ?_))
  repeat (first|refine At ?_|refine Ah rfl ?_|refine Ae rfl ?_)
  ((repeat (first|refine At ?_|refine Ah rfl ?_|refine Ae rfl ?_))<;>(refine Ar rfl rfl ?_<;>refine Aw rfl rfl ?_<;>(refine o_z ?_))<;>(repeat (first|refine At ?_|refine Ah rfl ?_|refine Ae rfl ?_)))
  exact ret1 rfl rfl ⟨rfl,hE⟩
end
section
open Go Go.RowKit
attribute [local irreducible] ewp owp hwp hwq hws Ev Evg Fn retPost loud loudS Res1
structure Gnr where
  t:Tsk
def GnrR (w:World) (F:Nat→Prop) (v:Value):Option Gnr→Prop
  | none=>v=.pointer none
  | some g=>TaskOk g.t∧GenR w F v g.t (treeOf g.t)
theorem GnrR.one {w:World} {F:Nat→Prop} {v:Value}:∀ {x:Option Gnr},GnrR w F v x→v.oneCell'=true
  | none,h=>by    have:v=.pointer none:=h
                  subst this;rfl
  | some g,h=>by
    obtain ⟨gb,rfl⟩:=h.2.form
    rfl
instance:Rp (Option Gnr) where
  isAgg:=false
  size:=1
  R w F cs x:=∃ v,cs=[v]∧GnrR w F v x
  len:=by rintro w F cs x ⟨v,rfl,_⟩;rfl
  one:=by
    rintro w F cs x ⟨v,rfl,h⟩ u hu
    have:u=v:=by simpa using hu
    subst this;exact h.one
  agree:=by
    rintro w w' F cs x ⟨v,rfl,h⟩ ha
    refine ⟨v,rfl,?_⟩
    cases x with
    | none=>exact h
    | some g=>exact ⟨h.1,h.2.agree ha⟩
  mono:=by
    rintro w F G cs x ⟨v,rfl,h⟩ hk
    refine ⟨v,rfl,?_⟩
    cases x with
    | none=>exact h
    | some g=>exact ⟨h.1,h.2.mono hk⟩
theorem vNone {w:World} {F:Nat→Prop}:Vb w F (.pointer none) (none:Option Gnr):=⟨_,rfl,rfl⟩
theorem Vb.gnr {w:World} {F:Nat→Prop} {v:Value} {x:Option Gnr} (h:Vb w F v x):GnrR w F v x:=by
  obtain ⟨u,hu,h'⟩:=h
  have:v=u:=by simpa using hu
  subst this;exact h'
theorem Vb.ptr {w:World} {F:Nat→Prop} {v:Value} {x:Option Gnr} (h:Vb w F v x):∃ p,v=.pointer p∧p.isNone=x.isNone:=by
  cases x with
  | none=>exact ⟨none,h.gnr,rfl⟩
  | some g=>obtain ⟨gb,rfl⟩:=h.gnr.2.form;exact ⟨_,rfl,rfl⟩
theorem Oh {w:World} {F:Nat→Prop} {p:Option Addr} {x:Option Gnr} {g:Gnr} (h:Vb w F (.pointer p) x) (e:x=some g) :
    ∃ gb a b c d r,p=some ⟨gb,0,none⟩∧F gb∧cellsAt w gb 0 [a,b,c,d,r]∧Vb w F a g.t.vars∧Vb w F b g.t.init∧Vb w F c g.t.goal∧Vb w F d g.t.ops:=by
  subst e
  obtain ⟨_,gb,a,b,c,d,r,h1,h2,h3,h4,h5,h6,h7,_⟩:=h.gnr
  injection h1 with h1
  exact ⟨gb,a,b,c,d,r,h1,h2,h3.cellsAt,h4,h5,h6,h7⟩
theorem vGnr {w:World} {F:Nat→Prop} {v:Value} {g:Gnr} (h:TaskOk g.t) (hg:GenR w F v g.t (treeOf g.t)):Vb w F v (some g):=⟨v,rfl,h,hg⟩
theorem Pv {A:Nat→Prop} {w w':World}:∀ k,nw w w' k→upA A w w' k:=fun _ h=>.inr h
theorem Own.intRow {w w':World} {F A:Nat→Prop} {e:TypeId} {v:Value} {xs:List Int} (h:Own w' w.heap.size F e v xs):RowR w w' (upA A w w') e v xs:=by
  obtain ⟨cells,q1,q2,q3⟩:=h
  exact ⟨fun _=>False,fun _ h=>h.elim,cells,q1,GJ q2,fun _ _ h=>h⟩
noncomputable def Eq (t:Tsk):Option (Option Gnr×Err):=some (if bof (TaskOk t)=true then some ⟨t⟩ else none,⟨checkN t⟩)
theorem KF {w:World} {A:Nat→Prop} (hA:∀ k,A k→k < w.heap.size) {v0:Value} {x0:Tsk} (h0:Vb w A v0 x0) {r:Option Gnr×Err} (hm:Eq x0=some r):Fn Tryz.prog 24 [v0] w fun v w'=>Ext w w'∧T2 w' (upA A w w') v r:=by
  obtain rfl:=sm hm
  refine (genNew (h0.mono hA)).mono fun v w' h=>⟨h.1,?_⟩
  rcases h.2 with ⟨hok,gv,rfl,hg⟩|⟨hno,rfl⟩
  · rw [Bd hok,CN.2 hok]
    exact ⟨gv,_,rfl,vGnr (g:=⟨x0⟩) hok (hg.mono Pv),vErr0⟩
  · rw [AM hno]
    exact ⟨_,_,rfl,vNone,vErr (Jy _)⟩
noncomputable def appG:Option Gnr→List Int→List Int
  | none,_=>[]
  | some g,s=>appS g.t s
noncomputable def Cz (x:Option Gnr) (s:List Int):Option (List Int):=if s.length≤1000000 then some (appG x s) else none
theorem Fl {w:World} {A:Nat→Prop} (hA:∀ k,A k→k < w.heap.size) {v0:Value} {x0:Option Gnr} (h0:Vb w A v0 x0) {v1:Value} {x1:List Int} (h1:Vb w A v1 x1) {r:List Int} (hm:Cz x0 x1=some r) :
    Fn Tryz.prog 65 [v0,v1] w fun v w'=>Ext w w'∧RowR w w' (upA A w w') 3 v r:=by
  obtain ⟨hl,rfl⟩:=IN hm
  cases x0 with
  | none =>
    have h2:=h0.gnr
    have:v0=.pointer none:=h2
    subst this
    refine nilApplicable.mono fun v w' h=>⟨h.2,?_⟩
    rw [h.1];exact RowR.nil
  | some g =>
    obtain ⟨hok,hg⟩:=h0.gnr
    exact (applT hok (hg.mono hA) (h1.mono hA) hl).mono fun v w' h=>⟨h.1,h.2.intRow⟩
end
section
section
variable {α σ ρ : Type}
theorem BP {s:σ} {f:σ→Option ρ}:fin (.done s) f=f s:=rfl
theorem GE {c:ρ} {f:σ→Option ρ}:fin (.ret c) f=some c:=rfl
theorem Bj {x y:α}:(if true=true then x else y)=x:=rfl
theorem BB {x y:α}:(if false=true then x else y)=y:=rfl
theorem Pc {x y:α}:(if (!true)=true then x else y)=y:=rfl
theorem Pd {x y:α}:(if (!false)=true then x else y)=x:=rfl
theorem HW {f:Nat→α→σ→Option (Ctl σ ρ)} {I:Nat→σ→Prop} {R:ρ→Prop}:∀ (ys:List α) (j:Nat) (s:σ),I j s →
    (∀ k x s,ys[k]?=some x→I (j + k) s→(∃ s',f (j + k) x s=some (.next s')∧I (j + k + 1) s')∨(∃ r,f (j + k) x s=some (.ret r)∧R r)) →
    (∃ s',rng f ys j s=some (.done s')∧I (j + ys.length) s')∨∃ r,rng f ys j s=some (.ret r)∧R r
  | [],j,s,h0,_=>.inl ⟨s,rfl,h0⟩
  | y :: ys,j,s,h0,h=>by
    rcases h 0 y s rfl h0 with ⟨s',h1,h2⟩|⟨r,h1,h2⟩
    · have h1':f j y s=some (.next s'):=h1
      simp only [rng,h1']
      rcases HW (I:=I) (R:=R) ys (j + 1) s' h2 (fun k x s hk hI=>by
        have:=h (k + 1) x s (by simpa using hk) (by rwa [show j + (k + 1)=j + 1 + k from by omega])
        rwa [show j + (k + 1)=j + 1 + k from by omega] at this) with ⟨s2,h3,h4⟩|h3
      · exact .inl ⟨s2,h3,by rw [List.length_cons,show j + (ys.length + 1)=j + 1 + ys.length from by omega];exact h4⟩
      · exact .inr h3
    · have h1':f j y s=some (.ret r):=h1
      simp only [rng,h1']
      exact .inr ⟨r,rfl,h2⟩
theorem Ir {f:Nat→α→σ→Option (Ctl σ ρ)} {xs:List α} {s₀:σ} (I:Nat→σ→Prop) (R:ρ→Prop) (h0:I 0 s₀)
    (h:∀ k x s,xs[k]?=some x→I k s→(∃ s',f k x s=some (.next s')∧I (k + 1) s')∨(∃ r,f k x s=some (.ret r)∧R r)) :
    (∃ s',rng f xs 0 s₀=some (.done s')∧I xs.length s')∨∃ r,rng f xs 0 s₀=some (.ret r)∧R r:=by
  have:=HW (f:=f) (I:=I) (R:=R) xs 0 s₀ h0 (fun k x s hk hI=>by rw [Nat.zero_add] at hI ⊢;exact h k x s hk hI)
  rwa [Nat.zero_add] at this
theorem DD {f:Nat→α→σ→Option (Ctl σ ρ)} {xs:List α} {s₀:σ} (I:Nat→σ→Prop) (h0:I 0 s₀) (h:∀ k x s,xs[k]?=some x→I k s→∃ s',f k x s=some (.next s')∧I (k + 1) s') :
    ∃ s',rng f xs 0 s₀=some (.done s')∧I xs.length s':=by
  rcases Ir I (fun _=>False) h0 (fun k x s hk hI=>.inl (h k x s hk hI)) with h|⟨_,_,h⟩
  · exact h
  · exact h.elim
theorem Mn {f:Nat→α→σ→Option (Ctl σ ρ)} {xs:List α} (g:Nat→σ) (h:∀ k x,xs[k]?=some x→f k x (g k)=some (.next (g (k + 1)))):rng f xs 0 (g 0)=some (.done (g xs.length)):=by
  obtain ⟨s',h1,h2⟩:=DD (f:=f) (xs:=xs) (s₀:=g 0) (fun k s=>s=g k) rfl (fun k x s hk hI=>⟨_,by rw [hI];exact h k x hk,rfl⟩)
  rw [h1,h2]
theorem EE {f:Nat→α→σ→Option (Ctl σ ρ)} {xs:List α} {s₀:σ} (g:Nat→σ) (h0:s₀=g 0) (h:∀ k x,xs[k]?=some x→f k x (g k)=some (.next (g (k + 1)))):rng f xs 0 s₀=some (.done (g xs.length)):=by
  rw [h0];exact Mn g h
theorem IZ {f:Nat→α→Unit→Option (Ctl Unit ρ)} {xs:List α} (h:∀ k x,xs[k]?=some x→f k x ()=some (.next ())):rng f xs 0 ()=some (.done ()):=Mn (fun _=>()) h
theorem Lq {f:Nat→σ→Option (Ctl σ ρ)} {N:Nat} {s₀:σ} (I:Nat→σ→Prop) (h0:I 0 s₀) (h:∀ k s,k < N→I k s→∃ s',f k s=some (.next s')∧I (k + 1) s') :
    ∃ s',rngN f N s₀=some (.done s')∧I N s':=by
  have:=DD (f:=fun _ k s=>f k s) (xs:=List.range N) (s₀:=s₀) I h0 (fun k x s hk hI=>by
    obtain ⟨hlt,rfl⟩:=List.getElem?_eq_some_iff.1 hk
    simpa using h k s (by simpa using hlt) hI)
  rwa [List.length_range] at this
end
end
section
open Go Go.RowKit
theorem Oi {ρ:Type} {s:List Int} {effs:List Eff} (he:EffsIn s effs) (m:List Fct→List Int→Option Bool) (hm:∀ f s,m f s=some (holdsB f s)) (u:List Int) (hu:u.length=s.length) :
    rng (ρ:=ρ) (fun (_:Nat) (e:Eff) (out:List Int)=>bnd (m e.cond s) fun q=>if q=true then bnd (atI out e.var) fun _=>some (.next (out.set (e.var).toNat e.val)) else some (.next out)) effs 0 u=some (.done (effsOn s effs u)):=by
  rw [EE (fun k=>effsOn s (effs.take k) u) ?_ ?_,List.take_length]
  · rfl
  intro k e hk
  rw [hm,Am,LQ s hk]
  have hin:=he k e hk
  have hl:=Hx s (effs.take k) u
  by_cases hb:holdsB e.cond s=true
  · rw [if_pos hb,if_pos hb]
    obtain ⟨j,hj⟩:=Int.eq_ofNat_of_zero_le hin.1
    rw [hj,Bh,List.getElem?_eq_getElem (by omega),Am]
  · rw [if_neg hb,if_neg hb]
theorem Kn {vars s:List Int}:∀ (l:List Eff),(∀ e∈l,EffOk vars e)→∀ (u:List Int),StateOk vars u→StateOk vars (effsOn s l u)
  | [],_,_,hu=>hu
  | e :: l,he,u,hu=>by
    refine Kn l (fun e' h'=>he e' (List.mem_cons_of_mem _ h')) _ ?_
    split
    · obtain ⟨_,h1,h2,y,hy,h3⟩:=he e List.mem_cons_self
      refine ⟨by rw [List.length_set];exact hu.1,fun i x n hx hn=>?_⟩
      rw [List.getElem?_set] at hx
      by_cases hi:e.var.toNat=i
      · subst hi
        rw [if_pos rfl] at hx
        split at hx
        · obtain rfl:=Option.some.inj hx
          simp only at hy h2 h3
          rw [hy] at hn
          obtain rfl:=Option.some.inj hn
          exact ⟨h2,h3⟩
        · cases hx
      · rw [if_neg hi] at hx
        exact hu.2 i x n hx hn
    · exact hu
theorem Gd {t:Tsk} (h:TaskOk t) {s:List Int} (hs:StateOk t.vars s) {k:Nat} {o:Opr} (ho:t.ops[k]?=some o):StateOk t.vars (succ o s) :=
  Kn o.effs (fun e he=>by obtain ⟨j,hj⟩:=List.getElem?_of_mem he;exact (h.2.2.2.2.2 k o ho).2.2.2.2.2 j e hj) s hs
end
section
open Go Go.RowKit
section
attribute [local irreducible] ewp owp hwp hwq hws Ev Evg Fn retPost loud loudS Res1
noncomputable def Bp (x0:Option Gnr) (x1:List Int):Option (List Suc) :=
  bnd (Cz x0 x1) fun q7=>bnd (rng (ρ:=(List Suc)) (fun (k23:Nat) (a24:Int) (s21:(List Suc))=>bnd (Ct x1) fun q46=>bnd (x0) fun o56=>bnd (atI o56.t.ops a24) fun a88=>bnd (rng (ρ:=Ctl (List Suc) (List Suc)) (fun (k115:Nat) (a116:Eff) (s113:(List Int))=>bnd (DX a116.cond x1) fun q150=>if q150=true then bnd (atI s113 a116.var) fun a157=>some (.next (s113.set (a116.var:Int).toNat a116.val)) else some (.next s113)) a88.effs 0 q46) fun res111=>fin res111 fun (s175:(List Int))=>bnd (appI 32 s21 [(⟨a24,s175⟩:Suc)]) fun u179=>some (.next u179)) q7 0 ([]:List Suc)) fun res19=>fin res19 fun (s195:(List Suc))=>some s195
theorem Fm {w:World} {A:Nat→Prop} (hA:∀ k,A k→k < w.heap.size) {vx0:Value} {x0:Option Gnr} (h0:Vb w A vx0 x0) {vx1:Value} {x1:List Int} (g0:Vb w A vx1 x1) {r:(List Suc)} (hm:Bp x0 x1=some r) :
    Fn Tryz.prog 30 [vx0,vx1] w fun v w'=>Ext w w'∧Vb w' (upA A w w') v r:=by
 obtain ⟨O,hB,k3⟩:=enter hA
 replace h0:=h0.mono k3
 obtain ⟨p3,rfl,s3⟩:=h0.ptr
 replace g0:=g0.mono k3
 obtain ⟨A5,c6,rfl⟩:=g0.form
 refine AK Tryz.func30 rfl Tryz.ntmps30 rfl ?_
 unfold Bp at hm
 refine Al (Aj (Aw rfl rfl (o_z ?_)))
 refine Al (Aj (Aw rfl rfl (o_z ?_)))
 refine Al (Al (Aj (Ar rfl rfl (Ar rfl rfl ?_))))
 obtain ⟨q7,e8,hm⟩:=bs hm
 refine HM 2 (by decide) (O:=O) (Fl Fr.lt h0 g0 e8) rfl rfl fun e1 f1 w9 t3 b2 m0=>?_
 refine AY rfl rfl ?_
 have e2:q7.length≤9223372036854775807:=Nat.le_trans m0.len.2.1 m0.len.2.2
 have q5:inI64 (q7.length:Int):=rngNat e2
 refine Ar rfl rfl (o_z ?_)
 obtain ⟨h1,f2,hm⟩:=bs hm
 refine AL (aft h1 (fun (n0:(List Suc)) (i0:(Option Addr×Nat))=>[(5,(.slice i0.1 n0.length i0.2))]) (fun n0 i0 w'=>∃ O':Lab,Bs w A w' O'∧Rw 5 w' O' 85 (.slice i0.1 n0.length i0.2) n0)) ?_ ?_
 ·
  refine Bb ?_
  replace hB:=hB.st b2
  replace h0:=h0.st b2
  replace g0:=g0.st b2
  refine BL (σ:=(List Suc)) (X:=(Option Addr×Nat)) (q7.length) f2 rfl e2 (fun (n0:(List Suc)) (i0:(Option Addr×Nat))=>[(0,(.pointer p3)),(1,(.slice A5 x1.length c6)),(5,(.slice i0.1 n0.length i0.2)),(13,(.slice e1 q7.length f1))]) _ (fun n0 i0 w'=>∃ O':Lab,Bs w A w' O'∧Vb w' (Fr 0 w' O') (.pointer p3) x0∧Vb w' (Fr 0 w' O') (.slice A5 x1.length c6) x1∧Rw 5 w' O' 85 (.slice i0.1 n0.length i0.2) n0∧Rw 2 w' O' 3 (.slice e1 q7.length f1) q7) _ (none,0) ⟨t3,hB,h0,g0,(Rw.nil 5 (by decide)),m0⟩ ⟨rfl,rfl,rfl,rfl,rfl,rfl,trivial⟩ (fun _ _=>⟨rfl,rfl⟩) (fun _ _=>⟨rfl,trivial⟩) (fun _ _ _ ⟨O',hB,h0,g0,j0,m0⟩=>⟨O',hB,j0⟩) ⟨rfl,rfl,rfl⟩ ⟨rfl,rfl⟩ ?_
  rintro g2 i1 n0 i0 r5 u3 j1 ⟨v3,hB,h0,g0,j0,m0⟩ e0 h2 i2
  have rk23:inI64 (g2:Int):=rngK j1 e2
  refine Al (Aj ?_)
  obtain ⟨s5,t5,w3,j2,k2,l2,rfl,x3⟩:=m0.elem j1
  refine BJ (hA:=j2) (hj:=rfl) (hlt:=k2) rfl rfl rfl ?_
  refine AG (hc:=cat0 l2) rfl rfl ?_
  refine Aw rfl rfl (o_z ?_)
  refine Al (Aj (Ar rfl rfl ?_))
  obtain ⟨k1,y3,e0⟩:=bs e0
  refine HM 3 (by decide) (O:=v3) (EO Fr.lt g0 y3) rfl rfl fun l1 m1 u5 z3 r0 a4=>?_
  refine Aw rfl rfl (o_z ?_)
  refine Al (Al (Aj (Ar rfl rfl ?_)))
  obtain ⟨v5,l3,e0⟩:=bs e0
  obtain ⟨ad59,m2⟩:=JR (s3.trans (by rw [l3];rfl))
  refine QX (hA:=m2) rfl rfl ?_
  replace h0:=h0.st r0
  obtain ⟨w5,x5,y5,z5,a6,b6,n2,b4,o2,c4,d4,e4,m3⟩:=Oh h0 l3
  obtain ⟨d6,e6,rfl⟩:=c4.form
  obtain ⟨f6,g6,rfl⟩:=d4.form
  obtain ⟨h6,i6,rfl⟩:=e4.form
  obtain ⟨j6,k6,rfl⟩:=m3.form
  refine QW (hA:=n2) rfl rfl ?_
  refine AJ rfl rfl (AG (hc:=cat3 o2) rfl rfl ?_)
  refine Ar rfl rfl ?_
  obtain ⟨g1,f4,e0⟩:=bs e0
  obtain ⟨g4,h4⟩:=AZ f4
  obtain ⟨l6,m6,i4,p2,q2,r2,n6,j4,rfl,s2,k0,k4,l4⟩:=m3.elem' h4
  obtain ⟨m4,n4,rfl⟩:=s2.form
  obtain ⟨n1,o1,rfl⟩:=k0.form
  refine BJ (hA:=p2) (hj:=(Int.toNat_of_nonneg g4).symm) (hlt:=q2) rfl rfl rfl ?_
  refine AJ rfl rfl (AG (hc:=cat3 r2) rfl rfl ?_)
  refine AY rfl rfl ?_
  have b1:g1.effs.length≤9223372036854775807:=Nat.le_trans k0.len.2.1 k0.len.2.2
  have o4:inI64 (g1.effs.length:Int):=rngNat b1
  refine Ar rfl rfl (o_z ?_)
  obtain ⟨c1,p1,e0⟩:=bs e0
  refine AL (aft c1 (fun (o0:(List Int)) (s0:Unit)=>[(0,(.pointer p3)),(1,(.slice A5 x1.length c6)),(5,(.slice i0.1 n0.length i0.2)),(7,(.int .i64 i1)),(8,(.slice l1 k1.length m1)),(13,(.slice e1 q7.length f1)),(14,(.int .i64 (q7.length:Int))),(15,(.int .i64 (g2:Int)))]) (fun o0 s0 w'=>∃ O':Lab,Bs w A w' O'∧Vb w' (Fr 0 w' O') (.pointer p3) x0∧Vb w' (Fr 0 w' O') (.slice A5 x1.length c6) x1∧Rw 5 w' O' 85 (.slice i0.1 n0.length i0.2) n0∧Rw 3 w' O' 3 (.slice l1 k1.length m1) o0∧Rw 2 w' O' 3 (.slice e1 q7.length f1) q7)) ?_ ?_
  ·
   refine Bb ?_
   replace hB:=hB.st r0
   replace g0:=g0.st r0
   replace m0:=m0.st r0
   replace j0:=j0.st r0
   refine BL (σ:=(List Int)) (X:=Unit) (g1.effs.length) p1 rfl b1 (fun (o0:(List Int)) (s0:Unit)=>[(0,(.pointer p3)),(1,(.slice A5 x1.length c6)),(5,(.slice i0.1 n0.length i0.2)),(7,(.int .i64 i1)),(8,(.slice l1 k1.length m1)),(13,(.slice e1 q7.length f1)),(14,(.int .i64 (q7.length:Int))),(15,(.int .i64 (g2:Int))),(29,(.slice n1 g1.effs.length o1))]) _ (fun o0 s0 w'=>∃ O':Lab,Bs w A w' O'∧Vb w' (Fr 0 w' O') (.pointer p3) x0∧Vb w' (Fr 0 w' O') (.slice A5 x1.length c6) x1∧Rw 5 w' O' 85 (.slice i0.1 n0.length i0.2) n0∧Rw 3 w' O' 3 (.slice l1 k1.length m1) o0∧Rw 2 w' O' 3 (.slice e1 q7.length f1) q7∧Vb w' (Fr 0 w' O') (.slice n1 g1.effs.length o1) g1.effs) _ () ⟨z3,hB,h0,g0,j0,a4,m0,k0⟩ ⟨rfl,rfl,rfl,rfl,rfl,rfl,rfl,rfl,rfl,rfl,rfl,trivial⟩ (fun _ _=>⟨rfl,rfl⟩) (fun _ _=>⟨rfl,rfl,rfl,rfl,rfl,rfl,rfl,rfl,trivial⟩) (fun _ _ _ ⟨O',hB,h0,g0,j0,f0,m0,k0⟩=>⟨O',hB,h0,g0,j0,f0,m0⟩) ⟨rfl,rfl,rfl⟩ ⟨rfl,rfl⟩ ?_
   rintro t2 t0 o0 s0 p4 n3 z0 ⟨u2,hB,h0,g0,j0,f0,m0,k0⟩ a0 c2 d2
   have rk115:inI64 (t2:Int):=rngK z0 b1
   refine Al (Aj ?_)
   obtain ⟨q4,r4,o3,q1,r1,s1,s4,rfl,u0,t4,v2⟩:=k0.elem' z0
   obtain ⟨w2,x2,rfl⟩:=u0.form
   refine BJ (hA:=q1) (hj:=rfl) (hlt:=r1) rfl rfl rfl ?_
   refine Bi (hl:=rfl) (hc:=s1) rfl rfl ?_
   refine Bf 4 u2 rfl fun y2 u4 v0 c0 l0=>?_
   refine AT l0 rfl rfl rfl (Bg rfl) (allOne rfl) fun w0 d0 l0=>?_
   replace l0:Lc 4 w0 v0 y2 47 [(.slice w2 t0.cond.length x2),(.int .i64 t0.var),(.int .i64 t0.val)]:=l0
   refine o_z ?_
   refine Al (Aj (AJ rfl rfl (AG (hc:=Blk.cell (i:=0) (l0.1) rfl) rfl rfl ?_)))
   refine Ar rfl rfl ?_
   obtain ⟨t1,z2,a0⟩:=bs a0
   replace g0:=(g0.st c0).st d0
   replace u0:=(u0.st c0).st d0
   refine Bn (O:=v0) (A:=All w0) (R:=fun w' F v=>Vb w' F v t1) (HN (fun _ h=>h) (Vb.mono (F:=Fr 0 w0 v0) u0 Fr.lt) (Vb.mono (F:=Fr 0 w0 v0) g0 Fr.lt) z2) rfl rfl fun v4 w4 x4 b0 a3=>?_
   obtain rfl:=a3.bool
   cases t1
   case false =>
    replace a0:=iF a0
    refine o_z ?_
    refine Ae rfl (AO ?_)
    obtain rfl:=sm a0
    exact show Exists _ from ⟨_,(),rfl,⟨rfl,rfl,rfl,rfl,rfl,rfl,rfl,rfl,rfl,rfl,rfl,trivial⟩,_,((hB.st c0).st d0).st b0,((h0.st c0).st d0).st b0,g0.st b0,((j0.st c0).st d0).st b0,((f0.st c0).st d0).st b0,((m0.st c0).st d0).st b0,((k0.st c0).st d0).st b0⟩
   replace a0:=iT a0
   refine o_z ?_
   refine Ah rfl (Aj (Ar rfl rfl (AJ rfl rfl ?_)))
   replace l0:=l0.st b0
   refine AG (hc:=Blk.cell (i:=1) (l0.1) rfl) rfl rfl ?_
   refine AJ rfl rfl (AG (hc:=Blk.cell (i:=2) (l0.1) rfl) rfl rfl ?_)
   obtain ⟨y4,b3,a0⟩:=bs a0
   obtain ⟨c3,u1⟩:=AZ b3
   replace f0:=((f0.st c0).st d0).st b0
   obtain ⟨z4,a5,q3,a1,v1,r3,rfl,b5⟩:=f0.elem u1
   refine BJ (hA:=a1) (hj:=(Int.toNat_of_nonneg c3).symm) (hlt:=v1) rfl rfl rfl ?_
   refine DW rfl f0 (a:=t0.val) (vInt v2) a1 rfl rfl (AF u1) fun c5 p0 f0=>?_
   refine o_z ?_
   obtain rfl:=sm a0
   exact show Exists _ from ⟨_,(),rfl,⟨rfl,rfl,rfl,rfl,rfl,rfl,rfl,rfl,rfl,rfl,rfl,trivial⟩,_,(((hB.st c0).st d0).st b0).st p0,(((h0.st c0).st d0).st b0).st p0,(g0.st b0).st p0,(((j0.st c0).st d0).st b0).st p0,f0,(((m0.st c0).st d0).st b0).st p0,(((k0.st c0).st d0).st b0).st p0⟩
  replace hB:=hB.st r0
  replace g0:=g0.st r0
  replace m0:=m0.st r0
  replace j0:=j0.st r0
  rintro d5 e5 ⟨w1,f5,rfl,y1,g5,hB,h0,g0,j0,f0,m0⟩
  replace e0:=Bl e0
  refine AQ _ y1 ?_
  refine Aj (Ar rfl rfl (Ar rfl rfl (Ar rfl rfl (Dd rfl rfl rfl ?_))))
  obtain ⟨h5,q0,f0⟩:=f0.freeze
  obtain ⟨i5,d1,e0⟩:=bs e0
  obtain ⟨d1,d3,e3⟩:=CC d1
  replace j0:=j0.st q0
  refine Ed rfl (a:=(⟨i1,w1⟩:Suc)) j0 (Vb.ofAgg (cs:=[(.int .i64 i1),(.slice l1 k1.length m1)]) (x:=(⟨i1,w1⟩:Suc)) rfl ⟨_,rfl,f0,x3⟩) (fun _=>rfl) rfl (by decide) (by decide) d3 e3 ⟨rfl,rfl⟩ fun j5 f3 g3 k5 l5 y0 z1=>?_
  rw [← d1] at z1 ⊢
  refine Aw rfl rfl (o_z ?_)
  obtain rfl:=sm e0
  exact show Exists _ from ⟨_,(f3,g3),rfl,⟨rfl,rfl,rfl,rfl,rfl,rfl,trivial⟩,_,(hB.st q0).st y0,(h0.st q0).st y0,(g0.st q0).st y0,z1,(m0.st q0).st y0⟩
 replace hB:=hB.st b2
 rintro m5 h3 ⟨n5,o5,rfl,a2,p5,hB,j0⟩
 replace hm:=Bl hm
 refine AQ _ a2 ?_
 refine Al (Aj (Ar rfl rfl (Aw rfl rfl (o_z ?_))))
 refine AH ?_
 obtain ⟨i3,j3,j0⟩:=j0.freeze
 obtain rfl:=sm hm
 replace hB:=hB.st j3
 exact ret1v rfl (AE rfl) ⟨hB.ext,(Vb.mono (F:=Fr 0 h3 i3) j0 hB.out)⟩
end
theorem Oj {s:List Int} (hl:s.length≤1000000):Ct s=some s:=if_pos ⟨by omega,by omega⟩
theorem JU {t:Tsk} {s:List Int} (hok:TaskOk t) (hl:s.length≤1000000):Bp (some ⟨t⟩) s=some ((appS t s).map (sucOf t s)):=by
  have ha:Cz (some ⟨t⟩) s=some (appS t s):=if_pos hl
  have hol:=hok.2.1
  have hal:=Og t s
  unfold Bp
  rw [ha,Am]
  rw [EE (fun k=>((appS t s).take k).map (sucOf t s)) ?_ ?_,Am,BP,List.take_length]
  · rfl
  intro k x hk
  have hkl:=AF hk
  obtain ⟨hst,hmem⟩:=Of (List.mem_of_getElem? hk)
  obtain ⟨j,o,rfl,hj,hp⟩:=Lo hmem
  rw [Oj hl,Am,Am,Bh,hj,Am,Oi (hok.effs hst j o hj) DX (fun _ _=>rfl) s rfl,Am,BP,CF (by simp;omega) (by simp;omega),Am,List.take_add_one,hk,List.map_append]
  simp [sucOf,hj,succ]
theorem Lr {t:Tsk} (h:TaskOk t):Eq t=some (some ⟨t⟩,⟨0⟩):=by unfold Eq;rw [Bd h,Bj,CN.2 h]
end
section
open Go Go.RowKit
attribute [local irreducible] ewp owp hwp hwq hws Ev Evg Fn retPost loud loudS Res1
structure Rsl where
  verdict:Int
  plan:List Int
  cost:Int
  expanded:Int
instance:Rp Rsl where
  isAgg:=true
  size:=4
  R w F cs x:=∃ v0,cs=[.int .i64 x.verdict,v0,.int .i64 x.cost,.int .i64 x.expanded]∧Vb w F v0 x.plan∧inI64 x.verdict∧inI64 x.cost∧inI64 x.expanded
  len:=by rintro w F cs x ⟨v0,rfl,h0,h1,h2,h3⟩;rfl
  one:=by rintro w F cs x ⟨v0,rfl,h0,h1,h2,h3⟩ u hu;simp at hu;rcases hu with rfl|rfl|rfl|rfl<;>first|rfl|exact Vb.one rfl (by assumption)
  agree:=by rintro w w' F cs x ⟨v0,rfl,h0,h1,h2,h3⟩ ha;exact ⟨v0,rfl,h0.agree ha,h1,h2,h3⟩
  mono:=by rintro w F G cs x ⟨v0,rfl,h0,h1,h2,h3⟩ ha;exact ⟨v0,rfl,h0.mono ha,h1,h2,h3⟩
end
section
open Go Go.RowKit
attribute [local irreducible] ewp owp hwp hwq hws Ev Evg Fn retPost loud loudS Res1
attribute [local irreducible] hwx loudX
noncomputable def Ci (x0:List Int):Option (List Int) :=
  bnd (chkI ((x0.length:Int) - 1)) fun n4=>bnd (lop (ρ:=(List Int)) (fun (s9:(List Int)×Int×Int)=>if s9.2.1 < s9.2.2 then (bnd (atI s9.1 s9.2.2) fun a31=>bnd (atI s9.1 s9.2.1) fun a43=>bnd (atI s9.1 s9.2.1) fun a55=>bnd (atI (s9.1.set (s9.2.1:Int).toNat a31) s9.2.2) fun a69=>bnd (chkI (s9.2.1 + 1)) fun n83=>bnd (chkI (s9.2.2 - 1)) fun n86=>some (.next (((s9.1.set (s9.2.1:Int).toNat a31).set (s9.2.2:Int).toNat a43),n83,n86))) else (some (.brk (s9.1,s9.2.1,s9.2.2)))) (x0,0,n4)) fun res7=>fin res7 fun (s93:(List Int)×Int×Int)=>some s93.1
theorem FY {w:World} {O:Lab} {A0:Option Addr} {m0 c0 i0:Nat} {x0:List Int} (d0:Rw i0 w O 3 (.slice A0 m0 c0) x0) {r:(List Int)} (hm:Ci x0=some r) :
    Fn Tryz.prog 61 [(.slice A0 m0 c0)] w fun v w'=>∃ O',St (eT i0) w O w' O'∧Rw i0 w' O' 3 (.slice A0 m0 c0) r:=by
 obtain ⟨O0,hE,f1,g1⟩:=ent1 (w:=w) (O:=O) d0.2.2
 obtain rfl:m0=x0.length:=d0.len.1
 have d0':=Rw.leave d0 f1 g1 (j:=2) (by decide)
 have hB:Bm w O0 w O0:=Bm.refl
 refine AK Tryz.func61 rfl Tryz.ntmps61 rfl ?_
 unfold Ci at hm
 refine Al (Aj (Ar rfl rfl (AY rfl rfl ?_)))
 have l3:x0.length≤9223372036854775807:=Nat.le_trans d0'.len.2.1 d0'.len.2.2
 have r2:inI64 (x0.length:Int):=rngNat l3
 obtain ⟨n4,e5,hm⟩:=bs hm
 have r6:=(CH e5)
 refine He (he:=e5) rfl rfl rfl ?_
 refine Aw rfl rfl (Aw rfl rfl (o_z ?_))
 obtain ⟨j0,h1,hm⟩:=bs hm
 refine AL (aft j0 (fun (s9:(List Int)×Int×Int) (h0:Unit)=>[(0,(.slice A0 x0.length c0))]) (fun s9 h0 w'=>∃ O':Lab,Bm w O0 w' O'∧Rw 2 w' O' 3 (.slice A0 x0.length c0) s9.1∧inI64 s9.2.1∧inI64 s9.2.2)) ?_ ?_
 ·
  refine Bb (Gb (σ:=(List Int)×Int×Int) (X:=Unit) h1 (fun (s9:(List Int)×Int×Int) (h0:Unit)=>[(0,(.slice A0 x0.length c0)),(2,(.int .i64 s9.2.1)),(3,(.int .i64 s9.2.2))]) _ (fun s9 h0 w'=>∃ O':Lab,Bm w O0 w' O'∧Rw 2 w' O' 3 (.slice A0 x0.length c0) s9.1∧inI64 s9.2.1∧inI64 s9.2.2) _ () ⟨O0,hB,d0',(show inI64 (0) from by decide),r6⟩ ⟨rfl,rfl,rfl,trivial⟩ ?_)
  rintro s9 h0 k2 i1 ⟨j1,hB,b0,y0,z0⟩ a0 k0 e0
  refine Al (Al (Aj (Ar rfl rfl (Ar rfl rfl (DI rfl rfl rfl (fun l0=>?_) fun l0=>?_)))))
  ·
   replace a0:=ip a0 l0
   refine o_z ?_
   refine Ah rfl (AO (Al (Bb (BA [(13,[2])] j1 ?_))))
   refine AR (fuel:=5) [] [(0,true),(1,true),(4,true),(5,true),(6,true),(7,true),(8,true),(9,true),(10,true),(11,true),(12,true)] (by kernel_rfl) rfl ?_
   refine AN rfl rfl rfl (AN rfl rfl rfl (AN rfl rfl rfl (AN rfl rfl rfl ?_)))
   obtain ⟨k1,l1,a0⟩:=bs a0
   obtain ⟨m1,n1⟩:=AZ l1
   obtain ⟨l2,m2,o1,n0,o0,p0,q0,rfl,p1⟩:=b0.elemF n1
   refine BH (hA:=n0) (hj:=(Int.toNat_of_nonneg m1).symm) (hlt:=p0) rfl rfl rfl rfl ?_
   refine AW (hc:=fun w' ⟨O',hq⟩=>cat0 (AU (hq.agree (i:=2) (by decide)) o0 q0)) rfl rfl rfl ?_
   refine AN rfl rfl rfl (AN rfl rfl rfl ?_)
   obtain ⟨q1,r1,a0⟩:=bs a0
   obtain ⟨s1,t1⟩:=AZ r1
   obtain ⟨n2,o2,u1,r0,s0,t0,u0,rfl,v1⟩:=b0.elemF t1
   refine BH (hA:=r0) (hj:=(Int.toNat_of_nonneg s1).symm) (hlt:=t0) rfl rfl rfl rfl ?_
   refine AW (hc:=fun w' ⟨O',hq⟩=>cat0 (AU (hq.agree (i:=2) (by decide)) s0 u0)) rfl rfl rfl ?_
   obtain ⟨p2,w1,a0⟩:=bs a0
   obtain ⟨x1,a1⟩:=AZ w1
   obtain ⟨q2,s2,y1,f0,z1,v0,a2,rfl,t2⟩:=b0.elemF a1
   refine BH (hA:=f0) (hj:=(Int.toNat_of_nonneg x1).symm) (hlt:=v0) rfl rfl rfl rfl ?_
   refine AB ?_
   refine AR (fuel:=3) [2] [(2,true),(3,true)] (by kernel_rfl) rfl ?_
   refine AN rfl rfl rfl (AN rfl rfl rfl (AB ?_))
   refine AP (i:=13) (by kernel_rfl) rfl ?_
   refine DW rfl b0 (a:=k1) (vInt p1) f0 rfl rfl (AF a1) fun u2 b1 b0=>?_
   have hZ:=b1.lst [2] (fun _ h=>by cases h;decide)
   refine AV [] hZ (by kernel_rfl) ?_
   refine AR (fuel:=1) [] [(14,true)] (by kernel_rfl) rfl ?_
   obtain ⟨v2,b2,a0⟩:=bs a0
   obtain ⟨c2,c1⟩:=AZ b2
   obtain ⟨w2,x2,d2,g0,e2,w0,f2,rfl,y2⟩:=b0.elemF c1
   refine BH (hA:=g0) (hj:=(Int.toNat_of_nonneg c2).symm) (hlt:=w0) rfl rfl rfl rfl ?_
   refine AB ?_
   refine AP (i:=15) (by kernel_rfl) rfl ?_
   refine DW rfl b0 (a:=q1) (vInt v1) g0 rfl rfl (AF c1) fun z2 g2 b0=>?_
   refine Ch (by kernel_rfl) ?_
   refine Bo (by kernel_rfl) ?_
   refine Aj (Ar rfl rfl ?_)
   obtain ⟨a3,d1,a0⟩:=bs a0
   have h2:=(CH d1)
   refine Hd (he:=d1) rfl rfl rfl ?_
   refine Ar rfl rfl ?_
   obtain ⟨b3,e1,a0⟩:=bs a0
   have i2:=(CH e1)
   refine He (he:=e1) rfl rfl rfl ?_
   refine Aw rfl rfl (Aw rfl rfl (o_z ?_))
   obtain rfl:=sm a0
   exact show Exists _ from ⟨_,(),rfl,⟨rfl,rfl,rfl,trivial⟩,_,(hB.st b1).st g2,b0,h2,i2⟩
  replace a0:=im a0 l0
  refine o_z ?_
  refine Ae rfl (DM ?_)
  obtain rfl:=sm a0
  exact show Exists _ from ⟨_,(),e0 _ rfl,⟨rfl,trivial⟩,_,hB,b0,y0,z0⟩
 rintro c3 d3 ⟨e3,f3,rfl,j2,g3,hB,b0,y0,z0⟩
 replace hm:=Bl hm
 obtain rfl:=sm hm
 obtain ⟨O',hS',hz,hl⟩:=hE.leave (fun q=>if q=2 then i0 else 0) rfl hB
 exact ret0n rfl  ⟨O',hS',(Rw.leave b0 hz (hl 2 (by decide) (by decide)) d0.2.2)⟩
end
section
open Go Go.RowKit
attribute [local irreducible] ewp owp hwp hwq hws Ev Evg Fn retPost loud loudS Res1
attribute [local irreducible] hwx loudX
structure ONd where
  state:List Int
  cost:Int
  parent:Int
  op:Int
  used:List Int
  fin:Bool
instance:Rp ONd where
  isAgg:=true
  size:=6
  R w F cs x:=∃ v0 v1,cs=[v0,.int .i64 x.cost,.int .i64 x.parent,.int .i64 x.op,v1,.bool x.fin]∧Vb w F v0 x.state∧Vb w F v1 x.used∧inI64 x.cost∧inI64 x.parent∧inI64 x.op
  len:=by rintro w F cs x ⟨v0,v1,rfl,h0,h1,h2,h3,h4⟩;rfl
  one:=by rintro w F cs x ⟨v0,v1,rfl,h0,h1,h2,h3,h4⟩ u hu;simp at hu;rcases hu with rfl|rfl|rfl|rfl|rfl|rfl<;>first|rfl|exact Vb.one rfl (by assumption)
  agree:=by rintro w w' F cs x ⟨v0,v1,rfl,h0,h1,h2,h3,h4⟩ ha;exact ⟨v0,v1,rfl,h0.agree ha,h1.agree ha,h2,h3,h4⟩
  mono:=by rintro w F G cs x ⟨v0,v1,rfl,h0,h1,h2,h3,h4⟩ ha;exact ⟨v0,v1,rfl,h0.mono ha,h1.mono ha,h2,h3,h4⟩
structure Ors where
  t:Tsk
  gens:List Swp
  nodes:List ONd
  tab:MapP ByteArray Int
  open_ : List OEn
  number:Int
instance:Ow Ors where
  R w F M v x:=∃ (g:Nat) (L:Lab) (c0 c1 c2 c3 c4 c5 c6 c7:Value),v=.pointer (some ⟨g,0,none⟩)∧Blk w g 69 [c0,c1,c2,c3,c4,c5,c6,c7,.int .i64 x.number]∧M g∧L g=0∧Vb w F c0 x.t.vars∧Vb w F c1 x.t.init∧Vb w F c2 x.t.goal∧Vb w F c3 x.t.ops∧Vb w F c4 x.gens∧RwM w F (fun k=>M k∧L k=1) 78 c5 x.nodes∧Ow.R w F (fun k=>M k∧L k=2) c6 x.tab∧RwM w F (fun k=>M k∧L k=3) 73 c7 x.open_∧inI64 x.number
  agree:=by rintro w w' F M v x ⟨g,L,c0,c1,c2,c3,c4,c5,c6,c7,rfl,hb,hM,hL,h0,h1,h2,h3,h4,h5,h6,h7,h8⟩ a1 a2;exact ⟨g,L,c0,c1,c2,c3,c4,c5,c6,c7,rfl,hb.keep (a2 g hM),hM,hL,h0.agree a1,h1.agree a1,h2.agree a1,h3.agree a1,h4.agree a1,h5.agree a1 fun k hk=>a2 k hk.1,Ow.agree h6 a1 fun k hk=>a2 k hk.1,h7.agree a1 fun k hk=>a2 k hk.1,h8⟩
  mono:=by rintro w F M F' M' v x ⟨g,L,c0,c1,c2,c3,c4,c5,c6,c7,rfl,hb,hM,hL,h0,h1,h2,h3,h4,h5,h6,h7,h8⟩ a1 a2 a3;exact ⟨g,L,c0,c1,c2,c3,c4,c5,c6,c7,rfl,hb,a2 g hM,hL,h0.mono a1,h1.mono a1,h2.mono a1,h3.mono a1,h4.mono a1,h5.mono a1 (fun k hk=>⟨a2 k hk.1,hk.2⟩) fun k hf hm=>a3 k hf hm.1,Ow.mono h6 a1 (fun k hk=>⟨a2 k hk.1,hk.2⟩) fun k hf hm=>a3 k hf hm.1,h7.mono a1 (fun k hk=>⟨a2 k hk.1,hk.2⟩) fun k hf hm=>a3 k hf hm.1,h8⟩
theorem Ors.opn {i:Nat} {w:World} {O:Lab} {p:Nat} {x:Ors} (h:Ob i w O (.pointer (some ⟨p,0,none⟩)) x) (l0 l1 l2 l3:Nat) (hl:l0≠0∧l1≠0∧l2≠0∧l3≠0):∃ (O':Lab) (c0 c1 c2 c3 c4 c5 c6 c7:Value),St (eT i) w O w O'∧(∀ k,Fr i w O k→∃ q,q∈[l0,l1,l2,l3]∧Fr q w O' k)∧Lc l0 w O' p 69 [c0,c1,c2,c3,c4,c5,c6,c7,.int .i64 x.number]∧Vb w (Fr 0 w O') c0 x.t.vars∧Vb w (Fr 0 w O') c1 x.t.init∧Vb w (Fr 0 w O') c2 x.t.goal∧Vb w (Fr 0 w O') c3 x.t.ops∧Vb w (Fr 0 w O') c4 x.gens∧Rw l1 w O' 78 c5 x.nodes∧Ob l2 w O' c6 x.tab∧Rw l3 w O' 73 c7 x.open_∧inI64 x.number:=by
  obtain ⟨⟨g,L,c0,c1,c2,c3,c4,c5,c6,c7,hv,hb,hM,hL,h0,h1,h2,h3,h4,h5,h6,h7,h8⟩,hi⟩:=h
  obtain rfl:p=g:=by injection hv with hv;injection hv with hv;injection hv
  exact ⟨part O i L [l0,l1,l2,l3],c0,c1,c2,c3,c4,c5,c6,c7,Mc hi,KZ (by simp),⟨hb,(Gc (j:=0) rfl p ⟨hM,hL⟩).2⟩,h0.mono (Ei hi),h1.mono (Ei hi),h2.mono (Ei hi),h3.mono (Ei hi),h4.mono (Ei hi),h5.rw (Ei hi) (Gc (j:=1) rfl) hl.2.1,⟨Ow.mono h6 (Ei hi) (Gc (j:=2) rfl) (frNe0 hl.2.2.1),hl.2.2.1⟩,h7.rw (Ei hi) (Gc (j:=3) rfl) hl.2.2.2,h8⟩
theorem Ors.shut {w:World} {O:Lab} {p:Nat} {x:Ors} {l0 l1 l2 l3:Nat} {c0 c1 c2 c3 c4 c5 c6 c7:Value} (hd:¬ 0∈[l0,l1,l2,l3]∧[l0,l1,l2,l3].idxOf l0=0∧[l0,l1,l2,l3].idxOf l1=1∧[l0,l1,l2,l3].idxOf l2=2∧[l0,l1,l2,l3].idxOf l3=3) (hb:Lc l0 w O p 69 [c0,c1,c2,c3,c4,c5,c6,c7,.int .i64 x.number]) (h0:Vb w (Fr 0 w O) c0 x.t.vars) (h1:Vb w (Fr 0 w O) c1 x.t.init) (h2:Vb w (Fr 0 w O) c2 x.t.goal) (h3:Vb w (Fr 0 w O) c3 x.t.ops) (h4:Vb w (Fr 0 w O) c4 x.gens) (h5:Rw l1 w O 78 c5 x.nodes) (h6:Ob l2 w O c6 x.tab) (h7:Rw l3 w O 73 c7 x.open_) (h8:inI64 x.number):∃ O',St (·∈[l0,l1,l2,l3]) w O w O'∧(∀ k,Fr 0 w O k→Fr 0 w O' k)∧(∀ q,q∈[l0,l1,l2,l3]→∀ k,Fr q w O k→Fr l0 w O' k)∧Ob l0 w O' (.pointer (some ⟨p,0,none⟩)) x:=by
  have hb1:l0≠0:=fun e=>hd.1 (by simp [e])
  have hg:=Ft (i:=l0) hd.2.1 (by simp) p ⟨hb.1.lt,hb.2⟩
  exact ⟨whole O l0 [l0,l1,l2,l3],La,De hd.1,Ke,⟨p,fun k=>[l0,l1,l2,l3].idxOf (O k),c0,c1,c2,c3,c4,c5,c6,c7,rfl,hb.1,hg.1,hg.2,h0.mono (De hd.1),h1.mono (De hd.1),h2.mono (De hd.1),h3.mono (De hd.1),h4.mono (De hd.1),h5.m (De hd.1) (Ft hd.2.2.1 (by simp)) (fun k a b=>frNe0 hb1 k a b.1),Ow.mono h6.1 (De hd.1) (Ft hd.2.2.2.1 (by simp)) (fun k a b=>frNe0 hb1 k a b.1),h7.m (De hd.1) (Ft hd.2.2.2.2 (by simp)) (fun k a b=>frNe0 hb1 k a b.1),h8⟩,hb1⟩
noncomputable def EW (x0:List Int):Option ByteArray :=
  bnd (mkI 1 ((bw 0):Byt) (x0.length:Int)) fun u6=>bnd (rng (ρ:=ByteArray) (fun (k25:Nat) (a26:Int) (s23:(List Byt))=>bnd (s23[k25]?) fun a48=>some (.next (s23.set k25 (bw a26)))) x0 0 u6) fun res21=>fin res21 fun (s64:(List Byt))=>bnd (strI s64) fun n66=>some n66
theorem LV {w:World} {A:Nat→Prop} (hA:∀ k,A k→k < w.heap.size) {vx0:Value} {x0:List Int} (a0:Vb w A vx0 x0) {r:ByteArray} (hm:EW x0=some r) :
    Fn Tryz.prog 58 [vx0] w fun v w'=>Ext w w'∧Vb w' (upA A w w') v r:=by
 obtain ⟨O,hB,a1⟩:=enter hA
 replace a0:=a0.mono a1
 obtain ⟨A2,c3,rfl⟩:=a0.form
 refine AK Tryz.func58 rfl Tryz.ntmps58 rfl ?_
 unfold EW at hm
 refine Al (Aj (Aw rfl rfl (o_z ?_)))
 refine Al (Aj (Ar rfl rfl (AY rfl rfl ?_)))
 have l5:x0.length≤9223372036854775807:=Nat.le_trans a0.len.2.1 a0.len.2.2
 have r4:inI64 (x0.length:Int):=rngNat l5
 obtain ⟨u6,e7,hm⟩:=bs hm
 obtain ⟨m8,e9,b1,c1,d1⟩:=CM e7
 refine Dv 2 (by decide) O (z0:=((bw 0):Byt)) rfl rfl rfl rfl rfl e9 (vByte (x:=(bw 0))) b1 c1 rfl fun h0 k1 e1 j0 t0=>?_
 rw [← d1] at t0 ⊢
 refine Aw rfl rfl (o_z ?_)
 refine Al (Al (Aj (Ar rfl rfl (AY rfl rfl ?_))))
 replace a0:=a0.st j0
 have k0:x0.length≤9223372036854775807:=Nat.le_trans a0.len.2.1 a0.len.2.2
 have l1:inI64 (x0.length:Int):=rngNat k0
 refine Ar rfl rfl (o_z ?_)
 obtain ⟨e0,l0,hm⟩:=bs hm
 refine AL (aft e0 (fun (d0:(List Byt)) (i0:Unit)=>[(3,(.slice (some ⟨h0,0,none⟩) u6.length m8))]) (fun d0 i0 w'=>∃ O':Lab,Bs w A w' O'∧Rw 2 w' O' 5 (.slice (some ⟨h0,0,none⟩) u6.length m8) d0)) ?_ ?_
 ·
  refine Bb ?_
  replace hB:=hB.st j0
  refine BL (σ:=(List Byt)) (X:=Unit) (x0.length) l0 rfl k0 (fun (d0:(List Byt)) (i0:Unit)=>[(3,(.slice (some ⟨h0,0,none⟩) u6.length m8)),(9,(.slice A2 x0.length c3))]) _ (fun d0 i0 w'=>∃ O':Lab,Bs w A w' O'∧Rw 2 w' O' 5 (.slice (some ⟨h0,0,none⟩) u6.length m8) d0∧Vb w' (Fr 0 w' O') (.slice A2 x0.length c3) x0) _ () ⟨e1,hB,t0,a0⟩ ⟨rfl,rfl,rfl,rfl,trivial⟩ (fun _ _=>⟨rfl,rfl⟩) (fun _ _=>⟨rfl,trivial⟩) (fun _ _ _ ⟨O',hB,b0,a0⟩=>⟨O',hB,b0⟩) ⟨rfl,rfl,rfl⟩ ⟨rfl,rfl⟩ ?_
  rintro f1 u0 d0 i0 m1 g1 f0 ⟨n1,hB,b0,a0⟩ c0 m0 n0
  have rk25:inI64 (f1:Int):=rngK f0 k0
  refine Al (Aj (Ar rfl rfl ?_))
  obtain ⟨o1,p1,h1,o0,p0,q0,rfl,q1⟩:=a0.elem' f0
  refine BJ (hA:=o0) (hj:=rfl) (hlt:=p0) rfl rfl rfl ?_
  refine AG (hc:=cat0 q0) rfl rfl ?_
  refine Aw rfl rfl (Aw rfl rfl (o_z ?_))
  refine Aj (Ar rfl rfl (Ar rfl rfl (Ar rfl rfl (Rk rfl rfl ?_))))
  obtain ⟨r1,v0,c0⟩:=bs c0
  obtain ⟨s1,t1,i1,g0,r0,j1,rfl⟩:=b0.elem v0
  refine BJ (hA:=g0) (hj:=rfl) (hlt:=r0) rfl rfl rfl ?_
  refine DW rfl b0 (a:=(bw u0)) (vByte (x:=(bw u0))) g0 rfl rfl (AF v0) fun u1 w0 b0=>?_
  refine o_z ?_
  obtain rfl:=sm c0
  exact show Exists _ from ⟨_,(),rfl,⟨rfl,rfl,rfl,rfl,trivial⟩,_,hB.st w0,b0,a0.st w0⟩
 replace hB:=hB.st j0
 rintro v1 w1 ⟨x1,y1,rfl,s0,z1,hB,b0⟩
 replace hm:=Bl hm
 refine AQ _ s0 ?_
 refine Al (Aj (Ar rfl rfl ?_))
 obtain ⟨a2,y0,hm⟩:=bs hm
 refine Rl (hv:=(b0).all) (he:=y0) rfl rfl ?_
 refine Aw rfl rfl (o_z ?_)
 refine AH ?_
 obtain rfl:=sm hm
 exact ret1v rfl (AE rfl) ⟨hB.ext,(vStr (Ps y0))⟩
noncomputable def Bt (x0:Ors) (x1:List Int) (x2:Int) (x3:Int) (x4:Int):Option (Err×Ors) :=
  bnd (Bx (⟨x0.t.vars,x0.t.init,x0.t.goal,x0.t.ops⟩:Tsk) x0.gens x1) fun q46=>if q46.2.2.n≠0 then (some ((⟨q46.2.2.n⟩:Err),x0)) else (bnd (EW q46.1) fun q70=>bnd (if (mhas x0.tab.l q70)=true then (bnd (atI x0.nodes (mget 0 x0.tab.l q70)) fun a87=>if a87.cost≤x2 then (some (true,true)) else (some (true,false))) else (some (false,false)):Option (Bool×Bool)) fun y82=>if y82.2=true then (some ((⟨0⟩:Err),x0)) else (bnd (if y82.1=true then (bnd (atI x0.nodes (mget 0 x0.tab.l q70)) fun a182=>some ((mget 0 x0.tab.l q70),(⟨(⟨x0.t.vars,x0.t.init,x0.t.goal,x0.t.ops⟩:Tsk),x0.gens,(x0.nodes.set ((mget 0 x0.tab.l q70):Int).toNat (⟨q46.1,x2,x3,x4,q46.2.1,false⟩:ONd)),x0.tab,x0.open_,x0.number⟩:Ors))) else (bnd (appI 80 x0.nodes [(⟨q46.1,x2,x3,x4,q46.2.1,false⟩:ONd)]) fun u261=>some ((x0.nodes.length:Int),(⟨(⟨x0.t.vars,x0.t.init,x0.t.goal,x0.t.ops⟩:Tsk),x0.gens,u261,(⟨mput x0.tab.l q70 (x0.nodes.length:Int)⟩:MapP ByteArray Int),x0.open_,x0.number⟩:Ors))):Option (Int×Ors)) fun y137=>bnd (chkI (y137.2.number + 1)) fun n321=>bnd (CA (⟨y137.2.open_⟩:BxR 67 73 OEn) (⟨(⟨x2,n321,y137.1⟩:OEn)⟩:An 73 OEn)) fun q331=>some ((⟨0⟩:Err),(⟨(⟨y137.2.t.vars,y137.2.t.init,y137.2.t.goal,y137.2.t.ops⟩:Tsk),y137.2.gens,y137.2.nodes,y137.2.tab,q331.l,n321⟩:Ors))))
theorem FH {w:World} {O:Lab} {p0 i0:Nat} {x0:Ors} (s2:Ob i0 w O (.pointer (some ⟨p0,0,none⟩)) x0) {vx1:Value} {x1:List Int} (r3:Vb w (Fr 0 w O) vx1 x1) {x2:Int} (rx2:inI64 x2) {x3:Int} (rx3:inI64 x3) {x4:Int} (rx4:inI64 x4) {r:Err×Ors} (hm:Bt x0 x1 x2 x3 x4=some r) :
    Fn Tryz.prog 25 [(.pointer (some ⟨p0,0,none⟩)),vx1,(.int .i64 x2),(.int .i64 x3),(.int .i64 x4)] w fun v w'=>∃ O',St (eT i0) w O w' O'∧Ob i0 w' O' (.pointer (some ⟨p0,0,none⟩)) r.2∧Vb w' (Fr 0 w' O') v r.1:=by
 obtain ⟨O0,hE,y6,y7⟩:=ent1 (w:=w) (O:=O) s2.2
 have s2':=Ob.leave s2 y6 y7 (j:=2) (by decide)
 have hB:Bm w O0 w O0:=Bm.refl
 replace r3:=r3.mono y6
 obtain ⟨A6,c7,rfl⟩:=r3.form
 refine AK Tryz.func25 rfl Tryz.ntmps25 rfl ?_
 unfold Bt at hm
 refine Al (Aj (Aw rfl rfl (o_z ?_)))
 refine Al ?_
 obtain ⟨O8,fC,gC,hC,iC,jC,kC,lC,mC,S9,z7,k1,a1,b1,c1,d1,e1,m1,o1,g1,n4⟩:=Ors.opn s2' 2 3 4 5 (by decide)
 obtain ⟨a8,b8,rfl⟩:=a1.form
 obtain ⟨c8,d8,rfl⟩:=b1.form
 obtain ⟨e8,f8,rfl⟩:=c1.form
 obtain ⟨g8,h8,rfl⟩:=d1.form
 obtain ⟨nC,oC,rfl⟩:=e1.form
 obtain ⟨pC,qC,rfl⟩:=m1.form
 obtain ⟨rC,rfl⟩:=o1.mptr
 obtain ⟨sC,tC,rfl⟩:=g1.form
 refine BA [] O8 ?_
 refine AR (fuel:=8) [] [(0,true),(1,true),(2,true),(3,true),(4,true),(5,true),(6,true),(7,true),(8,true)] (by kernel_rfl) rfl ?_
 refine AN rfl rfl rfl (Dr rfl rfl rfl (Be rfl rfl rfl (CR (hl:=rfl) (hb:=fun w' ⟨O',hq⟩=>(Fk 0 4 ((k1.st hq (by decide)).1).cellsAt)) rfl rfl rfl ?_)))
 refine AN rfl rfl rfl (Dr rfl rfl rfl (Be rfl rfl rfl (AW (hc:=fun w' ⟨O',hq⟩=>Blk.cell (i:=4) ((k1.st hq (by decide)).1) rfl) rfl rfl rfl ?_)))
 refine AN rfl rfl rfl (AB ?_)
 refine AP (i:=9) (by kernel_rfl) rfl ?_
 obtain ⟨g0,i8,hm⟩:=bs hm
 replace r3:=r3.st S9
 refine Bw (O:=O8) (R:=fun w' F v=>T3 w' F v g0) (Hh Fr.lt (Vb.ofAgg (cs:=[(.slice a8 x0.t.vars.length b8),(.slice c8 x0.t.init.length d8),(.slice e8 x0.t.goal.length f8),(.slice g8 x0.t.ops.length h8)]) (x:=(⟨x0.t.vars,x0.t.init,x0.t.goal,x0.t.ops⟩:Tsk)) rfl ⟨_,_,_,_,rfl,a1,b1,c1,d1⟩) e1 r3 i8) rfl rfl fun uC z6 a7 b0 j8=>?_
 obtain ⟨vC,wC,xC,rfl,f1,h1,k8⟩:=j8
 obtain ⟨s3,t3,rfl⟩:=f1.form
 obtain ⟨u3,v3,rfl⟩:=h1.form
 obtain ⟨rfl,l8⟩:=k8.err
 have hZ:=b0.lst [] (fun _ h=>h.elim)
 refine AV [] hZ (by kernel_rfl) ?_
 refine AR (fuel:=0) [] [(10,true),(11,true),(12,true),(13,true),(14,true),(15,true),(16,true)] (by kernel_rfl) rfl ?_
 refine AN rfl rfl rfl (Hb rfl rfl rfl rfl (Hb rfl rfl rfl rfl (Hb rfl rfl rfl rfl (Fa rfl rfl rfl (Fa rfl rfl rfl (Fa rfl rfl rfl (AB ?_)))))))
 refine Bo (by kernel_rfl) ?_
 refine Al (Al (Aj (Ar rfl rfl (DJ rfl rfl (fun o4=>?_) fun o4=>?_))))
 ·
  replace hm:=ip hm o4
  refine o_z ?_
  refine Ah rfl (Al (Aj (Ar rfl rfl (Aw rfl rfl (o_z ?_)))))
  refine AH ?_
  replace k1:=k1.st b0
  replace a1:=a1.st b0
  replace b1:=b1.st b0
  replace c1:=c1.st b0
  replace d1:=d1.st b0
  replace e1:=e1.st b0
  replace m1:=m1.st b0
  replace o1:=o1.st b0
  replace g1:=g1.st b0
  obtain ⟨yC,m8,n8,o8,p8⟩:=Ors.shut (x:=x0) (l0:=2) (l1:=3) (l2:=4) (l3:=5) (by decide) k1 a1 b1 c1 d1 e1 m1 o1 g1 n4
  obtain rfl:=sm hm
  replace hB:=((hB.st S9).st b0).st m8
  obtain ⟨O',hS',hz,hl⟩:=hE.leave (fun q=>if q=2 then i0 else 0) rfl hB
  exact ret1v rfl (AE rfl) ⟨O',hS',(Ob.leave p8 hz (hl 2 (by decide) (by decide)) s2.2),(vErr l8)⟩
 replace hm:=im hm o4
 refine o_z ?_
 refine Ae rfl (AO (Al (Aj (Ar rfl rfl ?_))))
 obtain ⟨p1,q8,hm⟩:=bs hm
 refine Bn (O:=a7) (A:=All z6) (R:=fun w' F v=>Vb w' F v p1) (LV (fun _ h=>h) (Vb.mono (F:=Fr 0 z6 a7) f1 Fr.lt) q8) rfl rfl fun zC aD bD d0 r8=>?_
 obtain ⟨rfl,cD⟩:=r8.str
 refine Aw rfl rfl (o_z ?_)
 refine Al (Aj (Ar rfl rfl (Do rfl rfl (AJ rfl rfl ?_))))
 replace k1:=(k1.st b0).st d0
 refine AG (hc:=Blk.cell (i:=6) (k1.1) rfl) rfl rfl ?_
 refine Ar rfl rfl ?_
 replace o1:=(o1.st b0).st d0
 obtain ⟨dD,p4,s8⟩:=MapP.get o1 p1 (vInt (show inI64 0 from by decide))
 obtain ⟨rfl,t8⟩:=s8.int
 refine Ra p1 p4 rfl rfl rfl ?_
 refine Ar rfl rfl (CE rfl rfl rfl (CE rfl rfl rfl (Aw rfl rfl (Aw rfl rfl (o_z ?_)))))
 refine Al (Al ?_)
 obtain ⟨b7,f0,hm⟩:=bs hm
 refine AL (fun l' w'=>∃ (u8:Unit) (O':Lab),subs l' [(0,(.pointer (some ⟨p0,0,none⟩))),(2,(.int .i64 x2)),(3,(.int .i64 x3)),(4,(.int .i64 x4)),(11,(.slice s3 g0.1.length t3)),(12,(.slice u3 g0.2.1.length v3)),(14,(.string p1)),(15,(.int .i64 (mget 0 x0.tab.l p1))),(16,(.bool b7.1)),(58,(.bool b7.2))]∧Bm w O0 w' O'∧Ob 2 w' O' (.pointer (some ⟨p0,0,none⟩)) x0∧Vb w' (Fr 0 w' O') (.slice s3 g0.1.length t3) g0.1∧Vb w' (Fr 0 w' O') (.slice u3 g0.2.1.length v3) g0.2.1) ?_ ?_
 ·
  refine Aj (Ar rfl rfl (Ar rfl rfl ?_))
  rcases Bool.eq_false_or_eq_true (mhas x0.tab.l p1) with w3|w3
  ·
   try rw [w3]
   replace f0:=ip f0 w3
   refine Az rfl rfl (Ar rfl rfl (Az rfl rfl (Do rfl rfl (Az rfl rfl (AJ rfl rfl (Az rfl rfl (AG (hc:=Blk.cell (i:=5) (k1.1) rfl) rfl rfl ?_)))))))
   refine Az rfl rfl (Ar rfl rfl (Az rfl rfl ?_))
   obtain ⟨eD,v8,f0⟩:=bs f0
   obtain ⟨w8,x8⟩:=AZ v8
   replace m1:=(m1.st b0).st d0
   obtain ⟨fD,gD,y8,q4,r4,s4,hD,iD,rfl,t4,u4,z8,a9,b9⟩:=m1.elem x8
   obtain ⟨c9,d9,rfl⟩:=t4.form
   obtain ⟨e9,f9,rfl⟩:=u4.form
   refine BJ (hA:=q4) (hj:=(Int.toNat_of_nonneg w8).symm) (hlt:=r4) rfl rfl rfl ?_
   refine Az rfl rfl (AJ rfl rfl (Az rfl rfl (AG (hc:=cat1 s4) rfl rfl ?_)))
   refine Az rfl rfl (Ar rfl rfl (Az rfl rfl (MB rfl rfl rfl (fun t2=>?_) fun t2=>?_)))
   ·
    replace f0:=ip f0 t2
    refine Bq rfl rfl rfl (o_z ?_)
    replace a1:=(a1.st b0).st d0
    replace b1:=(b1.st b0).st d0
    replace c1:=(c1.st b0).st d0
    replace d1:=(d1.st b0).st d0
    replace e1:=(e1.st b0).st d0
    replace g1:=(g1.st b0).st d0
    obtain ⟨g9,u2,d7,e7,v4⟩:=Ors.shut (x:=x0) (l0:=2) (l1:=3) (l2:=4) (l3:=5) (by decide) k1 a1 b1 c1 d1 e1 m1 o1 g1 n4
    obtain rfl:=sm f0
    exact ⟨(),_,⟨rfl,rfl,rfl,rfl,rfl,rfl,rfl,rfl,rfl,rfl,trivial⟩,(((hB.st S9).st b0).st d0).st u2,v4,(f1.st d0).st u2,(h1.st d0).st u2⟩
   replace f0:=im f0 t2
   refine Bq rfl rfl rfl (o_z ?_)
   replace a1:=(a1.st b0).st d0
   replace b1:=(b1.st b0).st d0
   replace c1:=(c1.st b0).st d0
   replace d1:=(d1.st b0).st d0
   replace e1:=(e1.st b0).st d0
   replace g1:=(g1.st b0).st d0
   obtain ⟨h9,v2,f7,g7,w4⟩:=Ors.shut (x:=x0) (l0:=2) (l1:=3) (l2:=4) (l3:=5) (by decide) k1 a1 b1 c1 d1 e1 m1 o1 g1 n4
   obtain rfl:=sm f0
   exact ⟨(),_,⟨rfl,rfl,rfl,rfl,rfl,rfl,rfl,rfl,rfl,rfl,trivial⟩,(((hB.st S9).st b0).st d0).st v2,w4,(f1.st d0).st v2,(h1.st d0).st v2⟩
  try rw [w3]
  replace f0:=im' f0 w3
  refine Au rfl rfl rfl rfl (Au rfl rfl rfl rfl (Au rfl rfl rfl rfl (Au rfl rfl rfl rfl (Au rfl rfl rfl rfl (Au rfl rfl rfl rfl (Au rfl rfl rfl rfl (Au rfl rfl rfl rfl (Au rfl rfl rfl rfl (Au rfl rfl rfl rfl (Br rfl rfl rfl (o_z ?_)))))))))))
  replace a1:=(a1.st b0).st d0
  replace b1:=(b1.st b0).st d0
  replace c1:=(c1.st b0).st d0
  replace d1:=(d1.st b0).st d0
  replace e1:=(e1.st b0).st d0
  replace m1:=(m1.st b0).st d0
  replace g1:=(g1.st b0).st d0
  obtain ⟨i9,w2,h7,i7,y4⟩:=Ors.shut (x:=x0) (l0:=2) (l1:=3) (l2:=4) (l3:=5) (by decide) k1 a1 b1 c1 d1 e1 m1 o1 g1 n4
  obtain rfl:=sm f0
  exact ⟨(),_,⟨rfl,rfl,rfl,rfl,rfl,rfl,rfl,rfl,rfl,rfl,trivial⟩,(((hB.st S9).st b0).st d0).st w2,y4,(f1.st d0).st w2,(h1.st d0).st w2⟩
 replace hB:=((hB.st S9).st b0).st d0
 replace f1:=f1.st d0
 replace h1:=h1.st d0
 rintro j9 k9 ⟨u8,z4,y3,hB,y0,f1,h1⟩
 refine AQ _ y3 ?_
 refine BW rfl (fun y2=>?_) (fun y2=>?_)
 ·
  replace hm:=ip hm y2
  refine Al (Aj (Aw rfl rfl (o_z ?_)))
  refine AH ?_
  obtain rfl:=sm hm
  obtain ⟨O',hS',hz,hl⟩:=hE.leave (fun q=>if q=2 then i0 else 0) rfl hB
  exact ret1v rfl (AE rfl) ⟨O',hS',(Ob.leave y0 hz (hl 2 (by decide) (by decide)) s2.2),(vErr (show inI64 0 from by decide))⟩
 replace hm:=im' hm y2
 refine AO (Al (Aj (Ar rfl rfl (Ar rfl rfl (Ar rfl rfl (Ar rfl rfl (Ar rfl rfl (Dd rfl rfl rfl ?_))))))))
 refine Bf 6 z4 rfl fun a5 l9 b5 o0 m0=>?_
 refine AT m0 rfl rfl rfl (Bg rfl) (allOne rfl) fun c5 q0 m0=>?_
 replace m0:Lc 6 c5 b5 a5 78 [(.slice s3 g0.1.length t3),(.int .i64 x2),(.int .i64 x3),(.int .i64 x4),(.slice u3 g0.2.1.length v3),(.bool false)]:=m0
 refine o_z ?_
 refine Al ?_
 obtain ⟨a0,e0,hm⟩:=bs hm
 refine AL (fun l' w'=>∃ (d5:Unit) (O':Lab),subs l' [(0,(.pointer (some ⟨p0,0,none⟩))),(2,(.int .i64 x2)),(15,(.int .i64 a0.1))]∧Bm w O0 w' O'∧Ob 2 w' O' (.pointer (some ⟨p0,0,none⟩)) a0.2∧inI64 a0.1) ?_ ?_
 ·
  refine Al (Aj (Ar rfl rfl (o_z ?_)))
  refine BW rfl (fun z2=>?_) (fun z2=>?_)
  ·
   replace e0:=ip e0 z2
   replace y0:=(y0.st o0).st q0
   obtain ⟨e5,m9,n9,o9,p9,q9,r9,s9,t9,q1,j7,r1,s1,t1,u1,v1,w1,n1,y1,z1,f5⟩:=Ors.opn y0 2 3 4 5 (by decide)
   obtain ⟨u9,v9,rfl⟩:=s1.form
   obtain ⟨w9,x9,rfl⟩:=t1.form
   obtain ⟨y9,z9,rfl⟩:=u1.form
   obtain ⟨aA,bA,rfl⟩:=v1.form
   obtain ⟨cA,dA,rfl⟩:=w1.form
   obtain ⟨eA,fA,rfl⟩:=n1.form
   obtain ⟨gA,rfl⟩:=y1.mptr
   obtain ⟨iA,jA,rfl⟩:=z1.form
   refine BA [] e5 ?_
   refine AR (fuel:=1) [] [(0,true),(1,true),(2,true),(3,true),(4,true),(5,true),(6,true)] (by kernel_rfl) rfl ?_
   refine AN rfl rfl rfl (Dr rfl rfl rfl (Be rfl rfl rfl (AW (hc:=fun w' ⟨O',hq⟩=>Blk.cell (i:=5) ((r1.st hq (by decide)).1) rfl) rfl rfl rfl ?_)))
   refine AN rfl rfl rfl ?_
   replace m0:=m0.st q1
   refine CR (hl:=rfl) (hb:=fun w' ⟨O',hq⟩=>((m0.st hq (by decide)).1).cellsAt) rfl rfl rfl ?_
   obtain ⟨kA,g5,e0⟩:=bs e0
   obtain ⟨h5,z3⟩:=AZ g5
   obtain ⟨lA,mA,k7,r2,l7,a4,m7,nA,oA,rfl,i5,j5,pA,qA,rA⟩:=n1.elemF z3
   obtain ⟨sA,tA,rfl⟩:=i5.form
   obtain ⟨uA,vA,rfl⟩:=j5.form
   refine BH (hA:=r2) (hj:=(Int.toNat_of_nonneg h5).symm) (hlt:=a4) rfl rfl rfl rfl ?_
   refine AB ?_
   refine AP (i:=7) (by kernel_rfl) rfl ?_
   replace f1:=((f1.st o0).st q0).st q1
   replace h1:=((h1.st o0).st q0).st q1
   refine DW rfl n1 (a:=(⟨g0.1,x2,x3,x4,g0.2.1,false⟩:ONd)) (Vb.ofAgg (cs:=[(.slice s3 g0.1.length t3),(.int .i64 x2),(.int .i64 x3),(.int .i64 x4),(.slice u3 g0.2.1.length v3),(.bool false)]) (x:=(⟨g0.1,x2,x3,x4,g0.2.1,false⟩:ONd)) rfl ⟨_,_,rfl,f1,h1,rx2,rx3,rx4⟩) r2 rfl rfl (AF z3) fun wA r0 n1=>?_
   refine Ch (by kernel_rfl) ?_
   refine Bo (by kernel_rfl) ?_
   replace r1:=r1.st r0
   replace s1:=s1.st r0
   replace t1:=t1.st r0
   replace u1:=u1.st r0
   replace v1:=v1.st r0
   replace w1:=w1.st r0
   replace y1:=y1.st r0
   replace z1:=z1.st r0
   obtain ⟨xA,k5,n7,o7,l5⟩:=Ors.shut (x:=(⟨(⟨x0.t.vars,x0.t.init,x0.t.goal,x0.t.ops⟩:Tsk),x0.gens,(x0.nodes.set ((mget 0 x0.tab.l p1):Int).toNat (⟨g0.1,x2,x3,x4,g0.2.1,false⟩:ONd)),x0.tab,x0.open_,x0.number⟩:Ors)) (l0:=2) (l1:=3) (l2:=4) (l3:=5) (by decide) (by have q:=r1;rw [← ((by simp:(x0.nodes.set ((mget 0 x0.tab.l p1):Int).toNat (⟨g0.1,x2,x3,x4,g0.2.1,false⟩:ONd)).length=x0.nodes.length).trans rfl)] at q;exact q) s1 t1 u1 v1 w1 n1.relen y1 z1 f5
   obtain rfl:=sm e0
   exact ⟨(),_,⟨rfl,rfl,rfl,trivial⟩,((((hB.st o0).st q0).st q1).st r0).st k5,l5,t8⟩
  replace e0:=im' e0 z2
  refine Al (Aj (Ar rfl rfl (Do rfl rfl ?_)))
  replace y0:=(y0.st o0).st q0
  obtain ⟨b4,yA,zA,aB,bB,cB,dB,eB,fB,a2,p7,h0,b2,c2,d2,e2,f2,i1,c4,g2,m5⟩:=Ors.opn y0 2 3 4 5 (by decide)
  obtain ⟨n5,o5,rfl⟩:=b2.form
  obtain ⟨p5,q5,rfl⟩:=c2.form
  obtain ⟨r5,s5,rfl⟩:=d2.form
  obtain ⟨t5,u5,rfl⟩:=e2.form
  obtain ⟨v5,w5,rfl⟩:=f2.form
  obtain ⟨gB,iB,rfl⟩:=i1.form
  obtain ⟨x5,rfl⟩:=c4.mptr
  obtain ⟨y5,z5,rfl⟩:=g2.form
  refine AJ rfl rfl (AG (hc:=Blk.cell (i:=5) (h0.1) rfl) rfl rfl ?_)
  refine AY rfl rfl ?_
  have a6:x0.nodes.length≤9223372036854775807:=Nat.le_trans i1.len.2.1 i1.len.2.2
  have d4:inI64 (x0.nodes.length:Int):=rngNat a6
  refine Aw rfl rfl (o_z ?_)
  refine Al (Aj (Ar rfl rfl (Do rfl rfl (AJ rfl rfl (AG (hc:=Blk.cell (i:=6) (h0.1) rfl) rfl rfl ?_)))))
  refine Ar rfl rfl (Ar rfl rfl (Qz (a:=p1) (b:=(x0.nodes.length:Int)) c4 (vInt d4) rfl rfl rfl fun jB j0 a3=>?_))
  refine o_z ?_
  refine BA [(7,[3])] b4 ?_
  refine AR (fuel:=6) [] [(1,true),(2,true),(3,true),(4,true),(5,true)] (by kernel_rfl) rfl ?_
  refine AN rfl rfl rfl (Dr rfl rfl rfl (Be rfl rfl rfl ?_))
  replace h0:=h0.st j0
  refine AW (hc:=fun w' ⟨O',hq⟩=>Blk.cell (i:=5) ((h0.st hq (by decide)).1) rfl) rfl rfl rfl ?_
  replace m0:=(m0.st a2).st j0
  refine CR (hl:=rfl) (hb:=fun w' ⟨O',hq⟩=>((m0.st hq (by decide)).1).cellsAt) rfl rfl rfl ?_
  refine AB ?_
  refine AR (fuel:=5) [3] [(0,true)] (by kernel_rfl) rfl ?_
  refine AN rfl rfl rfl (AB ?_)
  refine AP (i:=6) (by kernel_rfl) rfl ?_
  replace f1:=(((f1.st o0).st q0).st a2).st j0
  replace h1:=(((h1.st o0).st q0).st a2).st j0
  refine CB 7 (by decide) b4 (xs:=([(⟨g0.1,x2,x3,x4,g0.2.1,false⟩:ONd)]:List ONd)) rfl rfl rfl rfl ⟨(Vb.ofAgg (cs:=[(.slice s3 g0.1.length t3),(.int .i64 x2),(.int .i64 x3),(.int .i64 x4),(.slice u3 g0.2.1.length v3),(.bool false)]) (x:=(⟨g0.1,x2,x3,x4,g0.2.1,false⟩:ONd)) rfl ⟨_,_,rfl,f1,h1,rx2,rx3,rx4⟩),trivial⟩ (by decide) (by decide) rfl fun kB lB mB k0 b6=>?_
  have hZ:=k0.lst [] (fun _ h=>h.elim)
  refine AV [(7,[3])] hZ (by kernel_rfl) ?_
  refine AP (i:=7) (by kernel_rfl) rfl ?_
  obtain ⟨e4,b3,e0⟩:=bs e0
  obtain ⟨b3,c6,d6⟩:=CC b3
  replace i1:=(i1.st j0).st k0
  refine Eh rfl i1 (b6.rd) rfl rfl (by decide) c6 d6 rfl fun e6 f6 nB g6 n0 h2=>?_
  rw [← b3] at h2 ⊢
  have hZ:=n0.lst [3] (fun _ h=>by cases h;decide)
  refine AV [] hZ (by kernel_rfl) ?_
  refine AR (fuel:=1) [] [(8,true),(9,true)] (by kernel_rfl) rfl ?_
  refine Dr rfl rfl rfl (Be rfl rfl rfl (AB ?_))
  refine AP (i:=10) (by kernel_rfl) rfl ?_
  replace h0:=(h0.st k0).st n0
  refine AT h0 rfl rfl rfl (Bg rfl) (allOne rfl) fun h6 s0 h0=>?_
  replace h0:Lc 2 h6 g6 p0 69 [(.slice n5 x0.t.vars.length o5),(.slice p5 x0.t.init.length q5),(.slice r5 x0.t.goal.length s5),(.slice t5 x0.t.ops.length u5),(.slice v5 x0.gens.length w5),(.slice e6 e4.length f6),(.map (some x5)),(.slice y5 x0.open_.length z5),(.int .i64 x0.number)]:=h0
  refine Ch (by kernel_rfl) ?_
  refine Bo (by kernel_rfl) ?_
  replace b2:=(((b2.st j0).st k0).st n0).st s0
  replace c2:=(((c2.st j0).st k0).st n0).st s0
  replace d2:=(((d2.st j0).st k0).st n0).st s0
  replace e2:=(((e2.st j0).st k0).st n0).st s0
  replace f2:=(((f2.st j0).st k0).st n0).st s0
  replace g2:=(((g2.st j0).st k0).st n0).st s0
  replace a3:=((a3.st k0).st n0).st s0
  replace h2:=h2.st s0
  obtain ⟨oB,i6,q7,r7,j6⟩:=Ors.shut (x:=(⟨(⟨x0.t.vars,x0.t.init,x0.t.goal,x0.t.ops⟩:Tsk),x0.gens,e4,(⟨mput x0.tab.l p1 (x0.nodes.length:Int)⟩:MapP ByteArray Int),x0.open_,x0.number⟩:Ors)) (l0:=2) (l1:=3) (l2:=4) (l3:=5) (by decide) h0 b2 c2 d2 e2 f2 h2 a3 g2 m5
  obtain rfl:=sm e0
  exact ⟨(),_,⟨rfl,rfl,rfl,trivial⟩,(((((((hB.st o0).st q0).st a2).st j0).st k0).st n0).st s0).st i6,j6,d4⟩
 replace hB:=(hB.st o0).st q0
 rintro pB qB ⟨d5,rB,f4,hB,k6,l6⟩
 refine AQ _ f4 ?_
 refine Al (Aj (Ar rfl rfl (Do rfl rfl ?_)))
 obtain ⟨g4,sB,tB,uB,vB,wB,xB,yB,zB,m6,s7,z0,i2,j2,k2,m2,n2,o2,p2,q2,aC⟩:=Ors.opn k6 2 3 4 5 (by decide)
 obtain ⟨c3,d3,rfl⟩:=i2.form
 obtain ⟨e3,f3,rfl⟩:=j2.form
 obtain ⟨g3,h3,rfl⟩:=k2.form
 obtain ⟨i3,j3,rfl⟩:=m2.form
 obtain ⟨k3,m3,rfl⟩:=n2.form
 obtain ⟨n3,o3,rfl⟩:=o2.form
 obtain ⟨p3,rfl⟩:=p2.mptr
 obtain ⟨h4,i4,rfl⟩:=q2.form
 refine AJ rfl rfl (AG (hc:=Blk.cell (i:=8) (z0.1) rfl) rfl rfl ?_)
 obtain ⟨j1,j4,hm⟩:=bs hm
 have k4:=(CH j4)
 refine Hd (he:=j4) rfl rfl rfl ?_
 refine Do rfl rfl (AJ rfl rfl (AT z0 rfl rfl rfl (Bg rfl) (allOne rfl) fun n6 t0 z0=>?_))
 replace z0:Lc 2 n6 g4 p0 69 [(.slice c3 a0.2.t.vars.length d3),(.slice e3 a0.2.t.init.length f3),(.slice g3 a0.2.t.goal.length h3),(.slice i3 a0.2.t.ops.length j3),(.slice k3 a0.2.gens.length m3),(.slice n3 a0.2.nodes.length o3),(.map (some p3)),(.slice h4 a0.2.open_.length i4),(.int .i64 j1)]:=z0
 refine o_z ?_
 refine Al (BA [] g4 ?_)
 refine AR (fuel:=1) [] [(0,true),(1,true),(2,true),(3,true),(4,true),(5,true),(6,true),(7,true),(8,true),(9,true),(10,true),(11,true)] (by kernel_rfl) rfl ?_
 refine AN rfl rfl rfl (Dr rfl rfl rfl (Be rfl rfl rfl (Pa rfl rfl rfl ?_)))
 refine AN rfl rfl rfl (AN rfl rfl rfl (Dr rfl rfl rfl (Be rfl rfl rfl (AW (hc:=fun w' ⟨O',hq⟩=>Blk.cell (i:=8) ((z0.st hq (by decide)).1) rfl) rfl rfl rfl ?_))))
 refine AN rfl rfl rfl (Dj rfl rfl rfl rfl ?_)
 refine Pa rfl rfl rfl ?_
 refine AB ?_
 refine AP (i:=12) (by kernel_rfl) rfl ?_
 replace q2:=q2.st t0
 obtain ⟨o6,u0,t7,u7,p6⟩:=BxC.shut (cx:=(⟨69,[(.slice c3 a0.2.t.vars.length d3),(.slice e3 a0.2.t.init.length f3),(.slice g3 a0.2.t.goal.length h3),(.slice i3 a0.2.t.ops.length j3),(.slice k3 a0.2.gens.length m3),(.slice n3 a0.2.nodes.length o3),(.map (some p3))],[(.int .i64 j1)]⟩:Cx)) (p:=p0) (c0:=.slice h4 a0.2.open_.length i4) (x:=(⟨a0.2.open_⟩:BxR 67 73 OEn)) (l0:=2) (l1:=5) (by decide) z0 q2
 obtain ⟨l4,q6,hm⟩:=bs hm
 refine Fe (O:=o6) (GV p6 (vAny (Vb.ofAgg (cs:=[(.int .i64 x2),(.int .i64 j1),(.int .i64 a0.1)]) (x:=(⟨x2,j1,a0.1⟩:OEn)) rfl ⟨rfl,rx2,k4,l6⟩)) q6) rfl rfl fun bC r6 cC v0 s6=>?_
 obtain ⟨t6,dC,w0,v7,q3,m4⟩:=BxC.opn s6 2 5 (by decide)
 obtain ⟨u6,v6,rfl⟩:=m4.form
 replace q3:Lc 2 r6 t6 p0 69 [(.slice c3 a0.2.t.vars.length d3),(.slice e3 a0.2.t.init.length f3),(.slice g3 a0.2.t.goal.length h3),(.slice i3 a0.2.t.ops.length j3),(.slice k3 a0.2.gens.length m3),(.slice n3 a0.2.nodes.length o3),(.map (some p3)),(.slice u6 l4.l.length v6),(.int .i64 j1)]:=q3
 refine Ch (by kernel_rfl) ?_
 refine Bo (by kernel_rfl) ?_
 refine Al (Aj (Aw rfl rfl (o_z ?_)))
 refine AH ?_
 replace i2:=(((i2.st t0).st u0).st v0).st w0
 replace j2:=(((j2.st t0).st u0).st v0).st w0
 replace k2:=(((k2.st t0).st u0).st v0).st w0
 replace m2:=(((m2.st t0).st u0).st v0).st w0
 replace n2:=(((n2.st t0).st u0).st v0).st w0
 replace o2:=(((o2.st t0).st u0).st v0).st w0
 replace p2:=(((p2.st t0).st u0).st v0).st w0
 obtain ⟨eC,w6,w7,x7,x6⟩:=Ors.shut (x:=(⟨(⟨a0.2.t.vars,a0.2.t.init,a0.2.t.goal,a0.2.t.ops⟩:Tsk),a0.2.gens,a0.2.nodes,a0.2.tab,l4.l,j1⟩:Ors)) (l0:=2) (l1:=3) (l2:=4) (l3:=5) (by decide) q3 i2 j2 k2 m2 n2 o2 p2 m4 k4
 obtain rfl:=sm hm
 replace hB:=(((((hB.st m6).st t0).st u0).st v0).st w0).st w6
 obtain ⟨O',hS',hz,hl⟩:=hE.leave (fun q=>if q=2 then i0 else 0) rfl hB
 exact ret1v rfl (AE rfl) ⟨O',hS',(Ob.leave x6 hz (hl 2 (by decide) (by decide)) s2.2),(vErr (show inI64 0 from by decide))⟩
noncomputable def BS (x0:Ors) (x1:Int):Option ((List Int)×Err) :=
  bnd (lop (ρ:=(List Int)×Err) (fun (s5:Int×(List Int))=>if 0≤s5.1 then (bnd (appI 8 s5.2 [s5.1]) fun u25=>bnd (atI x0.nodes s5.1) fun a75=>some (.next (a75.parent,u25))) else (some (.brk (s5.1,s5.2)))) (x1,([]:List Int))) fun res3=>fin res3 fun (s106:Int×(List Int))=>bnd (Ci s106.2) fun q108=>bnd (BR (⟨x0.t.vars,x0.t.init,x0.t.goal,x0.t.ops⟩:Tsk)) fun q154=>if q154.2.n≠0 then (some (([]:List Int),(⟨q154.2.n⟩:Err))) else (bnd (rng (ρ:=(List Int)×Err) (fun (k203:Nat) (a204:Int) (s201:(List Int)×(List Int)×(List (List Int))×(List Int))=>bnd (q108[k203]?) fun a224=>bnd (bnd (atI x0.nodes a224) fun a278=>if 0≤a278.op then (bnd (BN (⟨x0.t.vars,x0.t.init,x0.t.goal,x0.t.ops⟩:Tsk) (⟨s201.2.1,s201.2.2.1,s201.2.2.2⟩:Swp)) fun q308=>bnd (some (q308.1.vars,q308.1.vals,q308.1.ops):Option ((List Int)×(List (List Int))×(List Int))) fun y310=>if q308.2.n≠0 then (some (.ret (.ret (([]:List Int),(⟨q308.2.n⟩:Err))))) else (bnd (atI y310.2.2 a278.op) fun a394=>bnd (appI 8 s201.1 [a394]) fun u406=>some (.done u406))) else (some (.done s201.1)):Option (Fin (List Int) (Ctl ((List Int)×(List Int)×(List (List Int))×(List Int)) ((List Int)×Err)))) fun y234=>fin y234 fun (s236:(List Int))=>bnd (atI x0.nodes a224) fun a465=>bnd (rng (ρ:=Ctl ((List Int)×(List Int)×(List (List Int))×(List Int)) ((List Int)×Err)) (fun (k498:Nat) (a499:Int) (s496:(List Int)×(List (List Int))×(List Int))=>bnd (atI x0.gens a499) fun a561=>bnd (BE (⟨x0.t.vars,x0.t.init,x0.t.goal,x0.t.ops⟩:Tsk) (⟨s496.1,s496.2.1,s496.2.2⟩:Swp) a561) fun q584=>if q584.2.n≠0 then (some (.ret (.ret (([]:List Int),(⟨q584.2.n⟩:Err))))) else (some (.next (q584.1.vars,q584.1.vals,q584.1.ops)))) a465.used 0 (s201.2.1,s201.2.2.1,s201.2.2.2)) fun res494=>fin res494 fun (s626:(List Int)×(List (List Int))×(List Int))=>some (.next (s236,s626.1,s626.2.1,s626.2.2))) s106.2 0 (([]:List Int),q154.1.vars,q154.1.vals,q154.1.ops)) fun res199=>fin res199 fun (s632:(List Int)×(List Int)×(List (List Int))×(List Int))=>some (s632.1,(⟨0⟩:Err)))
theorem HE {w:World} {O:Lab} {p0 i0:Nat} {x0:Ors} (n2:Ob i0 w O (.pointer (some ⟨p0,0,none⟩)) x0) {x1:Int} (rx1:inI64 x1) {r:(List Int)×Err} (hm:BS x0 x1=some r) :
    Fn Tryz.prog 29 [(.pointer (some ⟨p0,0,none⟩)),(.int .i64 x1)] w fun v w'=>∃ O',St (eT i0) w O w' O'∧∃ v0 v1:Value,Ob i0 w' O' (.pointer (some ⟨p0,0,none⟩)) x0∧v=.tuple #[v0,v1]∧Vb w' (Fr 0 w' O') v0 r.1∧Vb w' (Fr 0 w' O') v1 r.2:=by
 obtain ⟨O0,hE,oE,pE⟩:=ent1 (w:=w) (O:=O) n2.2
 have n2':=Ob.leave n2 oE pE (j:=2) (by decide)
 have hB:Bm w O0 w O0:=Bm.refl
 refine AK Tryz.func29 rfl Tryz.ntmps29 rfl ?_
 unfold BS at hm
 refine Al (Aj (Aw rfl rfl (Aw rfl rfl (o_z ?_))))
 refine Al (Aj (Aw rfl rfl (o_z ?_)))
 refine Al ?_
 obtain ⟨s8,qE,hm⟩:=bs hm
 refine AL (aft s8 (fun (s5:Int×(List Int)) (x6:(Option Addr×Nat))=>[(0,(.pointer (some ⟨p0,0,none⟩))),(6,(.slice x6.1 s5.2.length x6.2))]) (fun s5 x6 w'=>∃ O':Lab,Bm w O0 w' O'∧Ob 2 w' O' (.pointer (some ⟨p0,0,none⟩)) x0∧Rw 3 w' O' 3 (.slice x6.1 s5.2.length x6.2) s5.2∧inI64 s5.1)) ?_ ?_
 ·
  refine Bb (Gb (σ:=Int×(List Int)) (X:=(Option Addr×Nat)) qE (fun (s5:Int×(List Int)) (x6:(Option Addr×Nat))=>[(0,(.pointer (some ⟨p0,0,none⟩))),(1,(.int .i64 s5.1)),(6,(.slice x6.1 s5.2.length x6.2))]) _ (fun s5 x6 w'=>∃ O':Lab,Bm w O0 w' O'∧Ob 2 w' O' (.pointer (some ⟨p0,0,none⟩)) x0∧Rw 3 w' O' 3 (.slice x6.1 s5.2.length x6.2) s5.2∧inI64 s5.1) _ (none,0) ⟨O0,hB,n2',(Rw.nil 3 (by decide)),rx1⟩ ⟨rfl,rfl,rfl,trivial⟩ ?_)
  rintro s5 x6 w9 rE ⟨vL,hB,n2',p8,t8⟩ b2 u8 k4
  refine Al (Al (Aj (Ar rfl rfl (FU rfl rfl rfl (fun v8=>?_) fun v8=>?_))))
  ·
   replace b2:=ip b2 v8
   refine o_z ?_
   refine Ah rfl (AO (Al (Bb (Aj (Ar rfl rfl (Ar rfl rfl ?_))))))
   obtain ⟨wL,w8,b2⟩:=bs b2
   obtain ⟨w8,sE,tE⟩:=CC w8
   refine Ed rfl (a:=s5.1) p8 (vInt t8) (fun _=>rfl) rfl (by decide) (by decide) sE tE ⟨rfl,rfl⟩ fun xL uE vE yL zL tC uC=>?_
   rw [← w8] at uC ⊢
   refine Aw rfl rfl (o_z ?_)
   refine Aj (Ar rfl rfl (Do rfl rfl ?_))
   replace n2':=n2'.st tC
   obtain ⟨aM,bM,cM,dM,eM,fM,gM,hM,iM,vC,wE,wC,xC,yC,zC,aD,bD,x8,cD,dD,xE⟩:=Ors.opn n2' 2 4 5 6 (by decide)
   obtain ⟨jM,kM,rfl⟩:=xC.form
   obtain ⟨lM,mM,rfl⟩:=yC.form
   obtain ⟨nM,oM,rfl⟩:=zC.form
   obtain ⟨pM,qM,rfl⟩:=aD.form
   obtain ⟨rM,sM,rfl⟩:=bD.form
   obtain ⟨tM,uM,rfl⟩:=x8.form
   obtain ⟨vM,rfl⟩:=cD.mptr
   obtain ⟨wM,xM,rfl⟩:=dD.form
   refine AJ rfl rfl (AG (hc:=Blk.cell (i:=5) (wC.1) rfl) rfl rfl ?_)
   refine Ar rfl rfl ?_
   obtain ⟨yM,yE,b2⟩:=bs b2
   obtain ⟨zE,aF⟩:=AZ yE
   obtain ⟨zM,aN,bF,y8,z8,a9,bN,cN,rfl,cF,dF,dN,eF,eN⟩:=x8.elem aF
   obtain ⟨fN,gN,rfl⟩:=cF.form
   obtain ⟨hN,iN,rfl⟩:=dF.form
   refine BJ (hA:=y8) (hj:=(Int.toNat_of_nonneg zE).symm) (hlt:=z8) rfl rfl rfl ?_
   refine AJ rfl rfl (AG (hc:=cat2 a9) rfl rfl ?_)
   refine Aw rfl rfl (o_z ?_)
   obtain ⟨jN,eD,fD,gD,fF⟩:=Ors.shut (x:=x0) (l0:=2) (l1:=4) (l2:=5) (l3:=6) (by decide) wC xC yC zC aD bD x8 cD dD xE
   obtain rfl:=sm b2
   exact show Exists _ from ⟨_,(uE,vE),rfl,⟨rfl,rfl,rfl,trivial⟩,_,((hB.st tC).st vC).st eD,fF,(uC.st vC).st eD,eF⟩
  replace b2:=im b2 v8
  refine o_z ?_
  refine Ae rfl (DM ?_)
  obtain rfl:=sm b2
  exact show Exists _ from ⟨_,(x6.1,x6.2),k4 _ rfl,⟨rfl,rfl,trivial⟩,_,hB,n2',p8,t8⟩
 rintro gF hF ⟨f1,z0,rfl,b5,b9,hB,n2',p8,t8⟩
 replace hm:=Bl hm
 refine AQ _ b5 ?_
 refine Al (Aj (Ar rfl rfl ?_))
 obtain ⟨v3,c9,hm⟩:=bs hm
 refine Fe (O:=b9) (FY p8 c9) rfl rfl fun iF jF kF y3 h0=>?_
 refine o_z ?_
 refine Al (Aj (Ar rfl rfl (Do rfl rfl ?_)))
 replace n2':=n2'.st y3
 obtain ⟨d9,lF,mF,nF,oF,pF,qF,rF,sF,z3,hD,z2,o2,p2,q2,r2,a3,b3,c3,d3,c5⟩:=Ors.opn n2' 2 4 5 6 (by decide)
 obtain ⟨e9,f9,rfl⟩:=o2.form
 obtain ⟨g9,h9,rfl⟩:=p2.form
 obtain ⟨i9,j9,rfl⟩:=q2.form
 obtain ⟨k9,l9,rfl⟩:=r2.form
 obtain ⟨tF,uF,rfl⟩:=a3.form
 obtain ⟨vF,wF,rfl⟩:=b3.form
 obtain ⟨xF,rfl⟩:=c3.mptr
 obtain ⟨yF,zF,rfl⟩:=d3.form
 refine AJ rfl rfl (Bi (hl:=rfl) (hc:=(Fk 0 4 (z2.1).cellsAt)) rfl rfl ?_)
 obtain ⟨a4,m9,hm⟩:=bs hm
 refine Bw (O:=d9) (R:=fun w' F v=>T2 w' F v a4) (HD Fr.lt (Vb.ofAgg (cs:=[(.slice e9 x0.t.vars.length f9),(.slice g9 x0.t.init.length h9),(.slice i9 x0.t.goal.length j9),(.slice k9 x0.t.ops.length l9)]) (x:=(⟨x0.t.vars,x0.t.init,x0.t.goal,x0.t.ops⟩:Tsk)) rfl ⟨_,_,_,_,rfl,o2,p2,q2,r2⟩) m9) rfl rfl fun aG bG n9 w0 o9=>?_
 obtain ⟨cG,dG,rfl,p9,q9⟩:=o9
 obtain ⟨iD,rfl,eG,fG,gG,rfl,b4,c4,d4⟩:=p9
 obtain ⟨d5,e5,rfl⟩:=b4.form
 obtain ⟨f5,g5,rfl⟩:=c4.form
 obtain ⟨h5,i5,rfl⟩:=d4.form
 obtain ⟨rfl,r9⟩:=q9.err
 refine Ar rfl rfl (CE rfl rfl rfl (CE rfl rfl rfl (Bf 7 n9 rfl fun t1 hG s9 n0 e0=>?_)))
 refine AT e0 rfl rfl rfl (Bg rfl) (allOne rfl) fun t9 o0 e0=>?_
 replace e0:Lc 7 t9 s9 t1 53 [(.slice d5 a4.1.vars.length e5),(.slice f5 a4.1.vals.length g5),(.slice h5 a4.1.ops.length i5)]:=e0
 refine Aw rfl rfl (o_z ?_)
 refine Al (Al (Aj (Ar rfl rfl (DJ rfl rfl (fun l4=>?_) fun l4=>?_))))
 ·
  replace hm:=ip hm l4
  refine o_z ?_
  refine Ah rfl (Al (Aj (Ar rfl rfl (Aw rfl rfl (Aw rfl rfl (o_z ?_))))))
  refine AH ?_
  replace z2:=((z2.st w0).st n0).st o0
  replace o2:=((o2.st w0).st n0).st o0
  replace p2:=((p2.st w0).st n0).st o0
  replace q2:=((q2.st w0).st n0).st o0
  replace r2:=((r2.st w0).st n0).st o0
  replace a3:=((a3.st w0).st n0).st o0
  replace b3:=((b3.st w0).st n0).st o0
  replace c3:=((c3.st w0).st n0).st o0
  replace d3:=((d3.st w0).st n0).st o0
  obtain ⟨iG,u9,jD,kD,v9⟩:=Ors.shut (x:=x0) (l0:=2) (l1:=4) (l2:=5) (l3:=6) (by decide) z2 o2 p2 q2 r2 a3 b3 c3 d3 c5
  obtain rfl:=sm hm
  replace hB:=(((((hB.st y3).st z3).st w0).st n0).st o0).st u9
  obtain ⟨O',hS',hz,hl⟩:=hE.leave (fun q=>if q=2 then i0 else 0) rfl hB
  exact ret2 rfl (AE rfl) (AE rfl) ⟨O',hS',_,_,(Ob.leave v9 hz (hl 2 (by decide) (by decide)) n2.2),rfl,(Vb.mono (Vb.nil _ _) hz),(vErr r9)⟩
 replace hm:=im hm l4
 refine o_z ?_
 refine Ae rfl (AO (Al (Aj (Aw rfl rfl (o_z ?_)))))
 refine Al (Al (Aj (Ar rfl rfl (AY rfl rfl ?_))))
 replace h0:=(((h0.st z3).st w0).st n0).st o0
 have m4:f1.2.length≤9223372036854775807:=Nat.le_trans h0.len.2.1 h0.len.2.2
 have jG:inI64 (f1.2.length:Int):=rngNat m4
 refine Ar rfl rfl (o_z ?_)
 replace z2:=((z2.st w0).st n0).st o0
 replace o2:=((o2.st w0).st n0).st o0
 replace p2:=((p2.st w0).st n0).st o0
 replace q2:=((q2.st w0).st n0).st o0
 replace r2:=((r2.st w0).st n0).st o0
 replace a3:=((a3.st w0).st n0).st o0
 replace b3:=((b3.st w0).st n0).st o0
 replace c3:=((c3.st w0).st n0).st o0
 replace d3:=((d3.st w0).st n0).st o0
 obtain ⟨x9,e3,lD,mD,i2⟩:=Ors.shut (x:=x0) (l0:=2) (l1:=4) (l2:=5) (l3:=6) (by decide) z2 o2 p2 q2 r2 a3 b3 c3 d3 c5
 obtain ⟨n4,j5,hm⟩:=bs hm
 refine AL (aft n4 (fun (d0:(List Int)×(List Int)×(List (List Int))×(List Int)) (a0:(Option Addr×Nat)×(Option Addr×Nat)×(Option Addr×Nat)×(Option Addr×Nat))=>[(9,(.slice a0.1.1 d0.1.length a0.1.2))]) (fun d0 a0 w'=>∃ O':Lab,Bm w O0 w' O'∧Rw 10 w' O' 3 (.slice a0.1.1 d0.1.length a0.1.2) d0.1∧Ob 2 w' O' (.pointer (some ⟨p0,0,none⟩)) x0)) ?_ ?_
 ·
  refine Bb ?_
  replace hB:=(((((hB.st y3).st z3).st w0).st n0).st o0).st e3
  replace h0:=h0.st e3
  replace b4:=((b4.st n0).st o0).st e3
  replace c4:=((c4.st n0).st o0).st e3
  replace d4:=((d4.st n0).st o0).st e3
  replace e0:=e0.st e3
  refine BL (σ:=(List Int)×(List Int)×(List (List Int))×(List Int)) (X:=(Option Addr×Nat)×(Option Addr×Nat)×(Option Addr×Nat)×(Option Addr×Nat)) (f1.2.length) j5 rfl m4 (fun (d0:(List Int)×(List Int)×(List (List Int))×(List Int)) (a0:(Option Addr×Nat)×(Option Addr×Nat)×(Option Addr×Nat)×(Option Addr×Nat))=>[(0,(.pointer (some ⟨p0,0,none⟩))),(7,(.pointer (some ⟨t1,0,none⟩))),(9,(.slice a0.1.1 d0.1.length a0.1.2)),(44,(.slice z0.1 f1.2.length z0.2))]) _ (fun d0 a0 w'=>∃ O':Lab,Bm w O0 w' O'∧Ob 2 w' O' (.pointer (some ⟨p0,0,none⟩)) x0∧Lc 7 w' O' t1 53 [(.slice a0.2.1.1 d0.2.1.length a0.2.1.2),(.slice a0.2.2.1.1 d0.2.2.1.length a0.2.2.1.2),(.slice a0.2.2.2.1 d0.2.2.2.length a0.2.2.2.2)]∧Vb w' (Fr 0 w' O') (.slice a0.2.1.1 d0.2.1.length a0.2.1.2) d0.2.1∧Vb w' (Fr 0 w' O') (.slice a0.2.2.1.1 d0.2.2.1.length a0.2.2.1.2) d0.2.2.1∧Vb w' (Fr 0 w' O') (.slice a0.2.2.2.1 d0.2.2.2.length a0.2.2.2.2) d0.2.2.2∧Rw 10 w' O' 3 (.slice a0.1.1 d0.1.length a0.1.2) d0.1∧Rw 3 w' O' 3 (.slice z0.1 f1.2.length z0.2) v3) _ ((none,0),(d5,e5),(f5,g5),(h5,i5)) ⟨x9,hB,i2,e0,b4,c4,d4,(Rw.nil 10 (by decide)),h0⟩ ⟨rfl,rfl,rfl,rfl,rfl,rfl,trivial⟩ (fun _ _=>⟨rfl,rfl⟩) (fun _ _=>⟨rfl,trivial⟩) (fun _ _ _ ⟨O',hB,i2,e0,c1,d1,e1,r1,h0⟩=>⟨O',hB,r1,i2⟩) ⟨rfl,rfl,rfl⟩ ⟨rfl,rfl⟩ ?_
  rintro w3 kG d0 a0 lG nD k5 ⟨mG,hB,i2,e0,c1,d1,e1,r1,h0⟩ r0 q3 q8
  have rk203:inI64 (w3:Int):=rngK k5 m4
  refine Al (Aj ?_)
  obtain ⟨l5,y9,r0⟩:=bs r0
  obtain ⟨nG,oG,oD,m5,n5,o5,rfl,pG⟩:=h0.elem y9
  refine BJ (hA:=m5) (hj:=rfl) (hlt:=n5) rfl rfl rfl ?_
  refine AG (hc:=cat0 o5) rfl rfl ?_
  refine Aw rfl rfl (o_z ?_)
  refine Al ?_
  obtain ⟨z9,g0,r0⟩:=bs r0
  refine AL (fun l' w'=>∃ (w1:(List Int)) (n1:(Option Addr×Nat)) (O':Lab),z9=.done w1∧subs l' [(0,(.pointer (some ⟨p0,0,none⟩))),(7,(.pointer (some ⟨t1,0,none⟩))),(9,(.slice n1.1 w1.length n1.2)),(11,(.int .i64 l5)),(44,(.slice z0.1 f1.2.length z0.2)),(45,(.int .i64 (f1.2.length:Int))),(46,(.int .i64 (w3:Int)))]∧Bm w O0 w' O'∧Ob 2 w' O' (.pointer (some ⟨p0,0,none⟩)) x0∧Lc 7 w' O' t1 53 [(.slice a0.2.1.1 d0.2.1.length a0.2.1.2),(.slice a0.2.2.1.1 d0.2.2.1.length a0.2.2.1.2),(.slice a0.2.2.2.1 d0.2.2.2.length a0.2.2.2.2)]∧Vb w' (Fr 0 w' O') (.slice a0.2.1.1 d0.2.1.length a0.2.1.2) d0.2.1∧Vb w' (Fr 0 w' O') (.slice a0.2.2.1.1 d0.2.2.1.length a0.2.2.1.2) d0.2.2.1∧Vb w' (Fr 0 w' O') (.slice a0.2.2.2.1 d0.2.2.2.length a0.2.2.2.2) d0.2.2.2∧Rw 10 w' O' 3 (.slice n1.1 w1.length n1.2) w1∧Rw 3 w' O' 3 (.slice z0.1 f1.2.length z0.2) v3) ?_ ?_
  ·
   refine Al (Aj (Ar rfl rfl (Do rfl rfl ?_)))
   obtain ⟨aA,qG,rG,sG,tG,uG,vG,wG,xG,k0,pD,s1,g1,h1,i1,j1,c2,y1,d2,e2,o4⟩:=Ors.opn i2 2 4 5 6 (by decide)
   obtain ⟨p5,q5,rfl⟩:=g1.form
   obtain ⟨r5,t5,rfl⟩:=h1.form
   obtain ⟨u5,v5,rfl⟩:=i1.form
   obtain ⟨w5,x5,rfl⟩:=j1.form
   obtain ⟨yG,zG,rfl⟩:=c2.form
   obtain ⟨aH,bH,rfl⟩:=y1.form
   obtain ⟨cH,rfl⟩:=d2.mptr
   obtain ⟨dH,eH,rfl⟩:=e2.form
   refine AJ rfl rfl (AG (hc:=Blk.cell (i:=5) (s1.1) rfl) rfl rfl ?_)
   refine Ar rfl rfl ?_
   obtain ⟨k1,bA,g0⟩:=bs g0
   obtain ⟨cA,dA⟩:=AZ bA
   obtain ⟨fH,gH,qD,y5,z5,a6,hH,iH,rfl,r3,s3,jH,kH,lH⟩:=y1.elem dA
   obtain ⟨p4,q4,rfl⟩:=r3.form
   obtain ⟨r4,s4,rfl⟩:=s3.form
   refine BJ (hA:=y5) (hj:=(Int.toNat_of_nonneg cA).symm) (hlt:=z5) rfl rfl rfl ?_
   refine Bi (hl:=rfl) (hc:=a6) rfl rfl ?_
   refine Bf 8 aA rfl fun t4 mH e4 b0 j2=>?_
   refine AT j2 rfl rfl rfl (Bg rfl) (allOne rfl) fun eA c0 j2=>?_
   replace j2:Lc 8 eA e4 t4 78 [(.slice p4 k1.state.length q4),(.int .i64 k1.cost),(.int .i64 k1.parent),(.int .i64 k1.op),(.slice r4 k1.used.length s4),(.bool k1.fin)]:=j2
   refine o_z ?_
   refine Al (Aj (AJ rfl rfl (AG (hc:=Blk.cell (i:=3) (j2.1) rfl) rfl rfl ?_)))
   refine FU rfl rfl rfl (fun u4=>?_) fun u4=>?_
   ·
    replace g0:=ip g0 u4
    refine o_z ?_
    refine Ah rfl (Al ?_)
    obtain ⟨f2,b6,g0⟩:=bs g0
    obtain ⟨k2,i4,g0⟩:=bs g0
    refine AL (fun l' w'=>∃ (o1:Nat×(Option Addr×Nat)×(Option Addr×Nat)×(Option Addr×Nat)) (O':Lab),subs l' [(0,(.pointer (some ⟨p0,0,none⟩))),(7,(.pointer (some ⟨t1,0,none⟩))),(9,(.slice a0.1.1 d0.1.length a0.1.2)),(11,(.int .i64 l5)),(12,(.pointer (some ⟨t4,0,none⟩))),(13,(.pointer (some ⟨o1.1,0,none⟩))),(14,(errV f2.2.n)),(44,(.slice z0.1 f1.2.length z0.2)),(45,(.int .i64 (f1.2.length:Int))),(46,(.int .i64 (w3:Int)))]∧Bm w O0 w' O'∧Ob 2 w' O' (.pointer (some ⟨p0,0,none⟩)) x0∧Lc 7 w' O' t1 53 [(.slice a0.2.1.1 d0.2.1.length a0.2.1.2),(.slice a0.2.2.1.1 d0.2.2.1.length a0.2.2.1.2),(.slice a0.2.2.2.1 d0.2.2.2.length a0.2.2.2.2)]∧Vb w' (Fr 0 w' O') (.slice a0.2.1.1 d0.2.1.length a0.2.1.2) d0.2.1∧Vb w' (Fr 0 w' O') (.slice a0.2.2.1.1 d0.2.2.1.length a0.2.2.1.2) d0.2.2.1∧Vb w' (Fr 0 w' O') (.slice a0.2.2.2.1 d0.2.2.2.length a0.2.2.2.2) d0.2.2.2∧Rw 10 w' O' 3 (.slice a0.1.1 d0.1.length a0.1.2) d0.1∧Lc 8 w' O' t4 78 [(.slice p4 k1.state.length q4),(.int .i64 k1.cost),(.int .i64 k1.parent),(.int .i64 k1.op),(.slice r4 k1.used.length s4),(.bool k1.fin)]∧Vb w' (Fr 0 w' O') (.slice p4 k1.state.length q4) k1.state∧Vb w' (Fr 0 w' O') (.slice r4 k1.used.length s4) k1.used∧Lc 9 w' O' o1.1 53 [(.slice o1.2.1.1 k2.1.length o1.2.1.2),(.slice o1.2.2.1.1 k2.2.1.length o1.2.2.1.2),(.slice o1.2.2.2.1 k2.2.2.length o1.2.2.2.2)]∧Vb w' (Fr 0 w' O') (.slice o1.2.1.1 k2.1.length o1.2.1.2) k2.1∧Vb w' (Fr 0 w' O') (.slice o1.2.2.1.1 k2.2.1.length o1.2.2.1.2) k2.2.1∧Vb w' (Fr 0 w' O') (.slice o1.2.2.2.1 k2.2.2.length o1.2.2.2.2) k2.2.2∧Rw 3 w' O' 3 (.slice z0.1 f1.2.length z0.2) v3∧inI64 f2.2.n) ?_ ?_
    ·
     refine BA [(10,[9])] e4 ?_
     refine AR (fuel:=7) [] [(0,true),(1,true),(2,true),(3,true),(4,true)] (by kernel_rfl) rfl ?_
     refine AN rfl rfl rfl (Dr rfl rfl rfl (Be rfl rfl rfl ?_))
     replace s1:=(s1.st b0).st c0
     refine CR (hl:=rfl) (hb:=fun w' ⟨O',hq⟩=>(Fk 0 4 ((s1.st hq (by decide)).1).cellsAt)) rfl rfl rfl ?_
     replace e0:=((e0.st k0).st b0).st c0
     refine CR (hl:=rfl) (hb:=fun w' ⟨O',hq⟩=>((e0.st hq (by decide)).1).cellsAt) rfl rfl rfl ?_
     refine AB ?_
     refine EM (i:=5) (j:=9) (by kernel_rfl) rfl rfl ?_ ?_
     ·
      replace c1:=((c1.st k0).st b0).st c0
      replace d1:=((d1.st k0).st b0).st c0
      replace e1:=((e1.st k0).st b0).st c0
      replace g1:=(g1.st b0).st c0
      replace h1:=(h1.st b0).st c0
      replace i1:=(i1.st b0).st c0
      replace j1:=(j1.st b0).st c0
      refine Bw (O:=e4) (R:=fun w' F v=>T2 w' F v f2) (FG Fr.lt (Vb.ofAgg (cs:=[(.slice p5 x0.t.vars.length q5),(.slice r5 x0.t.init.length t5),(.slice u5 x0.t.goal.length v5),(.slice w5 x0.t.ops.length x5)]) (x:=(⟨x0.t.vars,x0.t.init,x0.t.goal,x0.t.ops⟩:Tsk)) rfl ⟨_,_,_,_,rfl,g1,h1,i1,j1⟩) (Vb.ofAgg (cs:=[(.slice a0.2.1.1 d0.2.1.length a0.2.1.2),(.slice a0.2.2.1.1 d0.2.2.1.length a0.2.2.1.2),(.slice a0.2.2.2.1 d0.2.2.2.length a0.2.2.2.2)]) (x:=(⟨d0.2.1,d0.2.2.1,d0.2.2.2⟩:Swp)) rfl ⟨_,_,_,rfl,c1,d1,e1⟩) b6) rfl rfl fun nH oH fA a1 gA=>?_
      obtain ⟨pH,qH,rfl,iA,jA⟩:=gA
      obtain ⟨rD,rfl,rH,sH,tH,rfl,c6,d6,e6⟩:=iA
      obtain ⟨f6,g6,rfl⟩:=c6.form
      obtain ⟨h6,i6,rfl⟩:=d6.form
      obtain ⟨j6,k6,rfl⟩:=e6.form
      obtain ⟨rfl,kA⟩:=jA.err
      have hZ:=a1.lst [] (fun _ h=>h.elim)
      refine AV [(10,[9])] hZ (by kernel_rfl) ?_
      refine AR (fuel:=4) [] [(6,true),(7,true)] (by kernel_rfl) rfl ?_
      refine AN rfl rfl rfl (Hb rfl rfl rfl rfl (AB ?_))
      refine AR (fuel:=3) [9] [(8,true)] (by kernel_rfl) rfl ?_
      refine Hb rfl rfl rfl rfl (AB ?_)
      refine AP (i:=9) (by kernel_rfl) rfl ?_
      refine Bf 9 fA rfl fun l6 uH lA s0 x3=>?_
      have hZ:=s0.lst [] (fun _ h=>h.elim)
      refine AV [(10,[9])] hZ (by kernel_rfl) ?_
      refine AP (i:=10) (by kernel_rfl) rfl ?_
      refine AT x3 rfl rfl rfl (Bg rfl) (allOne rfl) fun mA t0 x3=>?_
      replace x3:Lc 9 mA lA l6 53 [(.slice f6 f2.1.vars.length g6),(.slice h6 f2.1.vals.length i6),(.slice j6 f2.1.ops.length k6)]:=x3
      have hZ:=t0.lst [9] (fun _ h=>by cases h;decide)
      refine AV [] hZ (by kernel_rfl) ?_
      refine AR (fuel:=0) [] [(11,true)] (by kernel_rfl) rfl ?_
      refine Fa rfl rfl rfl (AB ?_)
      refine Bo (by kernel_rfl) ?_
      replace s1:=((s1.st a1).st s0).st t0
      replace g1:=((g1.st a1).st s0).st t0
      replace h1:=((h1.st a1).st s0).st t0
      replace i1:=((i1.st a1).st s0).st t0
      replace j1:=((j1.st a1).st s0).st t0
      replace c2:=((((c2.st b0).st c0).st a1).st s0).st t0
      replace y1:=((((y1.st b0).st c0).st a1).st s0).st t0
      replace d2:=((((d2.st b0).st c0).st a1).st s0).st t0
      replace e2:=((((e2.st b0).st c0).st a1).st s0).st t0
      obtain ⟨vH,p1,sD,tD,nA⟩:=Ors.shut (x:=x0) (l0:=2) (l1:=4) (l2:=5) (l3:=6) (by decide) s1 g1 h1 i1 j1 c2 y1 d2 e2 o4
      obtain rfl:=sm i4
      exact ⟨(l6,(f6,g6),(h6,i6),(j6,k6)),_,⟨rfl,rfl,rfl,rfl,rfl,rfl,rfl,rfl,rfl,rfl,trivial⟩,((((((hB.st k0).st b0).st c0).st a1).st s0).st t0).st p1,nA,(((e0.st a1).st s0).st t0).st p1,(((c1.st a1).st s0).st t0).st p1,(((d1.st a1).st s0).st t0).st p1,(((e1.st a1).st s0).st t0).st p1,((((((r1.st k0).st b0).st c0).st a1).st s0).st t0).st p1,(((j2.st a1).st s0).st t0).st p1,(((((r3.st b0).st c0).st a1).st s0).st t0).st p1,(((((s3.st b0).st c0).st a1).st s0).st t0).st p1,x3.st p1,((c6.st s0).st t0).st p1,((d6.st s0).st t0).st p1,((e6.st s0).st t0).st p1,((((((h0.st k0).st b0).st c0).st a1).st s0).st t0).st p1,kA⟩
     refine Bf 9 e4 rfl fun m6 wH oA b1 f3=>?_
     have hZ:=b1.lst [] (fun _ h=>h.elim)
     refine AV [(10,[9])] hZ (by kernel_rfl) ?_
     refine AP (i:=5) (by kernel_rfl) rfl ?_
     replace c1:=(((c1.st k0).st b0).st c0).st b1
     replace d1:=(((d1.st k0).st b0).st c0).st b1
     replace e1:=(((e1.st k0).st b0).st c0).st b1
     replace g1:=((g1.st b0).st c0).st b1
     replace h1:=((h1.st b0).st c0).st b1
     replace i1:=((i1.st b0).st c0).st b1
     replace j1:=((j1.st b0).st c0).st b1
     refine Bw (O:=oA) (R:=fun w' F v=>T2 w' F v f2) (FG Fr.lt (Vb.ofAgg (cs:=[(.slice p5 x0.t.vars.length q5),(.slice r5 x0.t.init.length t5),(.slice u5 x0.t.goal.length v5),(.slice w5 x0.t.ops.length x5)]) (x:=(⟨x0.t.vars,x0.t.init,x0.t.goal,x0.t.ops⟩:Tsk)) rfl ⟨_,_,_,_,rfl,g1,h1,i1,j1⟩) (Vb.ofAgg (cs:=[(.slice a0.2.1.1 d0.2.1.length a0.2.1.2),(.slice a0.2.2.1.1 d0.2.2.1.length a0.2.2.1.2),(.slice a0.2.2.2.1 d0.2.2.2.length a0.2.2.2.2)]) (x:=(⟨d0.2.1,d0.2.2.1,d0.2.2.2⟩:Swp)) rfl ⟨_,_,_,rfl,c1,d1,e1⟩) b6) rfl rfl fun xH yH pA y0 qA=>?_
     obtain ⟨zH,aI,rfl,rA,sA⟩:=qA
     obtain ⟨uD,rfl,bI,cI,dI,rfl,n6,o6,p6⟩:=rA
     obtain ⟨q6,r6,rfl⟩:=n6.form
     obtain ⟨s6,t6,rfl⟩:=o6.form
     obtain ⟨u6,v6,rfl⟩:=p6.form
     obtain ⟨rfl,tA⟩:=sA.err
     have hZ:=y0.lst [] (fun _ h=>h.elim)
     refine AV [(10,[9])] hZ (by kernel_rfl) ?_
     refine AR (fuel:=3) [] [(6,true),(7,true)] (by kernel_rfl) rfl ?_
     refine AN rfl rfl rfl (Hb rfl rfl rfl rfl (AB ?_))
     refine AR (fuel:=2) [9] [(8,true)] (by kernel_rfl) rfl ?_
     refine Hb rfl rfl rfl rfl (AB ?_)
     refine AP (i:=10) (by kernel_rfl) rfl ?_
     replace f3:=f3.st y0
     refine AT f3 rfl rfl rfl (Bg rfl) (allOne rfl) fun uA u0 f3=>?_
     replace f3:Lc 9 uA pA m6 53 [(.slice q6 f2.1.vars.length r6),(.slice s6 f2.1.vals.length t6),(.slice u6 f2.1.ops.length v6)]:=f3
     have hZ:=u0.lst [9] (fun _ h=>by cases h;decide)
     refine AV [] hZ (by kernel_rfl) ?_
     refine AR (fuel:=0) [] [(11,true)] (by kernel_rfl) rfl ?_
     refine Fa rfl rfl rfl (AB ?_)
     refine Bo (by kernel_rfl) ?_
     replace s1:=((s1.st b1).st y0).st u0
     replace g1:=(g1.st y0).st u0
     replace h1:=(h1.st y0).st u0
     replace i1:=(i1.st y0).st u0
     replace j1:=(j1.st y0).st u0
     replace c2:=((((c2.st b0).st c0).st b1).st y0).st u0
     replace y1:=((((y1.st b0).st c0).st b1).st y0).st u0
     replace d2:=((((d2.st b0).st c0).st b1).st y0).st u0
     replace e2:=((((e2.st b0).st c0).st b1).st y0).st u0
     obtain ⟨eI,q1,vD,wD,vA⟩:=Ors.shut (x:=x0) (l0:=2) (l1:=4) (l2:=5) (l3:=6) (by decide) s1 g1 h1 i1 j1 c2 y1 d2 e2 o4
     obtain rfl:=sm i4
     exact ⟨(m6,(q6,r6),(s6,t6),(u6,v6)),_,⟨rfl,rfl,rfl,rfl,rfl,rfl,rfl,rfl,rfl,rfl,trivial⟩,((((((hB.st k0).st b0).st c0).st b1).st y0).st u0).st q1,vA,(((e0.st b1).st y0).st u0).st q1,((c1.st y0).st u0).st q1,((d1.st y0).st u0).st q1,((e1.st y0).st u0).st q1,((((((r1.st k0).st b0).st c0).st b1).st y0).st u0).st q1,(((j2.st b1).st y0).st u0).st q1,(((((r3.st b0).st c0).st b1).st y0).st u0).st q1,(((((s3.st b0).st c0).st b1).st y0).st u0).st q1,f3.st q1,(n6.st u0).st q1,(o6.st u0).st q1,(p6.st u0).st q1,((((((h0.st k0).st b0).st c0).st b1).st y0).st u0).st q1,tA⟩
    replace hB:=((hB.st k0).st b0).st c0
    replace h0:=((h0.st k0).st b0).st c0
    replace e0:=((e0.st k0).st b0).st c0
    replace r1:=((r1.st k0).st b0).st c0
    replace c1:=((c1.st k0).st b0).st c0
    replace d1:=((d1.st k0).st b0).st c0
    replace e1:=((e1.st k0).st b0).st c0
    replace r3:=(r3.st b0).st c0
    replace s3:=(s3.st b0).st c0
    rintro fI gI ⟨o1,hI,w6,hB,y6,e0,c1,d1,e1,r1,j2,r3,s3,wA,iI,jI,xA,h0,yA⟩
    refine AQ _ w6 ?_
    refine Al (Al (Aj (Ar rfl rfl (DJ rfl rfl (fun v4=>?_) fun v4=>?_))))
    ·
     replace g0:=ip g0 v4
     refine o_z ?_
     refine Ah rfl (Al (Aj (Ar rfl rfl (Aw rfl rfl (Aw rfl rfl (o_z ?_))))))
     refine AH ?_
     obtain rfl:=sm g0
     obtain rfl:=sm (BV r0)
     obtain rfl:=q3 _ rfl
     obtain rfl:=sm (BV hm)
     obtain ⟨O',hS',hz,hl⟩:=hE.leave (fun q=>if q=2 then i0 else 0) rfl hB
     exact ret2 rfl (AE rfl) (AE rfl) ⟨O',hS',_,_,(Ob.leave y6 hz (hl 2 (by decide) (by decide)) n2.2),rfl,(Vb.mono (Vb.nil _ _) hz),(vErr yA)⟩
    replace g0:=im g0 v4
    refine o_z ?_
    refine Ae rfl (AO (Aj (Ar rfl rfl (AJ rfl rfl (AG (hc:=Blk.cell (i:=2) (wA.1) rfl) rfl rfl ?_)))))
    refine AJ rfl rfl (AG (hc:=Blk.cell (i:=3) (j2.1) rfl) rfl rfl ?_)
    obtain ⟨zA,aB,g0⟩:=bs g0
    obtain ⟨bB,cB⟩:=AZ aB
    obtain ⟨kI,lI,xD,z6,a7,b7,rfl,dB⟩:=xA.elem' cB
    refine BJ (hA:=z6) (hj:=(Int.toNat_of_nonneg bB).symm) (hlt:=a7) rfl rfl rfl ?_
    refine AG (hc:=cat0 b7) rfl rfl ?_
    obtain ⟨mI,w4,g0⟩:=bs g0
    obtain ⟨w4,eB,fB⟩:=CC w4
    refine Ed rfl (a:=zA) r1 (vInt dB) (fun _=>rfl) rfl (by decide) (by decide) eB fB ⟨rfl,rfl⟩ fun nI gB iB oI pI g3 c7=>?_
    rw [← w4] at c7 ⊢
    refine Aw rfl rfl (o_z ?_)
    obtain rfl:=sm g0
    exact ⟨_,(gB,iB),_,rfl,⟨rfl,rfl,rfl,rfl,rfl,rfl,rfl,trivial⟩,hB.st g3,y6.st g3,e0.st g3,c1.st g3,d1.st g3,e1.st g3,c7,h0.st g3⟩
   replace g0:=im g0 u4
   refine o_z ?_
   refine Ae rfl (AO ?_)
   replace s1:=(s1.st b0).st c0
   replace g1:=(g1.st b0).st c0
   replace h1:=(h1.st b0).st c0
   replace i1:=(i1.st b0).st c0
   replace j1:=(j1.st b0).st c0
   replace c2:=(c2.st b0).st c0
   replace y1:=(y1.st b0).st c0
   replace d2:=(d2.st b0).st c0
   replace e2:=(e2.st b0).st c0
   obtain ⟨qI,h3,yD,zD,jB⟩:=Ors.shut (x:=x0) (l0:=2) (l1:=4) (l2:=5) (l3:=6) (by decide) s1 g1 h1 i1 j1 c2 y1 d2 e2 o4
   obtain rfl:=sm g0
   exact ⟨_,(a0.1.1,a0.1.2),_,rfl,⟨rfl,rfl,rfl,rfl,rfl,rfl,rfl,trivial⟩,(((hB.st k0).st b0).st c0).st h3,jB,(((e0.st k0).st b0).st c0).st h3,(((c1.st k0).st b0).st c0).st h3,(((d1.st k0).st b0).st c0).st h3,(((e1.st k0).st b0).st c0).st h3,(((r1.st k0).st b0).st c0).st h3,(((h0.st k0).st b0).st c0).st h3⟩
  rintro rI sI ⟨w1,n1,tI,rfl,d7,hB,kB,e0,c1,d1,e1,z1,h0⟩
  replace r0:=Bl r0
  refine AQ _ d7 ?_
  refine Al (Aj (Ar rfl rfl (Do rfl rfl ?_)))
  obtain ⟨uI,vI,wI,xI,yI,zI,aJ,bJ,cJ,a2,aE,e7,f7,g7,h7,i7,j7,x4,k7,l7,lB⟩:=Ors.opn kB 2 4 5 6 (by decide)
  obtain ⟨dJ,eJ,rfl⟩:=f7.form
  obtain ⟨fJ,gJ,rfl⟩:=g7.form
  obtain ⟨hJ,iJ,rfl⟩:=h7.form
  obtain ⟨jJ,kJ,rfl⟩:=i7.form
  obtain ⟨lJ,mJ,rfl⟩:=j7.form
  obtain ⟨nJ,oJ,rfl⟩:=x4.form
  obtain ⟨pJ,rfl⟩:=k7.mptr
  obtain ⟨qJ,rJ,rfl⟩:=l7.form
  refine AJ rfl rfl (AG (hc:=Blk.cell (i:=5) (e7.1) rfl) rfl rfl ?_)
  refine Ar rfl rfl ?_
  obtain ⟨t3,mB,r0⟩:=bs r0
  obtain ⟨nB,oB⟩:=AZ mB
  obtain ⟨sJ,tJ,bE,m7,n7,o7,uJ,vJ,rfl,pB,g2,wJ,xJ,yJ⟩:=x4.elem oB
  obtain ⟨zJ,aK,rfl⟩:=pB.form
  obtain ⟨p7,q7,rfl⟩:=g2.form
  refine BJ (hA:=m7) (hj:=(Int.toNat_of_nonneg nB).symm) (hlt:=n7) rfl rfl rfl ?_
  refine AJ rfl rfl (AG (hc:=cat4 o7) rfl rfl ?_)
  refine AY rfl rfl ?_
  have y4:t3.used.length≤9223372036854775807:=Nat.le_trans g2.len.2.1 g2.len.2.2
  have bK:inI64 (t3.used.length:Int):=rngNat y4
  refine Ar rfl rfl (o_z ?_)
  obtain ⟨qB,u1,cE,dE,i3⟩:=Ors.shut (x:=x0) (l0:=2) (l1:=4) (l2:=5) (l3:=6) (by decide) e7 f7 g7 h7 i7 j7 x4 k7 l7 lB
  obtain ⟨z4,r7,r0⟩:=bs r0
  refine AL (aft z4 (fun (j0:(List Int)×(List (List Int))×(List Int)) (f0:(Option Addr×Nat)×(Option Addr×Nat)×(Option Addr×Nat))=>[(0,(.pointer (some ⟨p0,0,none⟩))),(7,(.pointer (some ⟨t1,0,none⟩))),(9,(.slice n1.1 w1.length n1.2)),(44,(.slice z0.1 f1.2.length z0.2)),(45,(.int .i64 (f1.2.length:Int))),(46,(.int .i64 (w3:Int)))]) (fun j0 f0 w'=>∃ O':Lab,Bm w O0 w' O'∧Ob 2 w' O' (.pointer (some ⟨p0,0,none⟩)) x0∧Lc 7 w' O' t1 53 [(.slice f0.1.1 j0.1.length f0.1.2),(.slice f0.2.1.1 j0.2.1.length f0.2.1.2),(.slice f0.2.2.1 j0.2.2.length f0.2.2.2)]∧Vb w' (Fr 0 w' O') (.slice f0.1.1 j0.1.length f0.1.2) j0.1∧Vb w' (Fr 0 w' O') (.slice f0.2.1.1 j0.2.1.length f0.2.1.2) j0.2.1∧Vb w' (Fr 0 w' O') (.slice f0.2.2.1 j0.2.2.length f0.2.2.2) j0.2.2∧Rw 10 w' O' 3 (.slice n1.1 w1.length n1.2) w1∧Rw 3 w' O' 3 (.slice z0.1 f1.2.length z0.2) v3)) ?_ ?_
  ·
   refine Bb ?_
   replace hB:=(hB.st a2).st u1
   replace h0:=(h0.st a2).st u1
   replace e0:=(e0.st a2).st u1
   replace c1:=(c1.st a2).st u1
   replace d1:=(d1.st a2).st u1
   replace e1:=(e1.st a2).st u1
   replace z1:=(z1.st a2).st u1
   replace g2:=g2.st u1
   refine BL (σ:=(List Int)×(List (List Int))×(List Int)) (X:=(Option Addr×Nat)×(Option Addr×Nat)×(Option Addr×Nat)) (t3.used.length) r7 rfl y4 (fun (j0:(List Int)×(List (List Int))×(List Int)) (f0:(Option Addr×Nat)×(Option Addr×Nat)×(Option Addr×Nat))=>[(0,(.pointer (some ⟨p0,0,none⟩))),(7,(.pointer (some ⟨t1,0,none⟩))),(9,(.slice n1.1 w1.length n1.2)),(44,(.slice z0.1 f1.2.length z0.2)),(45,(.int .i64 (f1.2.length:Int))),(46,(.int .i64 (w3:Int))),(88,(.slice p7 t3.used.length q7))]) _ (fun j0 f0 w'=>∃ O':Lab,Bm w O0 w' O'∧Ob 2 w' O' (.pointer (some ⟨p0,0,none⟩)) x0∧Lc 7 w' O' t1 53 [(.slice f0.1.1 j0.1.length f0.1.2),(.slice f0.2.1.1 j0.2.1.length f0.2.1.2),(.slice f0.2.2.1 j0.2.2.length f0.2.2.2)]∧Vb w' (Fr 0 w' O') (.slice f0.1.1 j0.1.length f0.1.2) j0.1∧Vb w' (Fr 0 w' O') (.slice f0.2.1.1 j0.2.1.length f0.2.1.2) j0.2.1∧Vb w' (Fr 0 w' O') (.slice f0.2.2.1 j0.2.2.length f0.2.2.2) j0.2.2∧Rw 10 w' O' 3 (.slice n1.1 w1.length n1.2) w1∧Rw 3 w' O' 3 (.slice z0.1 f1.2.length z0.2) v3∧Vb w' (Fr 0 w' O') (.slice p7 t3.used.length q7) t3.used) _ ((a0.2.1.1,a0.2.1.2),(a0.2.2.1.1,a0.2.2.1.2),(a0.2.2.2.1,a0.2.2.2.2)) ⟨qB,hB,i3,e0,c1,d1,e1,z1,h0,g2⟩ ⟨rfl,rfl,rfl,rfl,rfl,rfl,rfl,rfl,rfl,trivial⟩ (fun _ _=>⟨rfl,rfl⟩) (fun _ _=>⟨rfl,rfl,rfl,rfl,rfl,rfl,trivial⟩) (fun _ _ _ ⟨O',hB,i3,e0,j3,k3,m3,z1,h0,g2⟩=>⟨O',hB,i3,e0,j3,k3,m3,z1,h0⟩) ⟨rfl,rfl,rfl⟩ ⟨rfl,rfl⟩ ?_
   rintro rB cK j0 f0 dK eE j4 ⟨eK,hB,i3,e0,j3,k3,m3,z1,h0,g2⟩ m1 f4 r8
   have rk498:inI64 (rB:Int):=rngK j4 y4
   refine Al (Aj ?_)
   obtain ⟨fK,gK,fE,s7,t7,u7,rfl,hK⟩:=g2.elem' j4
   refine BJ (hA:=s7) (hj:=rfl) (hlt:=t7) rfl rfl rfl ?_
   refine AG (hc:=cat0 u7) rfl rfl ?_
   refine Aw rfl rfl (o_z ?_)
   refine Al ?_
   obtain ⟨v7,iK,jK,kK,lK,mK,nK,oK,pK,m2,gE,s2,t2,u2,v2,w2,x2,n3,o3,p3,w7⟩:=Ors.opn i3 2 4 5 6 (by decide)
   obtain ⟨sB,tB,rfl⟩:=t2.form
   obtain ⟨uB,vB,rfl⟩:=u2.form
   obtain ⟨wB,xB,rfl⟩:=v2.form
   obtain ⟨yB,zB,rfl⟩:=w2.form
   obtain ⟨qK,rK,rfl⟩:=x2.form
   obtain ⟨sK,tK,rfl⟩:=n3.form
   obtain ⟨uK,rfl⟩:=o3.mptr
   obtain ⟨vK,wK,rfl⟩:=p3.form
   refine BA [(16,[7])] v7 ?_
   refine AR (fuel:=6) [] [(0,true),(1,true),(2,true),(3,true),(4,true),(5,true),(6,true),(7,true),(8,true),(9,true),(10,true),(11,true)] (by kernel_rfl) rfl ?_
   refine AN rfl rfl rfl (Dr rfl rfl rfl (Be rfl rfl rfl (CR (hl:=rfl) (hb:=fun w' ⟨O',hq⟩=>(Fk 0 4 ((s2.st hq (by decide)).1).cellsAt)) rfl rfl rfl ?_)))
   replace e0:=e0.st m2
   refine CR (hl:=rfl) (hb:=fun w' ⟨O',hq⟩=>((e0.st hq (by decide)).1).cellsAt) rfl rfl rfl ?_
   refine AN rfl rfl rfl (Dr rfl rfl rfl (Be rfl rfl rfl (AW (hc:=fun w' ⟨O',hq⟩=>Blk.cell (i:=4) ((s2.st hq (by decide)).1) rfl) rfl rfl rfl ?_)))
   refine AN rfl rfl rfl ?_
   obtain ⟨g4,aC,m1⟩:=bs m1
   obtain ⟨bC,cC⟩:=AZ aC
   obtain ⟨xK,yK,iE,x7,y7,z7,a8,zK,aL,bL,rfl,b8,c8,d8⟩:=x2.elem cC
   obtain ⟨dC,eC,rfl⟩:=b8.form
   obtain ⟨fC,gC,rfl⟩:=c8.form
   obtain ⟨hC,iC,rfl⟩:=d8.form
   refine BH (hA:=x7) (hj:=(Int.toNat_of_nonneg bC).symm) (hlt:=z7) rfl rfl rfl rfl ?_
   refine CR (hl:=rfl) (hb:=fun w' ⟨O',hq⟩=>(AU (hq.agree (i:=0) (by decide)) y7 a8)) rfl rfl rfl ?_
   refine AB ?_
   refine AP (i:=12) (by kernel_rfl) rfl ?_
   obtain ⟨h4,jC,m1⟩:=bs m1
   replace j3:=j3.st m2
   replace k3:=k3.st m2
   replace m3:=m3.st m2
   refine Bw (O:=v7) (R:=fun w' F v=>T2 w' F v h4) (HS Fr.lt (Vb.ofAgg (cs:=[(.slice sB x0.t.vars.length tB),(.slice uB x0.t.init.length vB),(.slice wB x0.t.goal.length xB),(.slice yB x0.t.ops.length zB)]) (x:=(⟨x0.t.vars,x0.t.init,x0.t.goal,x0.t.ops⟩:Tsk)) rfl ⟨_,_,_,_,rfl,t2,u2,v2,w2⟩) (Vb.ofAgg (cs:=[(.slice f0.1.1 j0.1.length f0.1.2),(.slice f0.2.1.1 j0.2.1.length f0.2.1.2),(.slice f0.2.2.1 j0.2.2.length f0.2.2.2)]) (x:=(⟨j0.1,j0.2.1,j0.2.2⟩:Swp)) rfl ⟨_,_,_,rfl,j3,k3,m3⟩) (Vb.ofAgg (cs:=[(.slice dC g4.vars.length eC),(.slice fC g4.vals.length gC),(.slice hC g4.ops.length iC)]) (x:=g4) rfl ⟨_,_,_,rfl,b8,c8,d8⟩) jC) rfl rfl fun cL dL kC q0 lC=>?_
   obtain ⟨eL,fL,rfl,mC,nC⟩:=lC
   obtain ⟨jE,rfl,gL,hL,iL,rfl,e8,f8,g8⟩:=mC
   obtain ⟨h8,i8,rfl⟩:=e8.form
   obtain ⟨j8,k8,rfl⟩:=f8.form
   obtain ⟨l8,m8,rfl⟩:=g8.form
   obtain ⟨rfl,oC⟩:=nC.err
   have hZ:=q0.lst [] (fun _ h=>h.elim)
   refine AV [(16,[7])] hZ (by kernel_rfl) ?_
   refine AR (fuel:=3) [] [(13,true),(14,true)] (by kernel_rfl) rfl ?_
   refine AN rfl rfl rfl (Hb rfl rfl rfl rfl (AB ?_))
   refine AR (fuel:=2) [7] [(15,true)] (by kernel_rfl) rfl ?_
   refine Hb rfl rfl rfl rfl (AB ?_)
   refine AP (i:=16) (by kernel_rfl) rfl ?_
   replace e0:=e0.st q0
   refine AT e0 rfl rfl rfl (Bg rfl) (allOne rfl) fun pC m0 e0=>?_
   replace e0:Lc 7 pC kC t1 53 [(.slice h8 h4.1.vars.length i8),(.slice j8 h4.1.vals.length k8),(.slice l8 h4.1.ops.length m8)]:=e0
   have hZ:=m0.lst [7] (fun _ h=>by cases h;decide)
   refine AV [] hZ (by kernel_rfl) ?_
   refine AR (fuel:=0) [] [(17,true)] (by kernel_rfl) rfl ?_
   refine Fa rfl rfl rfl (AB ?_)
   refine Bo (by kernel_rfl) ?_
   refine Al (Aj (Ar rfl rfl (DJ rfl rfl (fun a5=>?_) fun a5=>?_)))
   ·
    replace m1:=ip m1 a5
    refine o_z ?_
    refine Ah rfl (Al (Aj (Ar rfl rfl (Aw rfl rfl (Aw rfl rfl (o_z ?_))))))
    refine AH ?_
    replace s2:=(s2.st q0).st m0
    replace t2:=(t2.st q0).st m0
    replace u2:=(u2.st q0).st m0
    replace v2:=(v2.st q0).st m0
    replace w2:=(w2.st q0).st m0
    replace x2:=(x2.st q0).st m0
    replace n3:=(n3.st q0).st m0
    replace o3:=(o3.st q0).st m0
    replace p3:=(p3.st q0).st m0
    obtain ⟨jL,qC,kE,lE,rC⟩:=Ors.shut (x:=x0) (l0:=2) (l1:=4) (l2:=5) (l3:=6) (by decide) s2 t2 u2 v2 w2 x2 n3 o3 p3 w7
    obtain rfl:=sm m1
    obtain rfl:=f4 _ rfl
    obtain rfl:=sm (BV r0)
    obtain rfl:=q3 _ rfl
    obtain rfl:=sm (BV hm)
    replace hB:=(((hB.st m2).st q0).st m0).st qC
    obtain ⟨O',hS',hz,hl⟩:=hE.leave (fun q=>if q=2 then i0 else 0) rfl hB
    exact ret2 rfl (AE rfl) (AE rfl) ⟨O',hS',_,_,(Ob.leave rC hz (hl 2 (by decide) (by decide)) n2.2),rfl,(Vb.mono (Vb.nil _ _) hz),(vErr oC)⟩
   replace m1:=im m1 a5
   refine o_z ?_
   refine Ae rfl (AO ?_)
   replace s2:=(s2.st q0).st m0
   replace t2:=(t2.st q0).st m0
   replace u2:=(u2.st q0).st m0
   replace v2:=(v2.st q0).st m0
   replace w2:=(w2.st q0).st m0
   replace x2:=(x2.st q0).st m0
   replace n3:=(n3.st q0).st m0
   replace o3:=(o3.st q0).st m0
   replace p3:=(p3.st q0).st m0
   obtain ⟨kL,y2,mE,nE,sC⟩:=Ors.shut (x:=x0) (l0:=2) (l1:=4) (l2:=5) (l3:=6) (by decide) s2 t2 u2 v2 w2 x2 n3 o3 p3 w7
   obtain rfl:=sm m1
   exact show Exists _ from ⟨_,((h8,i8),(j8,k8),(l8,m8)),rfl,⟨rfl,rfl,rfl,rfl,rfl,rfl,rfl,rfl,rfl,trivial⟩,_,(((hB.st m2).st q0).st m0).st y2,sC,e0.st y2,(e8.st m0).st y2,(f8.st m0).st y2,(g8.st m0).st y2,(((z1.st m2).st q0).st m0).st y2,(((h0.st m2).st q0).st m0).st y2,(((g2.st m2).st q0).st m0).st y2⟩
  replace hB:=(hB.st a2).st u1
  replace h0:=(h0.st a2).st u1
  replace e0:=(e0.st a2).st u1
  replace z1:=(z1.st a2).st u1
  rintro lL mL ⟨nL,u3,rfl,h2,oL,hB,i3,e0,j3,k3,m3,z1,h0⟩
  replace r0:=Bl r0
  obtain rfl:=sm r0
  exact show Exists _ from ⟨_,((n1.1,n1.2),(u3.1.1,u3.1.2),(u3.2.1.1,u3.2.1.2),(u3.2.2.1,u3.2.2.2)),rfl,⟨(Df h2 _ _ rfl),(Df h2 _ _ rfl),(Df h2 _ _ rfl),(Df h2 _ _ rfl),(Df h2 _ _ rfl),(Df h2 _ _ rfl),trivial⟩,_,hB,i3,e0,j3,k3,m3,z1,h0⟩
 replace hB:=(((((hB.st y3).st z3).st w0).st n0).st o0).st e3
 rintro pL qL ⟨rL,sL,rfl,n8,tL,hB,r1,i2⟩
 replace hm:=Bl hm
 refine AQ _ n8 ?_
 refine Al (Aj (Ar rfl rfl (Aw rfl rfl (Aw rfl rfl (o_z ?_)))))
 refine AH ?_
 obtain ⟨uL,o8,r1⟩:=r1.freeze
 obtain rfl:=sm hm
 replace hB:=hB.st o8
 obtain ⟨O',hS',hz,hl⟩:=hE.leave (fun q=>if q=2 then i0 else 0) rfl hB
 replace i2:=i2.st o8
 exact ret2 rfl (AE rfl) (AE rfl) ⟨O',hS',_,_,(Ob.leave i2 hz (hl 2 (by decide) (by decide)) n2.2),rfl,(Vb.mono r1 hz),(vErr (show inI64 0 from by decide))⟩
noncomputable def BI (x0:Tsk) (x1:List Swp) (x2:Int):Option (Rsl×Err) :=
  bnd (Cn x0) fun q33=>if q33.n≠0 then (some ((⟨0,([]:List Int),0,0⟩:Rsl),(⟨q33.n⟩:Err))) else (bnd (rng (ρ:=Rsl×Err) (fun (k50:Nat) (a51:Swp) (s48:Unit)=>bnd (CD x0 a51) fun q87=>if q87=true then some (.next ()) else some (.ret ((⟨0,([]:List Int),0,0⟩:Rsl),(⟨2⟩:Err)))) x1 0 ()) fun res46=>fin res46 fun (s100:Unit)=>bnd (Eq x0) fun q102=>if q102.2.n≠0 then (some ((⟨0,([]:List Int),0,0⟩:Rsl),(⟨q102.2.n⟩:Err))) else (bnd (Bt (⟨(⟨x0.vars,x0.init,x0.goal,x0.ops⟩:Tsk),x1,([]:List ONd),(⟨[]⟩:MapP ByteArray Int),([]:List OEn),0⟩:Ors) x0.init 0 (-1) (-1)) fun q138=>if q138.1.n≠0 then (some ((⟨0,([]:List Int),0,0⟩:Rsl),(⟨q138.1.n⟩:Err))) else (bnd (lop (ρ:=Rsl×Err) (fun (s153:Int×Ors)=>bnd (Ca s153.2.open_) fun q208=>if q208=0 then (some (.ret ((⟨2,([]:List Int),0,s153.1⟩:Rsl),(⟨0⟩:Err)))) else (bnd (CG (⟨s153.2.open_⟩:BxR 67 73 OEn)) fun q224=>bnd (bnd (atI s153.2.nodes q224.1.x.node) fun a259=>if a259.fin=true then (some true) else (bnd (atI s153.2.nodes q224.1.x.node) fun a287=>if a287.cost < q224.1.x.cost then (some true) else (some false)):Option Bool) fun y255=>if y255=true then (some (.next (s153.1,(⟨(⟨s153.2.t.vars,s153.2.t.init,s153.2.t.goal,s153.2.t.ops⟩:Tsk),s153.2.gens,s153.2.nodes,s153.2.tab,q224.2.l,s153.2.number⟩:Ors)))) else (bnd (atI ((⟨(⟨s153.2.t.vars,s153.2.t.init,s153.2.t.goal,s153.2.t.ops⟩:Tsk),s153.2.gens,s153.2.nodes,s153.2.tab,q224.2.l,s153.2.number⟩:Ors).nodes) q224.1.x.node) fun a363=>bnd (DX x0.goal a363.state) fun q392=>if q392=true then bnd (BS (⟨(⟨s153.2.t.vars,s153.2.t.init,s153.2.t.goal,s153.2.t.ops⟩:Tsk),s153.2.gens,s153.2.nodes,s153.2.tab,q224.2.l,s153.2.number⟩:Ors) q224.1.x.node) fun q540=>if q540.2.n≠0 then (some (.ret ((⟨0,([]:List Int),0,0⟩:Rsl),(⟨q540.2.n⟩:Err)))) else (some (.ret ((⟨1,q540.1,a363.cost,s153.1⟩:Rsl),(⟨0⟩:Err)))) else if x2≤s153.1 then (some (.ret ((⟨3,([]:List Int),0,s153.1⟩:Rsl),(⟨0⟩:Err)))) else (bnd (chkI (s153.1 + 1)) fun n402=>bnd (atI ((⟨(⟨s153.2.t.vars,s153.2.t.init,s153.2.t.goal,s153.2.t.ops⟩:Tsk),s153.2.gens,s153.2.nodes,s153.2.tab,q224.2.l,s153.2.number⟩:Ors).nodes) q224.1.x.node) fun a405=>bnd (Bp q102.1 a363.state) fun q440=>bnd (rng (ρ:=Ctl (Int×Ors) (Rsl×Err)) (fun (k460:Nat) (a461:Suc) (s458:Ors)=>bnd (atI x0.ops a461.op) fun a492=>bnd (chkI (a363.cost + a492.cost)) fun n513=>bnd (Bt s458 a461.state n513 q224.1.x.node a461.op) fun q516=>if q516.1.n≠0 then (some (.ret (.ret ((⟨0,([]:List Int),0,0⟩:Rsl),(⟨q516.1.n⟩:Err))))) else (some (.next q516.2))) q440 0 (⟨(⟨(⟨(⟨s153.2.t.vars,s153.2.t.init,s153.2.t.goal,s153.2.t.ops⟩:Tsk),s153.2.gens,s153.2.nodes,s153.2.tab,q224.2.l,s153.2.number⟩:Ors).t.vars,(⟨(⟨s153.2.t.vars,s153.2.t.init,s153.2.t.goal,s153.2.t.ops⟩:Tsk),s153.2.gens,s153.2.nodes,s153.2.tab,q224.2.l,s153.2.number⟩:Ors).t.init,(⟨(⟨s153.2.t.vars,s153.2.t.init,s153.2.t.goal,s153.2.t.ops⟩:Tsk),s153.2.gens,s153.2.nodes,s153.2.tab,q224.2.l,s153.2.number⟩:Ors).t.goal,(⟨(⟨s153.2.t.vars,s153.2.t.init,s153.2.t.goal,s153.2.t.ops⟩:Tsk),s153.2.gens,s153.2.nodes,s153.2.tab,q224.2.l,s153.2.number⟩:Ors).t.ops⟩:Tsk),(⟨(⟨s153.2.t.vars,s153.2.t.init,s153.2.t.goal,s153.2.t.ops⟩:Tsk),s153.2.gens,s153.2.nodes,s153.2.tab,q224.2.l,s153.2.number⟩:Ors).gens,(((⟨(⟨s153.2.t.vars,s153.2.t.init,s153.2.t.goal,s153.2.t.ops⟩:Tsk),s153.2.gens,s153.2.nodes,s153.2.tab,q224.2.l,s153.2.number⟩:Ors).nodes).set (q224.1.x.node:Int).toNat ({ a405 with fin:=true }:ONd)),(⟨(⟨s153.2.t.vars,s153.2.t.init,s153.2.t.goal,s153.2.t.ops⟩:Tsk),s153.2.gens,s153.2.nodes,s153.2.tab,q224.2.l,s153.2.number⟩:Ors).tab,(⟨(⟨s153.2.t.vars,s153.2.t.init,s153.2.t.goal,s153.2.t.ops⟩:Tsk),s153.2.gens,s153.2.nodes,s153.2.tab,q224.2.l,s153.2.number⟩:Ors).open_,(⟨(⟨s153.2.t.vars,s153.2.t.init,s153.2.t.goal,s153.2.t.ops⟩:Tsk),s153.2.gens,s153.2.nodes,s153.2.tab,q224.2.l,s153.2.number⟩:Ors).number⟩:Ors)) fun res456=>fin res456 fun (s533:Ors)=>some (.next (n402,s533)))))) (0,q138.2)) fun res151=>fin res151 fun (_:Int×Ors)=>none)))
theorem EN {w:World} {A:Nat→Prop} (hA:∀ k,A k→k < w.heap.size) {vx0:Value} {x0:Tsk} (k8:Vb w A vx0 x0) {vx1:Value} {x1:List Swp} (i2:Vb w A vx1 x1) {x2:Int} (rx2:inI64 x2) {r:Rsl×Err} (hm:BI x0 x1 x2=some r) :
    Fn Tryz.prog 12 [vx0,vx1,(.int .i64 x2)] w fun v w'=>Ext w w'∧T2 w' (upA A w w') v r:=by
 obtain ⟨O,hB,tC⟩:=enter hA
 replace k8:=k8.mono tC
 obtain ⟨nK,rfl,v5,v6,v7,v8,rfl,h9,w0,y0,z0⟩:=k8
 obtain ⟨j2,k2,rfl⟩:=h9.form
 obtain ⟨m2,n2,rfl⟩:=w0.form
 obtain ⟨o2,p2,rfl⟩:=y0.form
 obtain ⟨q2,r2,rfl⟩:=z0.form
 replace i2:=i2.mono tC
 obtain ⟨n5,o5,rfl⟩:=i2.form
 refine AK Tryz.func12 rfl Tryz.ntmps12 rfl ?_
 unfold BI at hm
 refine Al (Aj (Cb 2 O rfl rfl fun i3 lE uC i4 t0=>?_))
 replace t0:Lc 2 lE uC i3 26 [(.slice j2 x0.vars.length k2),(.slice m2 x0.init.length n2),(.slice o2 x0.goal.length p2),(.slice q2 x0.ops.length r2)]:=t0
 refine Bf 3 uC rfl fun q1 vC wC u3 j0=>?_
 refine Aw rfl rfl (o_z ?_)
 refine Al (Al (Aj ?_))
 replace t0:=t0.st u3
 refine Bi (hl:=rfl) (hc:=(t0.1).cellsAt) rfl rfl ?_
 obtain ⟨mE,nE,hm⟩:=bs hm
 replace h9:=(h9.st i4).st u3
 replace w0:=(w0.st i4).st u3
 replace y0:=(y0.st i4).st u3
 replace z0:=(z0.st i4).st u3
 refine Bn (O:=wC) (A:=All vC) (R:=fun w' F v=>Vb w' F v mE) (Gq (fun _ h=>h) (Vb.mono (F:=Fr 0 vC wC) (Vb.ofAgg (cs:=[(.slice j2 x0.vars.length k2),(.slice m2 x0.init.length n2),(.slice o2 x0.goal.length p2),(.slice q2 x0.ops.length r2)]) (x:=x0) rfl ⟨_,_,_,_,rfl,h9,w0,y0,z0⟩) Fr.lt) nE) rfl rfl fun oK pK l8 s2 oE=>?_
 obtain ⟨rfl,pE⟩:=oE.err
 refine Aw rfl rfl (o_z ?_)
 refine Al (Aj (Ar rfl rfl (DJ rfl rfl (fun m8=>?_) fun m8=>?_)))
 ·
  replace hm:=ip hm m8
  refine o_z ?_
  refine Ah rfl (Al (Aj (Dd rfl rfl rfl ?_)))
  refine Ar rfl rfl ?_
  replace j0:=j0.st s2
  refine AT j0 rfl rfl rfl (Bg rfl) (allOne rfl) fun xC qE j0=>?_
  replace j0:Lc 3 xC l8 q1 32 [(.int .i64 0),(.slice none 0 0),(.int .i64 0),(.int .i64 0)]:=j0
  refine Aw rfl rfl (o_z ?_)
  refine AH ?_
  obtain rfl:=sm hm
  replace hB:=(((hB.st i4).st u3).st s2).st qE
  exact ret2 rfl (Ck (cs:=[(.int .i64 0),(.slice none 0 0),(.int .i64 0),(.int .i64 0)]) rfl rfl j0.1.cellsAt) (AE rfl) ⟨hB.ext,_,_,rfl,(Vb.mono (F:=Fr 0 xC l8) (Vb.ofAgg (cs:=[(.int .i64 0),(.slice none 0 0),(.int .i64 0),(.int .i64 0)]) (x:=(⟨0,([]:List Int),0,0⟩:Rsl)) rfl ⟨_,rfl,(Vb.nil _ _),(show inI64 0 from by decide),(show inI64 0 from by decide),(show inI64 0 from by decide)⟩) hB.out),(vErr pE)⟩
 replace hm:=im hm m8
 refine o_z ?_
 refine Ae rfl (AO (Al (Al (Aj (Ar rfl rfl (AY rfl rfl ?_))))))
 replace i2:=((i2.st i4).st u3).st s2
 have n8:x1.length≤9223372036854775807:=Nat.le_trans i2.len.2.1 i2.len.2.2
 have qK:inI64 (x1.length:Int):=rngNat n8
 refine Ar rfl rfl (o_z ?_)
 obtain ⟨p5,o8,hm⟩:=bs hm
 refine AL (aft p5 (fun (b8:Unit) (c8:Unit)=>[(1,(.slice n5 x1.length o5)),(2,(.int .i64 x2)),(3,(.pointer (some ⟨i3,0,none⟩))),(6,(.pointer (some ⟨q1,0,none⟩)))]) (fun b8 c8 w'=>∃ O':Lab,Bs w A w' O'∧Vb w' (Fr 0 w' O') (.slice n5 x1.length o5) x1∧Lc 2 w' O' i3 26 [(.slice j2 x0.vars.length k2),(.slice m2 x0.init.length n2),(.slice o2 x0.goal.length p2),(.slice q2 x0.ops.length r2)]∧Vb w' (Fr 0 w' O') (.slice j2 x0.vars.length k2) x0.vars∧Vb w' (Fr 0 w' O') (.slice m2 x0.init.length n2) x0.init∧Vb w' (Fr 0 w' O') (.slice o2 x0.goal.length p2) x0.goal∧Vb w' (Fr 0 w' O') (.slice q2 x0.ops.length r2) x0.ops∧Lc 3 w' O' q1 32 [(.int .i64 0),(.slice none 0 0),(.int .i64 0),(.int .i64 0)])) ?_ ?_
 ·
  refine Bb ?_
  replace hB:=((hB.st i4).st u3).st s2
  replace h9:=h9.st s2
  replace w0:=w0.st s2
  replace y0:=y0.st s2
  replace z0:=z0.st s2
  replace t0:=t0.st s2
  replace j0:=j0.st s2
  refine BL (σ:=Unit) (X:=Unit) (x1.length) o8 rfl n8 (fun (b8:Unit) (c8:Unit)=>[(1,(.slice n5 x1.length o5)),(2,(.int .i64 x2)),(3,(.pointer (some ⟨i3,0,none⟩))),(6,(.pointer (some ⟨q1,0,none⟩))),(30,(.slice n5 x1.length o5))]) _ (fun b8 c8 w'=>∃ O':Lab,Bs w A w' O'∧Vb w' (Fr 0 w' O') (.slice n5 x1.length o5) x1∧Lc 2 w' O' i3 26 [(.slice j2 x0.vars.length k2),(.slice m2 x0.init.length n2),(.slice o2 x0.goal.length p2),(.slice q2 x0.ops.length r2)]∧Vb w' (Fr 0 w' O') (.slice j2 x0.vars.length k2) x0.vars∧Vb w' (Fr 0 w' O') (.slice m2 x0.init.length n2) x0.init∧Vb w' (Fr 0 w' O') (.slice o2 x0.goal.length p2) x0.goal∧Vb w' (Fr 0 w' O') (.slice q2 x0.ops.length r2) x0.ops∧Lc 3 w' O' q1 32 [(.int .i64 0),(.slice none 0 0),(.int .i64 0),(.int .i64 0)]) _ () ⟨l8,hB,i2,t0,h9,w0,y0,z0,j0⟩ ⟨rfl,rfl,rfl,rfl,rfl,rfl,rfl,trivial⟩ (fun _ _=>⟨rfl,rfl⟩) (fun _ _=>⟨rfl,rfl,rfl,rfl,trivial⟩) (fun _ _ _ ⟨O',hB,i2,t0,h9,w0,y0,z0,j0⟩=>⟨O',hB,i2,t0,h9,w0,y0,z0,j0⟩) ⟨rfl,rfl,rfl⟩ ⟨rfl,rfl⟩ ?_
  rintro rE l4 b8 c8 rK sE q5 ⟨tE,hB,i2,t0,h9,w0,y0,z0,j0⟩ t2 m4 p8
  have rk50:inI64 (rE:Int):=rngK q5 n8
  refine Al (Aj ?_)
  obtain ⟨sK,tK,uE,q8,r8,s8,uK,vK,wK,rfl,d8,e8,f8⟩:=i2.elem' q5
  obtain ⟨yC,zC,rfl⟩:=d8.form
  obtain ⟨aD,bD,rfl⟩:=e8.form
  obtain ⟨cD,dD,rfl⟩:=f8.form
  refine BJ (hA:=q8) (hj:=rfl) (hlt:=r8) rfl rfl rfl ?_
  refine Bi (hl:=rfl) (hc:=s8) rfl rfl ?_
  refine Bf 4 tE rfl fun vE xK g8 j3 r5=>?_
  refine AT r5 rfl rfl rfl (Bg rfl) (allOne rfl) fun h8 k3 r5=>?_
  replace r5:Lc 4 h8 g8 vE 53 [(.slice yC l4.vars.length zC),(.slice aD l4.vals.length bD),(.slice cD l4.ops.length dD)]:=r5
  refine o_z ?_
  refine Al (Aj ?_)
  replace t0:=(t0.st j3).st k3
  refine Bi (hl:=rfl) (hc:=(t0.1).cellsAt) rfl rfl ?_
  refine Bi (hl:=rfl) (hc:=(r5.1).cellsAt) rfl rfl ?_
  obtain ⟨eD,wE,t2⟩:=bs t2
  replace h9:=(h9.st j3).st k3
  replace w0:=(w0.st j3).st k3
  replace y0:=(y0.st j3).st k3
  replace z0:=(z0.st j3).st k3
  replace d8:=(d8.st j3).st k3
  replace e8:=(e8.st j3).st k3
  replace f8:=(f8.st j3).st k3
  refine Bn (O:=g8) (A:=All h8) (R:=fun w' F v=>Vb w' F v eD) (IW (fun _ h=>h) (Vb.mono (F:=Fr 0 h8 g8) (Vb.ofAgg (cs:=[(.slice j2 x0.vars.length k2),(.slice m2 x0.init.length n2),(.slice o2 x0.goal.length p2),(.slice q2 x0.ops.length r2)]) (x:=x0) rfl ⟨_,_,_,_,rfl,h9,w0,y0,z0⟩) Fr.lt) (Vb.mono (F:=Fr 0 h8 g8) (Vb.ofAgg (cs:=[(.slice yC l4.vars.length zC),(.slice aD l4.vals.length bD),(.slice cD l4.ops.length dD)]) (x:=l4) rfl ⟨_,_,_,rfl,d8,e8,f8⟩) Fr.lt) wE) rfl rfl fun yK zK fD t3 xE=>?_
  obtain rfl:=xE.bool
  cases eD
  case false =>
   replace t2:=iF t2
   refine Cr rfl rfl (o_z ?_)
   refine Ah rfl (Al (Aj (Dd rfl rfl rfl ?_)))
   refine MH rfl rfl ?_
   replace j0:=((j0.st j3).st k3).st t3
   refine AT j0 rfl rfl rfl (Bg rfl) (allOne rfl) fun gD yE j0=>?_
   replace j0:Lc 3 gD fD q1 32 [(.int .i64 0),(.slice none 0 0),(.int .i64 0),(.int .i64 0)]:=j0
   refine Aw rfl rfl (o_z ?_)
   refine AH ?_
   obtain rfl:=sm t2
   obtain rfl:=m4 _ rfl
   obtain rfl:=sm (BV hm)
   replace hB:=(((hB.st j3).st k3).st t3).st yE
   exact ret2 rfl (Ck (cs:=[(.int .i64 0),(.slice none 0 0),(.int .i64 0),(.int .i64 0)]) rfl rfl j0.1.cellsAt) (AE rfl) ⟨hB.ext,_,_,rfl,(Vb.mono (F:=Fr 0 gD fD) (Vb.ofAgg (cs:=[(.int .i64 0),(.slice none 0 0),(.int .i64 0),(.int .i64 0)]) (x:=(⟨0,([]:List Int),0,0⟩:Rsl)) rfl ⟨_,rfl,(Vb.nil _ _),(show inI64 0 from by decide),(show inI64 0 from by decide),(show inI64 0 from by decide)⟩) hB.out),(vErr (by decide))⟩
  replace t2:=iT t2
  refine Cq rfl rfl (o_z ?_)
  refine Ae rfl (AO ?_)
  obtain rfl:=sm t2
  exact show Exists _ from ⟨_,(),rfl,⟨rfl,rfl,rfl,rfl,rfl,rfl,rfl,trivial⟩,_,((hB.st j3).st k3).st t3,((i2.st j3).st k3).st t3,t0.st t3,h9.st t3,w0.st t3,y0.st t3,z0.st t3,((j0.st j3).st k3).st t3⟩
 replace hB:=((hB.st i4).st u3).st s2
 replace h9:=h9.st s2
 replace w0:=w0.st s2
 replace y0:=y0.st s2
 replace z0:=z0.st s2
 replace t0:=t0.st s2
 replace j0:=j0.st s2
 rintro aL bL ⟨zE,aF,rfl,t8,bF,hB,i2,t0,h9,w0,y0,z0,j0⟩
 replace hm:=Bl hm
 refine AQ _ t8 ?_
 refine Al (Aj (Bi (hl:=rfl) (hc:=(t0.1).cellsAt) rfl rfl ?_))
 obtain ⟨n3,u8,hm⟩:=bs hm
 refine Bw (O:=bF) (R:=fun w' F v=>T2 w' F v n3) (KF Fr.lt (Vb.ofAgg (cs:=[(.slice j2 x0.vars.length k2),(.slice m2 x0.init.length n2),(.slice o2 x0.goal.length p2),(.slice q2 x0.ops.length r2)]) (x:=x0) rfl ⟨_,_,_,_,rfl,h9,w0,y0,z0⟩) u8) rfl rfl fun cF dF n4 m1 w8=>?_
 obtain ⟨eF,fF,rfl,u0,x8⟩:=w8
 obtain ⟨u2,rfl,hD⟩:=u0.ptr
 obtain ⟨rfl,y8⟩:=x8.err
 refine Ar rfl rfl (CE rfl rfl rfl (CE rfl rfl rfl (Aw rfl rfl (Aw rfl rfl (o_z ?_)))))
 refine Al (Al (Aj (Ar rfl rfl (DJ rfl rfl (fun o4=>?_) fun o4=>?_))))
 ·
  replace hm:=ip hm o4
  refine o_z ?_
  refine Ah rfl (Al (Aj (Dd rfl rfl rfl ?_)))
  refine Ar rfl rfl ?_
  replace j0:=j0.st m1
  refine AT j0 rfl rfl rfl (Bg rfl) (allOne rfl) fun s5 z8 j0=>?_
  replace j0:Lc 3 s5 n4 q1 32 [(.int .i64 0),(.slice none 0 0),(.int .i64 0),(.int .i64 0)]:=j0
  refine Aw rfl rfl (o_z ?_)
  refine AH ?_
  obtain rfl:=sm hm
  replace hB:=(hB.st m1).st z8
  exact ret2 rfl (Ck (cs:=[(.int .i64 0),(.slice none 0 0),(.int .i64 0),(.int .i64 0)]) rfl rfl j0.1.cellsAt) (AE rfl) ⟨hB.ext,_,_,rfl,(Vb.mono (F:=Fr 0 s5 n4) (Vb.ofAgg (cs:=[(.int .i64 0),(.slice none 0 0),(.int .i64 0),(.int .i64 0)]) (x:=(⟨0,([]:List Int),0,0⟩:Rsl)) rfl ⟨_,rfl,(Vb.nil _ _),(show inI64 0 from by decide),(show inI64 0 from by decide),(show inI64 0 from by decide)⟩) hB.out),(vErr y8)⟩
 replace hm:=im hm o4
 refine o_z ?_
 refine Ae rfl (AO (Al (Aj ?_)))
 replace t0:=t0.st m1
 refine Bi (hl:=rfl) (hc:=(t0.1).cellsAt) rfl rfl ?_
 refine Ar rfl rfl (Pp (K:=ByteArray) (V:=Int) 5 (by decide) n4 rfl fun a9 gF b9 o1 p4=>?_)
 refine Dd rfl rfl rfl ?_
 refine Cb 6 b9 rfl rfl fun p1 q4 r4 n1 s4=>?_
 replace s4:Lc 6 q4 r4 p1 69 [(.slice j2 x0.vars.length k2),(.slice m2 x0.init.length n2),(.slice o2 x0.goal.length p2),(.slice q2 x0.ops.length r2),(.slice n5 x1.length o5),(.slice none 0 0),(.map (some a9)),(.slice none 0 0),(.int .i64 0)]:=s4
 refine Aw rfl rfl (o_z ?_)
 refine Al (Al (Aj (Ar rfl rfl (AJ rfl rfl ?_))))
 replace t0:=(t0.st o1).st n1
 refine AG (hc:=Blk.cell (i:=1) (t0.1) rfl) rfl rfl ?_
 have c9:Rw 7 q4 r4 78 (.slice none 0 0) ([]:List ONd):=Rw.nil 7 (by decide)
 have d9:Rw 8 q4 r4 73 (.slice none 0 0) ([]:List OEn):=Rw.nil 8 (by decide)
 replace i2:=((i2.st m1).st o1).st n1
 replace h9:=((h9.st m1).st o1).st n1
 replace w0:=((w0.st m1).st o1).st n1
 replace y0:=((y0.st m1).st o1).st n1
 replace z0:=((z0.st m1).st o1).st n1
 replace p4:=p4.st n1
 obtain ⟨e9,r1,iD,jD,f9⟩:=Ors.shut (x:=(⟨(⟨x0.vars,x0.init,x0.goal,x0.ops⟩:Tsk),x1,([]:List ONd),(⟨[]⟩:MapP ByteArray Int),([]:List OEn),0⟩:Ors)) (l0:=6) (l1:=7) (l2:=5) (l3:=8) (by decide) s4 h9 w0 y0 z0 i2 c9 p4 d9 (show inI64 0 from by decide)
 obtain ⟨hF,g9,hm⟩:=bs hm
 replace w0:=w0.st r1
 refine Fe (O:=e9) (FH f9 w0 (show inI64 (0) from by decide) (show inI64 (-1) from by decide) (show inI64 (-1) from by decide) g9) rfl rfl fun jF kF t4 s1 i9=>?_
 obtain ⟨j9,k9⟩:=i9
 obtain ⟨rfl,l9⟩:=k9.err
 refine Aw rfl rfl (o_z ?_)
 refine Al (Aj (Ar rfl rfl (DJ rfl rfl (fun u4=>?_) fun u4=>?_)))
 ·
  replace hm:=ip hm u4
  refine o_z ?_
  refine Ah rfl (Al (Aj (Dd rfl rfl rfl ?_)))
  refine Ar rfl rfl ?_
  replace j0:=((((j0.st m1).st o1).st n1).st r1).st s1
  refine AT j0 rfl rfl rfl (Bg rfl) (allOne rfl) fun t5 m9 j0=>?_
  replace j0:Lc 3 t5 t4 q1 32 [(.int .i64 0),(.slice none 0 0),(.int .i64 0),(.int .i64 0)]:=j0
  refine Aw rfl rfl (o_z ?_)
  refine AH ?_
  obtain rfl:=sm hm
  replace hB:=(((((hB.st m1).st o1).st n1).st r1).st s1).st m9
  exact ret2 rfl (Ck (cs:=[(.int .i64 0),(.slice none 0 0),(.int .i64 0),(.int .i64 0)]) rfl rfl j0.1.cellsAt) (AE rfl) ⟨hB.ext,_,_,rfl,(Vb.mono (F:=Fr 0 t5 t4) (Vb.ofAgg (cs:=[(.int .i64 0),(.slice none 0 0),(.int .i64 0),(.int .i64 0)]) (x:=(⟨0,([]:List Int),0,0⟩:Rsl)) rfl ⟨_,rfl,(Vb.nil _ _),(show inI64 0 from by decide),(show inI64 0 from by decide),(show inI64 0 from by decide)⟩) hB.out),(vErr l9)⟩
 replace hm:=im hm u4
 refine o_z ?_
 refine Ae rfl (AO (Al (Aj (Aw rfl rfl (o_z ?_)))))
 obtain ⟨v4,u5,hm⟩:=bs hm
 refine AL (aft v4 (fun (a0:Int×Ors) (v3:Unit)=>[]) (fun a0 v3 w'=>False)) ?_ ?_
 ·
  refine Bb ?_
  replace hB:=((((hB.st m1).st o1).st n1).st r1).st s1
  replace h9:=(h9.st r1).st s1
  replace w0:=w0.st s1
  replace y0:=(y0.st r1).st s1
  replace z0:=(z0.st r1).st s1
  replace t0:=(t0.st r1).st s1
  replace j0:=((((j0.st m1).st o1).st n1).st r1).st s1
  replace u0:=(((u0.st o1).st n1).st r1).st s1
  refine Gb (σ:=Int×Ors) (X:=Unit) u5 (fun (a0:Int×Ors) (v3:Unit)=>[(2,(.int .i64 x2)),(3,(.pointer (some ⟨i3,0,none⟩))),(6,(.pointer (some ⟨q1,0,none⟩))),(11,(.pointer u2)),(13,(.pointer (some ⟨p1,0,none⟩))),(15,(.int .i64 a0.1))]) _ (fun a0 v3 w'=>∃ O':Lab,Bs w A w' O'∧Lc 2 w' O' i3 26 [(.slice j2 x0.vars.length k2),(.slice m2 x0.init.length n2),(.slice o2 x0.goal.length p2),(.slice q2 x0.ops.length r2)]∧Vb w' (Fr 0 w' O') (.slice j2 x0.vars.length k2) x0.vars∧Vb w' (Fr 0 w' O') (.slice m2 x0.init.length n2) x0.init∧Vb w' (Fr 0 w' O') (.slice o2 x0.goal.length p2) x0.goal∧Vb w' (Fr 0 w' O') (.slice q2 x0.ops.length r2) x0.ops∧Lc 3 w' O' q1 32 [(.int .i64 0),(.slice none 0 0),(.int .i64 0),(.int .i64 0)]∧Vb w' (Fr 0 w' O') (.pointer u2) n3.1∧Ob 6 w' O' (.pointer (some ⟨p1,0,none⟩)) a0.2∧inI64 a0.1) _ () ⟨t4,hB,t0,h9,w0,y0,z0,j0,u0,j9,(show inI64 (0) from by decide)⟩ ⟨rfl,rfl,rfl,rfl,rfl,rfl,trivial⟩ ?_
  rintro a0 v3 n9 kD ⟨lF,hB,t0,h9,w0,y0,z0,j0,u0,o9,w3⟩ b0 i1 i8
  refine Bb (Al (Al (Aj (Ar rfl rfl (Do rfl rfl ?_)))))
  obtain ⟨p9,mF,nF,oF,pF,qF,rF,sF,tF,o0,lD,x3,t1,u1,v1,w1,y1,v2,z1,o3,w4⟩:=Ors.opn o9 6 9 10 11 (by decide)
  obtain ⟨w5,x5,rfl⟩:=t1.form
  obtain ⟨y5,z5,rfl⟩:=u1.form
  obtain ⟨a6,b6,rfl⟩:=v1.form
  obtain ⟨c6,d6,rfl⟩:=w1.form
  obtain ⟨e6,f6,rfl⟩:=y1.form
  obtain ⟨g6,h6,rfl⟩:=v2.form
  obtain ⟨i6,rfl⟩:=z1.mptr
  obtain ⟨q9,r9,rfl⟩:=o3.form
  refine AJ rfl rfl (AG (hc:=Blk.cell (i:=7) (x3.1) rfl) rfl rfl ?_)
  obtain ⟨s9,t9,b0⟩:=bs b0
  refine Bn (O:=p9) (A:=All n9) (R:=fun w' F v=>Vb w' F v s9) (Fb (fun _ h=>h) (o3).all t9) rfl rfl fun uF vF j6 d0 u9=>?_
  obtain ⟨rfl,wF⟩:=u9.int
  refine EJ rfl rfl rfl (fun x4=>?_) fun x4=>?_
  ·
   replace b0:=ip b0 x4
   refine o_z ?_
   refine Ah rfl (Al (Aj (Ar rfl rfl (Dd rfl rfl rfl ?_))))
   replace j0:=(j0.st o0).st d0
   refine AT j0 rfl rfl rfl (Bg rfl) (allOne rfl) fun k6 v9 j0=>?_
   replace j0:Lc 3 k6 j6 q1 32 [(.int .i64 2),(.slice none 0 0),(.int .i64 0),(.int .i64 a0.1)]:=j0
   refine Aw rfl rfl (o_z ?_)
   refine AH ?_
   obtain rfl:=sm b0
   obtain rfl:=i1 _ rfl
   obtain rfl:=sm (BV hm)
   replace hB:=((hB.st o0).st d0).st v9
   exact ret2 rfl (Ck (cs:=[(.int .i64 2),(.slice none 0 0),(.int .i64 0),(.int .i64 a0.1)]) rfl rfl j0.1.cellsAt) (AE rfl) ⟨hB.ext,_,_,rfl,(Vb.mono (F:=Fr 0 k6 j6) (Vb.ofAgg (cs:=[(.int .i64 2),(.slice none 0 0),(.int .i64 0),(.int .i64 a0.1)]) (x:=(⟨2,([]:List Int),0,a0.1⟩:Rsl)) rfl ⟨_,rfl,(Vb.nil _ _),(show inI64 (2) from by decide),(show inI64 0 from by decide),w3⟩) hB.out),(vErr (show inI64 0 from by decide))⟩
  replace b0:=im b0 x4
  refine o_z ?_
  refine Ae rfl (AO (Al (Aj (Ar rfl rfl (Do rfl rfl (AJ rfl rfl (OZ rfl rfl ?_)))))))
  replace x3:=x3.st d0
  replace o3:=o3.st d0
  obtain ⟨w9,g0,mD,nD,x9⟩:=BxC.shut (cx:=(⟨69,[(.slice w5 a0.2.t.vars.length x5),(.slice y5 a0.2.t.init.length z5),(.slice a6 a0.2.t.goal.length b6),(.slice c6 a0.2.t.ops.length d6),(.slice e6 a0.2.gens.length f6),(.slice g6 a0.2.nodes.length h6),(.map (some i6))],[(.int .i64 a0.2.number)]⟩:Cx)) (p:=p1) (c0:=.slice q9 a0.2.open_.length r9) (x:=(⟨a0.2.open_⟩:BxR 67 73 OEn)) (l0:=6) (l1:=11) (by decide) x3 o3
  obtain ⟨r0,y9,b0⟩:=bs b0
  refine Fe (O:=w9) (Hf x9 y9) rfl rfl fun xF z9 yF h0 aA=>?_
  obtain ⟨bA,cA⟩:=aA
  obtain ⟨zF,rfl,dA⟩:=cA.any
  obtain ⟨oD,rfl,rfl,aG,bG,l6⟩:=dA
  obtain ⟨m6,cG,i0,pD,e2,a2⟩:=BxC.opn bA 6 11 (by decide)
  obtain ⟨eA,fA,rfl⟩:=a2.form
  replace e2:Lc 6 z9 m6 p1 69 [(.slice w5 a0.2.t.vars.length x5),(.slice y5 a0.2.t.init.length z5),(.slice a6 a0.2.t.goal.length b6),(.slice c6 a0.2.t.ops.length d6),(.slice e6 a0.2.gens.length f6),(.slice g6 a0.2.nodes.length h6),(.map (some i6)),(.slice eA r0.2.l.length fA),(.int .i64 a0.2.number)]:=e2
  refine Pb rfl rfl ?_
  refine Ar rfl rfl (CE rfl rfl rfl (CE rfl rfl rfl (Bf 12 m6 rfl fun p3 dG gA e0 p0=>?_)))
  refine AT p0 rfl rfl rfl (Bg rfl) (allOne rfl) fun n6 f0 p0=>?_
  replace p0:Lc 12 n6 gA p3 73 [(.int .i64 r0.1.x.cost),(.int .i64 r0.1.x.number),(.int .i64 r0.1.x.node)]:=p0
  refine Aw rfl rfl (o_z ?_)
  refine Al (Al ?_)
  obtain ⟨iA,v0,b0⟩:=bs b0
  refine AL (fun l' w'=>∃ (jA:Unit) (O':Lab),subs l' [(2,(.int .i64 x2)),(3,(.pointer (some ⟨i3,0,none⟩))),(6,(.pointer (some ⟨q1,0,none⟩))),(11,(.pointer u2)),(13,(.pointer (some ⟨p1,0,none⟩))),(15,(.int .i64 a0.1)),(16,(.pointer (some ⟨p3,0,none⟩))),(108,(.bool iA))]∧Bs w A w' O'∧Lc 2 w' O' i3 26 [(.slice j2 x0.vars.length k2),(.slice m2 x0.init.length n2),(.slice o2 x0.goal.length p2),(.slice q2 x0.ops.length r2)]∧Vb w' (Fr 0 w' O') (.slice j2 x0.vars.length k2) x0.vars∧Vb w' (Fr 0 w' O') (.slice m2 x0.init.length n2) x0.init∧Vb w' (Fr 0 w' O') (.slice o2 x0.goal.length p2) x0.goal∧Vb w' (Fr 0 w' O') (.slice q2 x0.ops.length r2) x0.ops∧Lc 3 w' O' q1 32 [(.int .i64 0),(.slice none 0 0),(.int .i64 0),(.int .i64 0)]∧Vb w' (Fr 0 w' O') (.pointer u2) n3.1∧Ob 6 w' O' (.pointer (some ⟨p1,0,none⟩)) (⟨(⟨a0.2.t.vars,a0.2.t.init,a0.2.t.goal,a0.2.t.ops⟩:Tsk),a0.2.gens,a0.2.nodes,a0.2.tab,r0.2.l,a0.2.number⟩:Ors)∧Lc 12 w' O' p3 73 [(.int .i64 r0.1.x.cost),(.int .i64 r0.1.x.number),(.int .i64 r0.1.x.node)]) ?_ ?_
  ·
   refine Cw (·=n6) [(0,true),(1,true),(2,true),(3,true),(4,true),(5,true),(6,true),(7,true),(8,true),(9,true),(10,true),(11,true),(12,true),(13,true),(14,true),(15,true),(16,true),(17,true),(18,true),(19,true),(20,true),(21,true),(22,true),(23,true),(24,true),(25,true),(26,true)] (by kernel_rfl) rfl (by kernel_rfl) rfl ?_
   refine AN rfl rfl rfl (KW rfl rfl rfl (AN rfl rfl rfl (AA rfl (Ay rfl rfl (Cs rfl rfl (AA rfl (Ay rfl rfl (Qi rfl rfl (AA rfl (Ay rfl rfl (BO rfl rfl (AA rfl (Ay rfl rfl ?_)))))))))))))
   replace e2:=(e2.st e0).st f0
   refine BK (hc:=Blk.cell (i:=5) (e2.1) rfl) rfl rfl ?_
   refine AA rfl (Ay rfl rfl (BO rfl rfl (AA rfl (Ay rfl rfl (BK (hc:=Blk.cell (i:=2) (p0.1) rfl) rfl rfl ?_)))))
   refine AA rfl (Ay rfl rfl ?_)
   obtain ⟨kA,lA,v0⟩:=bs v0
   obtain ⟨mA,nA⟩:=AZ lA
   replace v2:=(((((v2.st d0).st g0).st h0).st i0).st e0).st f0
   obtain ⟨eG,fG,qD,o6,p6,q6,gG,hG,rfl,oA,pA,iG,jG,kG⟩:=v2.elem nA
   obtain ⟨lG,mG,rfl⟩:=oA.form
   obtain ⟨nG,oG,rfl⟩:=pA.form
   refine Ip (hA:=o6) (hj:=(Int.toNat_of_nonneg mA).symm) (hlt:=p6) rfl rfl rfl ?_
   refine AA rfl (Ay rfl rfl (BO rfl rfl (AA rfl (Ay rfl rfl (BK (hc:=cat5 q6) rfl rfl ?_)))))
   refine BX rfl rfl rfl rfl (AN rfl rfl rfl ?_)
   rcases Bool.eq_false_or_eq_true kA.fin with q3|q3
   ·
    try rw [q3]
    replace v0:=ip v0 q3
    refine Bc rfl rfl rfl rfl rfl (Bc rfl rfl rfl rfl rfl (Bc rfl rfl rfl rfl rfl (Bc rfl rfl rfl rfl rfl (Bc rfl rfl rfl rfl rfl (Bc rfl rfl rfl rfl rfl (Bc rfl rfl rfl rfl rfl (Bc rfl rfl rfl rfl rfl (Bc rfl rfl rfl rfl rfl (Bc rfl rfl rfl rfl rfl (Bc rfl rfl rfl rfl rfl (Bc rfl rfl rfl rfl rfl (Cm rfl rfl rfl rfl (h_z ?_)))))))))))))
    replace t1:=(((((t1.st d0).st g0).st h0).st i0).st e0).st f0
    replace u1:=(((((u1.st d0).st g0).st h0).st i0).st e0).st f0
    replace v1:=(((((v1.st d0).st g0).st h0).st i0).st e0).st f0
    replace w1:=(((((w1.st d0).st g0).st h0).st i0).st e0).st f0
    replace y1:=(((((y1.st d0).st g0).st h0).st i0).st e0).st f0
    replace z1:=(((((z1.st d0).st g0).st h0).st i0).st e0).st f0
    replace a2:=(a2.st e0).st f0
    obtain ⟨pG,f2,rD,sD,qA⟩:=Ors.shut (x:=(⟨(⟨a0.2.t.vars,a0.2.t.init,a0.2.t.goal,a0.2.t.ops⟩:Tsk),a0.2.gens,a0.2.nodes,a0.2.tab,r0.2.l,a0.2.number⟩:Ors)) (l0:=6) (l1:=9) (l2:=10) (l3:=11) (by decide) e2 t1 u1 v1 w1 y1 v2 z1 a2 w4
    obtain rfl:=sm v0
    exact ⟨(),_,⟨rfl,rfl,rfl,rfl,rfl,rfl,rfl,rfl,trivial⟩,(((((((hB.st o0).st d0).st g0).st h0).st i0).st e0).st f0).st f2,(((((((t0.st o0).st d0).st g0).st h0).st i0).st e0).st f0).st f2,(((((((h9.st o0).st d0).st g0).st h0).st i0).st e0).st f0).st f2,(((((((w0.st o0).st d0).st g0).st h0).st i0).st e0).st f0).st f2,(((((((y0.st o0).st d0).st g0).st h0).st i0).st e0).st f0).st f2,(((((((z0.st o0).st d0).st g0).st h0).st i0).st e0).st f0).st f2,(((((((j0.st o0).st d0).st g0).st h0).st i0).st e0).st f0).st f2,(((((((u0.st o0).st d0).st g0).st h0).st i0).st e0).st f0).st f2,qA,p0.st f2⟩
   try rw [q3]
   replace v0:=im' v0 q3
   refine AA rfl (Ay rfl rfl (Cs rfl rfl (AA rfl (Ay rfl rfl (Qi rfl rfl (AA rfl (Ay rfl rfl (BO rfl rfl (AA rfl (Ay rfl rfl (BK (hc:=Blk.cell (i:=5) (e2.1) rfl) rfl rfl ?_)))))))))))
   refine AA rfl (Ay rfl rfl (BO rfl rfl (AA rfl (Ay rfl rfl (BK (hc:=Blk.cell (i:=2) (p0.1) rfl) rfl rfl ?_)))))
   refine AA rfl (Ay rfl rfl ?_)
   obtain ⟨qG,rA,v0⟩:=bs v0
   obtain ⟨sA,tA⟩:=AZ rA
   obtain ⟨rG,sG,tD,r6,s6,t6,tG,uG,rfl,uA,vA,vG,wG,xG⟩:=v2.elem tA
   obtain ⟨yG,zG,rfl⟩:=uA.form
   obtain ⟨aH,bH,rfl⟩:=vA.form
   refine Ip (hA:=r6) (hj:=(Int.toNat_of_nonneg sA).symm) (hlt:=s6) rfl rfl rfl ?_
   refine AA rfl (Ay rfl rfl (BO rfl rfl (AA rfl (Ay rfl rfl (BK (hc:=cat1 t6) rfl rfl ?_)))))
   refine AA rfl (Ay rfl rfl (BO rfl rfl (AA rfl (Ay rfl rfl (BK (hc:=Blk.cell (i:=0) (p0.1) rfl) rfl rfl ?_)))))
   refine AA rfl (Ay rfl rfl (Bu (fun _ _=>Cy rfl rfl) rfl (fun y4=>?_) (fun y4=>?_)))
   ·
    replace v0:=ip v0 y4
    refine BX rfl rfl rfl rfl (h_z ?_)
    replace t1:=(((((t1.st d0).st g0).st h0).st i0).st e0).st f0
    replace u1:=(((((u1.st d0).st g0).st h0).st i0).st e0).st f0
    replace v1:=(((((v1.st d0).st g0).st h0).st i0).st e0).st f0
    replace w1:=(((((w1.st d0).st g0).st h0).st i0).st e0).st f0
    replace y1:=(((((y1.st d0).st g0).st h0).st i0).st e0).st f0
    replace z1:=(((((z1.st d0).st g0).st h0).st i0).st e0).st f0
    replace a2:=(a2.st e0).st f0
    obtain ⟨cH,g2,uD,vD,wA⟩:=Ors.shut (x:=(⟨(⟨a0.2.t.vars,a0.2.t.init,a0.2.t.goal,a0.2.t.ops⟩:Tsk),a0.2.gens,a0.2.nodes,a0.2.tab,r0.2.l,a0.2.number⟩:Ors)) (l0:=6) (l1:=9) (l2:=10) (l3:=11) (by decide) e2 t1 u1 v1 w1 y1 v2 z1 a2 w4
    obtain rfl:=sm v0
    exact ⟨(),_,⟨rfl,rfl,rfl,rfl,rfl,rfl,rfl,rfl,trivial⟩,(((((((hB.st o0).st d0).st g0).st h0).st i0).st e0).st f0).st g2,(((((((t0.st o0).st d0).st g0).st h0).st i0).st e0).st f0).st g2,(((((((h9.st o0).st d0).st g0).st h0).st i0).st e0).st f0).st g2,(((((((w0.st o0).st d0).st g0).st h0).st i0).st e0).st f0).st g2,(((((((y0.st o0).st d0).st g0).st h0).st i0).st e0).st f0).st g2,(((((((z0.st o0).st d0).st g0).st h0).st i0).st e0).st f0).st g2,(((((((j0.st o0).st d0).st g0).st h0).st i0).st e0).st f0).st g2,(((((((u0.st o0).st d0).st g0).st h0).st i0).st e0).st f0).st g2,wA,p0.st g2⟩
   replace v0:=im v0 y4
   refine BX rfl rfl rfl rfl (h_z ?_)
   replace t1:=(((((t1.st d0).st g0).st h0).st i0).st e0).st f0
   replace u1:=(((((u1.st d0).st g0).st h0).st i0).st e0).st f0
   replace v1:=(((((v1.st d0).st g0).st h0).st i0).st e0).st f0
   replace w1:=(((((w1.st d0).st g0).st h0).st i0).st e0).st f0
   replace y1:=(((((y1.st d0).st g0).st h0).st i0).st e0).st f0
   replace z1:=(((((z1.st d0).st g0).st h0).st i0).st e0).st f0
   replace a2:=(a2.st e0).st f0
   obtain ⟨dH,h2,wD,xD,xA⟩:=Ors.shut (x:=(⟨(⟨a0.2.t.vars,a0.2.t.init,a0.2.t.goal,a0.2.t.ops⟩:Tsk),a0.2.gens,a0.2.nodes,a0.2.tab,r0.2.l,a0.2.number⟩:Ors)) (l0:=6) (l1:=9) (l2:=10) (l3:=11) (by decide) e2 t1 u1 v1 w1 y1 v2 z1 a2 w4
   obtain rfl:=sm v0
   exact ⟨(),_,⟨rfl,rfl,rfl,rfl,rfl,rfl,rfl,rfl,trivial⟩,(((((((hB.st o0).st d0).st g0).st h0).st i0).st e0).st f0).st h2,(((((((t0.st o0).st d0).st g0).st h0).st i0).st e0).st f0).st h2,(((((((h9.st o0).st d0).st g0).st h0).st i0).st e0).st f0).st h2,(((((((w0.st o0).st d0).st g0).st h0).st i0).st e0).st f0).st h2,(((((((y0.st o0).st d0).st g0).st h0).st i0).st e0).st f0).st h2,(((((((z0.st o0).st d0).st g0).st h0).st i0).st e0).st f0).st h2,(((((((j0.st o0).st d0).st g0).st h0).st i0).st e0).st f0).st h2,(((((((u0.st o0).st d0).st g0).st h0).st i0).st e0).st f0).st h2,xA,p0.st h2⟩
  replace hB:=((((((hB.st o0).st d0).st g0).st h0).st i0).st e0).st f0
  replace h9:=((((((h9.st o0).st d0).st g0).st h0).st i0).st e0).st f0
  replace w0:=((((((w0.st o0).st d0).st g0).st h0).st i0).st e0).st f0
  replace y0:=((((((y0.st o0).st d0).st g0).st h0).st i0).st e0).st f0
  replace z0:=((((((z0.st o0).st d0).st g0).st h0).st i0).st e0).st f0
  replace t0:=((((((t0.st o0).st d0).st g0).st h0).st i0).st e0).st f0
  replace j0:=((((((j0.st o0).st d0).st g0).st h0).st i0).st e0).st f0
  replace u0:=((((((u0.st o0).st d0).st g0).st h0).st i0).st e0).st f0
  rintro eH fH ⟨jA,gH,u6,hB,t0,h9,w0,y0,z0,j0,u0,w6,p0⟩
  refine AQ _ u6 ?_
  refine BW rfl (fun z4=>?_) (fun z4=>?_)
  ·
   replace b0:=ip b0 z4
   refine DM ?_
   obtain rfl:=sm b0
   exact show Exists _ from ⟨_,(),rfl,⟨rfl,rfl,rfl,rfl,rfl,rfl,trivial⟩,_,hB,t0,h9,w0,y0,z0,j0,u0,w6,w3⟩
  replace b0:=im' b0 z4
  refine AO (Al ?_)
  obtain ⟨x6,hH,iH,jH,kH,lH,mH,nH,oH,b1,yD,b2,w2,y2,z2,a3,b3,j1,c3,d3,y6⟩:=Ors.opn w6 6 9 10 11 (by decide)
  obtain ⟨pH,qH,rfl⟩:=w2.form
  obtain ⟨rH,sH,rfl⟩:=y2.form
  obtain ⟨tH,uH,rfl⟩:=z2.form
  obtain ⟨vH,wH,rfl⟩:=a3.form
  obtain ⟨xH,yH,rfl⟩:=b3.form
  obtain ⟨zH,aI,rfl⟩:=j1.form
  obtain ⟨bI,rfl⟩:=c3.mptr
  obtain ⟨cI,dI,rfl⟩:=d3.form
  refine BA [] x6 ?_
  refine AR (fuel:=2) [] [(0,true),(1,true),(2,true),(3,true),(4,true),(5,true),(6,true),(7,true)] (by kernel_rfl) rfl ?_
  refine AN rfl rfl rfl (Dr rfl rfl rfl (Be rfl rfl rfl (AW (hc:=fun w' ⟨O',hq⟩=>Blk.cell (i:=5) ((b2.st hq (by decide)).1) rfl) rfl rfl rfl ?_)))
  refine Be rfl rfl rfl ?_
  replace p0:=p0.st b1
  refine AW (hc:=fun w' ⟨O',hq⟩=>Blk.cell (i:=2) ((p0.st hq (by decide)).1) rfl) rfl rfl rfl ?_
  obtain ⟨c1,yA,b0⟩:=bs b0
  obtain ⟨zA,aB⟩:=AZ yA
  obtain ⟨eI,fI,zD,z6,a7,b7,c7,gI,hI,rfl,k1,e3,bB,iI,jI⟩:=j1.elemF aB
  obtain ⟨a5,b5,rfl⟩:=k1.form
  obtain ⟨c5,d5,rfl⟩:=e3.form
  refine BH (hA:=z6) (hj:=(Int.toNat_of_nonneg zA).symm) (hlt:=b7) rfl rfl rfl rfl ?_
  refine CR (hl:=rfl) (hb:=fun w' ⟨O',hq⟩=>(AU (hq.agree (i:=9) (by decide)) a7 c7)) rfl rfl rfl ?_
  refine AB ?_
  refine AP (i:=8) (by kernel_rfl) rfl ?_
  refine Bf 13 x6 rfl fun e5 kI y3 m0 d1=>?_
  have hZ:=m0.lst [] (fun _ h=>h.elim)
  refine AV [] hZ (by kernel_rfl) ?_
  refine AP (i:=9) (by kernel_rfl) rfl ?_
  refine AT d1 rfl rfl rfl (Bg rfl) (allOne rfl) fun z3 n0 d1=>?_
  replace d1:Lc 13 z3 y3 e5 78 [(.slice a5 c1.state.length b5),(.int .i64 c1.cost),(.int .i64 c1.parent),(.int .i64 c1.op),(.slice c5 c1.used.length d5),(.bool c1.fin)]:=d1
  refine Ch (by kernel_rfl) ?_
  refine Bo (by kernel_rfl) ?_
  refine Al (Al (Aj (AJ rfl rfl ?_)))
  replace t0:=((t0.st b1).st m0).st n0
  refine AG (hc:=Blk.cell (i:=2) (t0.1) rfl) rfl rfl ?_
  refine AJ rfl rfl (AG (hc:=Blk.cell (i:=0) (d1.1) rfl) rfl rfl ?_)
  obtain ⟨d7,cB,b0⟩:=bs b0
  replace y0:=((y0.st b1).st m0).st n0
  replace k1:=(k1.st m0).st n0
  refine Bn (O:=y3) (A:=All z3) (R:=fun w' F v=>Vb w' F v d7) (HN (fun _ h=>h) (Vb.mono (F:=Fr 0 z3 y3) y0 Fr.lt) (Vb.mono (F:=Fr 0 z3 y3) k1 Fr.lt) cB) rfl rfl fun lI mI a4 k0 dB=>?_
  obtain rfl:=dB.bool
  cases d7
  case false =>
   replace b0:=iF b0
   refine o_z ?_
   refine Ae rfl (AO (Al (Al (Aj (Ar rfl rfl (Ar rfl rfl (FU rfl rfl rfl (fun f5=>?_) fun f5=>?_)))))))
   ·
    replace b0:=ip b0 f5
    refine o_z ?_
    refine Ah rfl (Al (Aj (Ar rfl rfl (Dd rfl rfl rfl ?_))))
    replace j0:=(((j0.st b1).st m0).st n0).st k0
    refine AT j0 rfl rfl rfl (Bg rfl) (allOne rfl) fun e7 eB j0=>?_
    replace j0:Lc 3 e7 a4 q1 32 [(.int .i64 3),(.slice none 0 0),(.int .i64 0),(.int .i64 a0.1)]:=j0
    refine Aw rfl rfl (o_z ?_)
    refine AH ?_
    obtain rfl:=sm b0
    obtain rfl:=i1 _ rfl
    obtain rfl:=sm (BV hm)
    replace hB:=((((hB.st b1).st m0).st n0).st k0).st eB
    exact ret2 rfl (Ck (cs:=[(.int .i64 3),(.slice none 0 0),(.int .i64 0),(.int .i64 a0.1)]) rfl rfl j0.1.cellsAt) (AE rfl) ⟨hB.ext,_,_,rfl,(Vb.mono (F:=Fr 0 e7 a4) (Vb.ofAgg (cs:=[(.int .i64 3),(.slice none 0 0),(.int .i64 0),(.int .i64 a0.1)]) (x:=(⟨3,([]:List Int),0,a0.1⟩:Rsl)) rfl ⟨_,rfl,(Vb.nil _ _),(show inI64 (3) from by decide),(show inI64 0 from by decide),w3⟩) hB.out),(vErr (show inI64 0 from by decide))⟩
   replace b0:=im b0 f5
   refine o_z ?_
   refine Ae rfl (AO (Al (Aj (Ar rfl rfl ?_))))
   obtain ⟨f7,g7,b0⟩:=bs b0
   have fB:=(CH g7)
   refine Hd (he:=g7) rfl rfl rfl ?_
   refine Aw rfl rfl (o_z ?_)
   refine Al (BA [] a4 ?_)
   refine AR (fuel:=1) [] [(0,true),(1,true),(2,true),(3,true),(4,true),(5,true),(6,true),(7,true)] (by kernel_rfl) rfl ?_
   refine AN rfl rfl rfl (Dr rfl rfl rfl (Be rfl rfl rfl ?_))
   replace b2:=((b2.st m0).st n0).st k0
   refine AW (hc:=fun w' ⟨O',hq⟩=>Blk.cell (i:=5) ((b2.st hq (by decide)).1) rfl) rfl rfl rfl ?_
   refine Be rfl rfl rfl ?_
   replace p0:=((p0.st m0).st n0).st k0
   refine AW (hc:=fun w' ⟨O',hq⟩=>Blk.cell (i:=2) ((p0.st hq (by decide)).1) rfl) rfl rfl rfl ?_
   obtain ⟨b4,gB,b0⟩:=bs b0
   obtain ⟨iB,h7⟩:=AZ gB
   replace j1:=((j1.st m0).st n0).st k0
   obtain ⟨nI,oI,aE,j4,bE,i7,cE,pI,qI,rfl,jB,kB,rI,sI,tI⟩:=j1.elemF h7
   obtain ⟨uI,vI,rfl⟩:=jB.form
   obtain ⟨wI,xI,rfl⟩:=kB.form
   refine BH (hA:=j4) (hj:=(Int.toNat_of_nonneg iB).symm) (hlt:=i7) rfl rfl rfl rfl ?_
   refine Be rfl rfl rfl (AB ?_)
   refine AP (i:=8) (by kernel_rfl) rfl ?_
   refine Kd (a:=b4) (a':=({ b4 with fin:=true }:ONd)) (off:=5) j1 j4 h7 rfl rfl rfl (Nat.le_of_ble_eq_true rfl) (by first|exact allOne rfl|simp [Value.cells,Value.oneCell',IQ]) (by rintro ce ⟨yI,zI,rfl,lB,mB,nB,oB,pB⟩;exact ⟨_,_,rfl,lB,mB,nB,oB,pB⟩) fun aJ s0 j1=>?_
   refine Ch (by kernel_rfl) ?_
   refine Bo (by kernel_rfl) ?_
   refine Al (Aj (Ar rfl rfl (AJ rfl rfl ?_)))
   replace d1:=(d1.st k0).st s0
   refine AG (hc:=Blk.cell (i:=0) (d1.1) rfl) rfl rfl ?_
   obtain ⟨f3,qB,b0⟩:=bs b0
   replace u0:=((((u0.st b1).st m0).st n0).st k0).st s0
   replace k1:=(k1.st k0).st s0
   refine Bw (O:=a4) (R:=fun w' F v=>Vb w' F v f3) (Fm Fr.lt u0 k1 qB) rfl rfl fun bJ cJ dJ q0 c2=>?_
   obtain ⟨j7,k7,rfl⟩:=c2.form
   refine AY rfl rfl ?_
   have g5:f3.length≤9223372036854775807:=Nat.le_trans c2.len.2.1 c2.len.2.2
   have eJ:inI64 (f3.length:Int):=rngNat g5
   refine Ar rfl rfl (o_z ?_)
   replace b2:=(b2.st s0).st q0
   replace w2:=((((w2.st m0).st n0).st k0).st s0).st q0
   replace y2:=((((y2.st m0).st n0).st k0).st s0).st q0
   replace z2:=((((z2.st m0).st n0).st k0).st s0).st q0
   replace a3:=((((a3.st m0).st n0).st k0).st s0).st q0
   replace b3:=((((b3.st m0).st n0).st k0).st s0).st q0
   replace j1:=j1.st q0
   replace c3:=((((c3.st m0).st n0).st k0).st s0).st q0
   replace d3:=((((d3.st m0).st n0).st k0).st s0).st q0
   obtain ⟨rB,a1,dE,eE,sB⟩:=Ors.shut (x:=(⟨(⟨(⟨(⟨a0.2.t.vars,a0.2.t.init,a0.2.t.goal,a0.2.t.ops⟩:Tsk),a0.2.gens,a0.2.nodes,a0.2.tab,r0.2.l,a0.2.number⟩:Ors).t.vars,(⟨(⟨a0.2.t.vars,a0.2.t.init,a0.2.t.goal,a0.2.t.ops⟩:Tsk),a0.2.gens,a0.2.nodes,a0.2.tab,r0.2.l,a0.2.number⟩:Ors).t.init,(⟨(⟨a0.2.t.vars,a0.2.t.init,a0.2.t.goal,a0.2.t.ops⟩:Tsk),a0.2.gens,a0.2.nodes,a0.2.tab,r0.2.l,a0.2.number⟩:Ors).t.goal,(⟨(⟨a0.2.t.vars,a0.2.t.init,a0.2.t.goal,a0.2.t.ops⟩:Tsk),a0.2.gens,a0.2.nodes,a0.2.tab,r0.2.l,a0.2.number⟩:Ors).t.ops⟩:Tsk),(⟨(⟨a0.2.t.vars,a0.2.t.init,a0.2.t.goal,a0.2.t.ops⟩:Tsk),a0.2.gens,a0.2.nodes,a0.2.tab,r0.2.l,a0.2.number⟩:Ors).gens,(((⟨(⟨a0.2.t.vars,a0.2.t.init,a0.2.t.goal,a0.2.t.ops⟩:Tsk),a0.2.gens,a0.2.nodes,a0.2.tab,r0.2.l,a0.2.number⟩:Ors).nodes).set (r0.1.x.node:Int).toNat ({ b4 with fin:=true }:ONd)),(⟨(⟨a0.2.t.vars,a0.2.t.init,a0.2.t.goal,a0.2.t.ops⟩:Tsk),a0.2.gens,a0.2.nodes,a0.2.tab,r0.2.l,a0.2.number⟩:Ors).tab,(⟨(⟨a0.2.t.vars,a0.2.t.init,a0.2.t.goal,a0.2.t.ops⟩:Tsk),a0.2.gens,a0.2.nodes,a0.2.tab,r0.2.l,a0.2.number⟩:Ors).open_,(⟨(⟨a0.2.t.vars,a0.2.t.init,a0.2.t.goal,a0.2.t.ops⟩:Tsk),a0.2.gens,a0.2.nodes,a0.2.tab,r0.2.l,a0.2.number⟩:Ors).number⟩:Ors)) (l0:=6) (l1:=9) (l2:=10) (l3:=11) (by decide) (by have q:=b2;rw [← ((by simp:(((⟨(⟨a0.2.t.vars,a0.2.t.init,a0.2.t.goal,a0.2.t.ops⟩:Tsk),a0.2.gens,a0.2.nodes,a0.2.tab,r0.2.l,a0.2.number⟩:Ors).nodes).set (r0.1.x.node:Int).toNat ({ b4 with fin:=true }:ONd)).length=((⟨(⟨a0.2.t.vars,a0.2.t.init,a0.2.t.goal,a0.2.t.ops⟩:Tsk),a0.2.gens,a0.2.nodes,a0.2.tab,r0.2.l,a0.2.number⟩:Ors).nodes).length).trans rfl)] at q;exact q) w2 y2 z2 a3 b3 j1.relen c3 d3 y6
   obtain ⟨h5,l7,b0⟩:=bs b0
   refine AL (aft h5 (fun (m3:Ors) (c4:Unit)=>[(2,(.int .i64 x2)),(3,(.pointer (some ⟨i3,0,none⟩))),(6,(.pointer (some ⟨q1,0,none⟩))),(11,(.pointer u2)),(13,(.pointer (some ⟨p1,0,none⟩))),(15,(.int .i64 f7))]) (fun m3 c4 w'=>∃ O':Lab,Bs w A w' O'∧Lc 2 w' O' i3 26 [(.slice j2 x0.vars.length k2),(.slice m2 x0.init.length n2),(.slice o2 x0.goal.length p2),(.slice q2 x0.ops.length r2)]∧Vb w' (Fr 0 w' O') (.slice j2 x0.vars.length k2) x0.vars∧Vb w' (Fr 0 w' O') (.slice m2 x0.init.length n2) x0.init∧Vb w' (Fr 0 w' O') (.slice o2 x0.goal.length p2) x0.goal∧Vb w' (Fr 0 w' O') (.slice q2 x0.ops.length r2) x0.ops∧Lc 3 w' O' q1 32 [(.int .i64 0),(.slice none 0 0),(.int .i64 0),(.int .i64 0)]∧Vb w' (Fr 0 w' O') (.pointer u2) n3.1∧Ob 6 w' O' (.pointer (some ⟨p1,0,none⟩)) m3)) ?_ ?_
   ·
    refine Bb ?_
    replace hB:=((((((hB.st b1).st m0).st n0).st k0).st s0).st q0).st a1
    replace h9:=((((((h9.st b1).st m0).st n0).st k0).st s0).st q0).st a1
    replace w0:=((((((w0.st b1).st m0).st n0).st k0).st s0).st q0).st a1
    replace y0:=(((y0.st k0).st s0).st q0).st a1
    replace z0:=((((((z0.st b1).st m0).st n0).st k0).st s0).st q0).st a1
    replace t0:=(((t0.st k0).st s0).st q0).st a1
    replace j0:=((((((j0.st b1).st m0).st n0).st k0).st s0).st q0).st a1
    replace u0:=(u0.st q0).st a1
    replace p0:=((p0.st s0).st q0).st a1
    replace k1:=(k1.st q0).st a1
    replace e3:=(((((e3.st m0).st n0).st k0).st s0).st q0).st a1
    replace d1:=(d1.st q0).st a1
    replace c2:=c2.st a1
    refine BL (σ:=Ors) (X:=Unit) (f3.length) l7 rfl g5 (fun (m3:Ors) (c4:Unit)=>[(2,(.int .i64 x2)),(3,(.pointer (some ⟨i3,0,none⟩))),(6,(.pointer (some ⟨q1,0,none⟩))),(11,(.pointer u2)),(13,(.pointer (some ⟨p1,0,none⟩))),(15,(.int .i64 f7)),(16,(.pointer (some ⟨p3,0,none⟩))),(18,(.pointer (some ⟨e5,0,none⟩))),(156,(.slice j7 f3.length k7))]) _ (fun m3 c4 w'=>∃ O':Lab,Bs w A w' O'∧Lc 2 w' O' i3 26 [(.slice j2 x0.vars.length k2),(.slice m2 x0.init.length n2),(.slice o2 x0.goal.length p2),(.slice q2 x0.ops.length r2)]∧Vb w' (Fr 0 w' O') (.slice j2 x0.vars.length k2) x0.vars∧Vb w' (Fr 0 w' O') (.slice m2 x0.init.length n2) x0.init∧Vb w' (Fr 0 w' O') (.slice o2 x0.goal.length p2) x0.goal∧Vb w' (Fr 0 w' O') (.slice q2 x0.ops.length r2) x0.ops∧Lc 3 w' O' q1 32 [(.int .i64 0),(.slice none 0 0),(.int .i64 0),(.int .i64 0)]∧Vb w' (Fr 0 w' O') (.pointer u2) n3.1∧Ob 6 w' O' (.pointer (some ⟨p1,0,none⟩)) m3∧Lc 12 w' O' p3 73 [(.int .i64 r0.1.x.cost),(.int .i64 r0.1.x.number),(.int .i64 r0.1.x.node)]∧Lc 13 w' O' e5 78 [(.slice a5 c1.state.length b5),(.int .i64 c1.cost),(.int .i64 c1.parent),(.int .i64 c1.op),(.slice c5 c1.used.length d5),(.bool c1.fin)]∧Vb w' (Fr 0 w' O') (.slice a5 c1.state.length b5) c1.state∧Vb w' (Fr 0 w' O') (.slice c5 c1.used.length d5) c1.used∧Vb w' (Fr 0 w' O') (.slice j7 f3.length k7) f3) _ () ⟨rB,hB,t0,h9,w0,y0,z0,j0,u0,sB,p0,d1,k1,e3,c2⟩ ⟨rfl,rfl,rfl,rfl,rfl,rfl,rfl,rfl,rfl,rfl,rfl,trivial⟩ (fun _ _=>⟨rfl,rfl⟩) (fun _ _=>⟨rfl,rfl,rfl,rfl,rfl,rfl,trivial⟩) (fun _ _ _ ⟨O',hB,t0,h9,w0,y0,z0,j0,u0,g3,p0,d1,k1,e3,c2⟩=>⟨O',hB,t0,h9,w0,y0,z0,j0,u0,g3⟩) ⟨rfl,rfl,rfl⟩ ⟨rfl,rfl⟩ ?_
    rintro tB m7 m3 c4 fJ fE k4 ⟨uB,hB,t0,h9,w0,y0,z0,j0,u0,g3,p0,d1,k1,e3,c2⟩ e1 d4 j8
    have rk460:inI64 (tB:Int):=rngK k4 g5
    refine Al (Aj ?_)
    obtain ⟨gJ,hJ,gE,n7,o7,p7,iJ,rfl,e4,vB⟩:=c2.elem' k4
    obtain ⟨wB,xB,rfl⟩:=e4.form
    refine BJ (hA:=n7) (hj:=rfl) (hlt:=o7) rfl rfl rfl ?_
    refine Bi (hl:=rfl) (hc:=p7) rfl rfl ?_
    refine Bf 14 uB rfl fun yB jJ i5 f1 h3=>?_
    refine AT h3 rfl rfl rfl (Bg rfl) (allOne rfl) fun zB g1 h3=>?_
    replace h3:Lc 14 zB i5 yB 85 [(.int .i64 m7.op),(.slice wB m7.state.length xB)]:=h3
    refine o_z ?_
    refine Al (BA [(17,[6])] i5 ?_)
    refine AR (fuel:=2) [] [(0,true),(1,true),(2,true),(3,true),(4,true),(5,true),(6,true),(7,true),(8,true),(9,true),(10,true),(11,true),(12,true),(13,true),(14,true),(15,true),(16,true)] (by kernel_rfl) rfl ?_
    refine AN rfl rfl rfl (Be rfl rfl rfl (AW (hc:=fun w' ⟨O',hq⟩=>Blk.cell (i:=1) ((h3.st hq (by decide)).1) rfl) rfl rfl rfl ?_))
    refine Be rfl rfl rfl ?_
    replace d1:=(d1.st f1).st g1
    refine AW (hc:=fun w' ⟨O',hq⟩=>Blk.cell (i:=1) ((d1.st hq (by decide)).1) rfl) rfl rfl rfl ?_
    refine Be rfl rfl rfl ?_
    replace t0:=(t0.st f1).st g1
    refine AW (hc:=fun w' ⟨O',hq⟩=>Blk.cell (i:=3) ((t0.st hq (by decide)).1) rfl) rfl rfl rfl ?_
    refine Be rfl rfl rfl (AW (hc:=fun w' ⟨O',hq⟩=>Blk.cell (i:=0) ((h3.st hq (by decide)).1) rfl) rfl rfl rfl ?_)
    obtain ⟨kJ,aC,e1⟩:=bs e1
    obtain ⟨bC,cC⟩:=AZ aC
    replace z0:=(z0.st f1).st g1
    obtain ⟨lJ,mJ,iE,q7,r7,s7,t7,nJ,oJ,rfl,dC,eC,pJ,qJ⟩:=z0.elem cC
    obtain ⟨rJ,sJ,rfl⟩:=dC.form
    obtain ⟨tJ,uJ,rfl⟩:=eC.form
    refine BH (hA:=q7) (hj:=(Int.toNat_of_nonneg bC).symm) (hlt:=s7) rfl rfl rfl rfl ?_
    refine Be rfl rfl rfl (AW (hc:=fun w' ⟨O',hq⟩=>cat1 (AU (hq.agree (i:=0) (by decide)) r7 t7)) rfl rfl rfl ?_)
    obtain ⟨vJ,u7,e1⟩:=bs e1
    have fC:=(CH u7)
    refine QY (he:=u7) rfl rfl rfl rfl ?_
    refine Be rfl rfl rfl ?_
    replace p0:=(p0.st f1).st g1
    refine AW (hc:=fun w' ⟨O',hq⟩=>Blk.cell (i:=2) ((p0.st hq (by decide)).1) rfl) rfl rfl rfl ?_
    refine Be rfl rfl rfl (AW (hc:=fun w' ⟨O',hq⟩=>Blk.cell (i:=0) ((h3.st hq (by decide)).1) rfl) rfl rfl rfl ?_)
    refine AB ?_
    refine AP (i:=17) (by kernel_rfl) rfl ?_
    obtain ⟨wJ,gC,e1⟩:=bs e1
    replace g3:=(g3.st f1).st g1
    replace e4:=(e4.st f1).st g1
    refine Fe (O:=i5) (FH g3 e4 fC l6 vB gC) rfl rfl fun xJ yJ w7 h1 hC=>?_
    obtain ⟨iC,jC⟩:=hC
    obtain ⟨rfl,kC⟩:=jC.err
    have hZ:=h1.lst [6] (fun _ h=>by cases h;decide)
    refine AV [] hZ (by kernel_rfl) ?_
    refine AR (fuel:=0) [] [(18,true)] (by kernel_rfl) rfl ?_
    refine Fa rfl rfl rfl (AB ?_)
    refine Bo (by kernel_rfl) ?_
    refine Al (Aj (Ar rfl rfl (DJ rfl rfl (fun j5=>?_) fun j5=>?_)))
    ·
     replace e1:=ip e1 j5
     refine o_z ?_
     refine Ah rfl (Al (Aj (Dd rfl rfl rfl ?_)))
     refine Ar rfl rfl ?_
     replace j0:=((j0.st f1).st g1).st h1
     refine AT j0 rfl rfl rfl (Bg rfl) (allOne rfl) fun x7 lC j0=>?_
     replace j0:Lc 3 x7 w7 q1 32 [(.int .i64 0),(.slice none 0 0),(.int .i64 0),(.int .i64 0)]:=j0
     refine Aw rfl rfl (o_z ?_)
     refine AH ?_
     obtain rfl:=sm e1
     obtain rfl:=d4 _ rfl
     obtain rfl:=sm (BV b0)
     obtain rfl:=i1 _ rfl
     obtain rfl:=sm (BV hm)
     replace hB:=(((hB.st f1).st g1).st h1).st lC
     exact ret2 rfl (Ck (cs:=[(.int .i64 0),(.slice none 0 0),(.int .i64 0),(.int .i64 0)]) rfl rfl j0.1.cellsAt) (AE rfl) ⟨hB.ext,_,_,rfl,(Vb.mono (F:=Fr 0 x7 w7) (Vb.ofAgg (cs:=[(.int .i64 0),(.slice none 0 0),(.int .i64 0),(.int .i64 0)]) (x:=(⟨0,([]:List Int),0,0⟩:Rsl)) rfl ⟨_,rfl,(Vb.nil _ _),(show inI64 0 from by decide),(show inI64 0 from by decide),(show inI64 0 from by decide)⟩) hB.out),(vErr kC)⟩
    replace e1:=im e1 j5
    refine o_z ?_
    refine Ae rfl (AO ?_)
    obtain rfl:=sm e1
    exact show Exists _ from ⟨_,(),rfl,⟨rfl,rfl,rfl,rfl,rfl,rfl,rfl,rfl,rfl,rfl,rfl,trivial⟩,_,((hB.st f1).st g1).st h1,t0.st h1,((h9.st f1).st g1).st h1,((w0.st f1).st g1).st h1,((y0.st f1).st g1).st h1,z0.st h1,((j0.st f1).st g1).st h1,((u0.st f1).st g1).st h1,iC,p0.st h1,d1.st h1,((k1.st f1).st g1).st h1,((e3.st f1).st g1).st h1,((c2.st f1).st g1).st h1⟩
   replace hB:=((((((hB.st b1).st m0).st n0).st k0).st s0).st q0).st a1
   replace h9:=((((((h9.st b1).st m0).st n0).st k0).st s0).st q0).st a1
   replace w0:=((((((w0.st b1).st m0).st n0).st k0).st s0).st q0).st a1
   replace y0:=(((y0.st k0).st s0).st q0).st a1
   replace z0:=((((((z0.st b1).st m0).st n0).st k0).st s0).st q0).st a1
   replace t0:=(((t0.st k0).st s0).st q0).st a1
   replace j0:=((((((j0.st b1).st m0).st n0).st k0).st s0).st q0).st a1
   replace u0:=(u0.st q0).st a1
   rintro zJ aK ⟨bK,cK,rfl,d2,dK,hB,t0,h9,w0,y0,z0,j0,u0,g3⟩
   replace b0:=Bl b0
   obtain rfl:=sm b0
   exact show Exists _ from ⟨_,(),rfl,⟨(Df d2 _ _ rfl),(Df d2 _ _ rfl),(Df d2 _ _ rfl),(Df d2 _ _ rfl),(Df d2 _ _ rfl),(Df d2 _ _ rfl),trivial⟩,_,hB,t0,h9,w0,y0,z0,j0,u0,g3,fB⟩
  replace b0:=iT b0
  refine o_z ?_
  refine Ah rfl (Al (Aj (Ar rfl rfl (AJ rfl rfl ?_))))
  replace p0:=((p0.st m0).st n0).st k0
  refine AG (hc:=Blk.cell (i:=2) (p0.1) rfl) rfl rfl ?_
  replace b2:=((b2.st m0).st n0).st k0
  replace w2:=((w2.st m0).st n0).st k0
  replace y2:=((y2.st m0).st n0).st k0
  replace z2:=((z2.st m0).st n0).st k0
  replace a3:=((a3.st m0).st n0).st k0
  replace b3:=((b3.st m0).st n0).st k0
  replace j1:=((j1.st m0).st n0).st k0
  replace c3:=((c3.st m0).st n0).st k0
  replace d3:=((d3.st m0).st n0).st k0
  obtain ⟨mC,r3,jE,kE,nC⟩:=Ors.shut (x:=(⟨(⟨a0.2.t.vars,a0.2.t.init,a0.2.t.goal,a0.2.t.ops⟩:Tsk),a0.2.gens,a0.2.nodes,a0.2.tab,r0.2.l,a0.2.number⟩:Ors)) (l0:=6) (l1:=9) (l2:=10) (l3:=11) (by decide) b2 w2 y2 z2 a3 b3 j1 c3 d3 y6
  obtain ⟨f4,oC,b0⟩:=bs b0
  refine Fe (O:=mC) (HE nC l6 oC) rfl rfl fun eK fK g4 s3 pC=>?_
  obtain ⟨gK,hK,iK,rfl,h4,qC⟩:=pC
  obtain ⟨k5,l5,rfl⟩:=h4.form
  obtain ⟨rfl,rC⟩:=qC.err
  refine Ar rfl rfl (CE rfl rfl rfl (CE rfl rfl rfl (Aw rfl rfl (Aw rfl rfl (o_z ?_)))))
  refine Al (Al (Aj (Ar rfl rfl (DJ rfl rfl (fun m5=>?_) fun m5=>?_))))
  ·
   replace b0:=ip b0 m5
   refine o_z ?_
   refine Ah rfl (Al (Aj (Dd rfl rfl rfl ?_)))
   refine Ar rfl rfl ?_
   replace j0:=(((((j0.st b1).st m0).st n0).st k0).st r3).st s3
   refine AT j0 rfl rfl rfl (Bg rfl) (allOne rfl) fun y7 sC j0=>?_
   replace j0:Lc 3 y7 g4 q1 32 [(.int .i64 0),(.slice none 0 0),(.int .i64 0),(.int .i64 0)]:=j0
   refine Aw rfl rfl (o_z ?_)
   refine AH ?_
   obtain rfl:=sm b0
   obtain rfl:=i1 _ rfl
   obtain rfl:=sm (BV hm)
   replace hB:=((((((hB.st b1).st m0).st n0).st k0).st r3).st s3).st sC
   exact ret2 rfl (Ck (cs:=[(.int .i64 0),(.slice none 0 0),(.int .i64 0),(.int .i64 0)]) rfl rfl j0.1.cellsAt) (AE rfl) ⟨hB.ext,_,_,rfl,(Vb.mono (F:=Fr 0 y7 g4) (Vb.ofAgg (cs:=[(.int .i64 0),(.slice none 0 0),(.int .i64 0),(.int .i64 0)]) (x:=(⟨0,([]:List Int),0,0⟩:Rsl)) rfl ⟨_,rfl,(Vb.nil _ _),(show inI64 0 from by decide),(show inI64 0 from by decide),(show inI64 0 from by decide)⟩) hB.out),(vErr rC)⟩
  replace b0:=im b0 m5
  refine o_z ?_
  refine Ae rfl (AO (Al (Aj (Ar rfl rfl (AJ rfl rfl ?_)))))
  replace d1:=((d1.st k0).st r3).st s3
  refine AG (hc:=Blk.cell (i:=1) (d1.1) rfl) rfl rfl ?_
  refine Ar rfl rfl (Dd rfl rfl rfl ?_)
  replace j0:=(((((j0.st b1).st m0).st n0).st k0).st r3).st s3
  refine AT j0 rfl rfl rfl (Bg rfl) (allOne rfl) fun z7 a8 j0=>?_
  replace j0:Lc 3 z7 g4 q1 32 [(.int .i64 1),(.slice k5 f4.1.length l5),(.int .i64 c1.cost),(.int .i64 a0.1)]:=j0
  refine Aw rfl rfl (o_z ?_)
  refine AH ?_
  obtain rfl:=sm b0
  obtain rfl:=i1 _ rfl
  obtain rfl:=sm (BV hm)
  replace hB:=((((((hB.st b1).st m0).st n0).st k0).st r3).st s3).st a8
  replace h4:=h4.st a8
  exact ret2 rfl (Ck (cs:=[(.int .i64 1),(.slice k5 f4.1.length l5),(.int .i64 c1.cost),(.int .i64 a0.1)]) rfl rfl j0.1.cellsAt) (AE rfl) ⟨hB.ext,_,_,rfl,(Vb.mono (F:=Fr 0 z7 g4) (Vb.ofAgg (cs:=[(.int .i64 1),(.slice k5 f4.1.length l5),(.int .i64 c1.cost),(.int .i64 a0.1)]) (x:=(⟨1,f4.1,c1.cost,a0.1⟩:Rsl)) rfl ⟨_,rfl,h4,(show inI64 (1) from by decide),bB,w3⟩) hB.out),(vErr (show inI64 0 from by decide))⟩
 rintro jK kK ⟨lK,mK,_,_,hE⟩
 exact hE.elim
end
section
open Go Go.RowKit
inductive PlanR (t:Tsk):List Int→List Int→List Int→Int→Prop
  | nil {s:List Int}:PlanR t s [] s 0
  | cons {s rest s':List Int} {k:Nat} {o:Opr} {C:Int}:t.ops[k]?=some o→holdsB o.pre s=true→PlanR t (succ o s) rest s' C→PlanR t s ((k:Int) :: rest) s' (o.cost + C)
theorem Nu (f:List Fct) (s:List Int):DX f s=some (holdsB f s):=rfl
end
section
section
variable {α σ ρ β : Type}
theorem Mo {f:σ→Option (Ctl σ ρ)} (I:σ→Prop) (B:σ→Prop) (R:ρ→Prop) (μ:σ→Nat) (h:∀ s,I s→(∃ s',f s=some (.next s')∧I s'∧μ s' < μ s)∨(∃ s',f s=some (.brk s')∧B s')∨∃ r,f s=some (.ret r)∧R r) :
    ∀ s,I s→(∃ s',lop f s=some (.done s')∧B s')∨∃ r,lop f s=some (.ret r)∧R r:=by
  have key:∀ (n:Nat) s,I s→μ s < n→(∃ s',lop f s=some (.done s')∧B s')∨∃ r,lop f s=some (.ret r)∧R r:=by
    intro n
    induction n with
    | zero=>intro s _ hn;omega
    | succ n ih =>
      intro s hI hn
      rw [CZ]
      rcases h s hI with ⟨s',h1,h2,h3⟩|⟨s',h1,h2⟩|⟨r,h1,h2⟩
      · rw [h1];exact ih s' h2 (by omega)
      · rw [h1];exact .inl ⟨s',rfl,h2⟩
      · rw [h1];exact .inr ⟨r,rfl,h2⟩
  exact fun s hI=>key (μ s + 1) s hI (by omega)
theorem Nv {f:σ→Option (Ctl σ ρ)} {s₀:σ} {k:Fin σ ρ→Option β} {P:β→Prop} (I:σ→Prop) (B:σ→Prop) (R:ρ→Prop) (μ:σ→Nat) (h0:I s₀)
    (h:∀ s,I s→(∃ s',f s=some (.next s')∧I s'∧μ s' < μ s)∨(∃ s',f s=some (.brk s')∧B s')∨∃ r,f s=some (.ret r)∧R r)
    (hb:∀ s,B s→∃ r,k (.done s)=some r∧P r) (hr:∀ q,R q→∃ r,k (.ret q)=some r∧P r):∃ r,bnd (lop f s₀) k=some r∧P r:=by
  rcases Mo I B R μ h s₀ h0 with ⟨s,h1,h2⟩|⟨q,h1,h2⟩
  · rw [h1,Am];exact hb s h2
  · rw [h1,Am];exact hr q h2
theorem Pw {f:σ→Option (Ctl σ ρ)} {s₀:σ} {k:Fin σ ρ→Option β} {r:Option β} (I:σ→Prop) (B:σ→Prop) (μ:σ→Nat) (h0:I s₀)
    (h:∀ s,I s→(∃ s',f s=some (.next s')∧I s'∧μ s' < μ s)∨(∃ s',f s=some (.brk s')∧B s')) (hb:∀ s,B s→k (.done s)=r):bnd (lop f s₀) k=r:=by
  rcases Mo I B (fun _=>False) μ (fun s hI=>(h s hI).imp id .inl) s₀ h0 with ⟨s,h1,h2⟩|⟨q,_,h2⟩
  · rw [h1,Am];exact hb s h2
  · exact h2.elim
theorem JF {f:Nat→α→σ→Option (Ctl σ ρ)} {xs:List α} {s₀:σ} {k:Fin σ ρ→Option β} {P:β→Prop} (I:Nat→σ→Prop) (R:ρ→Prop) (h0:I 0 s₀)
    (h:∀ i x s,xs[i]?=some x→I i s→(∃ s',f i x s=some (.next s')∧I (i + 1) s')∨∃ q,f i x s=some (.ret q)∧R q)
    (hb:∀ s,I xs.length s→∃ r,k (.done s)=some r∧P r) (hr:∀ q,R q→∃ r,k (.ret q)=some r∧P r):∃ r,bnd (rng f xs 0 s₀) k=some r∧P r:=by
  have key:∀ (ys:List α) (j:Nat) (s:σ),(∀ i,ys[i]?=xs[j + i]?)→j + ys.length=xs.length→I j s→∃ r,bnd (rng f ys j s) k=some r∧P r:=by
    intro ys
    induction ys with
    | nil=>intro j s _ hl hI;exact hb s (by simp at hl;rw [← hl];exact hI)
    | cons y ys ih =>
      intro j s hg hl hI
      have hy:xs[j]?=some y:=by have:=hg 0;simpa using this.symm
      simp only [rng]
      rcases h j y s hy hI with ⟨s',h1,h2⟩|⟨q,h1,h2⟩
      · rw [h1]
        exact ih (j + 1) s' (fun i=>by have:=hg (i + 1);rw [show j + 1 + i=j + (i + 1) from by omega,← this];simp) (by simp at hl;omega) h2
      · rw [h1,Am];exact hr q h2
  exact key xs 0 s₀ (fun i=>by rw [Nat.zero_add]) (by omega) h0
theorem Px {f:Nat→α→σ→Option (Ctl σ ρ)} {xs:List α} {s₀:σ} {k:Fin σ ρ→Option β} {r:Option β} (I:Nat→σ→Prop) (h0:I 0 s₀)
    (h:∀ i x s,xs[i]?=some x→I i s→∃ s',f i x s=some (.next s')∧I (i + 1) s') (hb:∀ s,I xs.length s→k (.done s)=r):bnd (rng f xs 0 s₀) k=r:=by
  obtain ⟨s,h1,h2⟩:=DD I h0 h
  rw [h1,Am]
  exact hb s h2
end
end
section
open Go Go.RowKit
inductive Walk (t:Tsk):List Int→Int→Prop
  | goal {s:List Int}:holdsB t.goal s=true→Walk t s 0
  | step {s:List Int} {k:Nat} {o:Opr} {c:Int}:t.ops[k]?=some o→holdsB o.pre s=true→Walk t (succ o s) c→Walk t s (c + o.cost)
theorem Ol {α:Type} {l:List α} {k:Nat} {x y:α} (h:l[k]?=some x):y∈l.take (k + 1)↔y∈l.take k∨y=x:=by
  rw [List.take_add_one,h,List.mem_append];simp
end
section
open Go Go.RowKit
structure QEn where
  key:Int
  tie:Int
  item:Int
  number:Int
theorem Ko {α:Type} {l:List α} {m i:Nat} {x:α} (h:(l.take m)[i]?=some x):l[i]?=some x:=by
  by_cases hi:i < m
  · rwa [List.getElem?_take_of_lt hi] at h
  · rw [List.getElem?_take_eq_none (by omega)] at h;cases h
def bfr (x y:QEn):Prop:=x.key < y.key∨(x.key=y.key∧(x.tie < y.tie∨(x.tie=y.tie∧x.number < y.number)))
instance (x y:QEn):Decidable (bfr x y):=by unfold bfr;infer_instance
def nb (x y:QEn):Prop:=¬ bfr x y
theorem Hj {x y z:QEn} (h1:nb x y) (h2:nb y z):nb x z:=by unfold nb bfr at *;omega
theorem KK {x y:QEn} (h:bfr x y):nb y x:=by unfold nb bfr at *;omega
theorem JG (x:QEn):nb x x:=by unfold nb bfr;omega
theorem Nw {x y:QEn} (h:nb x y):y.key≤x.key:=by unfold nb bfr at h;omega
def HeapOk (l:List QEn):Prop:=∀ (j:Nat) x y,0 < j→l[j]?=some x→l[(j - 1) / 2]?=some y→nb x y
def Over (l:List QEn) (i:Nat):Prop:=∀ (j:Nat) x y,0 < i→0 < j→(j - 1) / 2=i→l[j]?=some x→l[(i - 1) / 2]?=some y→nb x y
def UpI (l:List QEn) (i:Nat):Prop:=(∀ (j:Nat) x y,0 < j→j≠i→l[j]?=some x→l[(j - 1) / 2]?=some y→nb x y)∧Over l i
def DownI (l:List QEn) (i:Nat):Prop:=(∀ (j:Nat) x y,0 < j→(j - 1) / 2≠i→l[j]?=some x→l[(j - 1) / 2]?=some y→nb x y)∧Over l i
theorem GW {l:List QEn} {i j:Nat} {a b:QEn} (hi:l[i]?=some a) (hj:l[j]?=some b) (hne:i≠j) (k:Nat):((l.set i b).set j a)[k]?=if k=j then some a else if k=i then some b else l[k]?:=by
  by_cases h1:k=j
  · subst h1;rw [if_pos rfl,List.getElem?_set_self (by simpa using AF hj)]
  · rw [if_neg h1,List.getElem?_set_ne (by omega)]
    by_cases h2:k=i
    · subst h2;rw [if_pos rfl,List.getElem?_set_self (AF hi)]
    · rw [if_neg h2,List.getElem?_set_ne (by omega)]
theorem Ls {l:List QEn} {i j:Nat} {a b:QEn} (hi:l[i]?=some a) (hj:l[j]?=some b):((l.set i b).set j a).Perm l:=by
  have h1:=AF hi
  have h2:=AF hj
  have e1:l[i]=a:=by rw [List.getElem?_eq_getElem h1] at hi;exact Option.some.inj hi
  have e2:l[j]=b:=by rw [List.getElem?_eq_getElem h2] at hj;exact Option.some.inj hj
  rw [← e1,← e2]
  exact List.set_set_perm h1 h2
theorem UpI.step {l:List QEn} {i:Nat} {a b:QEn} (h:UpI l i) (h0:0 < i) (hi:l[i]?=some a) (hj:l[(i - 1) / 2]?=some b) (hb:bfr a b):UpI ((l.set i b).set ((i - 1) / 2) a) ((i - 1) / 2):=by
  have hne:i≠(i - 1) / 2:=by omega
  constructor
  · intro j x y hj0 hjp hx hy
    rw [GW hi hj hne,if_neg hjp] at hx
    rw [GW hi hj hne] at hy
    by_cases e1:j=i
    · subst e1
      rw [if_pos rfl] at hx hy
      obtain rfl:=Option.some.inj hx
      obtain rfl:=Option.some.inj hy
      exact KK hb
    · rw [if_neg e1] at hx
      by_cases e2:(j - 1) / 2=(i - 1) / 2
      · rw [if_pos e2] at hy
        obtain rfl:=Option.some.inj hy
        have:=h.1 j x b hj0 e1 hx (by rw [e2];exact hj)
        exact Hj this (KK hb)
      · rw [if_neg e2] at hy
        by_cases e3:(j - 1) / 2=i
        · rw [if_pos e3] at hy
          obtain rfl:=Option.some.inj hy
          exact h.2 j x b h0 hj0 e3 hx hj
        · rw [if_neg e3] at hy
          exact h.1 j x y hj0 e1 hx hy
  · intro j x y hp0 hj0 hjp hx hy
    rw [GW hi hj hne] at hx hy
    have n1:((i - 1) / 2 - 1) / 2≠(i - 1) / 2:=by omega
    have n2:((i - 1) / 2 - 1) / 2≠i:=by omega
    rw [if_neg n1,if_neg n2] at hy
    have hpp:=h.1 ((i - 1) / 2) b y hp0 (by omega) hj hy
    rw [if_neg (by omega)] at hx
    by_cases e1:j=i
    · subst e1
      rw [if_pos rfl] at hx
      obtain rfl:=Option.some.inj hx
      exact hpp
    · rw [if_neg e1] at hx
      exact Hj (h.1 j x b hj0 e1 hx (by rw [hjp];exact hj)) hpp
theorem UpI.heap {l:List QEn} {i:Nat} (h:UpI l i) (hi:i=0∨∀ x y,l[i]?=some x→l[(i - 1) / 2]?=some y→nb x y):HeapOk l:=fun j x y hj hx hy=>by
  by_cases e:j=i
  · subst e
    rcases hi with h0|h1
    · omega
    · exact h1 x y hx hy
  · exact h.1 j x y hj e hx hy
theorem DownI.step {l:List QEn} {i c:Nat} {a b:QEn} (h:DownI l i) (hc:c=2 * i + 1∨c=2 * i + 2) (hi:l[i]?=some a) (hj:l[c]?=some b) (hb:bfr b a) (hs:∀ (j:Nat) x,0 < j→(j - 1) / 2=i→l[j]?=some x→nb x b):DownI ((l.set i b).set c a) c:=by
  have hne:i≠c:=by omega
  have hcp:(c - 1) / 2=i:=by omega
  constructor
  · intro j x y hj0 hjp hx hy
    rw [GW hi hj hne] at hx hy
    rw [if_neg hjp] at hy
    by_cases e1:j=c
    · subst e1
      rw [if_pos rfl] at hx
      rw [if_pos hcp] at hy
      obtain rfl:=Option.some.inj hx
      obtain rfl:=Option.some.inj hy
      exact KK hb
    · rw [if_neg e1] at hx
      by_cases e2:j=i
      · subst e2
        rw [if_pos rfl] at hx
        rw [if_neg (by omega)] at hy
        obtain rfl:=Option.some.inj hx
        exact h.2 c _ y hj0 (by omega) hcp hj hy
      · rw [if_neg e2] at hx
        by_cases e3:(j - 1) / 2=i
        · rw [if_pos e3] at hy
          obtain rfl:=Option.some.inj hy
          exact hs j x hj0 e3 hx
        · rw [if_neg e3] at hy
          exact h.1 j x y hj0 e3 hx hy
  · intro j x y hc0 hj0 hjc hx hy
    rw [GW hi hj hne] at hx hy
    rw [if_neg (by omega),if_neg (by omega)] at hx
    rw [if_neg (by omega),if_pos hcp] at hy
    obtain rfl:=Option.some.inj hy
    exact h.1 j x _ hj0 (by omega) hx (by rw [hjc];exact hj)
theorem DownI.heap {l:List QEn} {i:Nat} (h:DownI l i) (hi:∀ (j:Nat) x y,0 < j→(j - 1) / 2=i→l[j]?=some x→l[i]?=some y→nb x y):HeapOk l:=fun j x y hj hx hy=>by
  by_cases e:(j - 1) / 2=i
  · exact hi j x y hj e hx (by rw [← e];exact hy)
  · exact h.1 j x y hj e hx hy
theorem Nx {l:List QEn} (h:HeapOk l) {e:QEn} (he:l[0]?=some e):∀ x∈l,nb x e:=by
  have key:∀ (n j:Nat) x,j≤n→l[j]?=some x→nb x e:=by
    intro n
    induction n with
    | zero =>
      intro j x hj hx
      have hj0:j=0:=by omega
      rw [hj0,he] at hx
      rw [← Option.some.inj hx]
      exact JG _
    | succ n ih =>
      intro j x hj hx
      by_cases h0:j=0
      · exact ih j x (by omega) hx
      · obtain ⟨y,hy⟩:=AD (l:=l) (k:=(j - 1) / 2) (by have:=AF hx;omega)
        exact Hj (h j x y (by omega) hx hy) (ih ((j - 1) / 2) y (by omega) hy)
  intro x hx
  obtain ⟨j,hj⟩:=List.getElem?_of_mem hx
  exact key j j x (by omega) hj
end
section
open Go Go.RowKit
theorem Kp {K V:Type} [MKey K] (z:V) (k k':K) (v:V):∀ l:List (K×V),mget z (mput l k v) k'=if k=k' then v else mget z l k'
  | []=>by simp only [mput,mget]
  | p :: r=>by
    have ih:=Kp z k k' v r
    simp only [mput]
    by_cases h1:p.1=k
    · rw [if_pos h1]
      simp only [mget]
      by_cases h2:k=k'
      · rw [if_pos h2,if_pos h2]
      · rw [if_neg h2,if_neg h2,if_neg (by rw [h1];exact h2)]
    · rw [if_neg h1]
      simp only [mget,ih]
      by_cases h2:k=k'
      · rw [if_pos h2,if_pos h2,if_neg (by rw [← h2];exact h1)]
      · rw [if_neg h2,if_neg h2]
theorem QB {xs:List Int} (hl:xs.length≤1000000):Ci xs=some xs.reverse:=by
  unfold Ci
  rw [CT (by unfold inI64;omega),Am]
  refine Pw (fun s=>∃ i:Nat,s.2.1=(i:Int)∧s.2.1 + s.2.2=(xs.length:Int) - 1∧i≤xs.length∧s.1.length=xs.length∧∀ k:Nat,k < xs.length→s.1[k]?=if k < i∨xs.length - 1 - k < i then xs[xs.length - 1 - k]? else xs[k]?) (fun s=>s.1=xs.reverse) (fun s=>(s.2.2 - s.2.1 + 1).toNat) ⟨0,rfl,by dsimp only;omega,by omega,rfl,fun k hk=>by rw [if_neg (by omega)]⟩ ?_ (fun s hs=>by rw [BP,hs])
  rintro ⟨ys,i',j⟩ ⟨i,hi,hij,hil,hlen,hg⟩
  dsimp only at hi hij hlen hg ⊢
  subst hi
  by_cases hlt:(i:Int) < j
  · obtain ⟨jn,rfl⟩:∃ jn:Nat,j=(jn:Int):=⟨j.toNat,by omega⟩
    obtain ⟨a,ha⟩:=AD (l:=ys) (k:=jn) (by omega)
    obtain ⟨b,hb⟩:=AD (l:=ys) (k:=i) (by omega)
    rw [if_pos hlt,Bh,ha,Am,Bh,hb,Am,Am,Int.toNat_natCast,Int.toNat_natCast,Bh,List.getElem?_set_ne (by omega),ha,Am,CT (by unfold inI64;omega),Am,CT (by unfold inI64;omega),Am]
    refine .inl ⟨_,rfl,⟨i + 1,by dsimp only;omega,by dsimp only;omega,by omega,by simp [hlen],fun k hk=>?_⟩,by dsimp only;omega⟩
    dsimp only
    have hga:=hg jn (by omega)
    rw [ha,if_neg (by omega)] at hga
    have hgb:=hg i (by omega)
    rw [hb,if_neg (by omega)] at hgb
    by_cases e1:k=jn
    · subst e1
      rw [List.getElem?_set_self (by simp;omega),if_pos (by omega),hgb]
      congr 1;omega
    · rw [List.getElem?_set_ne (by omega)]
      by_cases e2:k=i
      · subst e2
        rw [List.getElem?_set_self (by omega),if_pos (by omega),hga]
        congr 1;omega
      · rw [List.getElem?_set_ne (by omega),hg k hk]
        by_cases e3:k < i∨xs.length - 1 - k < i
        · rw [if_pos e3,if_pos (by omega)]
        · rw [if_neg e3,if_neg (by omega)]
  · rw [if_neg hlt]
    refine .inr ⟨_,rfl,?_⟩
    dsimp only
    apply List.ext_getElem?
    intro k
    rcases Nat.lt_or_ge k xs.length with hk|hk
    · rw [List.getElem?_reverse hk,hg k hk]
      by_cases e3:k < i∨xs.length - 1 - k < i
      · rw [if_pos e3]
      · rw [if_neg e3];congr 1;omega
    · rw [List.getElem?_eq_none (by omega),List.getElem?_eq_none (by simp;omega)]
end
section
open Go Go.RowKit
theorem PlanR.snoc {t:Tsk} {s p s':List Int} {C:Int} (h:PlanR t s p s' C) {k:Nat} {o:Opr} (ho:t.ops[k]?=some o) (hp:holdsB o.pre s'=true):PlanR t s (p ++ [(k:Int)]) (succ o s') (C + o.cost):=by
  induction h with
  | nil=>have:=PlanR.cons ho hp (PlanR.nil (t:=t) (s:=succ o _));simpa [Int.add_comm] using this
  | cons ho' hp' _ ih=>have:=PlanR.cons ho' hp' (ih hp);rw [Int.add_assoc];exact this
theorem PlanR.walk {t:Tsk} {s p s':List Int} {C:Int} (h:PlanR t s p s' C) (hg:holdsB t.goal s'=true):Walk t s C:=by
  induction h with
  | nil=>exact .goal hg
  | cons ho hp _ ih=>have:=Walk.step ho hp (ih hg);rwa [Int.add_comm] at this
end
section
open Go Go.RowKit
theorem HX {α:Type} [DecidableEq α]:∀ {a b:List α},a.Nodup→(∀ x∈a,x∈b)→a.length≤b.length
  | [],_,_,_=>Nat.zero_le _
  | x :: a,b,hn,hs=>by
    have hx:=hs x List.mem_cons_self
    have h1:=HX (a:=a) (b:=b.erase x) (List.nodup_cons.1 hn).2 fun y hy=>(List.mem_erase_of_ne (fun e=>(List.nodup_cons.1 hn).1 (by rw [← e];exact hy))).2 (hs y (List.mem_cons_of_mem _ hy))
    have h2:=List.length_erase_of_mem hx
    have h3:=List.length_pos_of_mem hx
    simp only [List.length_cons]
    omega
theorem Lt {L:List (List Int)} (h:∀ (i j:Nat) s,L[i]?=some s→L[j]?=some s→i=j):L.Nodup:=by
  rw [List.nodup_iff_pairwise_ne,List.pairwise_iff_getElem]
  intro i j hi hj hij he
  have:=h i j L[i] (List.getElem?_eq_getElem hi) (by rw [he];exact List.getElem?_eq_getElem hj)
  omega
end
section
open Go Go.RowKit
def appB (t:Tsk) (s:List Int) (k:Nat):Bool:=match t.ops[k]? with|some o=>holdsB o.pre s|none=>false
def appN (t:Tsk) (s:List Int) (m:Nat):List Nat:=(List.range m).filter (appB t s)
def sucN (t:Tsk) (s:List Int) (k:Nat):List Int:=match t.ops[k]? with|some o=>succ o s|none=>s
theorem Lu (t:Tsk) (s:List Int):appl t s=(appN t s t.ops.length).map fun k:Nat=>(k:Int):=rfl
theorem Py (t:Tsk) (s:List Int) (k:Nat):sucOf t s (k:Int)=⟨(k:Int),sucN t s k⟩:=rfl
theorem Mp {t:Tsk} {s:List Int} {k:Nat} {o:Opr} (ho:t.ops[k]?=some o):appB t s k=holdsB o.pre s∧sucN t s k=succ o s:=by unfold appB sucN;rw [ho];exact ⟨rfl,rfl⟩
end
section
set_option linter.unusedVariables false
set_option linter.unusedSimpArgs false
open Go Go.RowKit
def UpN {α:Type} (i:Nat) (x:α) (l l':List α):Prop:=l'[i]?=some x∧∀ j,j≠i→l'[j]?=l[j]?
theorem Pz {α:Type} {i:Nat} {x:α} {l:List α} (h:i < l.length):UpN i x l (l.set i x):=⟨List.getElem?_set_self h,fun j hj=>List.getElem?_set_ne (by omega)⟩
theorem PA {α:Type} {x:α} {l:List α}:UpN l.length x l (l ++ [x]):=⟨by simp,fun j hj=>by
  rcases Nat.lt_or_ge j l.length with h|h
  · exact List.getElem?_append_left h
  · rw [List.getElem?_append_right h,List.getElem?_eq_none (l:=l) h,List.getElem?_eq_none (by simp;omega)]⟩
theorem Lv {t:Tsk} {s:List Int} {k:Nat} {o:Opr} (ho:t.ops[k]?=some o) (hp:holdsB o.pre s=true):(k:Int)∈appl t s:=by
  rw [Lu,List.mem_map]
  exact ⟨k,List.mem_filter.2 ⟨List.mem_range.2 (AF ho),by rw [(Mp ho).1];exact hp⟩,rfl⟩
def cntN (N:List ONd):Nat:=(N.filter fun n=>n.fin).length
theorem Om (N:List ONd) {n:ONd} (h:n.fin=false):cntN (N ++ [n])=cntN N:=by simp [cntN,h]
theorem Lw:∀ {N:List ONd} {i:Nat} {a b:ONd},N[i]?=some a→a.fin=false→b.fin=false→cntN (N.set i b)=cntN N
  | [],i,_,_,h,_,_=>by simp at h
  | n :: N,0,a,b,h,ha,hb=>by simp at h;subst h;simp [cntN,ha,hb]
  | n :: N,i + 1,a,b,h,ha,hb=>by
    have:=Lw (N:=N) (i:=i) (by simpa using h) ha hb
    simp only [cntN,List.set_cons_succ,List.filter_cons] at this ⊢
    split<;>simp [this]
theorem Kq:∀ {N:List ONd} {i:Nat} {a b:ONd},N[i]?=some a→a.fin=false→b.fin=true→cntN (N.set i b)=cntN N + 1
  | [],i,_,_,h,_,_=>by simp at h
  | n :: N,0,a,b,h,ha,hb=>by simp at h;subst h;simp [cntN,ha,hb]
  | n :: N,i + 1,a,b,h,ha,hb=>by
    have:=Kq (N:=N) (i:=i) (by simpa using h) ha hb
    simp only [cntN,List.set_cons_succ,List.filter_cons] at this ⊢
    split<;>simp [this]
theorem PB (N:List ONd):cntN N≤N.length:=List.length_filter_le _ _
inductive OR (t:Tsk) (cn:List Int→List Int):List Int→Prop
  | init:OR t cn (cn t.init)
  | step {s:List Int} {k:Nat} {o:Opr}:OR t cn s→holdsB t.goal s=false→t.ops[k]?=some o→holdsB o.pre s=true→OR t cn (cn (succ o s))
inductive WalkC (t:Tsk) (cn:List Int→List Int):List Int→Int→Prop
  | goal {s:List Int}:holdsB t.goal s=true→WalkC t cn s 0
  | step {s:List Int} {k:Nat} {o:Opr} {C:Int}:t.ops[k]?=some o→holdsB o.pre s=true→WalkC t cn (cn (succ o s)) C→WalkC t cn s (C + o.cost)
theorem Ny {t:Tsk} (h:TaskOk t) {cn:List Int→List Int} {s:List Int} {C:Int} (hw:WalkC t cn s C):0≤C:=by
  induction hw with
  | goal _=>omega
  | @step s k o C ho _ _ ih=>have:=(h.2.2.2.2.2 k o ho).1;omega
structure OrI (t:Tsk) (cn wd:List Int→List Int) (D:Nat→Int→Prop) (N:List ONd) (hp:List QEn) (ord:Nat→Nat) (E:Nat):Prop where
  root:∃ n,N[0]?=some n∧n.state=cn t.init∧n.used=wd t.init∧n.cost=0∧n.parent=-1∧n.op=-1
  link:∀ (i:Nat) n,N[i]?=some n→i=0∨∃ (p q:Nat) (o:Opr) (m:ONd),n.parent=(p:Int)∧n.op=(q:Int)∧t.ops[q]?=some o∧N[p]?=some m∧m.fin=true∧holdsB o.pre m.state=true∧n.state=cn (succ o m.state)∧n.used=wd (succ o m.state)∧n.cost=m.cost + o.cost∧(n.fin=true→ord p < ord i)
  ordl:∀ (i:Nat) n,N[i]?=some n→n.fin=true→ord i < E
  lower:∀ (j:Nat) n,N[j]?=some n→n.fin=true→∀ e∈hp,n.cost≤e.key
  ent:∀ e∈hp,∃ (i:Nat) (n:ONd),e.item=(i:Int)∧N[i]?=some n∧n.cost≤e.key
  opn:∀ (i:Nat) n,N[i]?=some n→n.fin=false→∃ e∈hp,e.key=n.cost∧e.item=(i:Int)
  bound:∀ (i:Nat) n,N[i]?=some n→0≤n.cost∧n.cost≤(E:Int) * 1048576
  nogoal:∀ (j:Nat) n,N[j]?=some n→n.fin=true→holdsB t.goal n.state=false
  rel:∀ (j:Nat) n q,N[j]?=some n→n.fin=true→q∈appl t n.state→D j q→∃ (k:Nat) (o:Opr) (i:Nat) (m:ONd),q=(k:Int)∧t.ops[k]?=some o∧N[i]?=some m∧m.state=cn (succ o n.state)∧m.cost≤n.cost + o.cost
  num:cntN N=E
  rch:∀ (i:Nat) n,N[i]?=some n→OR t cn n.state
  first:0 < E→∃ n,N[0]?=some n∧n.fin=true
  uniq:∀ (i j:Nat) n m,N[i]?=some n→N[j]?=some m→n.state=m.state→i=j
section
variable {t : Tsk} {cn wd : List Int → List Int} {D : Nat → Int → Prop} {N N' : List ONd} {hp hp' : List QEn} {ord : Nat → Nat} {E : Nat}
theorem OrI.upd (h:OrI t cn wd D N hp ord E) (hok:TaskOk t) {i p q:Nat} {o:Opr} {n m:ONd} {e:QEn} (hN:UpN i n N N') (hh:hp'.Perm (e :: hp)) (ek:e.key=n.cost) (ei:e.item=(i:Int)) (hle:N.length≤N'.length) (hc:cntN N'=cntN N)
    (hi:(N[i]?=none∧∀ (j:Nat) a,N[j]?=some a→a.state≠n.state)∨∃ a,N[i]?=some a∧a.state=n.state∧a.fin=false∧n.cost < a.cost)
    (hd:n.fin=false) (hpa:n.parent=(p:Int)) (hop:n.op=(q:Int)) (ho:t.ops[q]?=some o) (hm:N[p]?=some m) (hmd:m.fin=true) (hpre:holdsB o.pre m.state=true) (hst:n.state=cn (succ o m.state)) (hus:n.used=wd (succ o m.state)) (hx:n.cost=m.cost + o.cost) (hmax:∀ (j:Nat) a,N[j]?=some a→a.fin=true→a.cost≤m.cost) (hxE:n.cost≤(E:Int) * 1048576) :
    OrI t cn wd D N' hp' ord E:=by
  have hoc:=(hok.2.2.2.2.2 q o ho).1
  have hcp:=(h.bound p m hm).1
  have hfin:∀ (j:Nat) a,N[j]?=some a→a.fin=true→j≠i:=fun j a hj hja e1=>by
    subst e1
    rcases hi with ⟨hn,_⟩|⟨b,hb,_,hbd,_⟩
    · rw [hj] at hn;cases hn
    · rw [hj] at hb;obtain rfl:=Option.some.inj hb;rw [hja] at hbd;cases hbd
  have hfin':∀ (j:Nat) a,N'[j]?=some a→a.fin=true→j≠i∧N[j]?=some a:=fun j a hj hja=>by
    have hne:j≠i:=fun e1=>by subst e1;rw [hN.1] at hj;obtain rfl:=Option.some.inj hj;rw [hd] at hja;cases hja
    exact ⟨hne,by rw [← hN.2 j hne];exact hj⟩
  obtain ⟨n0,r1,r2,r3,r4,r5,r6⟩:=h.root
  have h0:(0:Nat)≠i:=fun e1=>by
    subst e1
    rcases hi with ⟨hn,_⟩|⟨b,hb,_,_,hlt⟩
    · rw [r1] at hn;cases hn
    · rw [r1] at hb;obtain rfl:=Option.some.inj hb;omega
  have hpi:=hfin p m hm hmd
  refine ⟨⟨n0,by rw [hN.2 0 h0];exact r1,r2,r3,r4,r5,r6⟩,?_,?_,?_,?_,?_,?_,?_,?_,by rw [hc];exact h.num,?_,?_,?_⟩
  · intro j a hj
    by_cases e1:j=i
    · subst e1
      rw [hN.1] at hj
      obtain rfl:=Option.some.inj hj
      exact .inr ⟨p,q,o,m,hpa,hop,ho,by rw [hN.2 p hpi];exact hm,hmd,hpre,hst,hus,hx,fun hh=>by rw [hd] at hh;cases hh⟩
    · rw [hN.2 j e1] at hj
      rcases h.link j a hj with hh|⟨p',q',o',m',a1,a2,a3,a4,a5,a6⟩
      · exact .inl hh
      · exact .inr ⟨p',q',o',m',a1,a2,a3,by rw [hN.2 p' (hfin p' m' a4 a5)];exact a4,a5,a6⟩
  · intro j a hj hja
    exact h.ordl j a (hfin' j a hj hja).2 hja
  · intro j a hj hja e' he'
    obtain ⟨_,hj⟩:=hfin' j a hj hja
    rcases List.mem_cons.1 (hh.mem_iff.1 he') with rfl|hm'
    · have:=hmax j a hj hja;omega
    · exact h.lower j a hj hja e' hm'
  · intro e' he'
    rcases List.mem_cons.1 (hh.mem_iff.1 he') with rfl|hm'
    · exact ⟨i,n,ei,hN.1,by omega⟩
    · obtain ⟨j,a,j1,j2,j3⟩:=h.ent e' hm'
      by_cases e1:j=i
      · subst e1
        rcases hi with ⟨hn,_⟩|⟨b,hb,_,_,hlt⟩
        · rw [j2] at hn;cases hn
        · rw [j2] at hb
          obtain rfl:=Option.some.inj hb
          exact ⟨j,n,j1,hN.1,by omega⟩
      · exact ⟨j,a,j1,by rw [hN.2 j e1];exact j2,j3⟩
  · intro j a hj hja
    by_cases e1:j=i
    · subst e1
      rw [hN.1] at hj
      obtain rfl:=Option.some.inj hj
      exact ⟨e,hh.mem_iff.2 List.mem_cons_self,ek,ei⟩
    · rw [hN.2 j e1] at hj
      obtain ⟨e',m',r⟩:=h.opn j a hj hja
      exact ⟨e',hh.mem_iff.2 (List.mem_cons_of_mem _ m'),r⟩
  · intro j a hj
    by_cases e1:j=i
    · subst e1
      rw [hN.1] at hj
      obtain rfl:=Option.some.inj hj
      omega
    · rw [hN.2 j e1] at hj;exact h.bound j a hj
  · intro j a hj hja
    exact h.nogoal j a (hfin' j a hj hja).2 hja
  · intro j a q' hj hja hq hD
    obtain ⟨hne,hj⟩:=hfin' j a hj hja
    obtain ⟨k,o',i',b,a1,a2,a3,a4,a5⟩:=h.rel j a q' hj hja hq hD
    by_cases e1:i'=i
    · subst e1
      rcases hi with ⟨hn,_⟩|⟨b',hb,hbs,_,hlt⟩
      · rw [a3] at hn;cases hn
      · rw [a3] at hb
        obtain rfl:=Option.some.inj hb
        exact ⟨k,o',i',n,a1,a2,hN.1,by rw [← hbs];exact a4,by omega⟩
    · exact ⟨k,o',i',b,a1,a2,by rw [hN.2 i' e1];exact a3,a4,a5⟩
  · intro j a hj
    by_cases e1:j=i
    · subst e1
      rw [hN.1] at hj
      obtain rfl:=Option.some.inj hj
      rw [hst]
      exact (h.rch p m hm).step (h.nogoal p m hm hmd) ho hpre
    · rw [hN.2 j e1] at hj;exact h.rch j a hj
  · intro hE
    obtain ⟨b,b1,b2⟩:=h.first hE
    exact ⟨b,by rw [hN.2 0 h0];exact b1,b2⟩
  · intro a b x y hx' hy' hs
    have key:∀ (j:Nat) z,j≠i→N'[j]?=some z→z.state≠n.state:=fun j z hne hz hzs=>by
      rw [hN.2 j hne] at hz
      rcases hi with ⟨_,hn⟩|⟨b',hb,hbs,_⟩
      · exact hn j z hz hzs
      · exact hne (h.uniq j i z b' hz hb (by rw [hzs,hbs]))
    by_cases ea:a=i
    · subst ea
      rw [hN.1] at hx'
      obtain rfl:=Option.some.inj hx'
      by_cases eb:b=a
      · exact eb.symm
      · exact (key b y eb hy' hs.symm).elim
    · by_cases eb:b=i
      · subst eb
        rw [hN.1] at hy'
        obtain rfl:=Option.some.inj hy'
        exact (key a x ea hx' hs).elim
      · rw [hN.2 a ea] at hx'
        rw [hN.2 b eb] at hy'
        exact h.uniq a b x y hx' hy' hs
theorem OrI.drop (h:OrI t cn wd D N hp ord E) {e:QEn} (hh:hp.Perm (e :: hp')) {i:Nat} {n:ONd} (hi:e.item=(i:Int)) (hn:N[i]?=some n) (hd:n.fin=true∨n.cost≠e.key):OrI t cn wd D N hp' ord E :=
  { h with
    lower:=fun j a hj hja e' he'=>h.lower j a hj hja e' (hh.mem_iff.2 (List.mem_cons_of_mem _ he'))
    ent:=fun e' he'=>h.ent e' (hh.mem_iff.2 (List.mem_cons_of_mem _ he'))
    opn := fun j a hj hja=>by
      obtain ⟨e',m,k1,k2⟩:=h.opn j a hj hja
      rcases List.mem_cons.1 (hh.mem_iff.1 m) with rfl|hm
      · exfalso
        have e1:i=j:=by omega
        subst e1
        rw [hn] at hj
        obtain rfl:=Option.some.inj hj
        rcases hd with hd|hd
        · rw [hja] at hd;cases hd
        · exact hd k1.symm
      · exact ⟨e',hm,k1,k2⟩ }
theorem OrI.mark (h:OrI t cn wd (fun _ _=>True) N hp ord E) {e:QEn} (hh:hp.Perm (e :: hp')) (hmin:∀ x∈hp,nb x e) {i:Nat} {n n':ONd} (hi:e.item=(i:Int)) (hn:N[i]?=some n) (hf:n.fin=false) (hc:n.cost=e.key) (hg:holdsB t.goal n.state=false) (hn':n'={ n with fin:=true }) :
    OrI t cn wd (fun j _=>j≠i) (N.set i n') hp' (fun j=>if j=i then E else ord j) (E + 1):=by
  subst hn'
  have hil:=AF hn
  have hset:∀ (j:Nat) a,(N.set i { n with fin:=true })[j]?=some a→(j=i∧a={ n with fin:=true })∨(j≠i∧N[j]?=some a):=fun j a hj=>by
    by_cases e1:j=i
    · subst e1;rw [List.getElem?_set_self hil] at hj;exact .inl ⟨rfl,(Option.some.inj hj).symm⟩
    · rw [List.getElem?_set_ne (by omega)] at hj;exact .inr ⟨e1,hj⟩
  have hkeep:∀ (j:Nat) a,N[j]?=some a→a.fin=true→j≠i∧(N.set i { n with fin:=true })[j]?=some a:=fun j a hj hja=>by
    have hne:j≠i:=fun e1=>by subst e1;rw [hn] at hj;obtain rfl:=Option.some.inj hj;rw [hja] at hf;cases hf
    exact ⟨hne,by rw [List.getElem?_set_ne (by omega)];exact hj⟩
  have hst:∀ (j:Nat) a,(N.set i { n with fin:=true })[j]?=some a→∃ b,N[j]?=some b∧b.state=a.state∧b.cost=a.cost:=fun j a hj=>by
    rcases hset j a hj with ⟨rfl,rfl⟩|⟨_,h2⟩
    · exact ⟨n,hn,rfl,rfl⟩
    · exact ⟨a,h2,rfl,rfl⟩
  have hto:∀ (j:Nat) b,N[j]?=some b→∃ a,(N.set i { n with fin:=true })[j]?=some a∧a.state=b.state∧a.cost=b.cost∧a.used=b.used∧a.parent=b.parent∧a.op=b.op:=fun j b hj=>by
    by_cases e1:j=i
    · subst e1
      rw [hn] at hj
      obtain rfl:=Option.some.inj hj
      exact ⟨_,List.getElem?_set_self hil,rfl,rfl,rfl,rfl,rfl⟩
    · exact ⟨b,by rw [List.getElem?_set_ne (by omega)];exact hj,rfl,rfl,rfl,rfl,rfl⟩
  have hord:∀ (p:Nat) (m:ONd),N[p]?=some m→m.fin=true→ord p < E:=fun p m h1 h2=>h.ordl p m h1 h2
  refine ⟨?_,?_,?_,?_,?_,?_,?_,?_,?_,by rw [Kq hn hf rfl,h.num],?_,?_,?_⟩
  · obtain ⟨n0,r1,r2,r3,r4,r5,r6⟩:=h.root
    obtain ⟨a,a1,a2,a3,a4,a5,a6⟩:=hto 0 n0 r1
    exact ⟨a,a1,a2.trans r2,a4.trans r3,a3.trans r4,a5.trans r5,a6.trans r6⟩
  · intro j a hj
    rcases hset j a hj with ⟨rfl,rfl⟩|⟨hne,hj2⟩
    · rcases h.link j n hn with hh|⟨p',q',o',m',a1,a2,a3,a4,a5,a6,a7,a8,a9,a10⟩
      · exact .inl hh
      · obtain ⟨hne,hp2⟩:=hkeep p' m' a4 a5
        exact .inr ⟨p',q',o',m',a1,a2,a3,hp2,a5,a6,a7,a8,a9,fun _=>by rw [if_neg hne,if_pos rfl];exact hord p' m' a4 a5⟩
    · rcases h.link j a hj2 with hh|⟨p',q',o',m',a1,a2,a3,a4,a5,a6,a7,a8,a9,a10⟩
      · exact .inl hh
      · obtain ⟨hne',hp2⟩:=hkeep p' m' a4 a5
        exact .inr ⟨p',q',o',m',a1,a2,a3,hp2,a5,a6,a7,a8,a9,fun hd=>by rw [if_neg hne',if_neg hne];exact a10 hd⟩
  · intro j a hj hja
    rcases hset j a hj with ⟨rfl,rfl⟩|⟨hne,hj2⟩
    · rw [if_pos rfl];omega
    · rw [if_neg hne];have:=h.ordl j a hj2 hja;omega
  · intro j a hj hja e' he'
    have hm:e'∈hp:=hh.mem_iff.2 (List.mem_cons_of_mem _ he')
    rcases hset j a hj with ⟨rfl,rfl⟩|⟨_,hj2⟩
    · have:=Nw (hmin e' hm);dsimp only;omega
    · exact h.lower j a hj2 hja e' hm
  · intro e' he'
    obtain ⟨j,b,j1,j2,j3⟩:=h.ent e' (hh.mem_iff.2 (List.mem_cons_of_mem _ he'))
    obtain ⟨a,a1,a2,a3,_⟩:=hto j b j2
    exact ⟨j,a,j1,a1,by omega⟩
  · intro j a hj hja
    rcases hset j a hj with ⟨rfl,rfl⟩|⟨hne,hj2⟩
    · cases hja
    · obtain ⟨e',m,k1,k2⟩:=h.opn j a hj2 hja
      rcases List.mem_cons.1 (hh.mem_iff.1 m) with rfl|hm
      · omega
      · exact ⟨e',hm,k1,k2⟩
  · intro j a hj
    obtain ⟨b,b1,_,b3⟩:=hst j a hj
    have:=h.bound j b b1
    omega
  · intro j a hj hja
    rcases hset j a hj with ⟨rfl,rfl⟩|⟨_,hj2⟩
    · exact hg
    · exact h.nogoal j a hj2 hja
  · intro j a q hj hja hq hD
    rcases hset j a hj with ⟨rfl,rfl⟩|⟨_,hj2⟩
    · exact absurd rfl hD
    · obtain ⟨k,o,i',m,a1,a2,a3,a4,a5⟩:=h.rel j a q hj2 hja hq trivial
      obtain ⟨b,b1,b2,b3,_⟩:=hto i' m a3
      exact ⟨k,o,i',b,a1,a2,b1,by rw [b2];exact a4,by omega⟩
  · intro j a hj
    obtain ⟨b,b1,b2,_⟩:=hst j a hj
    rw [← b2];exact h.rch j b b1
  · intro _
    by_cases h0:i=0
    · subst h0;exact ⟨_,List.getElem?_set_self hil,rfl⟩
    · rcases h.link i n hn with hh|⟨p',_,_,m',_,_,_,a4,a5,_⟩
      · exact absurd hh h0
      · have hE:0 < E:=by have:=h.ordl p' m' a4 a5;omega
        obtain ⟨b,b1,b2⟩:=h.first hE
        exact ⟨b,(hkeep 0 b b1 b2).2,b2⟩
  · intro a b x y hx hy hs
    obtain ⟨x',x1,x2,_⟩:=hst a x hx
    obtain ⟨y',y1,y2,_⟩:=hst b y hy
    exact h.uniq a b x' y' x1 y1 (by rw [x2,y2,hs])
theorem OrI.front (h:OrI t cn wd (fun _ _=>True) N hp ord E) (hok:TaskOk t) {s:List Int} {C:Int} (hw:WalkC t cn s C):∀ (i:Nat) n,N[i]?=some n→n.state=s→∃ e∈hp,e.key≤n.cost + C:=by
  induction hw with
  | @goal s hg =>
    intro i n hi hs
    cases hb:n.fin with
    | false=>obtain ⟨e,m,k1,_⟩:=h.opn i n hi hb;exact ⟨e,m,by omega⟩
    | true=>have:=h.nogoal i n hi hb;rw [hs,hg] at this;cases this
  | @step s k o C ho hk hw ih =>
    intro i n hi hs
    have h1:=Ny hok hw
    have h2:=(hok.2.2.2.2.2 k o ho).1
    cases hb:n.fin with
    | false=>obtain ⟨e,m,k1,_⟩:=h.opn i n hi hb;exact ⟨e,m,by omega⟩
    | true =>
      obtain ⟨k',o',i',m,a1,a2,a3,a4,a5⟩:=h.rel i n (k:Int) hi hb (by rw [hs];exact Lv ho hk) trivial
      have e1:k=k':=by omega
      subst e1
      rw [ho] at a2
      obtain rfl:=Option.some.inj a2
      rw [hs] at a4
      obtain ⟨e,m',k1⟩:=ih i' m a3 a4
      exact ⟨e,m',by omega⟩
theorem OrI.all (h:OrI t cn wd (fun _ _=>True) N [] ord E) {s:List Int} (hs:OR t cn s):∃ (i:Nat) (n:ONd),N[i]?=some n∧n.state=s∧n.fin=true:=by
  have hdone:∀ (i:Nat) n,N[i]?=some n→n.fin=true:=fun i n hi=>by
    cases hb:n.fin with
    | true=>rfl
    | false=>obtain ⟨e,m,_⟩:=h.opn i n hi hb;simp at m
  induction hs with
  | init=>obtain ⟨n,r1,r2,_⟩:=h.root;exact ⟨0,n,r1,r2,hdone 0 n r1⟩
  | @step s k o _ _ ho hp ih =>
    obtain ⟨i,n,i1,i2,i3⟩:=ih
    obtain ⟨k',o',i',m,a1,a2,a3,a4,_⟩:=h.rel i n (k:Int) i1 i3 (by rw [i2];exact Lv ho hp) trivial
    have e1:k=k':=by omega
    subst e1
    rw [ho] at a2
    obtain rfl:=Option.some.inj a2
    exact ⟨i',m,a3,by rw [a4,i2],hdone i' m a3⟩
theorem OrI.more (h:OrI t cn wd D N hp ord E) {D':Nat→Int→Prop} {j₀:Nat} {q₀:Int} (hD:∀ j q,D' j q→D j q∨(j=j₀∧q=q₀)) {n m:ONd} (hn:N[j₀]?=some n) {k:Nat} {o:Opr} {i:Nat} (h1:q₀=(k:Int)) (h2:t.ops[k]?=some o) (h3:N[i]?=some m) (h4:m.state=cn (succ o n.state)) (h6:m.cost≤n.cost + o.cost):OrI t cn wd D' N hp ord E :=
  { h with
    rel := fun j a q hj hja hq hd=>by
      rcases hD j q hd with hd|⟨rfl,rfl⟩
      · exact h.rel j a q hj hja hq hd
      · rw [hn] at hj
        obtain rfl:=Option.some.inj hj
        exact ⟨k,o,i,m,h1,h2,h3,h4,h6⟩ }
inductive TrN (N:List ONd):Nat→List Nat→Prop
  | root {n:ONd}:N[0]?=some n→n.parent=-1→TrN N 0 [0]
  | step {i p:Nat} {n:ONd} {l:List Nat}:N[i]?=some n→n.parent=(p:Int)→TrN N p l→TrN N i (l ++ [i])
theorem OrI.trace (h:OrI t cn wd D N hp ord E):∀ (b i:Nat) n,ord i < b→N[i]?=some n→n.fin=true→∃ l,TrN N i l∧l.length≤ord i + 1:=by
  intro b
  induction b with
  | zero=>intro i n hb;omega
  | succ b ih =>
    intro i n hb hi hd
    rcases h.link i n hi with rfl|⟨p,q,o,m,a1,a2,a3,a4,a5,a6,a7,a8,a9,a10⟩
    · obtain ⟨n0,r1,_,_,_,r5,_⟩:=h.root
      exact ⟨[0],.root r1 r5,by simp⟩
    · have ho:=a10 hd
      obtain ⟨l,l1,l2⟩:=ih p m (by omega) a4 a5
      exact ⟨l ++ [i],.step hi a1 l1,by simp;omega⟩
theorem OrI.path (h:OrI t cn wd D N hp ord E) {i:Nat} {n:ONd} (hi:N[i]?=some n):∃ l,TrN N i l∧l.length≤E + 1:=by
  rcases h.link i n hi with rfl|⟨p,q,o,m,a1,a2,a3,a4,a5,_⟩
  · obtain ⟨n0,r1,_,_,_,r5,_⟩:=h.root
    exact ⟨[0],.root r1 r5,by simp⟩
  · have ho:=h.ordl p m a4 a5
    obtain ⟨l,l1,l2⟩:=h.trace (ord p + 1) p m (by omega) a4 a5
    exact ⟨l ++ [i],.step hi a1 l1,by simp;omega⟩
end
end
section
open Go Go.RowKit
abbrev BQ:=BxR 67 73 OEn
abbrev AI:=An 73 OEn
def toQ (x:OEn):QEn:=⟨x.cost,0,x.node,x.number⟩
def qs (l:List OEn):List QEn:=l.map toQ
theorem FI (l:List OEn):(qs l).length=l.length:=by simp [qs]
theorem FJ {l:List OEn} {i:Nat} {x:OEn} (h:l[i]?=some x):(qs l)[i]?=some (toQ x):=by unfold qs;rw [List.getElem?_map,h];rfl
theorem HY (l:List OEn) (i:Nat) (x:OEn):qs (l.set i x)=(qs l).set i (toQ x):=by unfold qs;rw [List.map_set]
theorem PC (l:List OEn) (n:Nat):qs (l.take n)=(qs l).take n:=by unfold qs;rw [List.map_take]
theorem Ja {l:List OEn} {i j:Nat} {a b:OEn} (ha:l[i]?=some a) (hb:l[j]?=some b):Cd l (i:Int) (j:Int)=some (decide (bfr (toQ a) (toQ b))):=by
  unfold Cd
  rw [Bh,ha,Am,Bh,hb,Am,Am,Am,Am,Am]
  unfold bfr toQ
  by_cases h2:a.cost=b.cost
  · rw [if_neg (by simp [h2])]
    by_cases h3:a.number < b.number
    · rw [if_pos h3,Am];simp [h2,h3]
    · rw [if_neg h3,Am];simp [h2,h3]
  · rw [if_pos h2]
    by_cases h1:a.cost < b.cost
    · rw [if_pos h1,Am];simp [h1]
    · rw [if_neg h1,Am];simp [h1,h2]
theorem Jb {l:List OEn} {i j:Nat} {a b:OEn} (ha:l[i]?=some a) (hb:l[j]?=some b):BU l (i:Int) (j:Int)=some ((l.set i b).set j a):=by
  have hil:=AF ha
  have hjl:=AF hb
  obtain ⟨c,hc⟩:=AD (l:=l.set i b) (k:=j) (by simp;exact hjl)
  unfold BU
  rw [Bh,hb,Am,Bh,ha,Am,Am,Int.toNat_natCast,Bh,hc,Am,Int.toNat_natCast]
theorem QC {q:BQ} {i:Nat} (hi:i < q.l.length) (hl:q.l.length≤1000000) (h:UpI (qs q.l) i):∃ r,Db q (i:Int)=some r∧HeapOk (qs r.l)∧(qs r.l).Perm (qs q.l):=by
  unfold Db
  refine Nv (fun s=>∃ i:Nat,s.1=(i:Int)∧i < s.2.l.length∧UpI (qs s.2.l) i∧(qs s.2.l).Perm (qs q.l)) (fun s=>HeapOk (qs s.2.l)∧(qs s.2.l).Perm (qs q.l)) (fun _=>False) (fun s=>s.1.toNat) ⟨i,rfl,hi,h,List.Perm.refl _⟩ ?_ (fun s hs=>⟨_,rfl,hs⟩) (fun s hs=>hs.elim)
  rintro ⟨c,s⟩ ⟨i,hc,hi,hu,hp⟩
  dsimp only at hc hi hu hp ⊢
  subst hc
  have hlen:=hp.length_eq
  rw [FI,FI] at hlen
  rw [CT (by unfold inI64;omega),Am]
  by_cases h0:0 < (i:Int)
  · have hq:quoT ((i:Int) - 1) 2=some (((i - 1) / 2:Nat):Int):=by
      unfold quoT;rw [if_pos (by omega),if_pos (by omega)];congr 1;omega
    obtain ⟨a,ha⟩:=AD (l:=s.l) (k:=i) hi
    obtain ⟨b,hb⟩:=AD (l:=s.l) (k:=(i - 1) / 2) (by omega)
    rw [hq,Am,if_neg (by omega),Ja ha hb,Am]
    by_cases hab:bfr (toQ a) (toQ b)
    · rw [decide_eq_true hab,Bj,Am,BB,Jb hb ha,Am]
      have e1:qs ((s.l.set ((i - 1) / 2) a).set i b)=((qs s.l).set i (toQ b)).set ((i - 1) / 2) (toQ a):=by
        rw [HY,HY,List.set_comm _ _ (by omega)]
      refine .inl ⟨_,rfl,⟨(i - 1) / 2,rfl,by simp;omega,?_,?_⟩,?_⟩
      · dsimp only;rw [e1];exact hu.step (by omega) (FJ ha) (FJ hb) hab
      · dsimp only;rw [e1];exact (Ls (FJ ha) (FJ hb)).trans hp
      · dsimp only;omega
    · rw [decide_eq_false hab,BB,Am,Bj]
      refine .inr (.inl ⟨_,rfl,hu.heap (.inr fun x y hx hy=>?_),hp⟩)
      rw [FJ ha] at hx
      rw [FJ hb] at hy
      obtain rfl:=Option.some.inj hx
      obtain rfl:=Option.some.inj hy
      exact hab
  · have h00:i=0:=by omega
    subst h00
    have hq:quoT (((0:Nat):Int) - 1) 2=some 0:=rfl
    rw [hq,Am,if_pos (show (0:Int)=((0:Nat):Int) from rfl),Am,Bj]
    exact .inr (.inl ⟨_,rfl,hu.heap (.inl rfl),hp⟩)
theorem On {q:BQ} (h:HeapOk (qs q.l)) (hl:q.l.length≤900000) (x:OEn):∃ r,CA q ⟨x⟩=some r∧HeapOk (qs r.l)∧(qs r.l).Perm (toQ x :: qs q.l):=by
  unfold CA DQ Ca
  rw [CF (by simp;omega) (by simp;omega),Am,Am,Am,CT (by unfold inI64;simp;omega),Am]
  have hlen:(((q.l ++ [x]).length:Int) - 1)=((q.l.length:Nat):Int):=by simp
  rw [hlen]
  have eq1:qs (q.l ++ [x])=qs q.l ++ [toQ x]:=by simp [qs]
  obtain ⟨r,r1,r2,r3⟩:=QC (q:=⟨q.l ++ [x]⟩) (i:=q.l.length) (by simp) (by simp;omega) ⟨fun j y z hj hji hx hy=>by
    dsimp only at hx hy
    rw [eq1] at hx hy
    have hjl:j < (qs q.l).length:=by have:=AF hx;simp at this;rw [FI] at this ⊢;omega
    rw [List.getElem?_append_left hjl] at hx
    rw [List.getElem?_append_left (by omega)] at hy
    exact h j y z hj hx hy,fun j y z h1 h2 h3 hx hy=>by
    dsimp only at hx
    have:=AF hx
    rw [FI] at this
    simp at this
    omega⟩
  rw [r1,Am]
  refine ⟨_,rfl,r2,r3.trans ?_⟩
  dsimp only
  rw [eq1]
  exact List.perm_append_comm (l₁:=qs q.l) (l₂:=[_])
theorem Oo {q:BQ} {n:Nat} (hn:n≤q.l.length) (hl:q.l.length≤1000000) (h:DownI (qs (q.l.take n)) 0):∃ r,CP q 0 (n:Int)=some r∧HeapOk (qs (r.2.l.take n))∧(qs (r.2.l.take n)).Perm (qs (q.l.take n))∧r.2.l.drop n=q.l.drop n∧r.2.l.length=q.l.length:=by
  unfold CP
  refine Nv (fun s=>∃ i:Nat,s.1=(i:Int)∧DownI (qs (s.2.l.take n)) i∧i≤n∧(qs (s.2.l.take n)).Perm (qs (q.l.take n))∧s.2.l.drop n=q.l.drop n∧s.2.l.length=q.l.length) (fun s=>HeapOk (qs (s.2.l.take n))∧(qs (s.2.l.take n)).Perm (qs (q.l.take n))∧s.2.l.drop n=q.l.drop n∧s.2.l.length=q.l.length) (fun _=>False) (fun s=>n - s.1.toNat) ⟨0,rfl,h,by omega,List.Perm.refl _,rfl,rfl⟩ ?_ ?_ (fun s hs=>hs.elim)
  · rintro ⟨c,s⟩ ⟨i,hc,hd,hi,hp,hdr,hsl⟩
    dsimp only at hc hd hi hp hdr hsl ⊢
    subst hc
    rw [CT (by unfold inI64;omega),Am,CT (by unfold inI64;omega),Am]
    by_cases h1:(n:Int)≤2 * (i:Int) + 1
    · rw [if_pos h1,Am,Bj]
      refine .inr (.inl ⟨_,rfl,hd.heap fun j x y hj hji hx _=>?_,hp,hdr,hsl⟩)
      have:=AF hx
      rw [FI,List.length_take] at this
      omega
    rw [if_neg h1,if_neg (by omega),Am,BB]
    obtain ⟨a,ha⟩:=AD (l:=s.l) (k:=i) (by omega)
    obtain ⟨b,hb⟩:=AD (l:=s.l) (k:=2 * i + 1) (by omega)
    have tk:∀ {k:Nat} {x:OEn},k < n→s.l[k]?=some x→(qs (s.l.take n))[k]?=some (toQ x):=fun {k x} hk hx=>FJ (by rw [List.getElem?_take_of_lt hk];exact hx)
    have cast1:2 * (i:Int) + 1=((2 * i + 1:Nat):Int):=by omega
    have cast2:2 * (i:Int) + 1 + 1=((2 * i + 2:Nat):Int):=by omega
    have rest:∀ (c:Nat) (d:OEn),(c=2 * i + 1∨c=2 * i + 2)→c < n→s.l[c]?=some d→(∀ (j:Nat) x,0 < j→(j - 1) / 2=i→(qs (s.l.take n))[j]?=some x→nb x (toQ d))→(∃ s',(bnd (Cd s.l (c:Int) (i:Int)) fun q97=>if q97=true then bnd (BU s.l (i:Int) (c:Int)) fun q109=>some (Ctl.next (ρ:=Bool×BQ) ((c:Int),(⟨q109⟩:BQ))) else some (.brk ((i:Int),s)))=some (.next s')∧(∃ i:Nat,s'.1=(i:Int)∧DownI (qs (s'.2.l.take n)) i∧i≤n∧(qs (s'.2.l.take n)).Perm (qs (q.l.take n))∧s'.2.l.drop n=q.l.drop n∧s'.2.l.length=q.l.length)∧n - s'.1.toNat < n - ((i:Int)).toNat)∨(∃ s',(bnd (Cd s.l (c:Int) (i:Int)) fun q97=>if q97=true then bnd (BU s.l (i:Int) (c:Int)) fun q109=>some (Ctl.next (ρ:=Bool×BQ) ((c:Int),(⟨q109⟩:BQ))) else some (.brk ((i:Int),s)))=some (.brk s')∧HeapOk (qs (s'.2.l.take n))∧(qs (s'.2.l.take n)).Perm (qs (q.l.take n))∧s'.2.l.drop n=q.l.drop n∧s'.2.l.length=q.l.length)∨∃ r,(bnd (Cd s.l (c:Int) (i:Int)) fun q97=>if q97=true then bnd (BU s.l (i:Int) (c:Int)) fun q109=>some (Ctl.next (ρ:=Bool×BQ) ((c:Int),(⟨q109⟩:BQ))) else some (.brk ((i:Int),s)))=some (.ret r)∧False:=by
      intro c d hc hcn hd' hs
      rw [Ja hd' ha,Am]
      have e1:qs (((s.l.set i d).set c a).take n)=((qs (s.l.take n)).set i (toQ d)).set c (toQ a):=by
        rw [List.take_set,List.take_set,HY,HY]
      by_cases hda:bfr (toQ d) (toQ a)
      · rw [decide_eq_true hda,Bj,Jb ha hd',Am]
        refine .inl ⟨_,rfl,⟨c,rfl,?_,by omega,?_,?_,by simp;exact hsl⟩,?_⟩
        · dsimp only;rw [e1];exact hd.step hc (tk (by omega) ha) (tk hcn hd') hda hs
        · dsimp only;rw [e1];exact (Ls (tk (by omega) ha) (tk hcn hd')).trans hp
        · dsimp only
          rw [← hdr]
          apply List.ext_getElem?
          intro k
          rw [List.getElem?_drop,List.getElem?_drop,List.getElem?_set_ne (by omega),List.getElem?_set_ne (by omega)]
        · dsimp only;omega
      · rw [decide_eq_false hda,BB]
        refine .inr (.inl ⟨_,rfl,hd.heap fun j x y hj hji hx hy=>?_,hp,hdr,hsl⟩)
        rw [tk (by omega) ha] at hy
        obtain rfl:=Option.some.inj hy
        exact Hj (hs j x hj hji hx) hda
    rw [CT (by unfold inI64;omega),Am]
    by_cases h2:2 * (i:Int) + 1 + 1 < (n:Int)
    · obtain ⟨d,hd'⟩:=AD (l:=s.l) (k:=2 * i + 2) (by omega)
      rw [if_pos h2,cast2,cast1,Ja hd' hb,Am]
      by_cases hdb:bfr (toQ d) (toQ b)
      · rw [decide_eq_true hdb,Bj,Am,Bj,Am]
        refine rest (2 * i + 2) d (.inr rfl) (by omega) hd' fun j x hj hji hx=>?_
        have:j=2 * i + 1∨j=2 * i + 2:=by omega
        rcases this with rfl|rfl
        · rw [tk (by omega) hb] at hx;obtain rfl:=Option.some.inj hx;exact KK hdb
        · rw [tk (by omega) hd'] at hx;obtain rfl:=Option.some.inj hx;exact JG _
      · rw [decide_eq_false hdb,BB,Am,BB,Am]
        refine rest (2 * i + 1) b (.inl rfl) (by omega) hb fun j x hj hji hx=>?_
        have:j=2 * i + 1∨j=2 * i + 2:=by omega
        rcases this with rfl|rfl
        · rw [tk (by omega) hb] at hx;obtain rfl:=Option.some.inj hx;exact JG _
        · rw [tk (by omega) hd'] at hx;obtain rfl:=Option.some.inj hx;exact hdb
    · rw [if_neg h2,Am,BB,Am,cast1]
      refine rest (2 * i + 1) b (.inl rfl) (by omega) hb fun j x hj hji hx=>?_
      have:j=2 * i + 1:=by have:=AF hx;rw [FI,List.length_take] at this;omega
      subst this
      rw [tk (by omega) hb] at hx;obtain rfl:=Option.some.inj hx;exact JG _
  · intro s hs
    by_cases hz:0 < s.1
    · rw [BP,if_pos hz,Am];exact ⟨_,rfl,hs⟩
    · rw [BP,if_neg hz,Am];exact ⟨_,rfl,hs⟩
theorem PD {q:BQ} (h:HeapOk (qs q.l)) (h0:0 < q.l.length) (hl:q.l.length≤900000):∃ r,CG q=some r∧∃ (e:OEn) (q':BQ),r=((⟨e⟩:AI),q')∧HeapOk (qs q'.l)∧(qs q.l).Perm (toQ e :: qs q'.l)∧∀ x∈qs q.l,nb x (toQ e):=by
  obtain ⟨e,he⟩:=AD (l:=q.l) (k:=0) h0
  obtain ⟨z,hz⟩:=AD (l:=q.l) (k:=q.l.length - 1) (by omega)
  have cz:((q.l.length:Int) - 1)=((q.l.length - 1:Nat):Int):=by omega
  have sw:BU q.l 0 ((q.l.length - 1:Nat):Int)=some ((q.l.set 0 z).set (q.l.length - 1) e):=Jb (i:=0) he hz
  unfold CG Ca
  rw [Am,CT (by unfold inI64;omega),Am,cz,sw,Am]
  have tk:((q.l.set 0 z).set (q.l.length - 1) e).take (q.l.length - 1)=(q.l.set 0 z).take (q.l.length - 1):=by
    rw [List.take_set]
    exact List.set_eq_of_length_le (by simp)
  have hperm:(qs q.l).Perm (toQ e :: qs ((q.l.set 0 z).take (q.l.length - 1))):=by
    have:q.l.Perm (e :: (q.l.set 0 z).take (q.l.length - 1)):=by
      cases hq:q.l with
      | nil=>rw [hq] at h0;simp at h0
      | cons a tl =>
        rw [hq] at he hz
        simp at he
        subst he
        cases htl:tl.reverse with
        | nil =>
          have:tl=[]:=by simpa using htl
          subst this
          simp
        | cons w r =>
          have htl':tl=r.reverse ++ [w]:=by have:=congrArg List.reverse htl;simpa using this
          subst htl'
          simp at hz
          subst hz
          simp
    exact this.map toQ
  obtain ⟨r,r1,r2,r3,r4,r5⟩:=Oo (q:=⟨(q.l.set 0 z).set (q.l.length - 1) e⟩) (n:=q.l.length - 1) (by simp) (by simp;omega) (by
    dsimp only
    rw [tk]
    refine ⟨fun j x y hj hjp hx hy=>?_,fun j x y h1=>by omega⟩
    rw [PC,HY] at hx hy
    have hx':=Ko hx
    have hy':=Ko hy
    rw [List.getElem?_set_ne (by omega)] at hx' hy'
    exact h j x y hj hx' hy')
  dsimp only at r3 r4 r5
  rw [tk] at r3
  simp only [List.length_set] at r5
  rw [r1,Am]
  unfold Ej
  have hlast:r.2.l[q.l.length - 1]?=some e:=by
    have:(r.2.l.drop (q.l.length - 1))[0]?=some e:=by
      rw [r4,List.getElem?_drop,Nat.add_zero,List.getElem?_set_self (by simp;omega)]
    rwa [List.getElem?_drop,Nat.add_zero] at this
  have hcut:cutI r.2.l 0 ((q.l.length - 1:Nat):Int)=some (r.2.l.take (q.l.length - 1)):=by
    unfold cutI
    rw [if_pos (by simp;omega)]
    simp
  rw [r5,cz,CT (by unfold inI64;omega),Am,Bh,hlast,Am,Am,hcut,Am,Am]
  exact ⟨_,rfl,e,⟨r.2.l.take (q.l.length - 1)⟩,rfl,r2,hperm.trans (List.Perm.cons _ r3.symm),Nx h (FJ he)⟩
end
section
open Go Go.RowKit
def rangeI (n:Nat):List Int:=(List.range n).map fun i:Nat=>(i:Int)
theorem Fo {n:Nat} {x:Int}:x∈rangeI n↔0≤x∧x < n:=by
  unfold rangeI
  rw [List.mem_map]
  constructor
  · rintro ⟨i,hi,rfl⟩;have:=List.mem_range.1 hi;omega
  · rintro ⟨h1,h2⟩;exact ⟨x.toNat,List.mem_range.2 (by omega),by omega⟩
theorem FZ (n:Nat):(rangeI n).length=n:=by simp [rangeI]
theorem Gs (n:Nat):(rangeI n).Nodup:=by
  unfold rangeI
  rw [List.nodup_iff_pairwise_ne,List.pairwise_map]
  exact (List.nodup_iff_pairwise_ne.1 List.nodup_range).imp fun h=>by omega
theorem Nz {l:List Int} {x:Int} (hn:l.Nodup) (h:x∈l):l.count x=1:=by
  have h1:=List.nodup_iff_count.1 hn x
  have h2:=List.count_pos_iff.2 h
  omega
def PermR (l:List Int) (n:Nat):Prop:=l.Perm (rangeI n)
theorem Fv:∀ {l₁ l₂:List Int},l₁.Nodup→(∀ x∈l₁,x∈l₂)→l₂.length≤l₁.length→l₁.Perm l₂
  | [],l₂,_,_,hl=>by
    have:l₂=[]:=List.eq_nil_of_length_eq_zero (by simpa using hl)
    rw [this]
  | x :: l₁,l₂,hn,hs,hl=>by
    have hx:=hs x List.mem_cons_self
    have hp:=List.perm_cons_erase hx
    obtain ⟨h1,h2⟩:=List.nodup_cons.1 hn
    refine (List.Perm.cons x (Fv h2 (fun y hy=>?_) ?_)).trans hp.symm
    · have:y≠x:=fun e=>h1 (e ▸ hy)
      exact (List.mem_erase_of_ne this).2 (hs y (List.mem_cons_of_mem _ hy))
    · rw [List.length_erase_of_mem hx]
      simp at hl;omega
theorem PermR.len {l:List Int} {n:Nat} (h:PermR l n):l.length=n:=by rw [h.length_eq,FZ]
theorem PermR.mem {l:List Int} {n:Nat} (h:PermR l n) {x:Int} (hx:x∈l):0≤x∧x < n:=Fo.1 (h.mem_iff.1 hx)
theorem PermR.nodup {l:List Int} {n:Nat} (h:PermR l n):l.Nodup:=h.symm.nodup (Gs n)
theorem Lx {l:List Int} {n:Nat} (h1:l.Nodup) (h2:∀ x∈l,0≤x∧x < n) (h3:l.length=n):PermR l n:=Fv h1 (fun x hx=>Fo.2 (h2 x hx)) (by rw [FZ];omega)
theorem EX {p q:Prop} (h:p↔q):some (bof p)=some (bof q):=by rw [HJ h]
theorem DE {α:Type} {l:List α} {k:Nat} {x y:α} (h:l[k]?=some x):y∈l.take (k + 1)↔y∈l.take k∨y=x:=by
  rw [List.take_add_one,h,List.mem_append];simp
theorem PE      {l:List Int} {n:Int} (hl:l.length≤1000000∨(l.length:Int)≠n):BZ l n=some (bof ((l.length:Int)=n∧PermR l l.length)):=by
  unfold BZ
  by_cases hn:(l.length:Int)=n
  case neg=>rw [if_pos hn,AM (fun h=>hn h.1)]
  have hl':l.length≤1000000:=hl.resolve_right fun h=>h hn
  subst hn
  rw [if_neg (by simp),Gm (by omega) (by omega),Am]
  rcases Ir (ρ:=Bool) (f:=fun (_:Nat) (a26:Int) (s23:(List Bool))=>bnd (if a26 < 0 then (some true) else (if (l.length:Int)≤a26 then (some true) else (bnd (atI s23 a26) fun a54=>some a54)):Option Bool) fun y48=>if y48=true then (some (.ret false)) else (bnd (atI s23 a26) fun _=>some (.next (s23.set (a26).toNat true)))) (xs:=l) (s₀:=List.replicate l.length false)
    (fun k s=>s.length=l.length∧(∀ j:Nat,j < l.length→s[j]?=some (bof ((j:Int)∈l.take k)))∧(l.take k).Nodup∧∀ x∈l.take k,0≤x∧x < l.length) (fun r=>r=false∧¬ PermR l l.length)
    ⟨by simp, fun j hj=>by rw [List.getElem?_replicate,if_pos hj,List.take_zero,AM (List.not_mem_nil)],by simp,by simp⟩ (fun k x s hx hI=>by
      obtain ⟨i1,i2,i3,i4⟩:=hI
      by_cases h1:x < 0
      · rw [if_pos h1,Am,Bj]
        exact .inr ⟨_,rfl,rfl,fun hp=>by have:=hp.mem (List.mem_of_getElem? hx);omega⟩
      · rw [if_neg h1]
        by_cases h2:(l.length:Int)≤x
        · rw [if_pos h2,Am,Bj]
          exact .inr ⟨_,rfl,rfl,fun hp=>by have:=hp.mem (List.mem_of_getElem? hx);omega⟩
        · rw [if_neg h2]
          obtain ⟨j,rfl⟩:=Int.eq_ofNat_of_zero_le (by omega:0≤x)
          rw [Bh,i2 j (by omega),Am,Am]
          by_cases hm:(j:Int)∈l.take k
          · rw [Bd hm,Bj]
            refine .inr ⟨_,rfl,rfl,fun hp=>?_⟩
            have hnd:=hp.nodup
            rw [← List.take_append_drop k l,List.nodup_append] at hnd
            have hd:(j:Int)∈l.drop k:=List.mem_of_getElem? (i:=0) (by rw [List.getElem?_drop,Nat.add_zero];exact hx)
            exact hnd.2.2 _ hm _ hd rfl
          · rw [AM hm,BB,Am]
            refine .inl ⟨_,rfl,by simpa using i1,fun q hq=>?_,?_,fun y hy=>?_⟩
            · rw [show ((j:Int)).toNat=j from by omega,List.getElem?_set]
              by_cases hjq:j=q
              · subst hjq
                rw [if_pos rfl,if_pos (by omega),Bd ((DE hx).2 (.inr rfl))]
              · rw [if_neg hjq,i2 q hq]
                refine EX ⟨fun h=>(DE hx).2 (.inl h),fun h=>((DE hx).1 h).resolve_right (by omega)⟩
            · rw [List.take_add_one,hx]
              refine List.nodup_append.2 ⟨i3,by simp,fun a ha b hb=>?_⟩
              have:b=(j:Int):=by simpa using hb
              rw [this];exact fun e=>hm (e ▸ ha)
            · rcases (DE hx).1 hy with hy|rfl
              · exact i4 y hy
              · omega) with ⟨s,hr,_,_,hnd,hrg⟩|⟨r,hr,rfl,hno⟩
  · rw [hr,Am,BP]
    rw [List.take_length] at hnd hrg
    rw [Bd ⟨rfl,Lx hnd hrg rfl⟩]
  · rw [hr,Am,GE,AM (fun h=>hno h.2)]
theorem MP {l:List Int} {v:Int} {ρ:Type} (hl:l.length≤1000000):rng (ρ:=ρ) (fun (_:Nat) (a28:Int) (s25:Int)=>if a28=v then (bnd (chkI (s25 + 1)) fun n49=>some (.next n49)) else (some (.next s25))) l 0 0=some (.done ((l.count v:Nat):Int)):=by
  rw [EE (fun k=>(((l.take k).count v:Nat):Int)) ?ha ?hb,List.take_length]
  case ha=>rfl
  case hb =>
    intro k x hx
    have hk:=AF hx
    have hc:=List.count_le_length (a:=v) (l:=l.take k)
    rw [List.length_take] at hc
    rw [List.take_add_one,hx,List.count_append]
    by_cases h:x=v
    · rw [if_pos h,CT (by unfold inI64;omega),Am]
      subst h;simp
    · rw [if_neg h];simp [h]
theorem MQ {l:List Int} {n:Int} (hl:l.length≤1000000∨(l.length:Int)≠n):Cj l n=some (bof ((l.length:Int)=n∧PermR l l.length)):=by
  unfold Cj
  by_cases hn:(l.length:Int)=n
  case neg=>rw [if_pos hn,AM (fun h=>hn h.1)]
  have hl':l.length≤1000000:=hl.resolve_right fun h=>h hn
  subst hn
  rw [if_neg (by simp),Pj,Am]
  have key:=Ir (ρ:=Bool) (f:=fun (_:Nat) (k10:Nat) (_:Unit)=>bnd (rng (ρ:=Ctl Unit Bool) (fun (_:Nat) (a28:Int) (s25:Int)=>if a28=(k10:Int) then (bnd (chkI (s25 + 1)) fun n49=>some (.next n49)) else (some (.next s25))) l 0 0) fun res23=>fin res23 fun (s56:Int)=>if s56≠1 then (some (.ret false)) else (some (.next ()))) (xs:=List.range l.length) (s₀:=())
    (fun k _=>∀ j:Nat,j < k→l.count (j:Int)=1) (fun r=>r=false∧¬ PermR l l.length) (fun j hj=>by omega) (fun k x _ hx hI=>by
      obtain ⟨hlt,rfl⟩:=List.getElem?_eq_some_iff.1 hx
      have hk:k < l.length:=by simpa using hlt
      rw [List.getElem_range,MP hl',Am,BP]
      by_cases h1:l.count (k:Int)=1
      · rw [if_neg (by rw [h1];simp)]
        exact .inl ⟨_,rfl,fun j hj=>by
          by_cases hjk:j=k
          · rw [hjk];exact h1
          · exact hI j (by omega)⟩
      · rw [if_pos (by omega)]
        refine .inr ⟨_,rfl,rfl,fun hp=>h1 ?_⟩
        rw [hp.count_eq,Nz (Gs _) (Fo.2 ⟨by omega,by omega⟩)])
  rcases key with ⟨_,hr,hc⟩|⟨r,hr,rfl,hno⟩
  · rw [show rngN _ _ _=_ from hr,Am,BP]
    rw [List.length_range] at hc
    have hp:PermR l l.length:=(Fv (Gs l.length) (fun x hx=>by
      obtain ⟨h1,h2⟩:=Fo.1 hx
      have:=hc x.toNat (by omega)
      rw [show ((x.toNat:Nat):Int)=x from by omega] at this
      exact List.count_pos_iff.1 (by omega)) (by rw [FZ];omega)).symm
    rw [Bd ⟨rfl,hp⟩]
  · rw [show rngN _ _ _=_ from hr,Am,GE,AM (fun h=>hno h.2)]
end
end Go.Proofs.YtecegaabajeolaaGreat

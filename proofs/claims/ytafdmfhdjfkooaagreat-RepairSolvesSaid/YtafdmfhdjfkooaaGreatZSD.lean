/- Own text: what the proof of repairSolves_holds uses, part 4: rules, models and their proofs, plain laws. -/
import Derived.Test.YtafdmfhdjfkooaaGreatZSC
set_option linter.unusedVariables false
set_option linter.unusedSimpArgs false
namespace Go.Proofs.YtafdmfhdjfkooaaGreat
open Go Go.RowKit
section
open Go Go.RowKit
attribute [local irreducible] ewp owp hwp hwq hws Ev Evg Fn retPost loud loudS Res1
def preOf (t:Tsk) (op:Int):List Fct:=match t.ops[op.toNat]? with|some o=>o.pre|none=>[]
def tests (t:Tsk) (ops:List Int) (v:Nat):Bool:=ops.any fun op=>(factOn (preOf t op) (v:Int)).isSome
def nextF (t:Tsk) (ops:List Int):Nat→Nat→Nat
  | 0,v=>v
  | k + 1,v=>if tests t ops v=true then v else nextF t ops k (v + 1)
def nextV (t:Tsk) (ops:List Int) (v:Nat):Nat:=nextF t ops (t.vars.length - v) v
def valB (t:Tsk) (u:Nat) (x:Nat) (op:Int):Bool:=match factOn (preOf t op) (u:Int) with|some f=>decide (f.val=(x:Int))|none=>false
def restB (t:Tsk) (u:Nat) (op:Int):Bool:=(factOn (preOf t op) (u:Int)).isNone
def mkT (t:Tsk):Nat→List Int→Nat→Tr
  | 0,_,_=>.nil
  | fuel + 1,ops,v =>
    if ops.isEmpty then .nil
    else if nextV t ops v=t.vars.length then .leaf ops
    else .node (nextV t ops v) (t.vars[nextV t ops v]?.getD 0).toNat (fun x=>mkT t fuel (ops.filter (valB t (nextV t ops v) x)) (nextV t ops v + 1)) (mkT t fuel (ops.filter (restB t (nextV t ops v))) (nextV t ops v + 1))
theorem IE (t:Tsk) (ops:List Int):∀ (k v:Nat),v≤nextF t ops k v∧nextF t ops k v≤v + k∧(∀ u,v≤u→u < nextF t ops k v→tests t ops u=false)∧(nextF t ops k v < v + k→tests t ops (nextF t ops k v)=true)
  | 0,v=>by simp [nextF];intro u h1 h2;omega
  | k + 1,v=>by
    by_cases h:tests t ops v=true
    · simp only [nextF,h,if_true]
      exact ⟨Nat.le_refl _,by omega,fun u h1 h2=>by omega,fun _=>trivial⟩
    · obtain ⟨h1,h2,h3,h4⟩:=IE t ops k (v + 1)
      simp only [nextF,h]
      refine ⟨by simp;omega,by simp;omega,fun u hu1 hu2=>?_,fun hlt=>h4 (by simp at hlt;omega)⟩
      by_cases he:u=v
      · subst he;simpa using h
      · exact h3 u (by omega) (by simpa using hu2)
theorem Qg (t:Tsk) (ops:List Int) {v u:Nat} (h1:v≤u) (h2:u≤t.vars.length) (h3:∀ x,v≤x→x < u→tests t ops x=false) (h4:u < t.vars.length→tests t ops u=true):nextV t ops v=u:=by
  obtain ⟨g1,g2,g3,g4⟩:=IE t ops (t.vars.length - v) v
  unfold nextV
  rcases Nat.lt_trichotomy (nextF t ops (t.vars.length - v) v) u with h|h|h
  · have:=h3 _ g1 h
    rw [g4 (by omega)] at this;cases this
  · exact h
  · have:=g3 u h1 h
    rw [h4 (by omega)] at this;cases this
def OpsIn (t:Tsk) (ops:List Int):Prop:=∀ op∈ops,0≤op∧op < t.ops.length
def FitsVals (t:Tsk):Prop:=∀ (i:Nat) o,t.ops[i]?=some o→∀ (v:Nat) f,factOn o.pre (v:Int)=some f→v < t.vars.length→0≤f.val∧∃ n,t.vars[v]?=some n∧f.val < n
structure ByInv (w:World) (base gby:Nat) (vals:List Value) (rv:Value) (L:Nat→List Int) (R:List Int) (m:Nat):Prop where
  len:vals.length=m
  blk:Blk w gby 22 vals
  own:∀ (i:Nat) (u:Value),vals[i]?=some u→Own w base (fun _=>False) 3 u (L i)
  rest:Own w base (fun _=>False) 3 rv R
  apart:∀ (i j:Nat) (u u':Value),i≠j→vals[i]?=some u→vals[j]?=some u'→∀ g,u.ownBlock=some g→u'.ownBlock≠some g
  apartR:∀ (i:Nat) (u:Value),vals[i]?=some u→∀ g,u.ownBlock=some g→rv.ownBlock≠some g
theorem ByInv.ext {w w':World} {base gby:Nat} {vals:List Value} {rv:Value} {L:Nat→List Int} {R:List Int} {m:Nat} (h:ByInv w base gby vals rv L R m) (hE:Ext w w'):ByInv w' base gby vals rv L R m :=
  ⟨h.len,h.blk.ext hE,fun i u hu=>(h.own i u hu).ext hE fun _ hk=>hk.elim,h.rest.ext hE fun _ hk=>hk.elim,h.apart,h.apartR⟩
theorem ByInv.putRest {w w':World} {base gby:Nat} {vals:List Value} {rv rv':Value} {L:Nat→List Int} {R R':List Int} {m:Nat} (h:ByInv w base gby vals rv L R m) (hK:Kept w w' rv) (ho:Own w' base (fun _=>False) 3 rv' R')
    (hat:rv'.ownBlock=rv.ownBlock∨∃ g,rv'.ownBlock=some g∧w.heap.size≤g):ByInv w' base gby vals rv' L R' m:=by
  refine ⟨h.len,hK.blk h.blk (h.rest.blk_ne h.blk (by decide)),fun i u hu=>(h.own i u hu).kept hK (fun _ hk=>hk.elim) (h.apartR i u hu),ho,h.apart,fun i u hu g hg he=>?_⟩
  rcases hat with hat|⟨g',hat,hge⟩
  · exact h.apartR i u hu g hg (hat ▸ he)
  · have:=((h.own i u hu).lt g hg).2
    rw [hat] at he;injection he with he;omega
theorem ByInv.putVal {w w' w'':World} {base gby:Nat} {vals:List Value} {rv u v':Value} {L:Nat→List Int} {R:List Int} {m i:Nat} {xs:List Int} (h:ByInv w base gby vals rv L R m) (hu:vals[i]?=some u) (hK:Kept w w' u) (ho:Own w' base (fun _=>False) 3 v' xs)
    (hat:v'.ownBlock=u.ownBlock∨∃ g,v'.ownBlock=some g∧w.heap.size≤g) (hU:Upd w' w'' gby 22 (vals.set i v')):ByInv w'' base gby (vals.set i v') rv (fun j=>if j=i then xs else L j) R m:=by
  have hi:i < vals.length:=(List.getElem?_eq_some_iff.1 hu).1
  have key:∀ {v:Value} {ys:List Int},Own w' base (fun _=>False) 3 v ys→Own w'' base (fun _=>False) 3 v ys:=fun hv=>by
    have hne:=hv.blk_ne (hK.blk h.blk ((h.own i u hu).blk_ne h.blk (by decide))) (by decide)
    exact hv.agree (fun _ hk=>hk.elim) fun g hg=>hU.other g fun he=>hne (he ▸ hg)
  have sep:∀ {y:Value} {ys:List Int},Own w base (fun _=>False) 3 y ys→(∀ g,u.ownBlock=some g→y.ownBlock≠some g)→∀ g,v'.ownBlock=some g→y.ownBlock≠some g:=fun hy hsep g hg he=>by
    rcases hat with hat|⟨g',hat,hge⟩
    · exact hsep g (hat ▸ hg) he
    · have:=(hy.lt g he).2
      rw [hat] at hg;injection hg with hg;omega
  refine ⟨by rw [List.length_set];exact h.len,hU.blk,fun j y hy=>?_,key (h.rest.kept hK (fun _ hk=>hk.elim) fun g hg he=>h.apartR i u hu g he hg),fun j k y y' hjk hy hy' g hg=>?_,fun j y hy g hg=>?_⟩
  · by_cases hj:j=i
    · subst hj
      rw [List.getElem?_set_self hi] at hy
      injection hy with hy;subst hy
      rw [if_pos rfl];exact key ho
    · rw [List.getElem?_set_ne (Ne.symm hj)] at hy
      rw [if_neg hj]
      exact key ((h.own j y hy).kept hK (fun _ hk=>hk.elim) (h.apart j i y u hj hy hu))
  · by_cases hj:j=i
    · subst hj
      rw [List.getElem?_set_self hi] at hy
      injection hy with hy;subst hy
      rw [List.getElem?_set_ne hjk] at hy'
      exact sep (h.own k y' hy') (h.apart j k u y' hjk hu hy') g hg
    · rw [List.getElem?_set_ne (Ne.symm hj)] at hy
      by_cases hk:k=i
      · subst hk
        rw [List.getElem?_set_self hi] at hy'
        injection hy' with hy';subst hy'
        intro he
        exact sep (h.own j y hy) (h.apart k j u y (Ne.symm hj) hu hy) g he hg
      · rw [List.getElem?_set_ne (Ne.symm hk)] at hy'
        exact h.apart j k y y' hjk hy hy' g hg
  · by_cases hj:j=i
    · subst hj
      rw [List.getElem?_set_self hi] at hy
      injection hy with hy;subst hy
      exact sep h.rest (h.apartR j u hu) g hg
    · rw [List.getElem?_set_ne (Ne.symm hj)] at hy
      exact h.apartR j y hy g hg
instance:Rp Tr where
  isAgg:=false
  size:=1
  R w F cs T:=∃ q,cs=[.pointer q]∧TrR w F T (.pointer q)
  len:=by rintro w F cs x ⟨v,rfl,_⟩;rfl
  one:=by rintro w F cs x ⟨v,rfl,h⟩ u hu;simp at hu;subst hu;rfl
  agree:=by rintro w w' F cs x ⟨v,rfl,h⟩ ha;exact ⟨v,rfl,TrR.agree ha h⟩
  mono:=by rintro w F G cs x ⟨v,rfl,h⟩ ha;exact ⟨v,rfl,TrR.mono ha h⟩
def more (F:Nat→Prop) (w w':World):Nat→Prop:=fun k=>F k∨w.heap.size≤k∧k < w'.heap.size
theorem GH {p:Int→Bool} {l:List Int} {k:Nat} {x:Int} (h:l[k]?=some x):(l.take (k + 1)).filter p=(l.take k).filter p ++ if p x=true then [x] else []:=by
  rw [List.take_add_one,h,List.filter_append]
  cases hp:p x<;>simp [hp]
theorem PC (n:Nat):(madeCells (Value.slice none 0 0).cells (n * 1)).toList=List.replicate n (.slice none 0 0):=MT _ n rfl
theorem genBuild (t:Tsk) (hdom:VarsOk t) (hfv:FitsVals t) (hvl:t.vars.length≤64):∀ (fuel:Nat) (w:World) (gv opsv:Value) (ops:List Int) (v:Nat) (F:Nat→Prop),GenB w (All w) gv t→Vb w F opsv ops→(∀ k,F k→k < w.heap.size)→OpsIn t ops→ops.length≤4096 →
    v≤t.vars.length→t.vars.length < fuel + v→Fn Tryz.prog 88 [gv,opsv,.int .i64 (v:Int)] w fun p w'=>TrR w' (more F w w') (mkT t fuel ops v) p∧Ext w w':=by
  intro fuel
  induction fuel with
  | zero=>intro w gv opsv ops v F _ _ _ _ _ h1 h2;omega
  | succ fuel ih =>
    intro w gv opsv ops v F hg0 hops hF hin hlen hvn hfuel
    obtain ⟨gb,a,b,c,d,rp,rfl,hgb,hbg,hvars,hinit,hgoal,hopsv⟩:=id hg0
    obtain ⟨Av,cv,rfl⟩:=hvars.form
    obtain ⟨Ax,cx,rfl⟩:=hops.form
    refine AH Tryz.func88 rfl Tryz.ntmps88 rfl ?_
    repeat (first|refine Aw ?_|refine Ah rfl ?_|refine Ae rfl ?_)
    refine DL rfl rfl fun w1 hN1=>?_
    refine DL rfl rfl fun w2 hN2=>?_
    have hE2:Ext w w2:=hN1.ext.trans' hN2.ext
    have hb1:Blk w2 w.heap.size 104 [.pointer (some ⟨gb,0,none⟩)]:=hN1.blk.ext hN2.ext
    have hb2:Blk w2 w1.heap.size 3 [.int .i64 (v:Int)]:=hN2.blk
    have hg12:w1.heap.size≠w.heap.size:=by rw [hN1.size];omega
    have hg2w:w.heap.size≤w1.heap.size:=hN1.ext.size
    have hz1:w1.heap.size=w.heap.size + 1:=hN1.size
    have hz2:w2.heap.size=w1.heap.size + 1:=hN2.size
    (refine Au rfl rfl ?_<;>(refine o_z ?_))
    repeat (first|refine Aw ?_|refine Ah rfl ?_|refine Ae rfl ?_)
    by_cases hemp:ops.length=0
    · have:ops=[]:=List.eq_nil_of_length_eq_zero hemp
      subst this
      ((repeat (first|refine Aw ?_|refine Ah rfl ?_|refine Ae rfl ?_))<;>(refine Ar rfl rfl ?_<;>refine AP rfl rfl ?_<;>(first|refine OE rfl rfl rfl ?_|refine OF rfl rfl rfl ?_)<;>(refine o_z ?_))<;>(repeat (first|refine Aw ?_|refine Ah rfl ?_|refine Ae rfl ?_))<;>(refine Au rfl rfl ?_<;>(refine o_z ?_))<;>(repeat (first|refine Aw ?_|refine Ah rfl ?_|refine Ae rfl ?_)))
      exact ret1 rfl rfl ⟨rfl,hE2⟩
    have hemp':ops.isEmpty=false:=by cases ops<;>simp at *
    (refine Ar rfl rfl ?_<;>refine AP rfl rfl ?_<;>(first|refine OE rfl rfl rfl ?_|refine OF rfl rfl rfl ?_)<;>(refine o_z ?_))
    refine Ae rfl (AO ?_)
    refine NS (fun l' w'=>∃ u:Nat,subs l' [(1,.slice Ax ops.length cx),(3,.pointer (some ⟨w.heap.size,0,none⟩)),(5,.pointer (some ⟨w1.heap.size,0,none⟩))]∧Ext w w'∧Blk w' w.heap.size 104 [.pointer (some ⟨gb,0,none⟩)]∧Blk w' w1.heap.size 3 [.int .i64 (u:Int)] ∧
      v≤u∧u≤t.vars.length∧(∀ x,v≤x→x < u→tests t ops x=false)∧(u < t.vars.length→tests t ops u=true)) ?_ ?_
    · repeat (first|refine Aw ?_|refine Ah rfl ?_|refine Ae rfl ?_)
      refine Fg (fun _:Nat=>[(1,.slice Ax ops.length cx),(3,.pointer (some ⟨w.heap.size,0,none⟩)),(5,.pointer (some ⟨w1.heap.size,0,none⟩))]) (fun u w'=>Ext w w'∧Blk w' w.heap.size 104 [.pointer (some ⟨gb,0,none⟩)]∧Blk w' w1.heap.size 3 [.int .i64 (u:Int)] ∧
        v≤u∧u≤t.vars.length∧∀ x,v≤x→x < u→tests t ops x=false) (fun u=>t.vars.length - u) v ⟨hE2,hb1,hb2,Nat.le_refl _,hvn,fun x h1 h2=>by omega⟩ ⟨rfl,rfl,rfl,trivial⟩ ?_
      rintro u w3 ⟨hE3,hb1,hb2,hvu,hun,hno⟩
      have hb3:=hbg.ext hE3
      repeat (first|refine Aw ?_|refine Ah rfl ?_|refine Ae rfl ?_)
      refine Cr (Ext w3) [(0,true),(1,true),(2,true),(3,true),(4,true),(5,true),(6,true),(7,true),(8,true),(9,true),(10,true),(11,false),(12,true),(13,true)] (by kernel_rfl) rfl (by kernel_rfl) (Below.refl _ _) ?_
      by_cases hlt:u < t.vars.length
      · (refine Hc rfl rfl rfl ?_<;>refine Hc rfl rfl rfl ?_<;>refine Ec rfl rfl rfl ?_<;>refine Bc rfl rfl rfl ?_<;>refine Bc rfl rfl rfl ?_<;>refine Hc rfl rfl rfl ?_<;>refine Jp rfl rfl rfl ?_<;>(first|refine GD rfl rfl rfl rfl ?_|refine GE rfl rfl rfl rfl ?_|refine FA rfl rfl rfl rfl (fun _=>?_) fun _=>?_)<;>refine AJ rfl rfl rfl ?_<;>(refine AA rfl ?_;(first|(refine Az rfl rfl ?_;refine Cc rfl rfl ?_)|refine AC rfl rfl rfl rfl ?_))<;>(refine AA rfl ?_;(first|(refine Az rfl rfl ?_;refine RW rfl rfl rfl ?_)|refine AC rfl rfl rfl rfl ?_)))
        refine Cb rfl ?_
        refine Ay rfl rfl ?_
        have hV3:V w3 (.slice Ax ops.length cx) ops:=Vb.mono (Vb.agree hops (hE3.agree hF)) fun k hk=>Nat.lt_of_lt_of_le (hF k hk) hE3.size
        have hex:(∃ x∈ops,(factOn (preOf t x) (u:Int)).isSome=true)↔tests t ops u=true:=by unfold tests;rw [List.any_eq_true]
        refine CZ rfl rfl (containsFuncInts (g:=100) (caps:=[.pointer (some ⟨w.heap.size,0,none⟩),.pointer (some ⟨w1.heap.size,0,none⟩)]) (p:=fun op=>(factOn (preOf t op) (u:Int)).isSome=true) hV3 ?_) ?_ ?_
        · intro vx x w' hx hE' hvx
          obtain ⟨hvx,_⟩:=hvx
          obtain rfl:vx=.int .i64 x:=by simpa using hvx
          obtain ⟨hx0,hx1⟩:=hin x hx
          obtain ⟨j,rfl⟩:=Int.eq_ofNat_of_zero_le hx0
          obtain ⟨o,ho⟩:=AF (l:=t.ops) (k:=j) (by omega)
          refine (genBuild1 (hg0.ext (hE3.trans' hE')) ho (hb1.ext hE') (hb2.ext hE')).mono fun r w'' ⟨hr,hE''⟩=>⟨?_,hE''⟩
          rw [hr,GZ]
          simp [preOf,ho]
        · intro w4 hp hE4
          refine Cv hE4 ?_
          ((refine AA rfl ?_;(first|(refine Az rfl rfl ?_;(first|refine PY rfl rfl ?_|refine PZ rfl rfl ?_|refine Qa rfl rfl ?_))|refine AC rfl rfl rfl rfl ?_))<;>(first|refine CU rfl rfl rfl rfl ?_|refine CL rfl rfl rfl rfl ?_)<;>(refine h_z ?_))
          repeat (first|refine Aw ?_|refine Ah rfl ?_|refine Ae rfl ?_)
          exact ⟨u,⟨rfl,rfl,rfl,trivial⟩,hE3.trans' hE4,hb1.ext hE4,hb2.ext hE4,hvu,hun,hno,fun _=>hex.1 hp⟩
        · intro w4 hp hE4
          refine Cv hE4 ?_
          ((refine AA rfl ?_;(first|(refine Az rfl rfl ?_;(first|refine PY rfl rfl ?_|refine PZ rfl rfl ?_|refine Qa rfl rfl ?_))|refine AC rfl rfl rfl rfl ?_))<;>(first|refine CU rfl rfl rfl rfl ?_|refine CL rfl rfl rfl rfl ?_)<;>(refine h_z ?_))
          repeat (first|refine Aw ?_|refine Ah rfl ?_|refine Ae rfl ?_)
          replace hb1:=hb1.ext hE4
          replace hb2:=hb2.ext hE4
          (refine AE rfl rfl ?_<;>(first|refine Gx rfl rfl ?_|refine Gw rfl rfl rfl ?_))
          refine Co rfl rfl hb2 rfl (Nat.le_refl _) (by simp [Value.cells,Value.oneCell']) fun w5 hU=>?_
          ((refine o_z ?_))
          refine ⟨u + 1,⟨rfl,rfl,rfl,trivial⟩,⟨(hE3.trans' hE4).trans (hU.below hg2w),hb1.keep (hU.other _ (fun h=>hg12 h.symm)),hU.blk,by omega,by omega,fun x h1 h2=>?_⟩,by omega⟩
          by_cases he:x=u
          · subst he
            cases hq:tests t ops x
            · rfl
            · exact absurd (hex.2 hq) hp
          · exact hno x h1 (by omega)
      · (refine Hc rfl rfl rfl ?_<;>refine Hc rfl rfl rfl ?_<;>refine Ec rfl rfl rfl ?_<;>refine Bc rfl rfl rfl ?_<;>refine Bc rfl rfl rfl ?_<;>refine Hc rfl rfl rfl ?_<;>refine Jp rfl rfl rfl ?_<;>(first|refine GD rfl rfl rfl rfl ?_|refine GE rfl rfl rfl rfl ?_|refine FA rfl rfl rfl rfl (fun _=>?_) fun _=>?_)<;>refine AJ rfl rfl rfl ?_<;>(refine AA rfl ?_;(first|(refine Az rfl rfl ?_;refine Cc rfl rfl ?_)|refine AC rfl rfl rfl rfl ?_))<;>(refine AA rfl ?_;(first|(refine Az rfl rfl ?_;refine RW rfl rfl rfl ?_)|refine AC rfl rfl rfl rfl ?_)))
        refine Cb rfl ?_
        refine At rfl rfl rfl rfl ?_
        refine Cv (Below.refl _ _) ?_
        ((refine AA rfl ?_;(first|(refine Az rfl rfl ?_;(first|refine PY rfl rfl ?_|refine PZ rfl rfl ?_|refine Qa rfl rfl ?_))|refine AC rfl rfl rfl rfl ?_))<;>(first|refine CU rfl rfl rfl rfl ?_|refine CL rfl rfl rfl rfl ?_)<;>(refine h_z ?_))
        repeat (first|refine Aw ?_|refine Ah rfl ?_|refine Ae rfl ?_)
        exact ⟨u,⟨rfl,rfl,rfl,trivial⟩,hE3,hb1,hb2,hvu,hun,hno,fun h=>absurd h hlt⟩
    rintro l' w3 ⟨u,hsub,hE3,hb1,hb2,hvu,hun,hno,hyes⟩
    refine AQ _ hsub ?_
    clear hsub
    have hnx:nextV t ops v=u:=Qg t ops hvu hun hno hyes
    have hb3:=hbg.ext hE3
    have hV3:Vb w3 F (.slice Ax ops.length cx) ops:=Vb.agree hops (hE3.agree hF)
    repeat (first|refine Aw ?_|refine Ah rfl ?_|refine Ae rfl ?_)
    refine Cr (·=w3) [(0,true),(1,true),(2,true),(3,true),(4,true),(5,true),(6,true),(7,true)] (by kernel_rfl) rfl (by kernel_rfl) rfl ?_
    by_cases hlast:u=t.vars.length
    · (refine Cm rfl rfl rfl ?_<;>refine Cm rfl rfl rfl ?_<;>refine Ec rfl rfl rfl ?_<;>refine Bc rfl rfl rfl ?_<;>refine Bc rfl rfl rfl ?_<;>refine Cm rfl rfl rfl ?_<;>refine Jp rfl rfl rfl ?_<;>(first|refine QM rfl rfl rfl rfl ?_|refine QN rfl rfl rfl rfl ?_|refine QO rfl rfl rfl rfl (fun _=>?_) fun _=>?_)<;>(refine h_z ?_))<;>(repeat (first|refine Aw ?_|refine Ah rfl ?_|refine Ae rfl ?_))
      (refine Ar rfl rfl ?_<;>refine Cw rfl rfl rfl ?_)
      refine DL rfl rfl fun w4 hN4=>?_
      (refine Au rfl rfl ?_<;>(refine o_z ?_))
      repeat (first|refine Aw ?_|refine Ah rfl ?_|refine Ae rfl ?_)
      have hE4:Ext w w4:=hE3.trans' hN4.ext
      have hT:mkT t (fuel + 1) ops v=.leaf ops:=by simp only [mkT,hemp',hnx,hlast];simp
      rw [hT]
      refine ret1 rfl rfl ⟨⟨w3.heap.size,.slice Ax ops.length cx,rfl,.inr ⟨hE3.size,hN4.blk.lt⟩,hN4.blk,?_⟩,hE4⟩
      exact Vb.mono (Vb.agree hV3 (hN4.ext.agree fun k hk=>Nat.lt_of_lt_of_le (hF k hk) hE3.size)) fun k hk=>.inl hk
    have hun':u < t.vars.length:=by omega
    obtain ⟨n,hn⟩:=AF hun'
    have hn1:=hdom u n hn
    obtain ⟨m,rfl⟩:=Int.eq_ofNat_of_zero_le (show 0≤n by omega)
    have hT:mkT t (fuel + 1) ops v=.node u m (fun x=>mkT t fuel (ops.filter (valB t u x)) (u + 1)) (mkT t fuel (ops.filter (restB t u)) (u + 1)):=by
      simp only [mkT,hemp',hnx,hlast,hn];simp
    rw [hT]
    clear hT hnx
    (refine Cm rfl rfl rfl ?_<;>refine Cm rfl rfl rfl ?_<;>refine Ec rfl rfl rfl ?_<;>refine Bc rfl rfl rfl ?_<;>refine Bc rfl rfl rfl ?_<;>refine Cm rfl rfl rfl ?_<;>refine Jp rfl rfl rfl ?_<;>(first|refine QM rfl rfl rfl rfl ?_|refine QN rfl rfl rfl rfl ?_|refine QO rfl rfl rfl rfl (fun _=>?_) fun _=>?_)<;>(refine h_z ?_))<;>(repeat (first|refine Aw ?_|refine Ah rfl ?_|refine Ae rfl ?_))
    obtain ⟨bv,ov,ce,rfl,hbv,_,hdv,rfl,_⟩:=hvars.elem hn
    refine Cr (Ext w3) [(0,true),(1,true),(2,true),(3,true),(4,true),(5,true),(6,true),(7,true),(8,false),(9,true)] (by kernel_rfl) rfl (by kernel_rfl) (Below.refl _ _) ?_
    have hb1s:=hb1
    have hb2s:=hb2
    replace hb1:∀ w',Ext w3 w'→Blk w' w.heap.size 104 [.pointer (some ⟨gb,0,none⟩)]:=fun w' h=>hb1s.ext h
    replace hb2:∀ w',Ext w3 w'→Blk w' w1.heap.size 3 [.int .i64 (u:Int)]:=fun w' h=>hb2s.ext h
    have hb3s:=hb3
    replace hb3:∀ w',Ext w3 w'→Blk w' gb 151 [.slice (some ⟨bv,ov,none⟩) t.vars.length cv,b,c,d,.pointer rp]:=fun w' h=>hb3s.ext h
    have hd1:∀ w',Ext w3 w'→cellsAt w' bv (ov + u * 1) [.int .i64 (m:Int)]:=fun w' h=>Jl hdv hbv (hE3.trans' h)
    ((first|refine EP rfl rfl rfl ?_|refine AZ rfl rfl rfl ?_)<;>refine Ec rfl rfl rfl ?_<;>refine Bc rfl rfl rfl ?_<;>refine Bc rfl rfl rfl ?_<;>(first|refine EP rfl rfl rfl ?_|refine AZ rfl rfl rfl ?_)<;>(first|refine EP rfl rfl rfl ?_|refine AZ rfl rfl rfl ?_)<;>refine Jq rfl rfl rfl rfl ?_<;>(first|refine EP rfl rfl rfl ?_|refine AZ rfl rfl rfl ?_))
    refine Cb rfl ?_
    refine Ku rfl rfl (by omega) (by omega) rfl fun w4 hN4=>?_
    refine Cv hN4.ext ?_
    (refine De rfl rfl rfl ?_<;>(refine h_z ?_))
    have hE4:Ext w w4:=hE3.trans' hN4.ext
    have hw23:w2.heap.size≤w3.heap.size:=by have:=hb2s.lt;omega
    replace hb1:=hb1s.ext hN4.ext
    replace hb2:=hb2s.ext hN4.ext
    clear hb3 hd1
    repeat (first|refine Aw ?_|refine Ah rfl ?_|refine Ae rfl ?_)
    ((repeat (first|refine Aw ?_|refine Ah rfl ?_|refine Ae rfl ?_))<;>(refine Au rfl rfl ?_<;>(refine o_z ?_))<;>(repeat (first|refine Aw ?_|refine Ah rfl ?_|refine Ae rfl ?_))<;>(refine Ar rfl rfl ?_<;>refine AP rfl rfl ?_<;>refine Ar rfl rfl ?_<;>(refine o_z ?_))<;>(repeat (first|refine Aw ?_|refine Ah rfl ?_|refine Ae rfl ?_)))
    have hby0:ByInv w4 w2.heap.size w3.heap.size (List.replicate m (.slice none 0 0)) (.slice none 0 0) (fun i=>((ops.take 0).filter (valB t u i))) ((ops.take 0).filter (restB t u)) m:=by
      have hget:∀ (i:Nat) (x:Value),(List.replicate m (Value.slice none 0 0))[i]?=some x→x=.slice none 0 0:=fun i x h=>by
        rw [List.getElem?_replicate] at h;split at h<;>simp at h;exact h.symm
      refine ⟨by simp,by have:=hN4.blk;rwa [PC] at this,fun i x h=>?_,by simpa using Own.nil _ _ _ _,fun i j x y _ hx _ g hg=>?_,fun i x hx g hg=>?_⟩
      · rw [hget i x h];simpa using Own.nil _ _ _ _
      · rw [hget i x hx] at hg;simp [Value.ownBlock] at hg
      · rw [hget i x hx] at hg;simp [Value.ownBlock] at hg
    refine BR ops.length (by omega) (fun x:List Value×Value=>[(1,.slice Ax ops.length cx),(3,.pointer (some ⟨w.heap.size,0,none⟩)),(5,.pointer (some ⟨w1.heap.size,0,none⟩)),(7,.slice (some ⟨w3.heap.size,0,none⟩) m m),(8,x.2),(55,.slice Ax ops.length cx)])
      (fun k x w'=>Ext w w'∧Blk w' w.heap.size 104 [.pointer (some ⟨gb,0,none⟩)]∧Blk w' w1.heap.size 3 [.int .i64 (u:Int)]∧ByInv w' w2.heap.size w3.heap.size x.1 x.2 (fun i=>((ops.take k).filter (valB t u i))) ((ops.take k).filter (restB t u)) m) (List.replicate m (.slice none 0 0),.slice none 0 0)
      ⟨hE4,hb1,hb2,hby0⟩ ⟨rfl,rfl,rfl,rfl,rfl,rfl,rfl,rfl,trivial⟩ (fun _=>⟨rfl,rfl⟩) ⟨rfl,rfl,rfl⟩ ⟨rfl,rfl⟩ ?_ ?_
    · rintro k ⟨vals,rv⟩ w5 hk ⟨hE5,hb1,hb2,hby⟩
      dsimp only at hby
      obtain ⟨x,hx⟩:=AF hk
      obtain ⟨hx0,hx1⟩:=hin x (List.mem_of_getElem? hx)
      obtain ⟨j,rfl⟩:=Int.eq_ofNat_of_zero_le hx0
      obtain ⟨o,ho⟩:=AF (l:=t.ops) (k:=j) (by omega)
      have hpre:preOf t (j:Int)=o.pre:=by simp [preOf,ho]
      obtain ⟨b2,o2,ce,rfl,hbF,_,hd0,rfl,hxin⟩:=hops.elem hx
      have hd1:=Jl hd0 (hF _ hbF) hE5
      ((repeat (first|refine Aw ?_|refine Ah rfl ?_|refine Ae rfl ?_))<;>(refine Dg rfl rfl rfl ?_<;>refine AE rfl rfl ?_<;>refine Au rfl rfl ?_<;>(refine o_z ?_))<;>(repeat (first|refine Aw ?_|refine Ah rfl ?_|refine Ae rfl ?_))<;>(refine AE rfl rfl ?_<;>refine Ar rfl rfl ?_<;>refine AE rfl rfl ?_)<;>(repeat (first|refine Aw ?_|refine Ah rfl ?_|refine Ae rfl ?_)))
      refine Bu rfl rfl (genFact (hg0.ext hE5) ho) ?_
      rintro _ w6 ⟨rfl,hE6⟩
      replace hb1:=hb1.ext hE6
      replace hb2:=hb2.ext hE6
      replace hby:=hby.ext hE6
      have hE06:Ext w w6:=hE5.trans' hE6
      have hkl:((ops.take k).filter (restB t u)).length≤4096:=Nat.le_trans (List.length_filter_le _ _) (by rw [List.length_take];omega)
      cases hf:factOn o.pre (u:Int) with
      | none =>
        simp only [factV]
        (refine Ar rfl rfl ?_<;>refine BH rfl rfl rfl ?_<;>refine BH rfl rfl rfl ?_)
        refine Cp rfl rfl rfl (by simp [Value.cells,Value.oneCell']) fun w7 hN7=>?_
        replace hb1:=hb1.ext hN7.ext
        replace hb2:=hb2.ext hN7.ext
        replace hby:=hby.ext hN7.ext
        have hE7:Ext w w7:=hE06.trans' hN7.ext
        (refine Au rfl rfl ?_<;>(refine o_z ?_))
        repeat (first|refine Aw ?_|refine Ah rfl ?_|refine Ae rfl ?_)
        ((repeat (first|refine Aw ?_|refine Ah rfl ?_|refine Ae rfl ?_))<;>(refine Ar rfl rfl ?_<;>(refine o_z ?_))<;>(repeat (first|refine Aw ?_|refine Ah rfl ?_|refine Ae rfl ?_)))
        (refine Ar rfl rfl ?_<;>refine Ar rfl rfl ?_)
        have hl2:=hb2.lt
        refine MI (a:=(j:Int)) rfl rfl rfl hby.rest (fun _ h=>h.elim) (by omega) ⟨rfl,hxin⟩ (by decide) (by decide) (by omega) (by omega) ⟨rfl,rfl⟩ fun rv' w8 ho8 hK8 hat=>?_
        have hB8:Below w2.heap.size w7 w8:=hby.rest.fits (Nat.le_refl _) (by omega) hK8
        have hby8:=hby.putRest hK8 ho8 hat
        (refine Au rfl rfl ?_<;>(refine o_z ?_))
        repeat (first|refine Aw ?_|refine Ah rfl ?_|refine Ae rfl ?_)
        refine ⟨(vals,rv'),⟨rfl,rfl,rfl,rfl,rfl,rfl,rfl,rfl,trivial⟩,hE7.trans (hB8.mono (by omega)),hb1.keep (hB8.block _ (by omega)),hb2.keep (hB8.block _ (by omega)),?_⟩
        have e1:∀ i,(ops.take (k + 1)).filter (valB t u i)=(ops.take k).filter (valB t u i):=fun i=>by rw [GH hx];simp [valB,hpre,hf]
        have e2:(ops.take (k + 1)).filter (restB t u)=(ops.take k).filter (restB t u) ++ [(j:Int)]:=by rw [GH hx];simp [restB,hpre,hf]
        dsimp only
        rw [e2]
        simp only [e1]
        exact hby8
      | some f =>
        obtain ⟨hf0,n',hn',hf1⟩:=hfv j o ho u f hf hun'
        rw [hn] at hn';injection hn' with hn';subst hn'
        obtain ⟨x0,hj1⟩:=Int.eq_ofNat_of_zero_le hf0
        have hx0m:x0 < m:=by omega
        obtain ⟨u0,hu0⟩:=AF (l:=vals) (k:=x0) (by rw [hby.len];exact hx0m)
        simp only [factV]
        (refine Ar rfl rfl ?_<;>refine BH rfl rfl rfl ?_<;>refine BH rfl rfl rfl ?_)
        refine Cp rfl rfl rfl (by simp [Value.cells,Value.oneCell']) fun w7 hN7=>?_
        replace hb1:=hb1.ext hN7.ext
        replace hb2:=hb2.ext hN7.ext
        replace hby:=hby.ext hN7.ext
        have hE7:Ext w w7:=hE06.trans' hN7.ext
        have hbf:=hN7.blk
        (refine Au rfl rfl ?_<;>(refine o_z ?_))
        repeat (first|refine Aw ?_|refine Ah rfl ?_|refine Ae rfl ?_)
        ((repeat (first|refine Aw ?_|refine Ah rfl ?_|refine Ae rfl ?_))<;>(refine Ar rfl rfl ?_<;>(refine o_z ?_))<;>(repeat (first|refine Aw ?_|refine Ah rfl ?_|refine Ae rfl ?_)))
        have hl2:=hb2.lt
        have hown0:=hby.own x0 u0 hu0
        have hkl0:((ops.take k).filter (valB t u x0)).length≤4096:=Nat.le_trans (List.length_filter_le _ _) (by rw [List.length_take];omega)
        refine Cr (fun w'=>Blk w' w6.heap.size 62 [.int .i64 f.var,.int .i64 f.val]∧Blk w' w3.heap.size 22 vals) [(0,true),(1,true),(2,true),(3,true),(4,true),(5,true),(6,true),(7,true),(8,true),(9,false),(10,false),(11,true),(12,false)] (by kernel_rfl) rfl (by kernel_rfl) ⟨hbf,hby.blk⟩ ?_
        have hb1s:=hb1
        have hb2s:=hb2
        clear hb2
        replace hb1:∀ w',(Blk w' w6.heap.size 62 [.int .i64 f.var,.int .i64 f.val]∧Blk w' w3.heap.size 22 vals)→Blk w' w6.heap.size 62 [.int .i64 f.var,.int .i64 f.val]:=fun _ h=>h.1
        have hc1:∀ w',(Blk w' w6.heap.size 62 [.int .i64 f.var,.int .i64 f.val]∧Blk w' w3.heap.size 22 vals)→w'.cell? ⟨w3.heap.size,0 + x0 * 1,none⟩=some u0:=fun _ h=>h.2.cell (by rw [Nat.zero_add,Nat.mul_one];exact hu0)
        (refine AJ rfl rfl rfl ?_<;>refine Bc rfl rfl rfl ?_<;>(first|refine EP rfl rfl rfl ?_|refine AZ rfl rfl rfl ?_)<;>refine AJ rfl rfl rfl ?_<;>refine Bc rfl rfl rfl ?_<;>(first|refine EP rfl rfl rfl ?_|refine AZ rfl rfl rfl ?_)<;>refine Jq rfl rfl rfl rfl ?_<;>(first|refine EP rfl rfl rfl ?_|refine AZ rfl rfl rfl ?_)<;>refine AJ rfl rfl rfl ?_)
        refine Cb rfl ?_
        refine DX rfl rfl rfl (by simp [Value.cells]) (by decide) rfl fun w8 hN8=>?_
        refine Cv ⟨hbf.ext hN8.ext,hby.blk.ext hN8.ext⟩ ?_
        refine Cb rfl ?_
        refine Fz (α:=Int) (A:=some ⟨w7.heap.size,0,none⟩) (c:=1) (ys:=[(j:Int)]) (cells:=[.int .i64 (j:Int)]) rfl rfl (hown0.ext hN8.ext fun _ h=>h.elim) (fun _ h=>h.elim) (by have:=hN8.size;omega) (.single ⟨rfl,hxin⟩) (fun _=>⟨_,_,rfl,hN8.blk.cellsAt⟩) (by decide) (by rw [List.length_singleton];omega) (by rw [List.length_singleton];omega) rfl fun v' w9 ho9 hg9 hat=>?_
        have hK9:Kept w7 w9 u0:=⟨hg9.os.trans hN8.ext.os,hg9.tape.trans hN8.ext.tape,hg9.output.trans hN8.ext.output,Nat.le_trans hN8.ext.size hg9.size,fun k hk hne=>by rw [hg9.block k (Nat.lt_of_lt_of_le hk hN8.ext.size) (fun he=>hne he.symm),hN8.ext.block k hk]⟩
        have hbf9:=hK9.blk hbf (hown0.blk_ne hbf (by decide))
        have hby9:=hK9.blk hby.blk (hown0.blk_ne hby.blk (by decide))
        have hB9:Below w2.heap.size w7 w9:=hown0.fits (Nat.le_refl _) (by omega) hK9
        refine Cv ⟨hbf9,hby9⟩ ?_
        (refine Jq rfl rfl rfl rfl ?_)
        refine Cb rfl ?_
        obtain ⟨A9,c9,rfl⟩:=ho9.form
        refine Co (g:=w3.heap.size) (o:=0 + x0 * 1) rfl rfl hby9 rfl (by rw [hby.len];show 0 + x0 * 1 + 1≤m;omega) (by simp [Value.cells,Value.oneCell']) fun w10 hU=>?_
        have hset:setFrom vals (0 + x0 * 1) [.slice A9 (List.filter (valB t u x0) (List.take k ops) ++ [(j:Int)]).length c9]=vals.set x0 (.slice A9 (List.filter (valB t u x0) (List.take k ops) ++ [(j:Int)]).length c9):=by rw [Nat.zero_add,Nat.mul_one];rfl
        have hU':Upd w9 w10 w3.heap.size 22 (vals.set x0 (.slice A9 (List.filter (valB t u x0) (List.take k ops) ++ [(j:Int)]).length c9)):=hset ▸ hU
        have hby10:=hby.putVal hu0 hK9 ho9 (by
          rcases hat with hat|hat
          · exact .inl hat
          · exact .inr ⟨_,hat,hN8.ext.size⟩) hU'
        have hB10:Below w2.heap.size w9 w10:=hU.below hw23
        refine FX ?_
        ((refine h_z ?_))
        repeat (first|refine Aw ?_|refine Ah rfl ?_|refine Ae rfl ?_)
        refine ⟨(vals.set x0 (.slice A9 (List.filter (valB t u x0) (List.take k ops) ++ [(j:Int)]).length c9),rv),⟨rfl,rfl,rfl,rfl,rfl,rfl,rfl,rfl,trivial⟩,hE7.trans ((hB9.trans hB10).mono (by omega)),hb1s.keep ((hB9.trans hB10).block _ (by omega)),hb2s.keep ((hB9.trans hB10).block _ (by omega)),?_⟩
        have e1:∀ i,(ops.take (k + 1)).filter (valB t u i)=if i=x0 then (ops.take k).filter (valB t u x0) ++ [(j:Int)] else (ops.take k).filter (valB t u i):=fun i=>by
          rw [GH hx]
          by_cases hi:i=x0
          · subst hi;simp [valB,hpre,hf,hj1]
          · have:¬ (f.val=(i:Int)):=by omega
            simp [valB,hpre,hf,hi,this]
        have e2:(ops.take (k + 1)).filter (restB t u)=(ops.take k).filter (restB t u):=by rw [GH hx];simp [restB,hpre,hf]
        dsimp only
        rw [e2]
        simp only [e1]
        exact hby10
    rintro ⟨vals,rv⟩ w5 ⟨hE5,hb1,hb2,hby⟩
    dsimp only at hby
    rw [List.take_length] at hby
    have hl2:=hb2.lt
    have hb1s:=hb1
    have hb2s:=hb2
    have hflt:∀ p:Int→Bool,OpsIn t (ops.filter p)∧(ops.filter p).length≤4096:=fun p=>⟨fun x hx=>hin x (List.mem_filter.1 hx).1,Nat.le_trans (List.length_filter_le _ _) hlen⟩
    have hrv:Vb w5 (fun k=>rv.ownBlock=some k) rv (ops.filter (restB t u)):=hby.rest.vb.mono fun k hk=>hk.resolve_left id
    repeat (first|refine Aw ?_|refine Ah rfl ?_|refine Ae rfl ?_)
    refine Cr (Ext w5) [(0,true),(1,true),(2,true),(3,true),(4,true),(5,false),(6,true),(7,false),(8,true)] (by kernel_rfl) rfl (by kernel_rfl) (Below.refl _ _) ?_
    (refine Hc rfl rfl rfl ?_<;>refine Hc rfl rfl rfl ?_<;>refine AJ rfl rfl rfl ?_<;>refine Hc rfl rfl rfl ?_<;>(first|refine RV rfl rfl rfl ?_|refine RU rfl rfl rfl rfl ?_))
    refine Cb rfl ?_
    refine Bu rfl rfl (ih w5 _ rv _ (u + 1) (fun k=>rv.ownBlock=some k) (hg0.ext hE5) hrv (fun k hk=>(hby.rest.lt k hk).2) (hflt _).1 (hflt _).2 (by omega) (by omega)) ?_
    rintro p6 w6 ⟨hT6,hE6⟩
    obtain ⟨q6,rfl⟩:=hT6.form
    refine Cv hE6 ?_
    (refine Gi rfl rfl rfl rfl ?_)
    refine Cb rfl ?_
    refine DL rfl rfl fun w7 hN7=>?_
    refine Cv (hE6.trans' hN7.ext) ?_
    (refine De rfl rfl rfl ?_<;>(refine h_z ?_))
    have hnode:Blk w7 w6.heap.size 184 [.slice none 0 0,.bool false,.int .i64 (u:Int),.slice none 0 0,.pointer q6]:=hN7.blk
    have hby6:=hby.ext hE6
    repeat (first|refine Aw ?_|refine Ah rfl ?_|refine Ae rfl ?_)
    ((repeat (first|refine Aw ?_|refine Ah rfl ?_|refine Ae rfl ?_))<;>(refine Ar rfl rfl ?_<;>refine AP rfl rfl ?_<;>refine Ar rfl rfl ?_<;>(refine o_z ?_))<;>(repeat (first|refine Aw ?_|refine Ah rfl ?_|refine Ae rfl ?_)))
    refine BR m (by omega) (fun x:Value=>[(3,.pointer (some ⟨w.heap.size,0,none⟩)),(5,.pointer (some ⟨w1.heap.size,0,none⟩)),(13,.pointer (some ⟨w6.heap.size,0,none⟩)),(94,.slice (some ⟨w3.heap.size,0,none⟩) m m)])
      (fun k x w'=>Ext w6 w'∧Blk w' w6.heap.size 184 [.slice none 0 0,.bool false,.int .i64 (u:Int),x,.pointer q6]∧∃ G:Nat→Prop,(∀ k,G k→k < w'.heap.size∧w2.heap.size≤k)∧¬ G w6.heap.size∧Own w' w7.heap.size G 149 x ((List.range k).map fun i=>mkT t fuel (ops.filter (valB t u i)) (u + 1))) (.slice none 0 0)
      ⟨hN7.ext,hnode,fun _=>False,fun _ h=>h.elim,id,Own.nil _ _ _ _⟩ ⟨rfl,rfl,rfl,rfl,rfl,rfl,trivial⟩ (fun _=>⟨rfl,rfl⟩) ⟨rfl,rfl,rfl⟩ ⟨rfl,rfl⟩ ?_ ?_
    · rintro k xv w8 hk ⟨hE8,hnd,G,hG,hGn,hown⟩
      obtain ⟨u0,hu0⟩:=AF (l:=vals) (k:=k) (by rw [hby.len];exact hk)
      have hby8:=hby6.ext hE8
      have hE58:Ext w5 w8:=hE6.trans' hE8
      have hE08:Ext w w8:=hE5.trans' hE58
      have hc1:w8.cell? ⟨w3.heap.size,0 + k * 1,none⟩=some u0:=hby8.blk.cell (by rw [Nat.zero_add,Nat.mul_one];exact hu0)
      have hown0:=hby8.own k u0 hu0
      obtain ⟨Ak,ck,rfl⟩:=hown0.form
      obtain ⟨Ax',cx',rfl⟩:=hown.form
      have hz78:w7.heap.size≤w8.heap.size:=by have:=hnd.lt;have:=hN7.size;omega
      ((repeat (first|refine Aw ?_|refine Ah rfl ?_|refine Ae rfl ?_))<;>(refine Dg rfl rfl rfl ?_<;>refine AE rfl rfl ?_<;>refine Au rfl rfl ?_<;>(refine o_z ?_))<;>(repeat (first|refine Aw ?_|refine Ah rfl ?_|refine Ae rfl ?_)))
      refine Cr (fun w'=>Blk w' w6.heap.size 184 [.slice none 0 0,.bool false,.int .i64 (u:Int),.slice Ax' ((List.range k).map fun i=>mkT t fuel (ops.filter (valB t u i)) (u + 1)).length cx',.pointer q6]∧Blk w' w.heap.size 104 [.pointer (some ⟨gb,0,none⟩)]∧Blk w' w1.heap.size 3 [.int .i64 (u:Int)]) [(0,true),(1,true),(2,true),(3,true),(4,true),(5,true),(6,true),(7,true),(8,true),(9,false),(10,false),(11,false),(12,true),(13,true),(14,false)] (by kernel_rfl) rfl (by kernel_rfl) ⟨hnd,hb1s.ext hE58,hb2s.ext hE58⟩ ?_
      have hS8:∀ w',Ext w8 w'→Blk w' w6.heap.size 184 [.slice none 0 0,.bool false,.int .i64 (u:Int),.slice Ax' ((List.range k).map fun i=>mkT t fuel (ops.filter (valB t u i)) (u + 1)).length cx',.pointer q6]∧Blk w' w.heap.size 104 [.pointer (some ⟨gb,0,none⟩)]∧Blk w' w1.heap.size 3 [.int .i64 (u:Int)]:=fun w' h=>⟨hnd.ext h,(hb1s.ext hE58).ext h,(hb2s.ext hE58).ext h⟩
      clear hb1 hb2 hc1
      have hb1:∀ w',(Blk w' w6.heap.size 184 [.slice none 0 0,.bool false,.int .i64 (u:Int),.slice Ax' ((List.range k).map fun i=>mkT t fuel (ops.filter (valB t u i)) (u + 1)).length cx',.pointer q6]∧Blk w' w.heap.size 104 [.pointer (some ⟨gb,0,none⟩)]∧Blk w' w1.heap.size 3 [.int .i64 (u:Int)])→Blk w' w6.heap.size 184 [.slice none 0 0,.bool false,.int .i64 (u:Int),.slice Ax' ((List.range k).map fun i=>mkT t fuel (ops.filter (valB t u i)) (u + 1)).length cx',.pointer q6]:=fun _ h=>h.1
      have hb2:∀ w',(Blk w' w6.heap.size 184 [.slice none 0 0,.bool false,.int .i64 (u:Int),.slice Ax' ((List.range k).map fun i=>mkT t fuel (ops.filter (valB t u i)) (u + 1)).length cx',.pointer q6]∧Blk w' w.heap.size 104 [.pointer (some ⟨gb,0,none⟩)]∧Blk w' w1.heap.size 3 [.int .i64 (u:Int)])→Blk w' w.heap.size 104 [.pointer (some ⟨gb,0,none⟩)]:=fun _ h=>h.2.1
      have hb3:∀ w',(Blk w' w6.heap.size 184 [.slice none 0 0,.bool false,.int .i64 (u:Int),.slice Ax' ((List.range k).map fun i=>mkT t fuel (ops.filter (valB t u i)) (u + 1)).length cx',.pointer q6]∧Blk w' w.heap.size 104 [.pointer (some ⟨gb,0,none⟩)]∧Blk w' w1.heap.size 3 [.int .i64 (u:Int)])→Blk w' w1.heap.size 3 [.int .i64 (u:Int)]:=fun _ h=>h.2.2
      (refine AJ rfl rfl rfl ?_<;>refine AJ rfl rfl rfl ?_<;>refine Ec rfl rfl rfl ?_<;>refine Bc rfl rfl rfl ?_<;>(first|refine EP rfl rfl rfl ?_|refine AZ rfl rfl rfl ?_)<;>(first|refine EP rfl rfl rfl ?_|refine AZ rfl rfl rfl ?_)<;>refine AJ rfl rfl rfl ?_<;>(first|refine EP rfl rfl rfl ?_|refine AZ rfl rfl rfl ?_)<;>(first|refine RV rfl rfl rfl ?_|refine RU rfl rfl rfl rfl ?_))
      refine Cb rfl ?_
      have hu0v:Vb w8 (fun q=>(Value.slice Ak (ops.filter (valB t u k)).length ck).ownBlock=some q) (.slice Ak (ops.filter (valB t u k)).length ck) (ops.filter (valB t u k)):=hown0.vb.mono fun q hq=>hq.resolve_left id
      refine Bu rfl rfl (ih w8 _ _ _ (u + 1) _ (hg0.ext hE08) hu0v (fun q hq=>(hown0.lt q hq).2) (hflt _).1 (hflt _).2 (by omega) (by omega)) ?_
      rintro p9 w9 ⟨hT9,hE9⟩
      obtain ⟨q9,rfl⟩:=hT9.form
      refine Cv (hS8 w9 hE9) ?_
      refine Cb rfl ?_
      refine DX rfl rfl rfl (by simp [Value.cells]) (by decide) rfl fun w10 hN10=>?_
      have hE10:Ext w8 w10:=hE9.trans' hN10.ext
      refine Cv (hS8 w10 hE10) ?_
      have hG':∀ q,(G q∨(Value.slice Ak (ops.filter (valB t u k)).length ck).ownBlock=some q∨w8.heap.size≤q∧q < w9.heap.size)→q < w9.heap.size∧w2.heap.size≤q:=fun q hq=>by
        have h9:=hE9.size
        have h6:=hE6.size
        have h7:=hN7.size
        rcases hq with hq|hq|hq
        · have:=hG q hq;exact ⟨by omega,this.2⟩
        · have:=hown0.lt q hq;exact ⟨by omega,this.1⟩
        · exact ⟨hq.2,by omega⟩
      have hGx:∀ g,(Value.slice Ax' ((List.range k).map fun i=>mkT t fuel (ops.filter (valB t u i)) (u + 1)).length cx').ownBlock=some g→¬ (G g∨(Value.slice Ak (ops.filter (valB t u k)).length ck).ownBlock=some g∨w8.heap.size≤g∧g < w9.heap.size):=fun g hg h=>by
        rcases h with h|h|h
        · obtain ⟨_,_,_,h3⟩:=hown;exact h3 g hg h
        · exact hown.own_ne hown0 (by decide) g hg h
        · have:=(hown.lt g hg).2;omega
      have hownG:Own w9 w7.heap.size (fun q=>G q∨(Value.slice Ak (ops.filter (valB t u k)).length ck).ownBlock=some q∨w8.heap.size≤q∧q < w9.heap.size) 149 _ _:=(hown.ext hE9 fun q hq=>(hG q hq).1).mono (fun q hq=>.inl hq) hGx
      have hch:Chunks w10 (fun q=>G q∨(Value.slice Ak (ops.filter (valB t u k)).length ck).ownBlock=some q∨w8.heap.size≤q∧q < w9.heap.size) [.pointer q9] [mkT t fuel (ops.filter (valB t u k)) (u + 1)] :=
        .single (show Rp.R w10 _ [.pointer q9] _ from ⟨q9,rfl,TrR.agree (hN10.ext.agree fun q hq=>(hG' q hq).1) (TrR.mono (fun q hq=>by
          rcases hq with hq|hq
          · exact .inr (.inl hq)
          · exact .inr (.inr hq)) hT9)⟩)
      refine Cb rfl ?_
      have hmk:((List.range k).map fun i=>mkT t fuel (ops.filter (valB t u i)) (u + 1)).length≤64:=by simp;omega
      refine Fz (α:=Tr) (A:=some ⟨w9.heap.size,0,none⟩) (c:=1) (ys:=[mkT t fuel (ops.filter (valB t u k)) (u + 1)]) (cells:=[.pointer q9]) rfl rfl (hownG.ext hN10.ext fun q hq=>(hG' q hq).1) (fun q hq=>Nat.lt_of_lt_of_le (hG' q hq).1 hN10.ext.size) (by have:=hE10.size;omega) hch (fun _=>⟨_,_,rfl,hN10.blk.cellsAt⟩) (by decide) (by rw [List.length_singleton];omega) (by rw [List.length_singleton];omega) rfl fun v' w11 ho11 hg11 hat=>?_
      have hown10:=hown.ext hE10 fun q hq=>(hG q hq).1
      have hK11:Kept w8 w11 (.slice Ax' ((List.range k).map fun i=>mkT t fuel (ops.filter (valB t u i)) (u + 1)).length cx'):=⟨hg11.os.trans hE10.os,hg11.tape.trans hE10.tape,hg11.output.trans hE10.output,Nat.le_trans hE10.size hg11.size,fun q hq hne=>by rw [hg11.block q (Nat.lt_of_lt_of_le hq hE10.size) (fun he=>hne he.symm),hE10.block q hq]⟩
      have hB11:Below w7.heap.size w8 w11:=hown.fits (Nat.le_refl _) hz78 hK11
      have hnd11:=hK11.blk hnd (hown.blk_ne hnd (by decide))
      have hz67:=hN7.size
      refine Cv ⟨hnd11,(hb1s.ext hE58).keep (hB11.block _ (by have:=hE6.size;omega)),(hb2s.ext hE58).keep (hB11.block _ (by have:=hE6.size;omega))⟩ ?_
      (refine Ec rfl rfl rfl ?_<;>refine Bc rfl rfl rfl ?_)
      refine Cb rfl ?_
      obtain ⟨A11,c11,rfl⟩:=ho11.form
      refine Co (g:=w6.heap.size) rfl rfl hnd11 rfl (show 0 + 3 + 1≤5 by decide) (by simp [Value.cells,Value.oneCell']) fun w12 hU=>?_
      refine FX ?_
      ((refine h_z ?_))
      repeat (first|refine Aw ?_|refine Ah rfl ?_|refine Ae rfl ?_)
      refine ⟨_,⟨rfl,rfl,rfl,rfl,rfl,rfl,trivial⟩,?_,hU.blk,(fun q=>G q∨(Value.slice Ak (ops.filter (valB t u k)).length ck).ownBlock=some q∨w8.heap.size≤q∧q < w9.heap.size),?_,?_,?_⟩
      · exact hE8.trans ((hB11.mono (by omega)).trans (hU.below (Nat.le_refl _)))
      · intro q hq
        have:=hG' q hq
        have h1:=hN10.ext.size
        have h2:=hg11.size
        exact ⟨by rw [hU.size];omega,this.2⟩
      · rintro (h|h|h)
        · exact hGn h
        · exact hown0.blk_ne hnd (by decide) h
        · have:=hnd.lt;omega
      · rw [List.range_succ,List.map_append]
        have hne:(Value.slice A11 (((List.range k).map fun i=>mkT t fuel (ops.filter (valB t u i)) (u + 1)) ++ [mkT t fuel (ops.filter (valB t u k)) (u + 1)]).length c11).ownBlock≠some w6.heap.size:=ho11.blk_ne hnd11 (by decide)
        exact ho11.agree (hU.agree (by
          rintro (h|h|h)
          · exact hGn h
          · exact hown0.blk_ne hnd (by decide) h
          · have:=hnd.lt;omega)) fun g hg=>hU.other g fun he=>hne (he ▸ hg)
    rintro xv w8 ⟨hE8,hnd,G,hG,hGn,hown⟩
    repeat (first|refine Aw ?_|refine Ah rfl ?_|refine Ae rfl ?_)
    ((repeat (first|refine Aw ?_|refine Ah rfl ?_|refine Ae rfl ?_))<;>(refine Ar rfl rfl ?_<;>refine Au rfl rfl ?_<;>(refine o_z ?_))<;>(repeat (first|refine Aw ?_|refine Ah rfl ?_|refine Ae rfl ?_)))
    have hE08:Ext w w8:=hE5.trans' (hE6.trans' hE8)
    obtain ⟨Ax',cx',rfl⟩:=hown.form
    have hxl:((List.range m).map fun i=>mkT t fuel (ops.filter (valB t u i)) (u + 1)).length=m:=by simp
    rw [hxl] at hnd
    refine ret1 rfl rfl ⟨⟨w6.heap.size,Ax',cx',q6,rfl,.inr ⟨by have:=hE5.size;have:=hE6.size;omega,hnd.lt⟩,hnd,?_,fun i hi=>?_⟩,hE08⟩
    · refine TrR.mono (fun q hq=>?_) (TrR.agree (hE8.agree fun q hq=>?_) hT6)
      · rcases hq with hq|hq
        · have:=hby.rest.lt q hq;have:=hE6.size;have:=hE8.size;exact .inr ⟨by omega,by omega⟩
        · have:=hE8.size;have:=hE5.size;exact .inr ⟨by omega,by omega⟩
      · rcases hq with hq|hq
        · have:=hby.rest.lt q hq;have:=hE6.size;omega
        · exact hq.2
    · have hvb:=hown.vb
      obtain ⟨b9,o9,cs9,hA,hF9,_,hc9,q9,rfl,hT9⟩:=hvb.elem (k:=i) (x:=mkT t fuel (ops.filter (valB t u i)) (u + 1)) (by rw [List.getElem?_map,List.getElem?_range hi];rfl)
      have hsub:∀ q,(G q∨(Value.slice Ax' ((List.range m).map fun i=>mkT t fuel (ops.filter (valB t u i)) (u + 1)).length cx').ownBlock=some q)→more F w w8 q:=fun q hq=>by
        rcases hq with hq|hq
        · have:=hG q hq;exact .inr ⟨by omega,this.1⟩
        · have h1:=hown.lt q hq;have:=hN7.size;have:=hE6.size;exact .inr ⟨by omega,h1.2⟩
      exact ⟨b9,o9,q9,hA,hsub _ hF9,by have:=hc9.1;rwa [show i * Rp.size Tr=i from Nat.mul_one i] at this,TrR.mono hsub hT9⟩
end
section
open Go Go.RowKit
attribute [local irreducible] ewp owp hwp hwq hws Ev Evg Fn retPost loud loudS Res1
def nw (w w':World):Nat→Prop:=fun k=>w.heap.size≤k∧k < w'.heap.size
theorem Li {w:World} {F G:Nat→Prop}:∀ {xs:List Fct} {cells:List Value},Chunks w F cells xs→Chunks w G cells xs
  | [],_,h=>h
  | _ :: _,_,⟨cs,rest,he,hr,hc⟩=>⟨cs,rest,he,hr,Li hc⟩
theorem HW {w:World} {F G:Nat→Prop}:∀ {xs:List Int} {cells:List Value},Chunks w F cells xs→Chunks w G cells xs
  | [],_,h=>h
  | _ :: _,_,⟨cs,rest,he,hr,hc⟩=>⟨cs,rest,he,hr,HW hc⟩
theorem cloneIntsN {w:World} {sv:Value} {xs:List Int} (hs:V w sv xs) (hl:xs.length≤1000000):Fn Tryz.prog 50 [sv] w fun v w'=>Vb w' (nw w w') v xs∧Ext w w' :=
  (cloneInts hs (by omega)).mono fun v w' ⟨ho,hE⟩=>⟨by
    obtain ⟨cells,q1,q2,q3⟩:=id ho
    have ho':Own w' w.heap.size (fun _=>False) 3 v xs:=⟨cells,q1,HW q2,fun _ _ h=>h⟩
    exact ho'.vb.mono fun k hk=>ho.lt k (hk.resolve_left id),hE⟩
theorem cloneFactsN {w:World} {sv:Value} {xs:List Fct} (hs:V w sv xs) (hl:xs.length≤1000000):Fn Tryz.prog 51 [sv] w fun v w'=>Vb w' (nw w w') v xs∧Ext w w' :=
  (cloneFacts hs (by omega)).mono fun v w' ⟨ho,hE⟩=>⟨by
    obtain ⟨cells,q1,q2,q3⟩:=id ho
    have ho':Own w' w.heap.size (fun _=>False) 62 v xs:=⟨cells,q1,Li q2,fun _ _ h=>h⟩
    exact ho'.vb.mono fun k hk=>ho.lt k (hk.resolve_left id),hE⟩
theorem Vb.nwext {α:Type} [Rp α] {w w' w'':World} {v:Value} {x:α} (h:Vb w' (nw w w') v x) (hE:Ext w' w''):Vb w'' (nw w w') v x:=h.agree (hE.agree fun _ hk=>hk.2)
theorem genCopied {w:World} {tv:Value} {t:Tsk} (ht:V w tv t) (hl1:t.vars.length≤1000000) (hl2:t.init.length≤1000000) (hl3:t.goal.length≤1000000) (hl4:t.ops.length≤1000000)
    (hl5:∀ (i:Nat) o,t.ops[i]?=some o→o.pre.length≤1000000∧o.effs.length≤1000000∧∀ (j:Nat) e,o.effs[j]?=some e→e.cond.length≤1000000) :
    Fn Tryz.prog 87 [tv] w fun v w'=>Vb w' (nw w w') v t∧Ext w w':=by
  obtain ⟨cs,rfl,a,b,c,d,rfl,hvars,hinit,hgoal,hops⟩:=ht
  obtain ⟨Av,cv,rfl⟩:=hvars.form
  obtain ⟨Ai,ci,rfl⟩:=hinit.form
  obtain ⟨Ag,cg,rfl⟩:=hgoal.form
  obtain ⟨Ao,co,rfl⟩:=hops.form
  refine AH Tryz.func87 rfl Tryz.ntmps87 rfl ?_
  repeat (first|refine Aw ?_|refine Ah rfl ?_|refine Ae rfl ?_)
  refine DL rfl rfl fun w1 hN1=>?_
  refine Eu rfl fun w2 hN2=>?_
  have hE2:Ext w w2:=hN1.ext.trans' hN2.ext
  have hz1:w1.heap.size=w.heap.size + 1:=hN1.size
  have hz2:w2.heap.size=w1.heap.size + 1:=hN2.size
  have hb1:Blk w2 w.heap.size 26 [.slice Av t.vars.length cv,.slice Ai t.init.length ci,.slice Ag t.goal.length cg,.slice Ao t.ops.length co]:=hN1.blk.ext hN2.ext
  have hres:Blk w2 w1.heap.size 26 [.slice none 0 0,.slice none 0 0,.slice none 0 0,.slice none 0 0]:=hN2.blk
  ((refine o_z ?_))
  refine NS (fun l' w'=>∃ g3 av bv cv',subs l' [(1,.pointer (some ⟨w.heap.size,0,none⟩)),(2,.pointer (some ⟨w1.heap.size,0,none⟩)),(3,.pointer (some ⟨g3,0,none⟩))]∧Ext w2 w'∧w2.heap.size≤g3∧Blk w' g3 26 [av,bv,cv',.slice none 0 0] ∧
    Vb w' (fun k=>nw w2 w' k∧k≠g3) av t.vars∧Vb w' (fun k=>nw w2 w' k∧k≠g3) bv t.init∧Vb w' (fun k=>nw w2 w' k∧k≠g3) cv' t.goal) ?_ ?_
  · have q0:∀ w',Ext w2 w'→Blk w' w.heap.size 26 [.slice Av t.vars.length cv,.slice Ai t.init.length ci,.slice Ag t.goal.length cg,.slice Ao t.ops.length co]:=fun w' h=>hb1.ext h
    refine Pk (Ext w2) ?_
    refine JT (i:=0) rfl (by kernel_rfl) (by kernel_rfl) (by kernel_rfl) rfl rfl (evg fun _ _=>Eb rfl) (Below.refl _ _) ?_
    refine JT (i:=1) rfl (by kernel_rfl) (by kernel_rfl) (by kernel_rfl) rfl rfl (evg fun _ hS=>EO rfl ((hb1.ext hS).cell rfl)) (Below.refl _ _) ?_
    refine JT (i:=3) rfl (by kernel_rfl) (by kernel_rfl) (by kernel_rfl) rfl rfl (evg fun _ _=>Eb rfl) (Below.refl _ _) ?_
    refine JT (i:=4) rfl (by kernel_rfl) (by kernel_rfl) (by kernel_rfl) rfl rfl (evg fun _ hS=>EO rfl ((hb1.ext hS).cell rfl)) (Below.refl _ _) ?_
    refine JT (i:=6) rfl (by kernel_rfl) (by kernel_rfl) (by kernel_rfl) rfl rfl (evg fun _ _=>Eb rfl) (Below.refl _ _) ?_
    refine JT (i:=7) rfl (by kernel_rfl) (by kernel_rfl) (by kernel_rfl) rfl rfl (evg fun _ hS=>EO rfl ((hb1.ext hS).cell rfl)) (Below.refl _ _) ?_
    refine Ly (i:=2) (j:=10) (by kernel_rfl) rfl rfl ?_ ?_
    · refine Bu rfl rfl (cloneIntsN (hvars.ext hE2) hl1) ?_
      rintro av w3 ⟨hav,hE3⟩
      refine FY hE3 ?_
      refine Ly (i:=5) (j:=10) (by kernel_rfl) rfl rfl ?_ ?_
      · refine Bu rfl rfl (cloneIntsN (hinit.ext (hE2.trans' hE3)) hl2) ?_
        rintro bv w4 ⟨hbv,hE4⟩
        refine FY (hE3.trans' hE4) ?_
        refine Ly (i:=8) (j:=10) (by kernel_rfl) rfl rfl ?_ ?_
        · refine Bu rfl rfl (cloneFactsN (hgoal.ext (hE2.trans' (hE3.trans' hE4))) hl3) ?_
          rintro cv' w5 ⟨hcv,hE5⟩
          refine FY (hE3.trans' (hE4.trans' hE5)) ?_
          refine JU [(9,true),(10,false),(11,false)] (by kernel_rfl) rfl (by kernel_rfl) (hE3.trans' (hE4.trans' hE5)) ?_
          obtain ⟨Aa,ca,rfl⟩:=hav.form
          obtain ⟨Ab,cb,rfl⟩:=hbv.form
          obtain ⟨Ac,cc,rfl⟩:=hcv.form
          refine AA rfl ?_
          refine Bl (fun _ _=>Gv rfl rfl) rfl ?_
          refine Cb rfl ?_
          refine Eu rfl fun w6 hN6=>?_
          refine Cv (hE3.trans' (hE4.trans' (hE5.trans' hN6.ext))) ?_
          refine Cb rfl ?_
          refine Co rfl rfl hN6.blk rfl (Nat.le_refl _) (by simp [Value.cells,Value.oneCell',setParts,setFrom]) fun w7 hU=>?_
          refine FX (AM ?_)
          have hE7:Ext w5 w7:=(hN6.upd hU).ext
          have s3:=hE3.size;have s4:=hE4.size;have s5:=hE5.size;have s7:=hE7.size
          refine ⟨w5.heap.size,_,_,_,⟨rfl,rfl,rfl,trivial⟩,hE3.trans' (hE4.trans' (hE5.trans' hE7)),by omega,hU.blk,?_,?_,?_⟩
          · exact ((((hav.nwext hE4).agree (hE5.agree fun k hk=>by have:=hk.2;omega)).agree (hE7.agree fun k hk=>by have:=hk.2;omega)).mono fun k hk=>⟨⟨by have:=hk.1;omega,by have:=hk.2;omega⟩,by have:=hk.2;omega⟩)
          · exact ((hbv.nwext hE5).agree (hE7.agree fun k hk=>by have:=hk.2;omega)).mono fun k hk=>⟨⟨by have:=hk.1;omega,by have:=hk.2;omega⟩,by have:=hk.2;omega⟩
          · exact (hcv.nwext hE7).mono fun k hk=>⟨⟨by have:=hk.1;omega,by have:=hk.2;omega⟩,by have:=hk.2;omega⟩
        · refine Eu rfl fun w5 hN=>?_
          have hE5:=hN.ext
          refine FY (hE3.trans' (hE4.trans' hE5)) ?_
          refine JU [(8,false),(9,true),(11,false)] (by kernel_rfl) rfl (by kernel_rfl) (hE3.trans' (hE4.trans' hE5)) ?_
          refine Cb rfl ?_
          refine Bu rfl rfl (cloneFactsN (hgoal.ext (hE2.trans' (hE3.trans' (hE4.trans' hE5)))) hl3) ?_
          rintro cv' w6 ⟨hcv,hE6⟩
          refine Cv (hE3.trans' (hE4.trans' (hE5.trans' hE6))) ?_
          have hg3:=hN.blk.ext hE6
          obtain ⟨Aa,ca,rfl⟩:=hav.form
          obtain ⟨Ab,cb,rfl⟩:=hbv.form
          obtain ⟨Ac,cc,rfl⟩:=hcv.form
          refine AA rfl ?_
          refine Bl (fun _ _=>Gv rfl rfl) rfl ?_
          refine Cb rfl ?_
          refine Co rfl rfl hg3 rfl (Nat.le_refl _) (by simp [Value.cells,Value.oneCell',setParts,setFrom]) fun w7 hU=>?_
          refine FX (AM ?_)
          have s3:=hE3.size;have s4:=hE4.size;have s5:=hE5.size;have s6:=hE6.size;have s7:=hU.size;have sN:=hN.size
          refine ⟨_,_,_,_,⟨rfl,rfl,rfl,trivial⟩,(hE3.trans' (hE4.trans' (hE5.trans' hE6))).trans (hU.below (by omega)),by omega,hU.blk,?_,?_,?_⟩
          · exact (hav.agree fun k hk=>(hU.other k (by have:=hk.2;omega)).trans ((hE4.trans' (hE5.trans' hE6)).block k hk.2)).mono fun k hk=>⟨⟨by have:=hk.1;omega,by have:=hk.2;omega⟩,by have:=hk.2;omega⟩
          · exact (hbv.agree fun k hk=>(hU.other k (by have:=hk.2;omega)).trans ((hE5.trans' hE6).block k hk.2)).mono fun k hk=>⟨⟨by have:=hk.1;omega,by have:=hk.2;omega⟩,by have:=hk.2;omega⟩
          · exact (hcv.agree fun k hk=>hU.other k (by have:=hk.1;omega)).mono fun k hk=>⟨⟨by have:=hk.1;omega,by have:=hk.2;omega⟩,by have:=hk.1;omega⟩
      · refine Eu rfl fun w4 hN=>?_
        have hE4:=hN.ext
        refine FY (hE3.trans' hE4) ?_
        refine JU [(5,false),(8,false),(9,true),(11,false)] (by kernel_rfl) rfl (by kernel_rfl) (hE3.trans' hE4) ?_
        refine Cb rfl ?_
        refine Bu rfl rfl (cloneIntsN (hinit.ext (hE2.trans' (hE3.trans' hE4))) hl2) ?_
        rintro bv w5 ⟨hbv,hE5⟩
        refine Cv (hE3.trans' (hE4.trans' hE5)) ?_
        refine Cb rfl ?_
        refine Bu rfl rfl (cloneFactsN (hgoal.ext (hE2.trans' (hE3.trans' (hE4.trans' hE5)))) hl3) ?_
        rintro cv' w6 ⟨hcv,hE6⟩
        refine Cv (hE3.trans' (hE4.trans' (hE5.trans' hE6))) ?_
        have hg3:=(hN.blk.ext hE5).ext hE6
        obtain ⟨Aa,ca,rfl⟩:=hav.form
        obtain ⟨Ab,cb,rfl⟩:=hbv.form
        obtain ⟨Ac,cc,rfl⟩:=hcv.form
        refine AA rfl ?_
        refine Bl (fun _ _=>Gv rfl rfl) rfl ?_
        refine Cb rfl ?_
        refine Co rfl rfl hg3 rfl (Nat.le_refl _) (by simp [Value.cells,Value.oneCell',setParts,setFrom]) fun w7 hU=>?_
        refine FX (AM ?_)
        have s3:=hE3.size;have s4:=hE4.size;have s5:=hE5.size;have s6:=hE6.size;have s7:=hU.size;have sN:=hN.size
        refine ⟨_,_,_,_,⟨rfl,rfl,rfl,trivial⟩,(hE3.trans' (hE4.trans' (hE5.trans' hE6))).trans (hU.below (by omega)),by omega,hU.blk,?_,?_,?_⟩
        · exact (hav.agree fun k hk=>(hU.other k (by have:=hk.2;omega)).trans ((hE4.trans' (hE5.trans' hE6)).block k hk.2)).mono fun k hk=>⟨⟨by have:=hk.1;omega,by have:=hk.2;omega⟩,by have:=hk.2;omega⟩
        · exact (hbv.agree fun k hk=>(hU.other k (by have:=hk.1;omega)).trans (hE6.block k hk.2)).mono fun k hk=>⟨⟨by have:=hk.1;omega,by have:=hk.2;omega⟩,by have:=hk.1;omega⟩
        · exact (hcv.agree fun k hk=>hU.other k (by have:=hk.1;omega)).mono fun k hk=>⟨⟨by have:=hk.1;omega,by have:=hk.2;omega⟩,by have:=hk.1;omega⟩
    · refine Eu rfl fun w3 hN=>?_
      have hE3:=hN.ext
      refine FY hE3 ?_
      refine JU [(2,false),(5,false),(8,false),(9,true),(11,false)] (by kernel_rfl) rfl (by kernel_rfl) hE3 ?_
      refine Cb rfl ?_
      refine Bu rfl rfl (cloneIntsN (hvars.ext (hE2.trans' hE3)) hl1) ?_
      rintro av w4 ⟨hav,hE4⟩
      refine Cv (hE3.trans' hE4) ?_
      refine Cb rfl ?_
      refine Bu rfl rfl (cloneIntsN (hinit.ext (hE2.trans' (hE3.trans' hE4))) hl2) ?_
      rintro bv w5 ⟨hbv,hE5⟩
      refine Cv (hE3.trans' (hE4.trans' hE5)) ?_
      refine Cb rfl ?_
      refine Bu rfl rfl (cloneFactsN (hgoal.ext (hE2.trans' (hE3.trans' (hE4.trans' hE5)))) hl3) ?_
      rintro cv' w6 ⟨hcv,hE6⟩
      refine Cv (hE3.trans' (hE4.trans' (hE5.trans' hE6))) ?_
      have hg3:=((hN.blk.ext hE4).ext hE5).ext hE6
      obtain ⟨Aa,ca,rfl⟩:=hav.form
      obtain ⟨Ab,cb,rfl⟩:=hbv.form
      obtain ⟨Ac,cc,rfl⟩:=hcv.form
      refine AA rfl ?_
      refine Bl (fun _ _=>Gv rfl rfl) rfl ?_
      refine Cb rfl ?_
      refine Co rfl rfl hg3 rfl (Nat.le_refl _) (by simp [Value.cells,Value.oneCell',setParts,setFrom]) fun w7 hU=>?_
      refine FX (AM ?_)
      have s3:=hE3.size;have s4:=hE4.size;have s5:=hE5.size;have s6:=hE6.size;have s7:=hU.size;have sN:=hN.size
      refine ⟨_,_,_,_,⟨rfl,rfl,rfl,trivial⟩,(hE3.trans' (hE4.trans' (hE5.trans' hE6))).trans (hU.below (by omega)),by omega,hU.blk,?_,?_,?_⟩
      · exact (hav.agree fun k hk=>(hU.other k (by have:=hk.1;omega)).trans ((hE5.trans' hE6).block k hk.2)).mono fun k hk=>⟨⟨by have:=hk.1;omega,by have:=hk.2;omega⟩,by have:=hk.1;omega⟩
      · exact (hbv.agree fun k hk=>(hU.other k (by have:=hk.1;omega)).trans (hE6.block k hk.2)).mono fun k hk=>⟨⟨by have:=hk.1;omega,by have:=hk.2;omega⟩,by have:=hk.1;omega⟩
      · exact (hcv.agree fun k hk=>hU.other k (by have:=hk.1;omega)).mono fun k hk=>⟨⟨by have:=hk.1;omega,by have:=hk.2;omega⟩,by have:=hk.1;omega⟩
  · rintro l' w3 ⟨g3,av,bv,cv',hsub,hE3,hg3,hb3,hav,hbv,hcv⟩
    refine AQ _ hsub ?_
    clear hsub
    replace hb1:=hb1.ext hE3
    replace hres:=hres.ext hE3
    have hE03:Ext w w3:=hE2.trans' hE3
    have hg3z:g3 < w3.heap.size:=hb3.lt
    repeat (first|refine Aw ?_|refine Ah rfl ?_|refine Ae rfl ?_)
    ((repeat (first|refine Aw ?_|refine Ah rfl ?_|refine Ae rfl ?_))<;>(refine AG rfl rfl ?_<;>refine AE rfl rfl ?_<;>refine AP rfl rfl ?_<;>refine Ar rfl rfl ?_<;>(refine o_z ?_))<;>(repeat (first|refine Aw ?_|refine Ah rfl ?_|refine Ae rfl ?_)))
    refine BR t.ops.length (by omega) (fun _:Unit=>[(2,.pointer (some ⟨w1.heap.size,0,none⟩)),(3,.pointer (some ⟨g3,0,none⟩)),(20,.slice Ao t.ops.length co)])
      (fun k _ w'=>Below w2.heap.size w2 w'∧w3.heap.size≤w'.heap.size∧(∀ q,q < w3.heap.size→q≠g3→w'.heap[q]?=w3.heap[q]?)∧∃ (ov:Value) (G:Nat→Prop),Blk w' g3 26 [av,bv,cv',ov]∧(∀ q,G q→w3.heap.size≤q∧q < w'.heap.size)∧Own w' w3.heap.size G 67 ov (t.ops.take k)) ()
      ⟨hE3,Nat.le_refl _,fun _ _ _=>rfl,.slice none 0 0,fun _=>False,hb3,fun _ h=>h.elim,Own.nil _ _ _ _⟩ ⟨rfl,rfl,rfl,rfl,rfl,trivial⟩ (fun _=>⟨rfl,rfl⟩) ⟨rfl,rfl,rfl⟩ ⟨rfl,rfl⟩ ?_ ?_
    · rintro k _ w4 hk ⟨hB4,hz34,hkeep,ov,G,hb3,hG,hown⟩
      have hE04:Ext w w4:=hE2.trans (hB4.mono (by omega))
      obtain ⟨o,ho⟩:=AF hk
      obtain ⟨hp5,hq5,hc5⟩:=hl5 k o ho
      obtain ⟨b2,o2,ce,rfl,_,_,hd1,p,q,rfl,hp,hq,hc,hn⟩:=(hops.ext hE04).elem ho
      obtain ⟨Ap,cp,rfl⟩:=hp.form
      obtain ⟨Aq,cq,rfl⟩:=hq.form
      obtain ⟨Aov,cov,rfl⟩:=hown.form
      ((repeat (first|refine Aw ?_|refine Ah rfl ?_|refine Ae rfl ?_))<;>(refine Dg rfl rfl rfl ?_<;>refine Bk rfl rfl ?_)<;>(repeat (first|refine Aw ?_|refine Ah rfl ?_|refine Ae rfl ?_)))
      refine Cp rfl rfl rfl (by simp [Value.cells,Value.oneCell']) fun w5 hN5=>?_
      have hb2:Blk w5 w4.heap.size 67 [.string o.name,.int .i64 o.cost,.slice Ap o.pre.length cp,.slice Aq o.effs.length cq]:=hN5.blk
      have hz5:=hN5.size
      ((refine o_z ?_))
      repeat (first|refine Aw ?_|refine Ah rfl ?_|refine Ae rfl ?_)
      clear hd1
      (refine AG rfl rfl ?_<;>refine AE rfl rfl ?_)
      refine Bu rfl rfl (cloneFactsN (hp.ext hN5.ext) hp5) ?_
      rintro pv w6 ⟨hpv,hE6⟩
      obtain ⟨Ap',cp',rfl⟩:=hpv.form
      replace hb2:=hb2.ext hE6
      (refine AG rfl rfl ?_)
      refine Co rfl rfl hb2 rfl (show 0 + 2 + 1≤4 by decide) (by simp [Value.cells,Value.oneCell']) fun w7 hU7=>?_
      have hE47:Ext w4 w7:=(hN5.ext.trans' hE6).trans (hU7.below (Nat.le_refl _))
      replace hb2:Blk w7 w4.heap.size 67 [.string o.name,.int .i64 o.cost,.slice Ap' o.pre.length cp',.slice Aq o.effs.length cq]:=hU7.blk
      have hpv7:Vb w7 (nw w5 w6) (.slice Ap' o.pre.length cp') o.pre:=hpv.agree fun q hq=>hU7.other q (by have:=hq.1;omega)
      ((refine o_z ?_))
      repeat (first|refine Aw ?_|refine Ah rfl ?_|refine Ae rfl ?_)
      ((repeat (first|refine Aw ?_|refine Ah rfl ?_|refine Ae rfl ?_))<;>(refine Au rfl rfl ?_<;>(refine o_z ?_))<;>(repeat (first|refine Aw ?_|refine Ah rfl ?_|refine Ae rfl ?_))<;>(refine AG rfl rfl ?_<;>refine AE rfl rfl ?_<;>refine AP rfl rfl ?_<;>refine Ar rfl rfl ?_<;>(refine o_z ?_))<;>(repeat (first|refine Aw ?_|refine Ah rfl ?_|refine Ae rfl ?_)))
      refine BR o.effs.length (by omega) (fun ev:Value=>[(2,.pointer (some ⟨w1.heap.size,0,none⟩)),(3,.pointer (some ⟨g3,0,none⟩)),(5,.pointer (some ⟨w4.heap.size,0,none⟩)),(6,ev),(20,.slice (some ⟨b2,o2,none⟩) t.ops.length co),(21,.int .i64 (t.ops.length:Int)),(22,.int .i64 (k:Int)),(31,.slice Aq o.effs.length cq)])
        (fun i ev w'=>Ext w7 w'∧∃ H:Nat→Prop,(∀ q,H q→w7.heap.size≤q∧q < w'.heap.size)∧Own w' w7.heap.size H 64 ev (o.effs.take i)) (.slice none 0 0)
        ⟨Below.refl _ _,fun _=>False,fun _ h=>h.elim,Own.nil _ _ _ _⟩ ⟨rfl,rfl,rfl,rfl,rfl,rfl,rfl,rfl,rfl,rfl,trivial⟩ (fun _=>⟨rfl,rfl⟩) ⟨rfl,rfl,rfl⟩ ⟨rfl,rfl⟩ ?_ ?_
      · rintro i ev w8 hi ⟨hE8,H,hH,hev⟩
        obtain ⟨e,he⟩:=AF hi
        have hce:=hc5 i e he
        obtain ⟨b3,o3,ce,rfl,_,_,hd1,cv8,rfl,hcn,hr1,hr2⟩:=(hq.ext (hE47.trans' hE8)).elem he
        obtain ⟨Acn,ccn,rfl⟩:=hcn.form
        ((repeat (first|refine Aw ?_|refine Ah rfl ?_|refine Ae rfl ?_))<;>(refine Dg rfl rfl rfl ?_<;>refine Bk rfl rfl ?_)<;>(repeat (first|refine Aw ?_|refine Ah rfl ?_|refine Ae rfl ?_)))
        refine Cp rfl rfl rfl (by simp [Value.cells,Value.oneCell']) fun w9 hN9=>?_
        have hb4:Blk w9 w8.heap.size 64 [.slice Acn e.cond.length ccn,.int .i64 e.var,.int .i64 e.val]:=hN9.blk
        have hz9:=hN9.size
        ((refine o_z ?_))
        repeat (first|refine Aw ?_|refine Ah rfl ?_|refine Ae rfl ?_)
        clear hd1
        (refine AG rfl rfl ?_<;>refine AE rfl rfl ?_)
        refine Bu rfl rfl (cloneFactsN (hcn.ext hN9.ext) hce) ?_
        rintro cw w10 ⟨hcw,hE10⟩
        obtain ⟨Acw,ccw,rfl⟩:=hcw.form
        replace hb4:=hb4.ext hE10
        (refine AG rfl rfl ?_)
        refine Co rfl rfl hb4 rfl (show 0 + 0 + 1≤3 by decide) (by simp [Value.cells,Value.oneCell']) fun w11 hU11=>?_
        replace hb4:Blk w11 w8.heap.size 64 [.slice Acw e.cond.length ccw,.int .i64 e.var,.int .i64 e.val]:=hU11.blk
        have hE811:Ext w8 w11:=(hN9.ext.trans' hE10).trans (hU11.below (Nat.le_refl _))
        have hE711:Ext w7 w11:=hE8.trans' hE811
        have hcw11:Vb w11 (nw w9 w10) (.slice Acw e.cond.length ccw) e.cond:=hcw.agree fun q hq=>hU11.other q (by have:=hq.1;omega)
        have s10:=hE10.size
        have s11:=hU11.size
        have hne:∀ g,ev.ownBlock=some g→¬ (H g∨nw w9 w10 g):=fun g hg h=>by
          have hlt:=(hev.lt g hg).2
          rcases h with h|h
          · obtain ⟨_,_,_,h3⟩:=hev;exact h3 g hg h
          · have:=h.1;omega
        have hev11:Own w11 w7.heap.size (fun q=>H q∨nw w9 w10 q) 64 ev _:=(hev.ext hE811 fun q hq=>(hH q hq).2).mono (fun q hq=>.inl hq) hne
        have hH11:∀ q,(H q∨nw w9 w10 q)→w7.heap.size≤q∧q < w11.heap.size:=fun q hq=>by
          rcases hq with hq|hq
          · have:=hH q hq;omega
          · have h1:=hq.1;have h2:=hq.2;have:=hE8.size;omega
        have hil:(o.effs.take i).length≤1000000:=by rw [List.length_take];omega
        ((refine o_z ?_))
        repeat (first|refine Aw ?_|refine Ah rfl ?_|refine Ae rfl ?_)
        (refine Ar rfl rfl ?_<;>refine Bk rfl rfl ?_)
        refine FJ (a:=e) rfl rfl rfl hev11 (fun q hq=>(hH11 q hq).2) hE711.size ⟨_,rfl,_,rfl,hcw11.mono fun q hq=>.inr hq,hr1,hr2⟩ (by decide) (by decide) (by omega) (by omega) ⟨rfl,rfl⟩ fun ev' w12 hev12 hK12=>?_
        (refine Au rfl rfl ?_<;>(refine o_z ?_))
        repeat (first|refine Aw ?_|refine Ah rfl ?_|refine Ae rfl ?_)
        exact ⟨ev',⟨rfl,rfl,rfl,rfl,rfl,rfl,rfl,rfl,rfl,rfl,trivial⟩,hE711.trans (hev11.fits (Nat.le_refl _) hE711.size hK12),_,fun q hq=>⟨(hH11 q hq).1,Nat.lt_of_lt_of_le (hH11 q hq).2 hK12.size⟩,by rw [List.take_add_one,he];simpa using hev12⟩
      rintro ev w12 ⟨hE12,H,hH,hev⟩
      rw [List.take_length] at hev
      obtain ⟨Aev,cev,rfl⟩:=hev.form
      replace hb2:=hb2.ext hE12
      repeat (first|refine Aw ?_|refine Ah rfl ?_|refine Ae rfl ?_)
      (refine Ar rfl rfl ?_<;>refine AG rfl rfl ?_)
      refine Co rfl rfl hb2 rfl (show 0 + 3 + 1≤4 by decide) (by simp [Value.cells,Value.oneCell']) fun w13 hU13=>?_
      replace hb2:Blk w13 w4.heap.size 67 [.string o.name,.int .i64 o.cost,.slice Ap' o.pre.length cp',.slice Aev o.effs.length cev]:=hU13.blk
      have hE413:Ext w4 w13:=(hE47.trans' hE12).trans (hU13.below (Nat.le_refl _))
      have s6:=hE6.size
      have s7:=hU7.size
      have s12:=hE12.size
      have s13:=hU13.size
      have hb3':=hb3.ext hE413
      have hg3lt:=hb3.lt
      have hpv13:Vb w13 (nw w5 w6) (.slice Ap' o.pre.length cp') o.pre:=hpv7.agree fun q hq=>(hU13.other q (by have:=hq.1;omega)).trans (hE12.block q (by have:=hq.2;omega))
      have hev13:Vb w13 (fun q=>H q∨(Value.slice Aev o.effs.length cev).ownBlock=some q) (.slice Aev o.effs.length cev) o.effs:=hev.vb.agree fun q hq=>hU13.other q (by
        rcases hq with hq|hq
        · have:=(hH q hq).1;omega
        · have:=(hev.lt q hq).1;omega)
      have hne:∀ g,(Value.slice Aov (t.ops.take k).length cov).ownBlock=some g→¬ (G g∨w4.heap.size≤g∧g < w13.heap.size):=fun g hg h=>by
        have hlt:=(hown.lt g hg).2
        rcases h with h|h
        · obtain ⟨_,_,_,h3⟩:=hown;exact h3 g hg h
        · omega
      have hown13:Own w13 w3.heap.size (fun q=>G q∨w4.heap.size≤q∧q < w13.heap.size) 67 _ _:=(hown.ext hE413 fun q hq=>(hG q hq).2).mono (fun q hq=>.inl hq) hne
      have hG13:∀ q,(G q∨w4.heap.size≤q∧q < w13.heap.size)→w3.heap.size≤q∧q < w13.heap.size:=fun q hq=>by
        have:=hE413.size
        rcases hq with hq|hq
        · have:=hG q hq;omega
        · omega
      have hopr:Vb w13 (fun q=>G q∨w4.heap.size≤q∧q < w13.heap.size) (.agg #[.string o.name,.int .i64 o.cost,.slice Ap' o.pre.length cp',.slice Aev o.effs.length cev]) o :=
        ⟨[.string o.name,.int .i64 o.cost,.slice Ap' o.pre.length cp',.slice Aev o.effs.length cev],rfl,_,_,rfl,hpv13.mono fun q hq=>.inr (by have h1:=hq.1;have h2:=hq.2;omega),hev13.mono fun q hq=>.inr (by
          rcases hq with hq|hq
          · have:=hH q hq;omega
          · have:=hev.lt q hq;omega),hc,hn⟩
      have hkl:(t.ops.take k).length≤1000000:=by rw [List.length_take];omega
      ((refine o_z ?_))
      repeat (first|refine Aw ?_|refine Ah rfl ?_|refine Ae rfl ?_)
      have hbx:=hb2
      clear hb1
      have hb1:=hb3'
      (refine AG rfl rfl ?_<;>refine AE rfl rfl ?_<;>refine Bk rfl rfl ?_)
      refine FJ (a:=o) rfl rfl rfl hown13 (fun q hq=>(hG13 q hq).2) (by have:=hE413.size;omega) hopr (by decide) (by decide) (by omega) (by omega) ⟨rfl,rfl⟩ fun ov' w14 hov14 hK14=>?_
      obtain ⟨Aov',cov',rfl⟩:=hov14.form
      have hb3k:=hK14.blk hb3' (hown13.blk_ne hb3' (by decide))
      (refine AG rfl rfl ?_)
      refine Co rfl rfl hb3k rfl (show 0 + 3 + 1≤4 by decide) (by simp [Value.cells,Value.oneCell']) fun w15 hU15=>?_
      ((refine o_z ?_))
      repeat (first|refine Aw ?_|refine Ah rfl ?_|refine Ae rfl ?_)
      have hB14:Below w3.heap.size w13 w14:=hown13.fits (Nat.le_refl _) (by have:=hE413.size;omega) hK14
      have sz14:=hK14.size
      have sz15:=hU15.size
      refine ⟨(),⟨rfl,rfl,rfl,rfl,rfl,trivial⟩,?_,?_,?_,_,(fun q=>G q∨w4.heap.size≤q∧q < w13.heap.size),hU15.blk,fun q hq=>?_,?_⟩
      · exact hB4.trans (((hE413.mono (by omega)).trans (hB14.mono (by omega))).trans (hU15.below (by omega)))
      · have:=hE413.size;omega
      · intro q hq hne'
        rw [hU15.other q hne',hB14.block q hq,hE413.block q (by omega),hkeep q hq hne']
      · have:=hG13 q hq;omega
      · have hne15:=hov14.blk_ne hb3k (by decide)
        rw [List.take_add_one,ho]
        refine hov14.agree (hU15.agree ?_) fun g hg=>hU15.other g fun he=>hne15 (he ▸ hg)
        rintro (h|h)
        · have:=(hG g3 h).1;omega
        · omega
    rintro _ w4 ⟨hB4,hz34,hkeep,ov,G,hb3,hG,hown⟩
    rw [List.take_length] at hown
    obtain ⟨Aov,cov,rfl⟩:=hown.form
    have hresz:=hres.lt
    replace hres:=hres.keep (hkeep _ hresz (by omega))
    clear hb1
    have hb1:=hb3
    repeat (first|refine Aw ?_|refine Ah rfl ?_|refine Ae rfl ?_)
    obtain ⟨Aa,ca,rfl⟩:=hav.form
    obtain ⟨Ab,cb,rfl⟩:=hbv.form
    obtain ⟨Ac,cc,rfl⟩:=hcv.form
    (refine Bk rfl rfl ?_)
    refine Co rfl rfl hres rfl (Nat.le_refl _) (by simp [Value.cells,Value.oneCell']) fun w5 hU=>?_
    ((refine o_z ?_))
    repeat (first|refine Aw ?_|refine Ah rfl ?_|refine Ae rfl ?_)
    have hE4:Ext w w4:=hE2.trans (hB4.mono (by omega))
    have s5:=hU.size
    have s04:=hE4.size
    have hcl:∀ {α:Type} [Rp α] {v:Value} {x:α},Vb w3 (fun k=>nw w2 w3 k∧k≠g3) v x→Vb w5 (nw w w5) v x:=fun h=>(h.agree fun q hq=>(hU.other q (by have:=hq.1.1;omega)).trans (hkeep q hq.1.2 hq.2)).mono fun q hq=>⟨by have:=hq.1.1;omega,by have:=hq.1.2;omega⟩
    have hovv:Vb w5 (nw w w5) (.slice Aov t.ops.length cov) t.ops:=(hown.vb.agree fun q hq=>hU.other q (by
      rcases hq with hq|hq
      · have:=(hG q hq).1;omega
      · have:=(hown.lt q hq).1;omega)).mono fun q hq=>by
        rcases hq with hq|hq
        · have:=hG q hq;exact ⟨by omega,by omega⟩
        · have:=hown.lt q hq;exact ⟨by omega,by omega⟩
    refine ret1v rfl (BM rfl rfl hU.blk.cellsAt) ⟨⟨_,rfl,_,_,_,_,rfl,hcl hav,hcl hbv,hcl hcv,hovv⟩,hE4.trans (hU.below (by omega))⟩
end
section
def PreOk (t:Tsk):Prop:=∀ (i:Nat) o,t.ops[i]?=some o→FactsOk t.vars o.pre
theorem TaskOk.pre {t:Tsk} (h:TaskOk t):PreOk t:=fun i o ho=>(h.2.2.2.2.2 i o ho).2.2.2.2.1
theorem MU {t:Tsk} (h:PreOk t) (op:Int):FactsOk t.vars (preOf t op):=by
  unfold preOf
  cases ho:t.ops[op.toNat]? with
  | none=>exact ⟨fun i x hx=>by simp at hx,fun i x y hx=>by simp at hx⟩
  | some o=>exact h _ o ho
theorem HX {l:List Fct} {v:Int} {f:Fct} (h:factOn l v=some f):f∈l∧f.var=v:=by
  unfold factOn at h
  exact ⟨List.mem_of_find?_eq_some h,by simpa using List.find?_some h⟩
theorem NE {l:List Fct} {v:Int} (h:factOn l v=none):∀ f∈l,f.var≠v:=by
  unfold factOn at h
  rw [List.find?_eq_none] at h
  intro f hf
  simpa using h f hf
theorem NF {vars:List Int} {l:List Fct} (hl:FactsOk vars l) {f g:Fct} (hf:f∈l) (hg:g∈l) (he:f.var=g.var):f=g:=by
  obtain ⟨i,hi⟩:=List.getElem?_of_mem hf
  obtain ⟨j,hj⟩:=List.getElem?_of_mem hg
  rcases Nat.lt_trichotomy i j with h|h|h
  · have:=IA hl j i f g h hi hj;omega
  · subst h;rw [hi] at hj;injection hj
  · have:=IA hl i j g f h hj hi;omega
theorem TaskOk.fits {t:Tsk} (h:TaskOk t):FitsVals t:=by
  intro i o ho v f hf hv
  obtain ⟨h1,h2⟩:=HX hf
  obtain ⟨j,hj⟩:=List.getElem?_of_mem h1
  obtain ⟨g1,g2,n,g3,g4⟩:=(h.pre i o ho).1 j f hj
  rw [h2] at g3
  exact ⟨g2,n,by simpa using g3,g4⟩
def hf (t:Tsk) (s:List Int) (v:Nat) (op:Int):Bool:=(preOf t op).all fun f=>decide (f.var < (v:Int)) || hasB s f
theorem JB {t:Tsk} {s:List Int} {v:Nat} {op:Int}:hf t s v op=true↔∀ f∈preOf t op,f.var < (v:Int)∨hasB s f=true:=by
  unfold hf
  simp [List.all_eq_true]
theorem Oh {t:Tsk} {s:List Int} {v:Nat} {op:Int} (h:factOn (preOf t op) (v:Int)=none):hf t s v op=hf t s (v + 1) op:=by
  rw [Bool.eq_iff_iff,JB,JB]
  constructor
  · intro hh f hm
    rcases hh f hm with h1|h1
    · exact .inl (by omega)
    · exact .inr h1
  · intro hh f hm
    have:=NE h f hm
    rcases hh f hm with h1|h1
    · exact .inl (by omega)
    · exact .inr h1
theorem Rl {t:Tsk} {s:List Int} {v:Nat} {op:Int} {f:Fct} (hp:PreOk t) (h:factOn (preOf t op) (v:Int)=some f):hf t s v op=(hasB s f && hf t s (v + 1) op):=by
  obtain ⟨h1,h2⟩:=HX h
  rw [Bool.eq_iff_iff,Bool.and_eq_true,JB,JB]
  constructor
  · intro hh
    refine ⟨(hh f h1).resolve_left (by omega),fun g hg=>?_⟩
    rcases hh g hg with h3|h3
    · exact .inl (by omega)
    · exact .inr h3
  · rintro ⟨h3,hh⟩ g hg
    rcases hh g hg with h4|h4
    · by_cases he:g.var=(v:Int)
      · have:g=f:=NF (MU hp op) hg h1 (by omega)
        subst this;exact .inr h3
      · exact .inl (by omega)
    · exact .inr h4
theorem Oi {t:Tsk} {s:List Int} {ops:List Int}:∀ (k v:Nat),(∀ x,v≤x→x < v + k→tests t ops x=false)→∀ op∈ops,hf t s v op=hf t s (v + k) op
  | 0,_,_,_,_=>rfl
  | k + 1,v,h,op,ho=>by
    have h0:=h v (Nat.le_refl _) (by omega)
    unfold tests at h0
    rw [List.any_eq_false] at h0
    have h1:=h0 op ho
    have h2:factOn (preOf t op) (v:Int)=none:=by simpa using h1
    rw [Oh h2,Oi k (v + 1) (fun x hx1 hx2=>h x (by omega) (by omega)) op ho]
    congr 1;omega
theorem Lj {a b c:Int→Bool} {p:Int→Bool} (h:∀ x,p x=if a x=true then b x else if c x=true then b x else false) (hac:∀ x,a x=true→c x=false) :
    ∀ l:List Int,(l.filter p).Perm ((l.filter a).filter b ++ (l.filter c).filter b)
  | []=>by simp
  | x :: l=>by
    have ih:=Lj h hac l
    have hx:=h x
    cases ha:a x
    · cases hc:c x
      · simp only [ha,hc] at hx
        simpa [List.filter_cons,ha,hc,hx] using ih
      · simp only [ha,hc] at hx
        cases hb:b x
        · rw [hb] at hx
          simpa [List.filter_cons,ha,hc,hb,hx] using ih
        · rw [hb] at hx
          simp only [List.filter_cons,ha,hc,hb,hx,if_true,Bool.false_eq_true,if_false]
          exact (ih.cons x).trans (List.perm_middle.symm)
    · have hc:=hac x ha
      simp only [ha] at hx
      cases hb:b x
      · rw [hb] at hx
        simpa [List.filter_cons,ha,hc,hb,hx] using ih
      · rw [hb] at hx
        simp only [List.filter_cons,ha,hc,hb,hx,if_true,Bool.false_eq_true,if_false,List.cons_append]
        exact ih.cons x
theorem Sy {t:Tsk} {s:List Int} (hp:PreOk t) (op:Int):hf t s t.vars.length op=true:=by
  rw [JB]
  intro f hfm
  obtain ⟨i,hi⟩:=List.getElem?_of_mem hfm
  obtain ⟨h1,h2,n,h3,_⟩:=(MU hp op).1 i f hi
  have:=BI h3
  exact .inl (by omega)
theorem OP (t:Tsk) (ops:List Int) {v:Nat} (h:v≤t.vars.length):v≤nextV t ops v∧nextV t ops v≤t.vars.length∧(∀ u,v≤u→u < nextV t ops v→tests t ops u=false)∧(nextV t ops v < t.vars.length→tests t ops (nextV t ops v)=true):=by
  obtain ⟨h1,h2,h3,h4⟩:=IE t ops (t.vars.length - v) v
  exact ⟨h1,by unfold nextV;omega,h3,fun h=>h4 (by unfold nextV at h;omega)⟩
theorem StateOk.at {vars s:List Int} (h:StateOk vars s) {u:Nat} (hu:u < vars.length):∃ (x:Nat) (n:Int),s[u]?=some (x:Int)∧vars[u]?=some n∧(x:Int) < n∧atN s u=x:=by
  obtain ⟨y,hy⟩:=AF (l:=s) (k:=u) (by rw [h.1];exact hu)
  obtain ⟨n,hn⟩:=AF hu
  obtain ⟨h1,h2⟩:=h.2 u y n hy hn
  obtain ⟨x,rfl⟩:=Int.eq_ofNat_of_zero_le h1
  exact ⟨x,n,hy,hn,h2,by simp [atN,hy]⟩
theorem MV {t:Tsk} {s:List Int} (hp:PreOk t) (hs:StateOk t.vars s):∀ (fuel:Nat) (ops:List Int) (v:Nat),v≤t.vars.length→t.vars.length < fuel + v →
    (coll s (mkT t fuel ops v)).Perm (ops.filter (hf t s v))∧Fits s (mkT t fuel ops v):=by
  intro fuel
  induction fuel with
  | zero=>intro ops v h1 h2;omega
  | succ fuel ih =>
    intro ops v h1 h2
    obtain ⟨g1,g2,g3,g4⟩:=OP t ops h1
    have hsame:=Oi (t:=t) (s:=s) (ops:=ops) (nextV t ops v - v) v (fun x hx1 hx2=>g3 x hx1 (by omega))
    rw [show v + (nextV t ops v - v)=nextV t ops v from by omega] at hsame
    have hfil:ops.filter (hf t s v)=ops.filter (hf t s (nextV t ops v)):=List.filter_congr hsame
    rw [hfil]
    unfold mkT
    by_cases he:ops.isEmpty=true
    · rw [if_pos he]
      have:ops=[]:=by simpa using he
      subst this
      exact ⟨by simp [coll],trivial⟩
    rw [if_neg he]
    by_cases hn:nextV t ops v=t.vars.length
    · rw [if_pos hn,hn]
      have:ops.filter (hf t s t.vars.length)=ops:=List.filter_eq_self.2 fun x _=>Sy hp x
      rw [this]
      exact ⟨List.Perm.refl _,trivial⟩
    rw [if_neg hn]
    obtain ⟨x,n,q1,q2,q3,q4⟩:=hs.at (u:=nextV t ops v) (by omega)
    have i1:=ih (ops.filter (valB t (nextV t ops v) x)) (nextV t ops v + 1) (by omega) (by omega)
    have i2:=ih (ops.filter (restB t (nextV t ops v))) (nextV t ops v + 1) (by omega) (by omega)
    refine ⟨?_,⟨x,q1,by rw [q2];simp;omega⟩,by rw [q4];exact i1.2,i2.2⟩
    rw [coll,q4]
    refine (i1.1.append i2.1).trans (Lj (a:=valB t (nextV t ops v) x) (c:=restB t (nextV t ops v)) (fun op=>?_) (fun op h=>?_) ops).symm
    · unfold valB restB
      cases ho:factOn (preOf t op) (nextV t ops v:Int) with
      | none=>rw [Oh ho];simp
      | some f =>
        rw [Rl hp ho]
        obtain ⟨_,hv⟩:=HX ho
        rw [LD (s:=s) hv q1]
        by_cases hx:f.val=(x:Int)
        · simp [hx]
        · simp [hx,Ne.symm hx]
    · unfold valB at h
      unfold restB
      cases ho:factOn (preOf t op) (nextV t ops v:Int) with
      | none=>rw [ho] at h;simp at h
      | some f=>rfl
def allOps (t:Tsk):List Int:=(List.range t.ops.length).map fun i:Nat=>(i:Int)
def treeOf (t:Tsk):Tr:=mkT t (t.vars.length + 1) (allOps t) 0
theorem LZ {α:Type} {p q:α→Bool}:∀ {l:List α},(∀ x∈l,p x=q x)→l.all p=l.all q
  | [],_=>rfl
  | x :: l,h=>by rw [List.all_cons,List.all_cons,h x List.mem_cons_self,LZ fun y hy=>h y (List.mem_cons_of_mem _ hy)]
theorem Rm {t:Tsk} (hp:PreOk t) (s:List Int):appl t s=(allOps t).filter (hf t s 0):=by
  unfold appl applK allOps
  rw [List.filter_map]
  congr 1
  refine List.filter_congr fun i hi=>?_
  obtain ⟨o,ho⟩:=AF (l:=t.ops) (k:=i) (List.mem_range.1 hi)
  simp only [Function.comp,hf,preOf,holdsB,Int.toNat_natCast,ho]
  refine LZ fun f hfm=>?_
  obtain ⟨j,hj⟩:=List.getElem?_of_mem hfm
  have:=((hp i o ho).1 j f hj).1
  have:decide (f.var < ((0:Nat):Int))=false:=decide_eq_false (by omega)
  rw [this,Bool.false_or]
theorem NG (t:Tsk) (s:List Int):(appl t s).Pairwise fun x y=>decide (x≤y)=true:=by
  unfold appl applK
  refine List.Pairwise.map _ (fun a b h=>?_) (List.Pairwise.filter _ List.pairwise_lt_range)
  exact decide_eq_true (by omega)
theorem OQ {l m:List Int} (h:l.Perm m) (hm:m.Pairwise fun x y=>decide (x≤y)=true):sortL l=m:=by
  refine List.Perm.eq_of_pairwise (le:=fun x y:Int=>decide (x≤y)=true) (fun a b _ _ h1 h2=>?_) (List.pairwise_mergeSort (fun a b c h1 h2=>?_) (fun a b=>?_) l) hm ((List.mergeSort_perm _ _).trans h)
  · have:=of_decide_eq_true h1;have:=of_decide_eq_true h2;omega
  · have:=of_decide_eq_true h1;have:=of_decide_eq_true h2;exact decide_eq_true (by omega)
  · simp;omega
theorem OR {t:Tsk} {s:List Int} (hp:PreOk t) (hs:StateOk t.vars s):findL t (treeOf t) s=appl t s:=by
  unfold findL
  rw [if_pos (Bo hs)]
  refine OQ ?_ (NG t s)
  rw [Rm hp]
  exact (MV hp hs _ _ 0 (Nat.zero_le _) (by omega)).1
theorem PD {t:Tsk} {s:List Int} (hp:PreOk t) (hs:StateOk t.vars s):Fits s (treeOf t):=(MV hp hs _ _ 0 (Nat.zero_le _) (by omega)).2
theorem Qh (t:Tsk) (s:List Int):∀ (fuel:Nat) (ops:List Int) (v:Nat),(coll s (mkT t fuel ops v)).length≤ops.length:=by
  intro fuel
  induction fuel with
  | zero=>intro ops v;exact Nat.zero_le _
  | succ fuel ih =>
    intro ops v
    unfold mkT
    by_cases he:ops.isEmpty=true
    · rw [if_pos he];exact Nat.zero_le _
    rw [if_neg he]
    by_cases hn:nextV t ops v=t.vars.length
    · rw [if_pos hn];exact Nat.le_refl _
    rw [if_neg hn,coll,List.length_append]
    refine Nat.le_trans (Nat.add_le_add (ih _ _) (ih _ _)) ?_
    generalize nextV t ops v=u
    generalize atN s u=x
    clear he hn ih
    induction ops with
    | nil=>simp
    | cons op ops ih2 =>
      have hac:valB t u x op=true→restB t u op=false:=by
        unfold valB restB
        cases factOn (preOf t op) (u:Int)<;>simp
      rw [List.filter_cons,List.filter_cons]
      cases ha:valB t u x op
      · cases hc:restB t u op<;>simp<;>omega
      · rw [hac ha];simp;omega
theorem Lk (t:Tsk):(allOps t).length=t.ops.length:=by simp [allOps]
theorem Qi (t:Tsk) (s:List Int):(coll s (treeOf t)).length≤t.ops.length:=by
  have:=Qh t s (t.vars.length + 1) (allOps t) 0
  rwa [Lk] at this
end
section
open Go Go.RowKit
attribute [local irreducible] ewp owp hwp hwq hws Ev Evg Fn retPost loud loudS Res1
theorem NH:∀ k,((List.range (k + 1)).map fun i:Nat=>(i:Int))=((List.range k).map fun i:Nat=>(i:Int)) ++ [(k:Int)]:=fun k=>by
  rw [List.range_succ,List.map_append];rfl
theorem genNew {w:World} {tv:Value} {t:Tsk} (ht:V w tv t):Fn Tryz.prog 76 [tv] w fun v w'=>Ext w w' ∧
    ((TaskOk t∧∃ gv,v=.tuple #[gv,.nilIface]∧GenR w' (nw w w') gv t (treeOf t))∨(¬ TaskOk t∧v=.tuple #[.pointer none,errV (checkN t)])):=by
  have ht0:=ht
  obtain ⟨cs,rfl,a,b,c,d,rfl,hvars,hinit,hgoal,hops⟩:=ht
  refine AH Tryz.func76 rfl Tryz.ntmps76 rfl ?_
  repeat (first|refine Aw ?_|refine Ah rfl ?_|refine Ae rfl ?_)
  refine DL rfl rfl fun w1 hN1=>?_
  have hE1:Ext w w1:=hN1.ext
  have hb1:Blk w1 w.heap.size 26 [a,b,c,d]:=hN1.blk
  have ht1:=ht0.ext hE1
  (refine Au rfl rfl ?_<;>refine Au rfl rfl ?_<;>(refine o_z ?_))
  repeat (first|refine Aw ?_|refine Ah rfl ?_|refine Ae rfl ?_)
  (refine Bk rfl rfl ?_)
  refine Bu rfl rfl (taskCheck ht1) ?_
  rintro _ w2 ⟨rfl,hE2⟩
  have hE02:Ext w w2:=hE1.trans' hE2
  have hb1:=hb1.ext hE2
  by_cases hok:TaskOk t
  case neg =>
    have hne:checkN t≠0:=fun h=>hok (CS.1 h)
    rw [Hv hne]
    (refine Au rfl rfl ?_<;>(refine o_z ?_))
    repeat (first|refine Aw ?_|refine Ah rfl ?_|refine Ae rfl ?_)
    ((repeat (first|refine Aw ?_|refine Ah rfl ?_|refine Ae rfl ?_))<;>(refine Ar rfl rfl ?_<;>(first|refine RS rfl rfl ?_|refine RT rfl rfl ?_)<;>(refine o_z ?_))<;>(repeat (first|refine Aw ?_|refine Ah rfl ?_|refine Ae rfl ?_)))
    ((repeat (first|refine Aw ?_|refine Ah rfl ?_|refine Ae rfl ?_))<;>(refine Ar rfl rfl ?_<;>refine Au rfl rfl ?_<;>refine Au rfl rfl ?_<;>(refine o_z ?_))<;>(repeat (first|refine Aw ?_|refine Ah rfl ?_|refine Ae rfl ?_)))
    exact ret2 rfl (AB rfl) (AB rfl) ⟨hE02,.inr ⟨hok,rfl⟩⟩
  rw [CS.2 hok,GK]
  (refine Au rfl rfl ?_<;>(refine o_z ?_))
  repeat (first|refine Aw ?_|refine Ah rfl ?_|refine Ae rfl ?_)
  ((repeat (first|refine Aw ?_|refine Ah rfl ?_|refine Ae rfl ?_))<;>(refine Ar rfl rfl ?_<;>(first|refine RS rfl rfl ?_|refine RT rfl rfl ?_)<;>(refine o_z ?_))<;>(repeat (first|refine Aw ?_|refine Ah rfl ?_|refine Ae rfl ?_)))
  have hpre:=hok.pre
  have hl1:t.vars.length≤64:=hok.1
  have hl4:t.ops.length≤4096:=hok.2.1
  have hcp:=genCopied (ht1.ext hE2) (by omega) (by rw [hok.2.2.2.1.1];omega) (by have:=DY hok.2.2.2.2.1;omega) (by omega) (fun i o ho=>by
    obtain ⟨_,_,h3,_,h5,h6⟩:=hok.2.2.2.2.2 i o ho
    exact ⟨by have:=DY h5;omega,by omega,fun j e he=>by have:=DY (h6 j e he).1;omega⟩)
  (refine Bk rfl rfl ?_)
  refine Bu rfl rfl hcp ?_
  rintro cvv w3 ⟨hcv,hE3⟩
  obtain ⟨cs',rfl,a',b',c',d',rfl,hvars',hinit',hgoal',hops'⟩:=hcv
  (refine Cw rfl rfl rfl ?_)
  refine DL rfl rfl fun w4 hN4=>?_
  have hbg:Blk w4 w3.heap.size 151 [a',b',c',d',.pointer none]:=hN4.blk
  have hE34:Ext w3 w4:=hN4.ext
  have s2:=hE02.size
  have s3:=hE3.size
  have s4:w4.heap.size=w3.heap.size + 1:=hN4.size
  obtain ⟨Ao,co,rfl⟩:=hops'.form
  (refine Au rfl rfl ?_<;>(refine o_z ?_))
  repeat (first|refine Aw ?_|refine Ah rfl ?_|refine Ae rfl ?_)
  ((repeat (first|refine Aw ?_|refine Ah rfl ?_|refine Ae rfl ?_))<;>(refine Au rfl rfl ?_<;>(refine o_z ?_))<;>(repeat (first|refine Aw ?_|refine Ah rfl ?_|refine Ae rfl ?_)))
  clear hb1
  have hb1:=hbg
  ((repeat (first|refine Aw ?_|refine Ah rfl ?_|refine Ae rfl ?_))<;>(refine Ar rfl rfl ?_<;>refine CI rfl rfl ?_<;>refine AG rfl rfl ?_<;>refine AG rfl rfl ?_<;>refine AE rfl rfl ?_<;>refine AP rfl rfl ?_<;>refine Ar rfl rfl ?_<;>(refine o_z ?_))<;>(repeat (first|refine Aw ?_|refine Ah rfl ?_|refine Ae rfl ?_)))
  refine BR t.ops.length (by omega) (fun v:Value=>[(1,.pointer (some ⟨w.heap.size,0,none⟩)),(5,.pointer (some ⟨w3.heap.size,0,none⟩)),(6,v)]) (fun k v w'=>Ext w4 w'∧Own w' w4.heap.size (fun _=>False) 3 v ((List.range k).map fun i:Nat=>(i:Int))) (.slice none 0 0)
    ⟨Below.refl _ _,Own.nil _ _ _ _⟩ ⟨rfl,rfl,rfl,rfl,rfl,trivial⟩ (fun _=>⟨rfl,rfl⟩) ⟨rfl,rfl,rfl⟩ ⟨rfl,rfl⟩ ?_ ?_
  · rintro k v w5 hk ⟨hE5,hown⟩
    ((repeat (first|refine Aw ?_|refine Ah rfl ?_|refine Ae rfl ?_))<;>(refine Ar rfl rfl ?_<;>refine Au rfl rfl ?_<;>(refine o_z ?_))<;>(repeat (first|refine Aw ?_|refine Ah rfl ?_|refine Ae rfl ?_)))
    (refine Ar rfl rfl ?_<;>refine Ar rfl rfl ?_)
    refine FJ (a:=(k:Int)) rfl rfl rfl hown (fun _ h=>h.elim) hE5.size ⟨rfl,by omega,by omega⟩ (by decide) (by decide) (by simp;omega) (by simp;omega) ⟨rfl,rfl⟩ fun v' w6 hown6 hK=>?_
    (refine Au rfl rfl ?_<;>(refine o_z ?_))
    repeat (first|refine Aw ?_|refine Ah rfl ?_|refine Ae rfl ?_)
    exact ⟨v',⟨rfl,rfl,rfl,rfl,rfl,trivial⟩,hE5.trans (hown.fits (Nat.le_refl _) hE5.size hK),by rw [NH];exact hown6⟩
  rintro v w5 ⟨hE5,hown⟩
  have s5:=hE5.size
  have hE35:=hE34.trans' hE5
  have hbg5:=hbg.ext hE5
  have hB5:GenB w5 (All w5) (.pointer (some ⟨w3.heap.size,0,none⟩)) t:=⟨_,_,_,_,_,_,rfl,by show _ < _;omega,hbg5,(hvars'.agree (hE35.agree fun _ h=>h.2)).mono fun k hk=>by have:=hk.2;show _ < _;omega,(hinit'.agree (hE35.agree fun _ h=>h.2)).mono fun k hk=>by have:=hk.2;show _ < _;omega,(hgoal'.agree (hE35.agree fun _ h=>h.2)).mono fun k hk=>by have:=hk.2;show _ < _;omega,(hops'.agree (hE35.agree fun _ h=>h.2)).mono fun k hk=>by have:=hk.2;show _ < _;omega⟩
  have hov:Vb w5 (nw w4 w5) v (allOps t):=hown.vb.mono fun k hk=>hown.lt k (hk.resolve_left id)
  have hbuild:=genBuild t hok.vars hok.fits hl1 (t.vars.length + 1) w5 _ v (allOps t) 0 (nw w4 w5) hB5 hov (fun k hk=>hk.2) (fun op hop=>by
    obtain ⟨i,hi,rfl⟩:=List.mem_map.1 hop
    have:=List.mem_range.1 hi
    exact ⟨by omega,by omega⟩) (by rw [Lk];omega) (Nat.zero_le _) (by omega)
  repeat (first|refine Aw ?_|refine Ah rfl ?_|refine Ae rfl ?_)
  (refine Ar rfl rfl ?_<;>refine Ar rfl rfl ?_<;>refine Ar rfl rfl ?_)
  refine Bu rfl rfl hbuild ?_
  rintro p w6 ⟨hT,hE6⟩
  obtain ⟨rp,rfl⟩:=hT.form
  have s6:=hE6.size
  (refine CI rfl rfl ?_<;>refine AG rfl rfl ?_)
  refine Co rfl rfl (hbg5.ext hE6) rfl (Nat.le_refl _) (by simp [Value.cells,Value.oneCell']) fun w7 hU=>?_
  ((refine o_z ?_))
  repeat (first|refine Aw ?_|refine Ah rfl ?_|refine Ae rfl ?_)
  ((repeat (first|refine Aw ?_|refine Ah rfl ?_|refine Ae rfl ?_))<;>(refine Ar rfl rfl ?_<;>refine Au rfl rfl ?_<;>refine Au rfl rfl ?_<;>(refine o_z ?_))<;>(repeat (first|refine Aw ?_|refine Ah rfl ?_|refine Ae rfl ?_)))
  have hE36:=hE35.trans' hE6
  have s7:=hU.size
  have hcl:∀ {α:Type} [Rp α] {v:Value} {x:α},Vb w3 (nw w2 w3) v x→Vb w7 (nw w w7) v x:=fun h=>((h.agree (hE36.agree fun _ h=>h.2)).agree fun q hq=>hU.other q (by have:=hq.2;omega)).mono fun k hk=>⟨by have:=hk.1;omega,by have:=hk.2;omega⟩
  refine ret2 rfl (AB rfl) (AB rfl) ⟨(((hE02.trans' hE3).trans' hE36).trans (hU.below (by omega))),.inl ⟨hok,_,rfl,_,_,_,_,_,_,rfl,⟨by omega,by omega⟩,hU.blk,hcl hvars',hcl hinit',hcl hgoal',hcl hops',?_⟩⟩
  refine TrR.mono (fun k hk=>?_) (TrR.agree (fun q hq=>hU.other q ?_) hT)
  · rcases hk with hk|hk
    · exact ⟨by have:=hk.1;omega,by have:=hk.2;omega⟩
    · exact ⟨by omega,by omega⟩
  · rcases hq with hk|hk
    · have:=hk.1;omega
    · omega
end
section
open Go Go.RowKit
theorem TaskOk.effs {t:Tsk} (h:TaskOk t) {s:List Int} (hs:StateOk t.vars s):∀ (i:Nat) o,t.ops[i]?=some o→EffsIn s o.effs:=fun i o ho j e he=>by
  obtain ⟨h1,_,y,hy,_⟩:=((h.2.2.2.2.2 i o ho).2.2.2.2.2 j e he).2
  refine ⟨h1,?_⟩
  have:=(List.getElem?_eq_some_iff.1 hy).1
  rw [hs.1]
  simp only at h1 this
  omega
end
section
open Go Go.RowKit
attribute [local irreducible] ewp owp hwp hwq hws Ev Evg Fn retPost loud loudS Res1
theorem GenR.mono {w:World} {F G:Nat→Prop} {gv:Value} {t:Tsk} {T:Tr} (h:GenR w F gv t T) (hk:∀ k,F k→G k):GenR w G gv t T:=by
  obtain ⟨gb,a,b,c,d,r,h1,h2,h3,h4,h5,h6,h7,h8⟩:=h
  exact ⟨gb,a,b,c,d,r,h1,hk _ h2,h3,h4.mono hk,h5.mono hk,h6.mono hk,h7.mono hk,TrR.mono hk h8⟩
theorem GenR.agree {w w':World} {F:Nat→Prop} {gv:Value} {t:Tsk} {T:Tr} (h:GenR w F gv t T) (ha:Agree F w w'):GenR w' F gv t T:=by
  obtain ⟨gb,a,b,c,d,r,h1,h2,h3,h4,h5,h6,h7,h8⟩:=h
  exact ⟨gb,a,b,c,d,r,h1,h2,h3.keep (ha gb h2),h4.agree ha,h5.agree ha,h6.agree ha,h7.agree ha,TrR.agree ha h8⟩
theorem GenR.form {w:World} {F:Nat→Prop} {gv:Value} {t:Tsk} {T:Tr} (h:GenR w F gv t T):∃ gb,gv=.pointer (some ⟨gb,0,none⟩):=by
  obtain ⟨gb,a,b,c,d,r,h1,_⟩:=h
  exact ⟨gb,h1⟩
noncomputable def appS (t:Tsk) (s:List Int):List Int:=if bof (StateOk t.vars s)=true then appl t s else []
theorem Ij {t:Tsk} {s:List Int} (h:StateOk t.vars s):appS t s=appl t s:=by unfold appS;rw [if_pos (Bo h)]
theorem LF {t:Tsk} {s:List Int} (h:¬ StateOk t.vars s):appS t s=[]:=by unfold appS;rw [Bd h];rfl
theorem OS {t:Tsk} (hp:PreOk t) (s:List Int):findL t (treeOf t) s=appS t s:=by
  by_cases h:StateOk t.vars s
  · rw [OR hp h,Ij h]
  · rw [LF h];unfold findL;rw [Bd h];rfl
theorem MW {t:Tsk} {s:List Int} {x:Int} (h:x∈appl t s):∃ (j:Nat) (o:Opr),x=(j:Int)∧t.ops[j]?=some o∧holdsB o.pre s=true:=by
  unfold appl applK at h
  obtain ⟨j,hj,rfl⟩:=List.mem_map.1 h
  obtain ⟨h1,h2⟩:=List.mem_filter.1 hj
  obtain ⟨o,ho⟩:=AF (List.mem_range.1 h1)
  rw [ho] at h2
  exact ⟨j,o,rfl,ho,h2⟩
theorem Qj {t:Tsk} {s:List Int} {x:Int} (h:x∈appS t s):StateOk t.vars s∧x∈appl t s:=by
  by_cases hs:StateOk t.vars s
  · rw [Ij hs] at h;exact ⟨hs,h⟩
  · rw [LF hs] at h;cases h
theorem MX (t:Tsk) (s:List Int):(appl t s).length≤t.ops.length:=PA t s _
theorem Qk (t:Tsk) (s:List Int):(appS t s).length≤t.ops.length:=by
  by_cases hs:StateOk t.vars s
  · rw [Ij hs];exact MX t s
  · rw [LF hs];exact Nat.zero_le _
section
variable {w : World} {gv sv : Value} {t : Tsk} {s : List Int}
theorem applT (hok:TaskOk t) (hg:GenR w (All w) gv t (treeOf t)) (hs:V w sv s) (hsl:s.length≤1000000) :
    Fn Tryz.prog 82 [gv,sv] w fun v w'=>Ext w w'∧Own w' w.heap.size (All w) 3 v (appS t s):=by
  have:=genApplicable hg hs (PD hok.pre) (by have:=Qi t s;have:=hok.2.1;omega) hsl
  rwa [OS hok.pre] at this
end
theorem nilFind {w:World} {sv:Value}:Fn Tryz.prog 94 [.pointer none,sv] w fun v w'=>v=.tuple #[.slice none 0 0,.int .i64 0]∧Ext w w':=by
  refine AH Tryz.func94 rfl Tryz.ntmps94 rfl ?_
  ((repeat (first|refine Aw ?_|refine Ah rfl ?_|refine Ae rfl ?_))<;>(refine Au rfl rfl ?_<;>refine Au rfl rfl ?_<;>(refine o_z ?_))<;>(repeat (first|refine Aw ?_|refine Ah rfl ?_|refine Ae rfl ?_)))
  (refine Ar rfl rfl ?_<;>refine GR rfl rfl ?_<;>refine Ar rfl rfl ?_<;>(first|(refine Ay rfl rfl ?_;refine Ar rfl rfl ?_)|refine At rfl rfl rfl rfl ?_)<;>(first|(refine Ay rfl rfl ?_;refine CI rfl rfl ?_)|refine At rfl rfl rfl rfl ?_)<;>(first|(refine Ay rfl rfl ?_;refine AG rfl rfl ?_)|refine At rfl rfl rfl rfl ?_)<;>(first|(refine Ay rfl rfl ?_;refine AG rfl rfl ?_)|refine At rfl rfl rfl rfl ?_)<;>(first|(refine Ay rfl rfl ?_;refine AE rfl rfl ?_)|refine At rfl rfl rfl rfl ?_)<;>(first|(refine Ay rfl rfl ?_;refine Ar rfl rfl ?_)|refine At rfl rfl rfl rfl ?_))
  refine At rfl rfl rfl rfl ?_
  ((first|(refine Ay rfl rfl ?_;(first|refine CB rfl rfl ?_|refine CC rfl rfl ?_|refine DB rfl rfl ?_))|refine At rfl rfl rfl rfl ?_)<;>(first|refine AX rfl rfl rfl ?_|refine AT rfl rfl rfl ?_)<;>(refine o_z ?_))
  repeat (first|refine Aw ?_|refine Ah rfl ?_|refine Ae rfl ?_)
  ((repeat (first|refine Aw ?_|refine Ah rfl ?_|refine Ae rfl ?_))<;>(refine Au rfl rfl ?_<;>refine Au rfl rfl ?_<;>(refine o_z ?_))<;>(repeat (first|refine Aw ?_|refine Ah rfl ?_|refine Ae rfl ?_)))
  exact ret2 rfl (AB rfl) (AB rfl) ⟨rfl,Below.refl _ _⟩
theorem nilApplicable {w:World} {sv:Value}:Fn Tryz.prog 82 [.pointer none,sv] w fun v w'=>v=.slice none 0 0∧Ext w w':=by
  refine AH Tryz.func82 rfl Tryz.ntmps82 rfl ?_
  ((repeat (first|refine Aw ?_|refine Ah rfl ?_|refine Ae rfl ?_))<;>(refine Au rfl rfl ?_<;>(refine o_z ?_))<;>(repeat (first|refine Aw ?_|refine Ah rfl ?_|refine Ae rfl ?_))<;>(refine Ar rfl rfl ?_<;>refine Ar rfl rfl ?_)<;>(repeat (first|refine Aw ?_|refine Ah rfl ?_|refine Ae rfl ?_)))
  refine Bu rfl rfl nilFind ?_
  rintro _ w1 ⟨rfl,hE⟩
  (refine Ar rfl rfl ?_<;>refine BH rfl rfl rfl ?_<;>refine BH rfl rfl rfl ?_<;>refine Au rfl rfl ?_<;>refine Au rfl rfl ?_<;>(refine o_z ?_))
  repeat (first|refine Aw ?_|refine Ah rfl ?_|refine Ae rfl ?_)
  ((repeat (first|refine Aw ?_|refine Ah rfl ?_|refine Ae rfl ?_))<;>(refine Ar rfl rfl ?_<;>refine Au rfl rfl ?_<;>(refine o_z ?_))<;>(repeat (first|refine Aw ?_|refine Ah rfl ?_|refine Ae rfl ?_)))
  exact ret1 rfl rfl ⟨rfl,hE⟩
end
section
open Go Go.RowKit
attribute [local irreducible] ewp owp hwp hwq hws Ev Evg Fn retPost loud loudS Res1
structure Gnr where
  t:Tsk
def GnrR (w:World) (F:Nat→Prop) (v:Value):Option Gnr→Prop
  | none=>v=.pointer none
  | some g=>TaskOk g.t∧GenR w F v g.t (treeOf g.t)
theorem GnrR.one {w:World} {F:Nat→Prop} {v:Value}:∀ {x:Option Gnr},GnrR w F v x→v.oneCell'=true
  | none,h=>by    have:v=.pointer none:=h
                  subst this;rfl
  | some g,h=>by
    obtain ⟨gb,rfl⟩:=h.2.form
    rfl
instance:Rp (Option Gnr) where
  isAgg:=false
  size:=1
  R w F cs x:=∃ v,cs=[v]∧GnrR w F v x
  len:=by rintro w F cs x ⟨v,rfl,_⟩;rfl
  one:=by
    rintro w F cs x ⟨v,rfl,h⟩ u hu
    have:u=v:=by simpa using hu
    subst this;exact h.one
  agree:=by
    rintro w w' F cs x ⟨v,rfl,h⟩ ha
    refine ⟨v,rfl,?_⟩
    cases x with
    | none=>exact h
    | some g=>exact ⟨h.1,h.2.agree ha⟩
  mono:=by
    rintro w F G cs x ⟨v,rfl,h⟩ hk
    refine ⟨v,rfl,?_⟩
    cases x with
    | none=>exact h
    | some g=>exact ⟨h.1,h.2.mono hk⟩
theorem vNone {w:World} {F:Nat→Prop}:Vb w F (.pointer none) (none:Option Gnr):=⟨_,rfl,rfl⟩
theorem Vb.gnr {w:World} {F:Nat→Prop} {v:Value} {x:Option Gnr} (h:Vb w F v x):GnrR w F v x:=by
  obtain ⟨u,hu,h'⟩:=h
  have:v=u:=by simpa using hu
  subst this;exact h'
theorem Vb.ptr {w:World} {F:Nat→Prop} {v:Value} {x:Option Gnr} (h:Vb w F v x):∃ p,v=.pointer p∧p.isNone=x.isNone:=by
  cases x with
  | none=>exact ⟨none,h.gnr,rfl⟩
  | some g=>obtain ⟨gb,rfl⟩:=h.gnr.2.form;exact ⟨_,rfl,rfl⟩
theorem Ql {w:World} {F:Nat→Prop} {p:Option Addr} {x:Option Gnr} {g:Gnr} (h:Vb w F (.pointer p) x) (e:x=some g) :
    ∃ gb a b c d r,p=some ⟨gb,0,none⟩∧F gb∧cellsAt w gb 0 [a,b,c,d,r]∧Vb w F a g.t.vars∧Vb w F b g.t.init∧Vb w F c g.t.goal∧Vb w F d g.t.ops:=by
  subst e
  obtain ⟨_,gb,a,b,c,d,r,h1,h2,h3,h4,h5,h6,h7,_⟩:=h.gnr
  injection h1 with h1
  exact ⟨gb,a,b,c,d,r,h1,h2,h3.cellsAt,h4,h5,h6,h7⟩
theorem vGnr {w:World} {F:Nat→Prop} {v:Value} {g:Gnr} (h:TaskOk g.t) (hg:GenR w F v g.t (treeOf g.t)):Vb w F v (some g):=⟨v,rfl,h,hg⟩
theorem Rn {A:Nat→Prop} {w w':World}:∀ k,nw w w' k→upA A w w' k:=fun _ h=>.inr h
theorem Own.intRow {w w':World} {F A:Nat→Prop} {e:TypeId} {v:Value} {xs:List Int} (h:Own w' w.heap.size F e v xs):RowR w w' (upA A w w') e v xs:=by
  obtain ⟨cells,q1,q2,q3⟩:=h
  exact ⟨fun _=>False,fun _ h=>h.elim,cells,q1,HW q2,fun _ _ h=>h⟩
noncomputable def Fc (t:Tsk):Option (Option Gnr×Err):=some (if bof (TaskOk t)=true then some ⟨t⟩ else none,⟨checkN t⟩)
theorem Mn {w:World} {A:Nat→Prop} (hA:∀ k,A k→k < w.heap.size) {v0:Value} {x0:Tsk} (h0:Vb w A v0 x0) {r:Option Gnr×Err} (hm:Fc x0=some r):Fn Tryz.prog 76 [v0] w fun v w'=>Ext w w'∧T2 w' (upA A w w') v r:=by
  obtain rfl:=sm hm
  refine (genNew (h0.mono hA)).mono fun v w' h=>⟨h.1,?_⟩
  rcases h.2 with ⟨hok,gv,rfl,hg⟩|⟨hno,rfl⟩
  · rw [Bo hok,CS.2 hok]
    exact ⟨gv,_,rfl,vGnr (g:=⟨x0⟩) hok (hg.mono Rn),vErr0⟩
  · rw [Bd hno]
    exact ⟨_,_,rfl,vNone,vErr (Lh _)⟩
noncomputable def appG:Option Gnr→List Int→List Int
  | none,_=>[]
  | some g,s=>appS g.t s
noncomputable def Cu (x:Option Gnr) (s:List Int):Option (List Int):=if s.length≤1000000 then some (appG x s) else none
theorem Gm {w:World} {A:Nat→Prop} (hA:∀ k,A k→k < w.heap.size) {v0:Value} {x0:Option Gnr} (h0:Vb w A v0 x0) {v1:Value} {x1:List Int} (h1:Vb w A v1 x1) {r:List Int} (hm:Cu x0 x1=some r) :
    Fn Tryz.prog 82 [v0,v1] w fun v w'=>Ext w w'∧RowR w w' (upA A w w') 3 v r:=by
  obtain ⟨hl,rfl⟩:=Fp hm
  cases x0 with
  | none =>
    have h2:=h0.gnr
    have:v0=.pointer none:=h2
    subst this
    refine nilApplicable.mono fun v w' h=>⟨h.2,?_⟩
    rw [h.1];exact RowR.nil
  | some g =>
    obtain ⟨hok,hg⟩:=h0.gnr
    exact (applT hok (hg.mono hA) (h1.mono hA) hl).mono fun v w' h=>⟨h.1,h.2.intRow⟩
end
section
open Go Go.RowKit
attribute [local irreducible] ewp owp hwp hwq hws Ev Evg Fn retPost loud loudS Res1
def exts (n:Nat) (s:List Int):List (List Int):=(List.range n).map fun x:Nat=>s ++ [(x:Int)]
def grows (out:List (List Int)) (k:Int):List (List Int):=out.flatMap (exts k.toNat)
def statesL (vars:List Int):List (List Int):=vars.foldl grows [[]]
theorem EH {vars:List Int} {k:Nat} {n:Int} (h:vars[k]?=some n):statesL (vars.take (k + 1))=grows (statesL (vars.take k)) n:=by
  unfold statesL
  rw [List.take_add_one,h,List.foldl_append];rfl
theorem PE (n:Nat) (s:List Int):exts (n + 1) s=exts n s ++ [s ++ [(n:Int)]]:=by unfold exts;rw [List.range_succ];simp
theorem GA (n:Nat) (s:List Int):(exts n s).length=n:=by simp [exts]
theorem HN (n:Nat):∀ l:List (List Int),(l.flatMap (exts n)).length=l.length * n
  | []=>by simp
  | s :: l=>by rw [List.flatMap_cons,List.length_append,GA,HN n l,List.length_cons,Nat.add_mul];omega
theorem PF {α β:Type} (f:α→List β) {l:List α} {k:Nat} {x:α} (h:l[k]?=some x):(l.take (k + 1)).flatMap f=(l.take k).flatMap f ++ f x:=by
  rw [List.take_add_one,h];simp
theorem NI (vars:List Int):∀ (k:Nat),k≤vars.length→∀ s∈statesL (vars.take k),s.length=k:=by
  intro k
  induction k with
  | zero=>intro _ s hs;simp [statesL] at hs;simp [hs]
  | succ k ih =>
    intro hk s hs
    obtain ⟨n,hn⟩:∃ n,vars[k]?=some n:=⟨vars[k],List.getElem?_eq_getElem (by omega)⟩
    rw [EH hn] at hs
    obtain ⟨s',h1,h2⟩:=List.mem_flatMap.1 hs
    obtain ⟨x,_,rfl⟩:=List.mem_map.1 h2
    simp [ih (by omega) s' h1]
end
section
open Go Go.RowKit
theorem JC {y x:Int} {vs s:List Int}:StateOk (y :: vs) (x :: s)↔(0≤x∧x < y)∧StateOk vs s:=by
  constructor
  · intro h
    exact ⟨h.2 0 x y rfl rfl,by have:=h.1;simpa using this,fun i a b ha hb=>h.2 (i + 1) a b (by simpa using ha) (by simpa using hb)⟩
  · rintro ⟨h1,h2,h3⟩
    refine ⟨by simpa using h2,fun i a b ha hb=>?_⟩
    cases i with
    | zero=>simp at ha hb;subst ha;subst hb;exact h1
    | succ i=>exact h3 i a b (by simpa using ha) (by simpa using hb)
theorem NJ:StateOk [] []:=⟨rfl,fun i a b ha=>by simp at ha⟩
theorem MY {n:Nat} {s t:List Int}:t∈exts n s↔∃ x:Nat,x < n∧t=s ++ [(x:Int)]:=by
  unfold exts
  rw [List.mem_map]
  constructor
  · rintro ⟨x,hx,rfl⟩;exact ⟨x,List.mem_range.1 hx,rfl⟩
  · rintro ⟨x,hx,rfl⟩;exact ⟨x,List.mem_range.2 hx,rfl⟩
theorem HO:∀ (vars:List Int) (out:List (List Int)) (s:List Int),s∈vars.foldl grows out↔∃ s0∈out,∃ r,s=s0 ++ r∧StateOk vars r
  | [],out,s=>by
    constructor
    · intro h;exact ⟨s,h,[],by simp,NJ⟩
    · rintro ⟨s0,h,r,rfl,hr⟩
      have:r=[]:=List.eq_nil_of_length_eq_zero hr.1
      subst this;simpa using h
  | k :: vs,out,s=>by
    simp only [List.foldl_cons]
    rw [HO vs (grows out k) s]
    constructor
    · rintro ⟨s1,h1,r,rfl,hr⟩
      obtain ⟨s0,h0,h2⟩:=List.mem_flatMap.1 h1
      obtain ⟨x,hx,rfl⟩:=MY.1 h2
      exact ⟨s0,h0,(x:Int) :: r,by simp,JC.2 ⟨⟨by omega,by omega⟩,hr⟩⟩
    · rintro ⟨s0,h0,r,rfl,hr⟩
      cases r with
      | nil=>have:=hr.1;simp at this
      | cons x r =>
        obtain ⟨⟨h1,h2⟩,h3⟩:=JC.1 hr
        exact ⟨s0 ++ [x],List.mem_flatMap.2 ⟨s0,h0,MY.2 ⟨x.toNat,by omega,by rw [show ((x.toNat:Nat):Int)=x from by omega]⟩⟩,r,by simp,h3⟩
theorem GI {vars s:List Int}:s∈statesL vars↔StateOk vars s:=by
  unfold statesL
  rw [HO]
  constructor
  · rintro ⟨s0,h0,r,rfl,hr⟩
    have:s0=[]:=by simpa using h0
    subst this;exact hr
  · intro h;exact ⟨[],by simp,s,rfl,h⟩
theorem SmallOk.ok {t:Tsk} (h:SmallOk t):TaskOk t:=h.2.2.2.1
structure Mid (t:Tsk):Prop where
  ok:TaskOk t
  states:∀ k,(statesL (t.vars.take k)).length≤600
  ops:t.ops.length≤80
theorem Mid.many {t:Tsk} (h:Mid t):(statesL t.vars).length≤600:=by
  have:=h.states t.vars.length
  rwa [List.take_length] at this
end
section
open Go Go.RowKit
attribute [local irreducible] ewp owp hwp hwq hws Ev Evg Fn retPost loud loudS Res1
structure Edg where
  src:Int
  op:Int
  dst:Int
instance:Rp Edg where
  isAgg:=true
  size:=3
  R w F cs x:=cs=[.int .i64 x.src,.int .i64 x.op,.int .i64 x.dst]∧inI64 x.src∧inI64 x.op∧inI64 x.dst
  len:=by rintro w F cs x ⟨rfl,h0,h1,h2⟩;rfl
  one:=by rintro w F cs x ⟨rfl,h0,h1,h2⟩ u hu;simp at hu;rcases hu with rfl|rfl|rfl<;>first|rfl|exact Vb.one rfl (by assumption)
  agree:=by rintro w w' F cs x ⟨rfl,h0,h1,h2⟩ ha;exact ⟨rfl,h0,h1,h2⟩
  mono:=by rintro w F G cs x ⟨rfl,h0,h1,h2⟩ ha;exact ⟨rfl,h0,h1,h2⟩
noncomputable def DO (x0:List Int):Option (List (List Int)) :=
  bnd (rng (ρ:=(List (List Int))) (fun (k24:Nat) (a25:Int) (s22:(List (List Int)))=>bnd (rng (ρ:=Ctl (List (List Int)) (List (List Int))) (fun (k53:Nat) (a54:List Int) (s51:(List (List Int)))=>bnd (natI a25) fun N92=>bnd (rngN (ρ:=Ctl (List (List Int)) (Ctl (List (List Int)) (List (List Int)))) (fun (k83:Nat) (s81:(List (List Int)))=>bnd (appI 8 ([]:List Int) a54) fun u104=>bnd (appI 8 u104 [(k83:Int)]) fun u115=>bnd (appI 24 s81 [u115]) fun u129=>some (.next u129)) N92 s51) fun res79=>fin res79 fun (s145:(List (List Int)))=>some (.next s145)) s22 0 ([]:List (List Int))) fun res49=>fin res49 fun (s151:(List (List Int)))=>some (.next s151)) x0 0 [([]:List Int)]) fun res20=>fin res20 fun (s159:(List (List Int)))=>some s159
theorem IW {w:World} {A:Nat→Prop} (hA:∀ k,A k→k < w.heap.size) {vx0:Value} {x0:List Int} (a0:Vb w A vx0 x0) {r:(List (List Int))} (hm:DO x0=some r) :
    Fn Tryz.prog 65 [vx0] w fun v w'=>Ext w w'∧Vb w' (upA A w w') v r:=by
 obtain ⟨O,hB,d3⟩:=enter hA
 replace a0:=a0.mono d3
 obtain ⟨A2,c3,rfl⟩:=a0.form
 refine AH Tryz.func65 rfl Tryz.ntmps65 rfl ?_
 unfold DO at hm
 refine Al (Aj (Au rfl rfl (o_z ?_)))
 refine Al (Aj (Bv 2 (by decide) O (xs:=(([]:List Int):List Int)) rfl rfl rfl rfl trivial (by decide) (by decide) rfl fun g4 w5 O6 S7 h8=>?_))
 obtain ⟨e3,n1,h8⟩:=h8.freeze
 refine Bv 3 (by decide) e3 (xs:=([([]:List Int)]:List (List Int))) rfl rfl rfl rfl ⟨h8,trivial⟩ (by decide) (by decide) rfl fun f3 t4 u4 o1 p1=>?_
 refine Au rfl rfl (o_z ?_)
 refine Al (Al (Aj (Ar rfl rfl (AP rfl rfl ?_))))
 replace a0:=((a0.st S7).st n1).st o1
 have q1:x0.length≤9223372036854775807:=Nat.le_trans a0.len.2.1 a0.len.2.2
 have v4:inI64 (x0.length:Int):=rngNat q1
 refine Ar rfl rfl (o_z ?_)
 obtain ⟨a1,r1,hm⟩:=bs hm
 refine AL (aft a1 (fun (c0:(List (List Int))) (d0:(Option Addr×Nat))=>[(3,(.slice d0.1 c0.length d0.2))]) (fun c0 d0 w'=>∃ O':Lab,Bs w A w' O'∧Vb w' (Fr 0 w' O') (.slice d0.1 c0.length d0.2) c0)) ?_ ?_
 ·
  refine AN ?_
  obtain ⟨g3,x2,p1⟩:=p1.freeze
  replace a0:=a0.st x2
  replace hB:=(((hB.st S7).st n1).st o1).st x2
  refine Bp (σ:=(List (List Int))) (X:=(Option Addr×Nat)) (x0.length) r1 rfl q1 (fun (c0:(List (List Int))) (d0:(Option Addr×Nat))=>[(3,(.slice d0.1 c0.length d0.2)),(12,(.slice A2 x0.length c3))]) _ (fun c0 d0 w'=>∃ O':Lab,Bs w A w' O'∧Vb w' (Fr 0 w' O') (.slice d0.1 c0.length d0.2) c0∧Vb w' (Fr 0 w' O') (.slice A2 x0.length c3) x0) _ ((some ⟨f3,0,none⟩),1) ⟨g3,hB,p1,a0⟩ ⟨rfl,rfl,rfl,rfl,trivial⟩ (fun _ _=>⟨rfl,rfl⟩) (fun _ _=>⟨rfl,trivial⟩) (fun _ _ _ ⟨O',hB,e0,a0⟩=>⟨O',hB,e0⟩) ⟨rfl,rfl,rfl⟩ ⟨rfl,rfl⟩ ?_
  rintro b1 s1 c0 d0 w4 h3 c1 ⟨i3,hB,e0,a0⟩ j0 t1 u1
  have rk24:inI64 (b1:Int):=rngK c1 q1
  refine Al (Aj ?_)
  obtain ⟨x4,y4,j3,v1,w1,x1,rfl,y2⟩:=a0.elem' c1
  refine Bi (hA:=v1) (hj:=rfl) (hlt:=w1) rfl rfl rfl ?_
  refine AE (hc:=cat0 x1) rfl rfl ?_
  refine Au rfl rfl (o_z ?_)
  refine Al (Aj (Au rfl rfl (o_z ?_)))
  refine Al (Al (Aj (Ar rfl rfl (AP rfl rfl ?_))))
  have y1:c0.length≤9223372036854775807:=Nat.le_trans e0.len.2.1 e0.len.2.2
  have z4:inI64 (c0.length:Int):=rngNat y1
  refine Ar rfl rfl (o_z ?_)
  obtain ⟨d1,z1,j0⟩:=bs j0
  refine AL (aft d1 (fun (p0:(List (List Int))) (h0:(Option Addr×Nat))=>[(6,(.slice h0.1 p0.length h0.2)),(12,(.slice A2 x0.length c3)),(13,(.int .i64 (x0.length:Int))),(14,(.int .i64 (b1:Int)))]) (fun p0 h0 w'=>∃ O':Lab,Bs w A w' O'∧Rw 5 w' O' 22 (.slice h0.1 p0.length h0.2) p0∧Vb w' (Fr 0 w' O') (.slice A2 x0.length c3) x0)) ?_ ?_
  ·
   refine AN (Bp (σ:=(List (List Int))) (X:=(Option Addr×Nat)) (c0.length) z1 rfl y1 (fun (p0:(List (List Int))) (h0:(Option Addr×Nat))=>[(5,(.int .i64 s1)),(6,(.slice h0.1 p0.length h0.2)),(12,(.slice A2 x0.length c3)),(13,(.int .i64 (x0.length:Int))),(14,(.int .i64 (b1:Int))),(18,(.slice d0.1 c0.length d0.2))]) _ (fun p0 h0 w'=>∃ O':Lab,Bs w A w' O'∧Rw 5 w' O' 22 (.slice h0.1 p0.length h0.2) p0∧Vb w' (Fr 0 w' O') (.slice A2 x0.length c3) x0∧Vb w' (Fr 0 w' O') (.slice d0.1 c0.length d0.2) c0) _ (none,0) ⟨i3,hB,(Rw.nil 5 (by decide)),a0,e0⟩ ⟨rfl,rfl,rfl,rfl,rfl,rfl,rfl,rfl,trivial⟩ (fun _ _=>⟨rfl,rfl⟩) (fun _ _=>⟨rfl,rfl,rfl,rfl,trivial⟩) (fun _ _ _ ⟨O',hB,u0,a0,e0⟩=>⟨O',hB,u0,a0⟩) ⟨rfl,rfl,rfl⟩ ⟨rfl,rfl⟩ ?_)
   rintro a2 b2 p0 h0 a5 k3 e1 ⟨l3,hB,u0,a0,e0⟩ f0 c2 d2
   have rk53:inI64 (a2:Int):=rngK e1 y1
   refine Al (Aj ?_)
   obtain ⟨b5,c5,m3,e2,f2,g2,d5,rfl,q0⟩:=e0.elem' e1
   replace q0:=Vb.of_slice q0
   obtain ⟨z2,a3,rfl⟩:=q0.form
   refine Bi (hA:=e2) (hj:=rfl) (hlt:=f2) rfl rfl rfl ?_
   refine AE (hc:=cat0 g2) rfl rfl ?_
   refine Au rfl rfl (o_z ?_)
   refine Al (Aj (Ar rfl rfl (Ar rfl rfl (o_z ?_))))
   obtain ⟨n3,k0,f0⟩:=bs f0
   replace k0:=Pq k0
   obtain ⟨f1,h2,f0⟩:=bs f0
   refine AL (aft f1 (fun (r0:(List (List Int))) (i0:(Option Addr×Nat))=>[(5,(.int .i64 s1)),(6,(.slice i0.1 r0.length i0.2)),(12,(.slice A2 x0.length c3)),(13,(.int .i64 (x0.length:Int))),(14,(.int .i64 (b1:Int))),(18,(.slice d0.1 c0.length d0.2)),(19,(.int .i64 (c0.length:Int))),(20,(.int .i64 (a2:Int)))]) (fun r0 i0 w'=>∃ O':Lab,Bs w A w' O'∧Rw 5 w' O' 22 (.slice i0.1 r0.length i0.2) r0∧Vb w' (Fr 0 w' O') (.slice A2 x0.length c3) x0∧Vb w' (Fr 0 w' O') (.slice d0.1 c0.length d0.2) c0)) ?_ ?_
   ·
    refine AN (Gy (σ:=(List (List Int))) (X:=(Option Addr×Nat)) n3 h2 (NW k0 y2) (fun (r0:(List (List Int))) (i0:(Option Addr×Nat))=>[(5,(.int .i64 s1)),(6,(.slice i0.1 r0.length i0.2)),(8,(.slice z2 b2.length a3)),(12,(.slice A2 x0.length c3)),(13,(.int .i64 (x0.length:Int))),(14,(.int .i64 (b1:Int))),(18,(.slice d0.1 c0.length d0.2)),(19,(.int .i64 (c0.length:Int))),(20,(.int .i64 (a2:Int)))]) _ (fun r0 i0 w'=>∃ O':Lab,Bs w A w' O'∧Rw 5 w' O' 22 (.slice i0.1 r0.length i0.2) r0∧Vb w' (Fr 0 w' O') (.slice z2 b2.length a3) b2∧Vb w' (Fr 0 w' O') (.slice A2 x0.length c3) x0∧Vb w' (Fr 0 w' O') (.slice d0.1 c0.length d0.2) c0) _ (h0.1,h0.2) ⟨l3,hB,u0,q0,a0,e0⟩ ⟨rfl,(congrArg (fun z=>some (Value.int .i64 z)) k0),rfl,rfl,rfl,rfl,rfl,rfl,rfl,rfl,rfl,trivial⟩ (fun _ _=>⟨rfl,rfl⟩) (fun _ _=>⟨rfl,rfl,rfl,rfl,rfl,rfl,rfl,rfl,trivial⟩) (fun _ _ _ ⟨O',hB,v0,q0,a0,e0⟩=>⟨O',hB,v0,a0,e0⟩) ⟨rfl,rfl,rfl⟩ ⟨rfl,rfl⟩ ?_)
    rintro b3 r0 i0 e5 o3 i2 ⟨p3,hB,v0,q0,a0,e0⟩ g0 j2 k2
    have rk83:inI64 (b3:Int):=rngKN i2 (NW k0 y2)
    refine Al (Aj (Ar rfl rfl (Au rfl rfl (o_z ?_))))
    refine Aj (Ar rfl rfl (Bv 4 (by decide) p3 (xs:=(([]:List Int):List Int)) rfl rfl rfl rfl trivial (by decide) (by decide) rfl fun f5 g5 q3 l0 l2=>?_))
    refine Ar rfl rfl ?_
    obtain ⟨r3,w0,g0⟩:=bs g0
    obtain ⟨w0,m2,n2⟩:=AU w0
    replace q0:=q0.st l0
    refine Bw rfl l2 (q0.rd) rfl rfl (by decide) m2 n2 rfl fun s3 t3 u3 v3 m0 g1=>?_
    rw [← w0] at g1 ⊢
    refine Ar rfl rfl ?_
    obtain ⟨o2,y0,g0⟩:=bs g0
    obtain ⟨y0,p2,q2⟩:=AU y0
    refine CP rfl (a:=(b3:Int)) g1 (vInt rk83) (fun _=>rfl) rfl (by decide) (by decide) p2 q2 ⟨rfl,rfl⟩ fun w3 x3 y3 z3 a4 n0 s0=>?_
    rw [← y0] at s0 ⊢
    obtain ⟨b4,o0,s0⟩:=s0.freeze
    obtain ⟨c4,z0,g0⟩:=bs g0
    obtain ⟨z0,r2,s2⟩:=AU z0
    replace v0:=(((v0.st l0).st m0).st n0).st o0
    refine CP rfl (a:=o2) v0 s0 (fun _=>rfl) rfl (by decide) (by decide) r2 s2 ⟨rfl,rfl⟩ fun d4 t2 u2 e4 f4 t0 h1=>?_
    rw [← z0] at h1 ⊢
    refine Au rfl rfl (o_z ?_)
    obtain rfl:=sm g0
    exact show Exists _ from ⟨_,(t2,u2),rfl,⟨rfl,rfl,rfl,rfl,rfl,rfl,rfl,rfl,rfl,rfl,rfl,trivial⟩,_,((((hB.st l0).st m0).st n0).st o0).st t0,h1,(((q0.st m0).st n0).st o0).st t0,((((a0.st l0).st m0).st n0).st o0).st t0,((((e0.st l0).st m0).st n0).st o0).st t0⟩
   rintro h4 i4 ⟨j4,i1,rfl,b0,k4,hB,v0,a0,e0⟩
   replace f0:=AV f0
   obtain rfl:=sm f0
   exact show Exists _ from ⟨_,(i1.1,i1.2),rfl,⟨(Bn b0 _ _ rfl),(Bn b0 _ _ rfl),(Bn b0 _ _ rfl),(Bn b0 _ _ rfl),(Bn b0 _ _ rfl),(Bn b0 _ _ rfl),(Bn b0 _ _ rfl),(Bn b0 _ _ rfl),trivial⟩,_,hB,v0,a0,e0⟩
  rintro l4 m4 ⟨n4,j1,rfl,k1,o4,hB,u0,a0⟩
  replace j0:=AV j0
  refine AQ _ k1 ?_
  refine Aj (Ar rfl rfl (Au rfl rfl (o_z ?_)))
  obtain ⟨p4,l1,u0⟩:=u0.freeze
  obtain rfl:=sm j0
  exact show Exists _ from ⟨_,(j1.1,j1.2),rfl,⟨rfl,rfl,rfl,rfl,trivial⟩,_,hB.st l1,u0,a0.st l1⟩
 replace hB:=((hB.st S7).st n1).st o1
 rintro q4 v2 ⟨r4,s4,rfl,m1,w2,hB,e0⟩
 replace hm:=AV hm
 refine AQ _ m1 ?_
 refine Al (Aj (Ar rfl rfl (Au rfl rfl (o_z ?_))))
 refine AK ?_
 obtain rfl:=sm hm
 exact ret1v rfl (AB rfl) ⟨hB.ext,(Vb.mono (F:=Fr 0 v2 w2) e0 hB.out)⟩
noncomputable def CG (x0:Tsk) (x1:List Int) (x2:Int):Option ((List Int)×Bool) :=
  bnd (if x2 < 0 then (some true) else (if (x0.ops.length:Int)≤x2 then (some true) else (bnd (atI x0.ops x2) fun a36=>bnd (DI a36.pre x1) fun q57=>if q57=true then some false else some true)):Option Bool) fun y28=>if y28=true then (some (([]:List Int),false)) else (bnd (appI 8 ([]:List Int) x1) fun u75=>bnd (atI x0.ops x2) fun a86=>bnd (rng (ρ:=(List Int)×Bool) (fun (k113:Nat) (a114:Eff) (s111:(List Int))=>bnd (DI a114.cond x1) fun q148=>if q148=true then bnd (atI s111 a114.var) fun a155=>some (.next (s111.set (a114.var:Int).toNat a114.val)) else some (.next s111)) a86.effs 0 u75) fun res109=>fin res109 fun (s173:(List Int))=>some (s173,true))
theorem JD {w:World} {A:Nat→Prop} (hA:∀ k,A k→k < w.heap.size) {vx0:Value} {x0:Tsk} (y1:Vb w A vx0 x0) {vx1:Value} {x1:List Int} (e0:Vb w A vx1 x1) {x2:Int} (rx2:inI64 x2) {r:(List Int)×Bool} (hm:CG x0 x1 x2=some r) :
    Fn Tryz.prog 36 [vx0,vx1,(.int .i64 x2)] w fun v w'=>Ext w w'∧T2 w' (upA A w w') v r:=by
 obtain ⟨O,hB,h3⟩:=enter hA
 replace y1:=y1.mono h3
 obtain ⟨h5,rfl,v5,v6,v7,v8,rfl,h9,t0,u0,k0⟩:=y1
 obtain ⟨z1,a2,rfl⟩:=h9.form
 obtain ⟨b2,c2,rfl⟩:=t0.form
 obtain ⟨d2,e2,rfl⟩:=u0.form
 obtain ⟨f2,g2,rfl⟩:=k0.form
 replace e0:=e0.mono h3
 obtain ⟨o1,p1,rfl⟩:=e0.form
 refine AH Tryz.func36 rfl Tryz.ntmps36 rfl ?_
 unfold CG at hm
 refine Al (Aj (Da 2 O rfl rfl fun h2 q1 r1 c0 n0=>?_))
 replace n0:Lc 2 q1 r1 h2 26 [(.slice z1 x0.vars.length a2),(.slice b2 x0.init.length c2),(.slice d2 x0.goal.length e2),(.slice f2 x0.ops.length g2)]:=n0
 refine Au rfl rfl (Au rfl rfl (o_z ?_))
 refine Al (Al ?_)
 obtain ⟨q3,a0,hm⟩:=bs hm
 refine AL (fun l' w'=>∃ (r3:Unit) (O':Lab),subs l' [(1,(.slice o1 x1.length p1)),(2,(.int .i64 x2)),(3,(.pointer (some ⟨h2,0,none⟩))),(30,(.bool q3))]∧Bs w A w' O'∧Vb w' (Fr 0 w' O') (.slice o1 x1.length p1) x1∧Lc 2 w' O' h2 26 [(.slice z1 x0.vars.length a2),(.slice b2 x0.init.length c2),(.slice d2 x0.goal.length e2),(.slice f2 x0.ops.length g2)]∧Vb w' (Fr 0 w' O') (.slice z1 x0.vars.length a2) x0.vars∧Vb w' (Fr 0 w' O') (.slice b2 x0.init.length c2) x0.init∧Vb w' (Fr 0 w' O') (.slice d2 x0.goal.length e2) x0.goal∧Vb w' (Fr 0 w' O') (.slice f2 x0.ops.length g2) x0.ops) ?_ ?_
 ·
  refine Aj (Ar rfl rfl (DM rfl rfl rfl (fun i2=>?_) fun i2=>?_))
  ·
   replace a0:=ip a0 i2
   refine Ar rfl rfl (At rfl rfl rfl rfl (At rfl rfl rfl rfl (At rfl rfl rfl rfl (At rfl rfl rfl rfl (At rfl rfl rfl rfl (AX rfl rfl rfl (Ar rfl rfl (At rfl rfl rfl rfl (At rfl rfl rfl rfl (At rfl rfl rfl rfl (At rfl rfl rfl rfl (At rfl rfl rfl rfl (At rfl rfl rfl rfl (At rfl rfl rfl rfl ?_))))))))))))))
   refine At rfl rfl rfl rfl (At rfl rfl rfl rfl (AX rfl rfl rfl (o_z ?_)))
   obtain rfl:=sm a0
   exact ⟨(),_,⟨rfl,rfl,rfl,rfl,trivial⟩,hB.st c0,e0.st c0,n0,h9.st c0,t0.st c0,u0.st c0,k0.st c0⟩
  replace a0:=im a0 i2
  refine Ar rfl rfl (Ay rfl rfl (Ar rfl rfl (Ay rfl rfl (AG rfl rfl (Ay rfl rfl (AE (hc:=Blk.cell (i:=3) (n0.1) rfl) rfl rfl ?_))))))
  refine Ay rfl rfl (AP rfl rfl ?_)
  replace k0:=k0.st c0
  have s3:x0.ops.length≤9223372036854775807:=Nat.le_trans k0.len.2.1 k0.len.2.2
  have i5:inI64 (x0.ops.length:Int):=rngNat s3
  refine Ay rfl rfl (Ha rfl rfl rfl (fun j2=>?_) fun j2=>?_)
  ·
   replace a0:=ip a0 j2
   refine AT rfl rfl rfl (Ar rfl rfl (At rfl rfl rfl rfl (At rfl rfl rfl rfl (At rfl rfl rfl rfl (At rfl rfl rfl rfl (At rfl rfl rfl rfl (At rfl rfl rfl rfl (At rfl rfl rfl rfl (At rfl rfl rfl rfl (At rfl rfl rfl rfl (AX rfl rfl rfl (o_z ?_))))))))))))
   obtain rfl:=sm a0
   exact ⟨(),_,⟨rfl,rfl,rfl,rfl,trivial⟩,hB.st c0,e0.st c0,n0,h9.st c0,t0.st c0,u0.st c0,k0⟩
  replace a0:=im a0 j2
  refine AT rfl rfl rfl (Ar rfl rfl (Ay rfl rfl (AG rfl rfl (Ay rfl rfl (AE (hc:=Blk.cell (i:=3) (n0.1) rfl) rfl rfl ?_)))))
  refine Ay rfl rfl (Ar rfl rfl (Ay rfl rfl ?_))
  obtain ⟨j5,t3,a0⟩:=bs a0
  obtain ⟨u3,v3⟩:=AS t3
  obtain ⟨k5,l5,w3,k2,l2,m2,m5,n5,rfl,i3,x3,o5,p5⟩:=k0.elem' v3
  obtain ⟨q5,r5,rfl⟩:=i3.form
  obtain ⟨s5,t5,rfl⟩:=x3.form
  refine Bi (hA:=k2) (hj:=(Int.toNat_of_nonneg u3).symm) (hlt:=l2) rfl rfl rfl ?_
  refine Ay rfl rfl (AG rfl rfl (Ay rfl rfl (AE (hc:=cat2 m2) rfl rfl ?_)))
  refine Ay rfl rfl (Ar rfl rfl (Ay rfl rfl ?_))
  obtain ⟨j3,y3,a0⟩:=bs a0
  replace e0:=e0.st c0
  refine BE (O:=r1) (A:=All q1) (R:=fun w' F v=>Vb w' F v j3) (Gl (fun _ h=>h) (Vb.mono (F:=Fr 0 q1 r1) i3 Fr.lt) (Vb.mono (F:=Fr 0 q1 r1) e0 Fr.lt) y3) rfl rfl fun u5 w5 x5 l0 z3=>?_
  obtain rfl:=z3.bool
  cases j3
  case false =>
   replace a0:=iF a0
   refine Ay rfl rfl (CC rfl rfl (AT rfl rfl rfl (o_z ?_)))
   obtain rfl:=sm a0
   exact ⟨(),_,⟨rfl,rfl,rfl,rfl,trivial⟩,(hB.st c0).st l0,e0.st l0,n0.st l0,(h9.st c0).st l0,(t0.st c0).st l0,(u0.st c0).st l0,k0.st l0⟩
  replace a0:=iT a0
  refine Ay rfl rfl (CB rfl rfl (AT rfl rfl rfl (o_z ?_)))
  obtain rfl:=sm a0
  exact ⟨(),_,⟨rfl,rfl,rfl,rfl,trivial⟩,(hB.st c0).st l0,e0.st l0,n0.st l0,(h9.st c0).st l0,(t0.st c0).st l0,(u0.st c0).st l0,k0.st l0⟩
 replace hB:=hB.st c0
 replace e0:=e0.st c0
 replace h9:=h9.st c0
 replace t0:=t0.st c0
 replace u0:=u0.st c0
 replace k0:=k0.st c0
 rintro y5 a4 ⟨r3,k3,n2,hB,e0,n0,h9,t0,u0,k0⟩
 refine AQ _ n2 ?_
 refine CN rfl (fun o2=>?_) (fun o2=>?_)
 ·
  replace hm:=ip hm o2
  refine Al (Aj (Au rfl rfl (Au rfl rfl (o_z ?_))))
  refine AK ?_
  obtain rfl:=sm hm
  exact ret2 rfl (AB rfl) (AB rfl) ⟨hB.ext,_,_,rfl,(Vb.mono (F:=Fr 0 a4 k3) (Vb.nil _ _) hB.out),vBool⟩
 replace hm:=im' hm o2
 refine AO (Al (Aj (Bv 3 (by decide) k3 (xs:=(([]:List Int):List Int)) rfl rfl rfl rfl trivial (by decide) (by decide) rfl fun z5 a6 b6 c1 b4=>?_)))
 refine Ar rfl rfl ?_
 obtain ⟨s1,p2,hm⟩:=bs hm
 obtain ⟨p2,c4,d4⟩:=AU p2
 replace e0:=e0.st c1
 refine Bw rfl b4 (e0.rd) rfl rfl (by decide) c4 d4 rfl fun t1 u1 c6 e4 d1 l3=>?_
 rw [← p2] at l3 ⊢
 refine Au rfl rfl (o_z ?_)
 refine Al (Al (Aj (AG rfl rfl ?_)))
 replace n0:=(n0.st c1).st d1
 refine AE (hc:=Blk.cell (i:=3) (n0.1) rfl) rfl rfl ?_
 refine Ar rfl rfl ?_
 obtain ⟨b1,f4,hm⟩:=bs hm
 obtain ⟨g4,h4⟩:=AS f4
 replace k0:=(k0.st c1).st d1
 obtain ⟨d6,e6,i4,q2,r2,s2,f6,g6,rfl,j4,f0,k4,l4⟩:=k0.elem' h4
 obtain ⟨m4,n4,rfl⟩:=j4.form
 obtain ⟨e1,f1,rfl⟩:=f0.form
 refine Bi (hA:=q2) (hj:=(Int.toNat_of_nonneg g4).symm) (hlt:=r2) rfl rfl rfl ?_
 refine AG rfl rfl (AE (hc:=cat3 s2) rfl rfl ?_)
 refine AP rfl rfl ?_
 have y0:b1.effs.length≤9223372036854775807:=Nat.le_trans f0.len.2.1 f0.len.2.2
 have o4:inI64 (b1.effs.length:Int):=rngNat y0
 refine Ar rfl rfl (o_z ?_)
 obtain ⟨z0,g1,hm⟩:=bs hm
 refine AL (aft z0 (fun (m0:(List Int)) (o0:Unit)=>[(8,(.slice t1 s1.length u1))]) (fun m0 o0 w'=>∃ O':Lab,Bs w A w' O'∧Rw 3 w' O' 3 (.slice t1 s1.length u1) m0)) ?_ ?_
 ·
  refine AN ?_
  replace hB:=(hB.st c1).st d1
  replace e0:=e0.st d1
  refine Bp (σ:=(List Int)) (X:=Unit) (b1.effs.length) g1 rfl y0 (fun (m0:(List Int)) (o0:Unit)=>[(1,(.slice o1 x1.length p1)),(8,(.slice t1 s1.length u1)),(39,(.slice e1 b1.effs.length f1))]) _ (fun m0 o0 w'=>∃ O':Lab,Bs w A w' O'∧Vb w' (Fr 0 w' O') (.slice o1 x1.length p1) x1∧Rw 3 w' O' 3 (.slice t1 s1.length u1) m0∧Vb w' (Fr 0 w' O') (.slice e1 b1.effs.length f1) b1.effs) _ () ⟨e4,hB,e0,l3,f0⟩ ⟨rfl,rfl,rfl,rfl,rfl,trivial⟩ (fun _ _=>⟨rfl,rfl⟩) (fun _ _=>⟨rfl,trivial⟩) (fun _ _ _ ⟨O',hB,e0,d0,f0⟩=>⟨O',hB,d0⟩) ⟨rfl,rfl,rfl⟩ ⟨rfl,rfl⟩ ?_
  rintro t2 p0 m0 o0 p4 m3 v0 ⟨u2,hB,e0,d0,f0⟩ b0 v1 w1
  have rk113:inI64 (t2:Int):=rngK v0 y0
  refine Al (Aj ?_)
  obtain ⟨q4,r4,n3,h1,i1,j1,s4,rfl,q0,t4,v2⟩:=f0.elem' v0
  obtain ⟨w2,y2,rfl⟩:=q0.form
  refine Bi (hA:=h1) (hj:=rfl) (hlt:=i1) rfl rfl rfl ?_
  refine Bk (hl:=rfl) (hc:=j1) rfl rfl ?_
  refine BD 4 u2 rfl fun z2 u4 r0 i0 g0=>?_
  refine AR g0 rfl rfl rfl (Ba rfl) (allOne rfl) fun s0 j0 g0=>?_
  replace g0:Lc 4 s0 r0 z2 64 [(.slice w2 p0.cond.length y2),(.int .i64 p0.var),(.int .i64 p0.val)]:=g0
  refine o_z ?_
  refine Al (Aj (AG rfl rfl (AE (hc:=Blk.cell (i:=0) (g0.1) rfl) rfl rfl ?_)))
  refine Ar rfl rfl ?_
  obtain ⟨k1,a3,b0⟩:=bs b0
  replace e0:=(e0.st i0).st j0
  replace q0:=(q0.st i0).st j0
  refine BE (O:=r0) (A:=All s0) (R:=fun w' F v=>Vb w' F v k1) (Gl (fun _ h=>h) (Vb.mono (F:=Fr 0 s0 r0) q0 Fr.lt) (Vb.mono (F:=Fr 0 s0 r0) e0 Fr.lt) a3) rfl rfl fun v4 w4 x4 h0 b3=>?_
  obtain rfl:=b3.bool
  cases k1
  case false =>
   replace b0:=iF b0
   refine o_z ?_
   refine Ae rfl (AO ?_)
   obtain rfl:=sm b0
   exact show Exists _ from ⟨_,(),rfl,⟨rfl,rfl,rfl,rfl,rfl,trivial⟩,_,((hB.st i0).st j0).st h0,e0.st h0,((d0.st i0).st j0).st h0,((f0.st i0).st j0).st h0⟩
  replace b0:=iT b0
  refine o_z ?_
  refine Ah rfl (Aj (Ar rfl rfl (AG rfl rfl ?_)))
  replace g0:=g0.st h0
  refine AE (hc:=Blk.cell (i:=1) (g0.1) rfl) rfl rfl ?_
  refine AG rfl rfl (AE (hc:=Blk.cell (i:=2) (g0.1) rfl) rfl rfl ?_)
  obtain ⟨y4,c3,b0⟩:=bs b0
  obtain ⟨d3,l1⟩:=AS c3
  replace d0:=((d0.st i0).st j0).st h0
  obtain ⟨z4,a5,o3,w0,m1,p3,rfl,b5⟩:=d0.elem l1
  refine Bi (hA:=w0) (hj:=(Int.toNat_of_nonneg d3).symm) (hlt:=m1) rfl rfl rfl ?_
  refine CW rfl d0 (a:=p0.val) (vInt v2) w0 rfl rfl (AD l1) fun c5 a1 d0=>?_
  refine o_z ?_
  obtain rfl:=sm b0
  exact show Exists _ from ⟨_,(),rfl,⟨rfl,rfl,rfl,rfl,rfl,trivial⟩,_,(((hB.st i0).st j0).st h0).st a1,(e0.st h0).st a1,d0,(((f0.st i0).st j0).st h0).st a1⟩
 replace hB:=(hB.st c1).st d1
 rintro d5 e3 ⟨e5,f5,rfl,n1,g5,hB,d0⟩
 replace hm:=AV hm
 refine AQ _ n1 ?_
 refine Al (Aj (Ar rfl rfl (Au rfl rfl (Au rfl rfl (o_z ?_)))))
 refine AK ?_
 obtain ⟨f3,g3,d0⟩:=d0.freeze
 obtain rfl:=sm hm
 replace hB:=hB.st g3
 exact ret2 rfl (AB rfl) (AB rfl) ⟨hB.ext,_,_,rfl,(Vb.mono (F:=Fr 0 e3 f3) d0 hB.out),vBool⟩
noncomputable def DZ (x0:List Int) (x1:List Int):Option Int :=
  bnd (rng (ρ:=Int) (fun (k13:Nat) (a14:Int) (s11:Int)=>bnd (x0[k13]?) fun a26=>bnd (chkI (s11 * a26)) fun n36=>bnd (chkI (n36 + a14)) fun n47=>some (.next n47)) x1 0 0) fun res9=>fin res9 fun (s54:Int)=>some s54
theorem Kp {w:World} {A:Nat→Prop} (hA:∀ k,A k→k < w.heap.size) {vx0:Value} {x0:List Int} (c0:Vb w A vx0 x0) {vx1:Value} {x1:List Int} (b0:Vb w A vx1 x1) {r:Int} (hm:DZ x0 x1=some r) :
    Fn Tryz.prog 35 [vx0,vx1] w fun v w'=>Ext w w'∧Vb w' (upA A w w') v r:=by
 obtain ⟨O,hB,s0⟩:=enter hA
 replace c0:=c0.mono s0
 obtain ⟨A3,c4,rfl⟩:=c0.form
 replace b0:=b0.mono s0
 obtain ⟨A5,c6,rfl⟩:=b0.form
 refine AH Tryz.func35 rfl Tryz.ntmps35 rfl ?_
 unfold DZ at hm
 refine Al (Aj (Au rfl rfl (o_z ?_)))
 refine Al (Aj (Au rfl rfl (o_z ?_)))
 refine Al (Al (Aj (Ar rfl rfl (AP rfl rfl ?_))))
 have l8:x1.length≤9223372036854775807:=Nat.le_trans b0.len.2.1 b0.len.2.2
 have r7:inI64 (x1.length:Int):=rngNat l8
 refine Ar rfl rfl (o_z ?_)
 obtain ⟨h0,i0,hm⟩:=bs hm
 refine AL (aft h0 (fun (d0:Int) (f0:Unit)=>[(5,(.int .i64 d0))]) (fun d0 f0 w'=>∃ O':Lab,Bs w A w' O'∧inI64 d0)) ?_ ?_
 ·
  refine AN (Bp (σ:=Int) (X:=Unit) (x1.length) i0 rfl l8 (fun (d0:Int) (f0:Unit)=>[(0,(.slice A3 x0.length c4)),(1,(.slice A5 x1.length c6)),(5,(.int .i64 d0))]) _ (fun d0 f0 w'=>∃ O':Lab,Bs w A w' O'∧Vb w' (Fr 0 w' O') (.slice A3 x0.length c4) x0∧Vb w' (Fr 0 w' O') (.slice A5 x1.length c6) x1∧inI64 d0) _ () ⟨O,hB,c0,b0,(show inI64 (0) from by decide)⟩ ⟨rfl,rfl,rfl,rfl,rfl,trivial⟩ (fun _ _=>⟨rfl,rfl⟩) (fun _ _=>⟨rfl,trivial⟩) (fun _ _ _ ⟨O',hB,c0,b0,g0⟩=>⟨O',hB,g0⟩) ⟨rfl,rfl,rfl⟩ ⟨rfl,rfl⟩ ?_)
  rintro v0 d1 d0 f0 w0 y0 e0 ⟨e1,hB,c0,b0,g0⟩ a0 j0 k0
  have rk13:inI64 (v0:Int):=rngK e0 l8
  refine Al (Aj (Ar rfl rfl (Au rfl rfl (o_z ?_))))
  refine Cr (·=w0) [(0,true),(1,true),(2,true),(3,true),(4,true),(5,true),(6,true),(7,true),(8,true),(9,true),(10,true),(11,true)] (by kernel_rfl) rfl (by kernel_rfl) rfl ?_
  refine AJ rfl rfl rfl (AJ rfl rfl rfl (AJ rfl rfl rfl ?_))
  obtain ⟨f1,z0,a0⟩:=bs a0
  obtain ⟨g1,h1,a1,l0,m0,n0,rfl,i1⟩:=c0.elem' z0
  refine BP (hA:=l0) (hj:=rfl) (hlt:=m0) rfl rfl rfl rfl ?_
  refine Cm (hc:=cat0 n0) rfl rfl rfl ?_
  obtain ⟨j1,t0,a0⟩:=bs a0
  have k1:=(AW t0)
  refine Ta (he:=t0) rfl rfl rfl rfl ?_
  refine AJ rfl rfl rfl (AJ rfl rfl rfl ?_)
  obtain ⟨l1,m1,b1,o0,p0,q0,rfl,n1⟩:=b0.elem' e0
  refine BP (hA:=o0) (hj:=rfl) (hlt:=p0) rfl rfl rfl rfl ?_
  refine Cm (hc:=cat0 q0) rfl rfl rfl ?_
  obtain ⟨o1,u0,a0⟩:=bs a0
  have c1:=(AW u0)
  refine Ey (he:=u0) rfl rfl rfl rfl ?_
  refine De rfl rfl rfl (h_z ?_)
  obtain rfl:=sm a0
  exact show Exists _ from ⟨_,(),rfl,⟨rfl,rfl,rfl,rfl,rfl,trivial⟩,_,hB,c0,b0,c1⟩
 rintro p1 q1 ⟨r1,s1,rfl,r0,t1,hB,g0⟩
 replace hm:=AV hm
 refine AQ _ r0 ?_
 refine Al (Aj (Ar rfl rfl (Au rfl rfl (o_z ?_))))
 refine AK ?_
 obtain rfl:=sm hm
 exact ret1v rfl (AB rfl) ⟨hB.ext,(vInt g0)⟩
noncomputable def Fs (x0:Tsk):Option (List Edg) :=
  bnd (DO x0.vars) fun q24=>bnd (rng (ρ:=(List Edg)) (fun (k39:Nat) (a40:List Int) (s37:(List Edg))=>bnd (rng (ρ:=Ctl (List Edg) (List Edg)) (fun (k71:Nat) (a72:Opr) (s69:(List Edg))=>bnd (CG x0 a40 (k71:Int)) fun q86=>if q86.2=true then (bnd (DZ x0.vars q86.1) fun q100=>bnd (appI 24 s69 [(⟨(k39:Int),(k71:Int),q100⟩:Edg)]) fun u108=>some (.next u108)) else (some (.next s69))) x0.ops 0 s37) fun res67=>fin res67 fun (s124:(List Edg))=>some (.next s124)) q24 0 ([]:List Edg)) fun res35=>fin res35 fun (s130:(List Edg))=>some s130
theorem MZ {w:World} {A:Nat→Prop} (hA:∀ k,A k→k < w.heap.size) {vx0:Value} {x0:Tsk} (p1:Vb w A vx0 x0) {r:(List Edg)} (hm:Fs x0=some r) :
    Fn Tryz.prog 66 [vx0] w fun v w'=>Ext w w'∧Vb w' (upA A w w') v r:=by
 obtain ⟨O,hB,u2⟩:=enter hA
 replace p1:=p1.mono u2
 obtain ⟨x3,rfl,v3,v4,v5,v6,rfl,h7,h0,i0,e0⟩:=p1
 obtain ⟨A8,c9,rfl⟩:=h7.form
 obtain ⟨s0,t0,rfl⟩:=h0.form
 obtain ⟨u0,v0,rfl⟩:=i0.form
 obtain ⟨w0,y0,rfl⟩:=e0.form
 refine AH Tryz.func66 rfl Tryz.ntmps66 rfl ?_
 unfold Fs at hm
 refine Al (Aj (Da 2 O rfl rfl fun a1 v2 q2 f1 b0=>?_))
 replace b0:Lc 2 v2 q2 a1 26 [(.slice A8 x0.vars.length c9),(.slice s0 x0.init.length t0),(.slice u0 x0.goal.length v0),(.slice w0 x0.ops.length y0)]:=b0
 refine Au rfl rfl (o_z ?_)
 refine Al (Aj (Au rfl rfl (o_z ?_)))
 refine Al (Al (Aj (AG rfl rfl (AE (hc:=Blk.cell (i:=0) (b0.1) rfl) rfl rfl ?_))))
 obtain ⟨j0,w2,hm⟩:=bs hm
 replace h7:=h7.st f1
 refine Dl (O:=q2) (R:=fun w' F v=>Vb w' F v j0) (IW Fr.lt h7 w2) rfl rfl fun y3 z3 x2 b1 k0=>?_
 obtain ⟨g1,h1,rfl⟩:=k0.form
 refine AP rfl rfl ?_
 have q1:j0.length≤9223372036854775807:=Nat.le_trans k0.len.2.1 k0.len.2.2
 have a4:inI64 (j0.length:Int):=rngNat q1
 refine Ar rfl rfl (o_z ?_)
 obtain ⟨i1,r1,hm⟩:=bs hm
 refine AL (aft i1 (fun (o0:(List Edg)) (l0:(Option Addr×Nat))=>[(3,(.slice l0.1 o0.length l0.2))]) (fun o0 l0 w'=>∃ O':Lab,Bs w A w' O'∧Rw 3 w' O' 122 (.slice l0.1 o0.length l0.2) o0)) ?_ ?_
 ·
  refine AN ?_
  replace hB:=(hB.st f1).st b1
  replace h7:=h7.st b1
  replace h0:=(h0.st f1).st b1
  replace i0:=(i0.st f1).st b1
  replace e0:=(e0.st f1).st b1
  replace b0:=b0.st b1
  refine Bp (σ:=(List Edg)) (X:=(Option Addr×Nat)) (j0.length) r1 rfl q1 (fun (o0:(List Edg)) (l0:(Option Addr×Nat))=>[(1,(.pointer (some ⟨a1,0,none⟩))),(3,(.slice l0.1 o0.length l0.2)),(11,(.slice g1 j0.length h1))]) _ (fun o0 l0 w'=>∃ O':Lab,Bs w A w' O'∧Lc 2 w' O' a1 26 [(.slice A8 x0.vars.length c9),(.slice s0 x0.init.length t0),(.slice u0 x0.goal.length v0),(.slice w0 x0.ops.length y0)]∧Vb w' (Fr 0 w' O') (.slice A8 x0.vars.length c9) x0.vars∧Vb w' (Fr 0 w' O') (.slice s0 x0.init.length t0) x0.init∧Vb w' (Fr 0 w' O') (.slice u0 x0.goal.length v0) x0.goal∧Vb w' (Fr 0 w' O') (.slice w0 x0.ops.length y0) x0.ops∧Rw 3 w' O' 122 (.slice l0.1 o0.length l0.2) o0∧Vb w' (Fr 0 w' O') (.slice g1 j0.length h1) j0) _ (none,0) ⟨x2,hB,b0,h7,h0,i0,e0,(Rw.nil 3 (by decide)),k0⟩ ⟨rfl,rfl,rfl,rfl,rfl,trivial⟩ (fun _ _=>⟨rfl,rfl⟩) (fun _ _=>⟨rfl,trivial⟩) (fun _ _ _ ⟨O',hB,b0,h7,h0,i0,e0,c1,k0⟩=>⟨O',hB,c1⟩) ⟨rfl,rfl,rfl⟩ ⟨rfl,rfl⟩ ?_
  rintro d1 s1 o0 l0 b4 y2 j1 ⟨z2,hB,b0,h7,h0,i0,e0,c1,k0⟩ n0 t1 u1
  have rk39:inI64 (d1:Int):=rngK j1 q1
  refine Al (Aj (Ar rfl rfl ?_))
  obtain ⟨c4,d4,a3,v1,w1,x1,e4,rfl,q0⟩:=k0.elem' j1
  replace q0:=Vb.of_slice q0
  obtain ⟨r2,s2,rfl⟩:=q0.form
  refine Bi (hA:=v1) (hj:=rfl) (hlt:=w1) rfl rfl rfl ?_
  refine AE (hc:=cat0 x1) rfl rfl ?_
  refine Au rfl rfl (Au rfl rfl (o_z ?_))
  refine Al (Aj (AG rfl rfl (AE (hc:=Blk.cell (i:=3) (b0.1) rfl) rfl rfl ?_)))
  refine AP rfl rfl ?_
  have y1:x0.ops.length≤9223372036854775807:=Nat.le_trans e0.len.2.1 e0.len.2.2
  have f4:inI64 (x0.ops.length:Int):=rngNat y1
  refine Ar rfl rfl (o_z ?_)
  obtain ⟨k1,z1,n0⟩:=bs n0
  refine AL (aft k1 (fun (p0:(List Edg)) (m0:(Option Addr×Nat))=>[(1,(.pointer (some ⟨a1,0,none⟩))),(3,(.slice m0.1 p0.length m0.2)),(11,(.slice g1 j0.length h1)),(12,(.int .i64 (j0.length:Int))),(13,(.int .i64 (d1:Int)))]) (fun p0 m0 w'=>∃ O':Lab,Bs w A w' O'∧Lc 2 w' O' a1 26 [(.slice A8 x0.vars.length c9),(.slice s0 x0.init.length t0),(.slice u0 x0.goal.length v0),(.slice w0 x0.ops.length y0)]∧Vb w' (Fr 0 w' O') (.slice A8 x0.vars.length c9) x0.vars∧Vb w' (Fr 0 w' O') (.slice s0 x0.init.length t0) x0.init∧Vb w' (Fr 0 w' O') (.slice u0 x0.goal.length v0) x0.goal∧Vb w' (Fr 0 w' O') (.slice w0 x0.ops.length y0) x0.ops∧Rw 3 w' O' 122 (.slice m0.1 p0.length m0.2) p0∧Vb w' (Fr 0 w' O') (.slice g1 j0.length h1) j0)) ?_ ?_
  ·
   refine AN (Bp (σ:=(List Edg)) (X:=(Option Addr×Nat)) (x0.ops.length) z1 rfl y1 (fun (p0:(List Edg)) (m0:(Option Addr×Nat))=>[(1,(.pointer (some ⟨a1,0,none⟩))),(3,(.slice m0.1 p0.length m0.2)),(4,(.int .i64 (d1:Int))),(5,(.slice r2 s1.length s2)),(11,(.slice g1 j0.length h1)),(12,(.int .i64 (j0.length:Int))),(13,(.int .i64 (d1:Int)))]) _ (fun p0 m0 w'=>∃ O':Lab,Bs w A w' O'∧Lc 2 w' O' a1 26 [(.slice A8 x0.vars.length c9),(.slice s0 x0.init.length t0),(.slice u0 x0.goal.length v0),(.slice w0 x0.ops.length y0)]∧Vb w' (Fr 0 w' O') (.slice A8 x0.vars.length c9) x0.vars∧Vb w' (Fr 0 w' O') (.slice s0 x0.init.length t0) x0.init∧Vb w' (Fr 0 w' O') (.slice u0 x0.goal.length v0) x0.goal∧Vb w' (Fr 0 w' O') (.slice w0 x0.ops.length y0) x0.ops∧Rw 3 w' O' 122 (.slice m0.1 p0.length m0.2) p0∧Vb w' (Fr 0 w' O') (.slice r2 s1.length s2) s1∧Vb w' (Fr 0 w' O') (.slice g1 j0.length h1) j0) _ (l0.1,l0.2) ⟨z2,hB,b0,h7,h0,i0,e0,c1,q0,k0⟩ ⟨rfl,rfl,rfl,rfl,rfl,rfl,rfl,rfl,rfl,trivial⟩ (fun _ _=>⟨rfl,rfl⟩) (fun _ _=>⟨rfl,rfl,rfl,rfl,rfl,trivial⟩) (fun _ _ _ ⟨O',hB,b0,h7,h0,i0,e0,z0,q0,k0⟩=>⟨O',hB,b0,h7,h0,i0,e0,z0,k0⟩) ⟨rfl,rfl,rfl⟩ ⟨rfl,rfl⟩ ?_)
   rintro o1 g4 p0 m0 h4 b3 a2 ⟨c3,hB,b0,h7,h0,i0,e0,z0,q0,k0⟩ a0 b2 c2
   have rk71:inI64 (o1:Int):=rngK a2 y1
   refine Al (Aj (Ar rfl rfl (Au rfl rfl (o_z ?_))))
   refine Al (Aj (Bk (hl:=rfl) (hc:=(b0.1).cellsAt) rfl rfl ?_))
   refine Ar rfl rfl (Ar rfl rfl ?_)
   obtain ⟨d3,e3,a0⟩:=bs a0
   refine Dl (O:=c3) (R:=fun w' F v=>T2 w' F v d3) (JD Fr.lt (Vb.ofAgg (cs:=[(.slice A8 x0.vars.length c9),(.slice s0 x0.init.length t0),(.slice u0 x0.goal.length v0),(.slice w0 x0.ops.length y0)]) (x:=x0) rfl ⟨_,_,_,_,rfl,h7,h0,i0,e0⟩) q0 rk71 e3) rfl rfl fun i4 d2 e2 d0 f3=>?_
   obtain ⟨j4,k4,rfl,t2,g3⟩:=f3
   obtain ⟨l4,m4,rfl⟩:=t2.form
   obtain rfl:=g3.bool
   refine Ar rfl rfl (BH rfl rfl rfl (BH rfl rfl rfl (Au rfl rfl (Au rfl rfl (o_z ?_)))))
   refine Al (Aj (Ar rfl rfl (o_z ?_)))
   refine CN rfl (fun f2=>?_) (fun f2=>?_)
   ·
    replace a0:=ip a0 f2
    refine Aj (Ar rfl rfl (Ar rfl rfl (Ar rfl rfl (AG rfl rfl ?_))))
    replace b0:=b0.st d0
    refine AE (hc:=Blk.cell (i:=0) (b0.1) rfl) rfl rfl ?_
    refine Ar rfl rfl ?_
    obtain ⟨r0,g2,a0⟩:=bs a0
    replace h7:=h7.st d0
    refine BE (O:=e2) (A:=All d2) (R:=fun w' F v=>Vb w' F v r0) (Kp (fun _ h=>h) (Vb.mono (F:=Fr 0 d2 e2) h7 Fr.lt) (Vb.mono (F:=Fr 0 d2 e2) t2 Fr.lt) g2) rfl rfl fun h3 i3 j3 c0 h2=>?_
    obtain ⟨rfl,i2⟩:=h2.int
    refine Cw rfl rfl rfl ?_
    obtain ⟨k3,e1,a0⟩:=bs a0
    obtain ⟨e1,j2,k2⟩:=AU e1
    replace z0:=(z0.st d0).st c0
    refine CP rfl (a:=(⟨(d1:Int),(o1:Int),r0⟩:Edg)) z0 (Vb.ofAgg (cs:=[(.int .i64 (d1:Int)),(.int .i64 (o1:Int)),(.int .i64 r0)]) (x:=(⟨(d1:Int),(o1:Int),r0⟩:Edg)) rfl ⟨rfl,rk39,rk71,i2⟩) (fun _=>rfl) rfl (by decide) (by decide) j2 k2 ⟨rfl,rfl⟩ fun l3 l2 m2 m3 n3 f0 l1=>?_
    rw [← e1] at l1 ⊢
    refine Au rfl rfl (o_z ?_)
    obtain rfl:=sm a0
    exact show Exists _ from ⟨_,(l2,m2),rfl,⟨rfl,rfl,rfl,rfl,rfl,rfl,rfl,rfl,rfl,trivial⟩,_,((hB.st d0).st c0).st f0,(b0.st c0).st f0,(h7.st c0).st f0,((h0.st d0).st c0).st f0,((i0.st d0).st c0).st f0,((e0.st d0).st c0).st f0,l1,((q0.st d0).st c0).st f0,((k0.st d0).st c0).st f0⟩
   replace a0:=im' a0 f2
   refine AO ?_
   obtain rfl:=sm a0
   exact show Exists _ from ⟨_,(m0.1,m0.2),rfl,⟨rfl,rfl,rfl,rfl,rfl,rfl,rfl,rfl,rfl,trivial⟩,_,hB.st d0,b0.st d0,h7.st d0,h0.st d0,i0.st d0,e0.st d0,z0.st d0,q0.st d0,k0.st d0⟩
  rintro o3 p3 ⟨q3,m1,rfl,g0,r3,hB,b0,h7,h0,i0,e0,z0,k0⟩
  replace n0:=AV n0
  obtain rfl:=sm n0
  exact show Exists _ from ⟨_,(m1.1,m1.2),rfl,⟨(Bn g0 _ _ rfl),(Bn g0 _ _ rfl),(Bn g0 _ _ rfl),(Bn g0 _ _ rfl),(Bn g0 _ _ rfl),trivial⟩,_,hB,b0,h7,h0,i0,e0,z0,k0⟩
 replace hB:=(hB.st f1).st b1
 rintro s3 n2 ⟨t3,u3,rfl,n1,w3,hB,c1⟩
 replace hm:=AV hm
 refine AQ _ n1 ?_
 refine Al (Aj (Ar rfl rfl (Au rfl rfl (o_z ?_))))
 refine AK ?_
 obtain ⟨o2,p2,c1⟩:=c1.freeze
 obtain rfl:=sm hm
 replace hB:=hB.st p2
 exact ret1v rfl (AB rfl) ⟨hB.ext,(Vb.mono (F:=Fr 0 n2 o2) c1 hB.out)⟩
noncomputable def Ef (x0:Tsk):Option (List Int) :=
  bnd (DO x0.vars) fun q25=>bnd (mkI 8 (0:Int) (q25.length:Int)) fun u36=>bnd (rng (ρ:=(List Int)) (fun (k55:Nat) (a56:List Int) (s53:(List Int))=>bnd (s53[k55]?) fun a81=>bnd (DI x0.goal a56) fun q93=>if q93=true then bnd ((s53.set k55 1125899906842624)[k55]?) fun a100=>some (.next ((s53.set k55 1125899906842624).set k55 0)) else some (.next (s53.set k55 1125899906842624))) q25 0 u36) fun res51=>fin res51 fun (s116:(List Int))=>bnd (Fs x0) fun q118=>bnd (lop (ρ:=(List Int)) (fun (s129:(List Int)×Bool)=>if s129.2=true then (bnd (rng (ρ:=Ctl ((List Int)×Bool) (List Int)) (fun (k153:Nat) (a154:Edg) (s151:(List Int)×Bool)=>bnd (atI x0.ops a154.op) fun a185=>bnd (bnd (atI s151.1 a154.dst) fun a210=>if a210 < 1125899906842624 then (bnd (atI s151.1 a154.dst) fun a223=>bnd (chkI (a223 + a185.cost)) fun n235=>bnd (atI s151.1 a154.src) fun a238=>if n235 < a238 then (some true) else (some false)) else (some false):Option Bool) fun y206=>if y206=true then (bnd (atI s151.1 a154.dst) fun a256=>bnd (chkI (a256 + a185.cost)) fun n268=>bnd (atI s151.1 a154.src) fun a271=>some (.next ((s151.1.set (a154.src:Int).toNat n268),true))) else (some (.next (s151.1,s151.2)))) q118 0 (s129.1,false)) fun res149=>fin res149 fun (s289:(List Int)×Bool)=>some (.next (s289.1,s289.2))) else (some (.brk (s129.1,s129.2)))) (s116,true)) fun res127=>fin res127 fun (s295:(List Int)×Bool)=>some s295.1
theorem KD {w:World} {A:Nat→Prop} (hA:∀ k,A k→k < w.heap.size) {vx0:Value} {x0:Tsk} (w3:Vb w A vx0 x0) {r:(List Int)} (hm:Ef x0=some r) :
    Fn Tryz.prog 34 [vx0,(.slice none 0 0)] w fun v w'=>Ext w w'∧Vb w' (upA A w w') v r:=by
 obtain ⟨O,hB,k6⟩:=enter hA
 replace w3:=w3.mono k6
 obtain ⟨r9,rfl,v4,v5,v6,v7,rfl,h8,l0,i0,j0⟩:=w3
 obtain ⟨A9,a1,rfl⟩:=h8.form
 obtain ⟨b1,c1,rfl⟩:=l0.form
 obtain ⟨d1,e1,rfl⟩:=i0.form
 obtain ⟨f1,g1,rfl⟩:=j0.form
 refine AH Tryz.func34 rfl Tryz.ntmps34 rfl ?_
 unfold Ef at hm
 refine Al (Aj (Da 2 O rfl rfl fun k1 l6 q5 r1 h0=>?_))
 replace h0:Lc 2 l6 q5 k1 26 [(.slice A9 x0.vars.length a1),(.slice b1 x0.init.length c1),(.slice d1 x0.goal.length e1),(.slice f1 x0.ops.length g1)]:=h0
 refine Au rfl rfl (o_z ?_)
 refine Al (Aj (AG rfl rfl (AE (hc:=Blk.cell (i:=0) (h0.1) rfl) rfl rfl ?_)))
 obtain ⟨s1,m6,hm⟩:=bs hm
 replace h8:=h8.st r1
 refine Dl (O:=q5) (R:=fun w' F v=>Vb w' F v s1) (IW Fr.lt h8 m6) rfl rfl fun s9 t9 n6 q1 l1=>?_
 obtain ⟨r5,s5,rfl⟩:=l1.form
 refine Au rfl rfl (o_z ?_)
 refine Al (Aj (Ar rfl rfl (AP rfl rfl ?_)))
 have o6:s1.length≤9223372036854775807:=Nat.le_trans l1.len.2.1 l1.len.2.2
 have u9:inI64 (s1.length:Int):=rngNat o6
 obtain ⟨h1,p6,hm⟩:=bs hm
 obtain ⟨i1,q6,r6,s6,t6⟩:=FS p6
 refine Hs 3 (by decide) n6 (z0:=(0:Int)) rfl rfl rfl rfl rfl q6 (vInt (show inI64 0 from by decide)) r6 s6 rfl fun j1 v9 u6 m1 t5=>?_
 rw [← t6] at t5 ⊢
 refine Au rfl rfl (o_z ?_)
 refine Al (Al (Aj (Ar rfl rfl (AP rfl rfl ?_))))
 replace l1:=l1.st m1
 have x3:s1.length≤9223372036854775807:=Nat.le_trans l1.len.2.1 l1.len.2.2
 have w9:inI64 (s1.length:Int):=rngNat x3
 refine Ar rfl rfl (o_z ?_)
 obtain ⟨j2,y3,hm⟩:=bs hm
 refine AL (aft j2 (fun (h2:(List Int)) (s3:Unit)=>[(1,(.slice none 0 0)),(2,(.pointer (some ⟨k1,0,none⟩))),(6,(.slice (some ⟨j1,0,none⟩) h1.length i1))]) (fun h2 s3 w'=>∃ O':Lab,Bs w A w' O'∧Lc 2 w' O' k1 26 [(.slice A9 x0.vars.length a1),(.slice b1 x0.init.length c1),(.slice d1 x0.goal.length e1),(.slice f1 x0.ops.length g1)]∧Vb w' (Fr 0 w' O') (.slice A9 x0.vars.length a1) x0.vars∧Vb w' (Fr 0 w' O') (.slice b1 x0.init.length c1) x0.init∧Vb w' (Fr 0 w' O') (.slice d1 x0.goal.length e1) x0.goal∧Vb w' (Fr 0 w' O') (.slice f1 x0.ops.length g1) x0.ops∧Rw 3 w' O' 3 (.slice (some ⟨j1,0,none⟩) h1.length i1) h2)) ?_ ?_
 ·
  refine AN ?_
  replace hB:=((hB.st r1).st q1).st m1
  replace h8:=(h8.st q1).st m1
  replace l0:=((l0.st r1).st q1).st m1
  replace i0:=((i0.st r1).st q1).st m1
  replace j0:=((j0.st r1).st q1).st m1
  replace h0:=(h0.st q1).st m1
  refine Bp (σ:=(List Int)) (X:=Unit) (s1.length) y3 rfl x3 (fun (h2:(List Int)) (s3:Unit)=>[(1,(.slice none 0 0)),(2,(.pointer (some ⟨k1,0,none⟩))),(6,(.slice (some ⟨j1,0,none⟩) h1.length i1)),(20,(.slice r5 s1.length s5))]) _ (fun h2 s3 w'=>∃ O':Lab,Bs w A w' O'∧Lc 2 w' O' k1 26 [(.slice A9 x0.vars.length a1),(.slice b1 x0.init.length c1),(.slice d1 x0.goal.length e1),(.slice f1 x0.ops.length g1)]∧Vb w' (Fr 0 w' O') (.slice A9 x0.vars.length a1) x0.vars∧Vb w' (Fr 0 w' O') (.slice b1 x0.init.length c1) x0.init∧Vb w' (Fr 0 w' O') (.slice d1 x0.goal.length e1) x0.goal∧Vb w' (Fr 0 w' O') (.slice f1 x0.ops.length g1) x0.ops∧Rw 3 w' O' 3 (.slice (some ⟨j1,0,none⟩) h1.length i1) h2∧Vb w' (Fr 0 w' O') (.slice r5 s1.length s5) s1) _ () ⟨u6,hB,h0,h8,l0,i0,j0,t5,l1⟩ ⟨rfl,rfl,rfl,rfl,rfl,rfl,trivial⟩ (fun _ _=>⟨rfl,rfl⟩) (fun _ _=>⟨rfl,rfl,rfl,trivial⟩) (fun _ _ _ ⟨O',hB,h0,h8,l0,i0,j0,t0,l1⟩=>⟨O',hB,h0,h8,l0,i0,j0,t0⟩) ⟨rfl,rfl,rfl⟩ ⟨rfl,rfl⟩ ?_
  rintro w6 x9 h2 s3 y9 x6 k2 ⟨z3,hB,h0,h8,l0,i0,j0,t0,l1⟩ n0 a4 b4
  have rk55:inI64 (w6:Int):=rngK k2 x3
  refine Al (Aj (Ar rfl rfl ?_))
  obtain ⟨z9,aA,y6,c4,d4,e4,bA,rfl,i2⟩:=l1.elem' k2
  replace i2:=Vb.of_slice i2
  obtain ⟨cA,dA,rfl⟩:=i2.form
  refine Bi (hA:=c4) (hj:=rfl) (hlt:=d4) rfl rfl rfl ?_
  refine AE (hc:=cat0 e4) rfl rfl ?_
  refine Au rfl rfl (Au rfl rfl (o_z ?_))
  refine Al (Aj (Ar rfl rfl (Ar rfl rfl ?_)))
  obtain ⟨eA,u5,n0⟩:=bs n0
  obtain ⟨fA,gA,z6,l2,f4,a7,rfl,iA⟩:=t0.elem u5
  refine Bi (hA:=l2) (hj:=rfl) (hlt:=f4) rfl rfl rfl ?_
  refine CW rfl t0 (a:=1125899906842624) (vInt (show inI64 (1125899906842624) from by decide)) l2 rfl rfl (AD u5) fun g4 n1 t0=>?_
  refine o_z ?_
  refine Al (Aj (AG rfl rfl ?_))
  replace h0:=h0.st n1
  refine AE (hc:=Blk.cell (i:=2) (h0.1) rfl) rfl rfl ?_
  refine Ar rfl rfl ?_
  obtain ⟨w5,b7,n0⟩:=bs n0
  replace i0:=i0.st n1
  replace i2:=i2.st n1
  refine BE (O:=z3) (A:=All g4) (R:=fun w' F v=>Vb w' F v w5) (Gl (fun _ h=>h) (Vb.mono (F:=Fr 0 g4 z3) i0 Fr.lt) (Vb.mono (F:=Fr 0 g4 z3) i2 Fr.lt) b7) rfl rfl fun jA kA lA u0 c7=>?_
  obtain rfl:=c7.bool
  cases w5
  case false =>
   replace n0:=iF n0
   refine o_z ?_
   refine Ae rfl (AO ?_)
   obtain rfl:=sm n0
   exact show Exists _ from ⟨_,(),rfl,⟨rfl,rfl,rfl,rfl,rfl,rfl,trivial⟩,_,(hB.st n1).st u0,h0.st u0,(h8.st n1).st u0,(l0.st n1).st u0,i0.st u0,(j0.st n1).st u0,t0.st u0,(l1.st n1).st u0⟩
  replace n0:=iT n0
  refine o_z ?_
  refine Ah rfl (Aj (Ar rfl rfl (Ar rfl rfl ?_)))
  obtain ⟨d7,m2,n0⟩:=bs n0
  replace t0:=t0.st u0
  obtain ⟨e7,f7,x5,w1,n2,y5,rfl,g7⟩:=t0.elem m2
  refine Bi (hA:=w1) (hj:=rfl) (hlt:=n2) rfl rfl rfl ?_
  refine CW rfl t0 (a:=0) (vInt (show inI64 (0) from by decide)) w1 rfl rfl (AD m2) fun h7 v0 t0=>?_
  refine o_z ?_
  obtain rfl:=sm n0
  exact show Exists _ from ⟨_,(),rfl,⟨rfl,rfl,rfl,rfl,rfl,rfl,trivial⟩,_,((hB.st n1).st u0).st v0,(h0.st u0).st v0,((h8.st n1).st u0).st v0,((l0.st n1).st u0).st v0,(i0.st u0).st v0,((j0.st n1).st u0).st v0,t0,((l1.st n1).st u0).st v0⟩
 replace hB:=((hB.st r1).st q1).st m1
 replace h8:=(h8.st q1).st m1
 replace l0:=((l0.st r1).st q1).st m1
 replace i0:=((i0.st r1).st q1).st m1
 replace j0:=((j0.st r1).st q1).st m1
 replace h0:=(h0.st q1).st m1
 rintro i7 j7 ⟨k7,l7,rfl,o2,h4,hB,h0,h8,l0,i0,j0,t0⟩
 replace hm:=AV hm
 refine AQ _ o2 ?_
 refine Al (Aj (Bk (hl:=rfl) (hc:=(h0.1).cellsAt) rfl rfl ?_))
 obtain ⟨g0,i4,hm⟩:=bs hm
 refine Dl (O:=h4) (R:=fun w' F v=>Vb w' F v g0) (MZ Fr.lt (Vb.ofAgg (cs:=[(.slice A9 x0.vars.length a1),(.slice b1 x0.init.length c1),(.slice d1 x0.goal.length e1),(.slice f1 x0.ops.length g1)]) (x:=x0) rfl ⟨_,_,_,_,rfl,h8,l0,i0,j0⟩) i4) rfl rfl fun m7 n7 j4 r0 f0=>?_
 obtain ⟨o0,p0,rfl⟩:=f0.form
 refine Au rfl rfl (o_z ?_)
 refine Al (Al (Aj (Au rfl rfl (o_z ?_))))
 obtain ⟨z1,p2,hm⟩:=bs hm
 refine AL (aft z1 (fun (w0:(List Int)×Bool) (t1:Unit)=>[(6,(.slice (some ⟨j1,0,none⟩) h1.length i1))]) (fun w0 t1 w'=>∃ O':Lab,Bs w A w' O'∧Rw 3 w' O' 3 (.slice (some ⟨j1,0,none⟩) h1.length i1) w0.1)) ?_ ?_
 ·
  refine AN ?_
  replace hB:=hB.st r0
  replace h8:=h8.st r0
  replace l0:=l0.st r0
  replace i0:=i0.st r0
  replace j0:=j0.st r0
  replace h0:=h0.st r0
  replace t0:=t0.st r0
  refine Gz (σ:=(List Int)×Bool) (X:=Unit) p2 (fun (w0:(List Int)×Bool) (t1:Unit)=>[(1,(.slice none 0 0)),(2,(.pointer (some ⟨k1,0,none⟩))),(6,(.slice (some ⟨j1,0,none⟩) h1.length i1)),(9,(.slice o0 g0.length p0)),(10,(.bool w0.2))]) _ (fun w0 t1 w'=>∃ O':Lab,Bs w A w' O'∧Lc 2 w' O' k1 26 [(.slice A9 x0.vars.length a1),(.slice b1 x0.init.length c1),(.slice d1 x0.goal.length e1),(.slice f1 x0.ops.length g1)]∧Vb w' (Fr 0 w' O') (.slice A9 x0.vars.length a1) x0.vars∧Vb w' (Fr 0 w' O') (.slice b1 x0.init.length c1) x0.init∧Vb w' (Fr 0 w' O') (.slice d1 x0.goal.length e1) x0.goal∧Vb w' (Fr 0 w' O') (.slice f1 x0.ops.length g1) x0.ops∧Rw 3 w' O' 3 (.slice (some ⟨j1,0,none⟩) h1.length i1) w0.1∧Vb w' (Fr 0 w' O') (.slice o0 g0.length p0) g0) _ () ⟨j4,hB,h0,h8,l0,i0,j0,t0,f0⟩ ⟨rfl,rfl,rfl,rfl,rfl,trivial⟩ ?_
  rintro w0 t1 o7 z5 ⟨k4,hB,h0,h8,l0,i0,j0,o1,f0⟩ k0 t3 u1
  refine Al (Al (Aj (Ar rfl rfl (o_z ?_))))
  refine CN rfl (fun a2=>?_) (fun a2=>?_)
  ·
   replace k0:=ip k0 a2
   refine AO (AN (Al (Aj (Au rfl rfl (o_z ?_)))))
   refine Al (Aj (Ar rfl rfl (AP rfl rfl ?_)))
   have b2:g0.length≤9223372036854775807:=Nat.le_trans f0.len.2.1 f0.len.2.2
   have p7:inI64 (g0.length:Int):=rngNat b2
   refine Ar rfl rfl (o_z ?_)
   obtain ⟨c2,q2,k0⟩:=bs k0
   refine AL (aft c2 (fun (q0:(List Int)×Bool) (v1:Unit)=>[(1,(.slice none 0 0)),(2,(.pointer (some ⟨k1,0,none⟩))),(6,(.slice (some ⟨j1,0,none⟩) h1.length i1)),(9,(.slice o0 g0.length p0)),(10,(.bool q0.2))]) (fun q0 v1 w'=>∃ O':Lab,Bs w A w' O'∧Lc 2 w' O' k1 26 [(.slice A9 x0.vars.length a1),(.slice b1 x0.init.length c1),(.slice d1 x0.goal.length e1),(.slice f1 x0.ops.length g1)]∧Vb w' (Fr 0 w' O') (.slice A9 x0.vars.length a1) x0.vars∧Vb w' (Fr 0 w' O') (.slice b1 x0.init.length c1) x0.init∧Vb w' (Fr 0 w' O') (.slice d1 x0.goal.length e1) x0.goal∧Vb w' (Fr 0 w' O') (.slice f1 x0.ops.length g1) x0.ops∧Rw 3 w' O' 3 (.slice (some ⟨j1,0,none⟩) h1.length i1) q0.1∧Vb w' (Fr 0 w' O') (.slice o0 g0.length p0) g0)) ?_ ?_
   ·
    refine AN (Bp (σ:=(List Int)×Bool) (X:=Unit) (g0.length) q2 rfl b2 (fun (q0:(List Int)×Bool) (v1:Unit)=>[(1,(.slice none 0 0)),(2,(.pointer (some ⟨k1,0,none⟩))),(6,(.slice (some ⟨j1,0,none⟩) h1.length i1)),(9,(.slice o0 g0.length p0)),(10,(.bool q0.2)),(41,(.slice o0 g0.length p0))]) _ (fun q0 v1 w'=>∃ O':Lab,Bs w A w' O'∧Lc 2 w' O' k1 26 [(.slice A9 x0.vars.length a1),(.slice b1 x0.init.length c1),(.slice d1 x0.goal.length e1),(.slice f1 x0.ops.length g1)]∧Vb w' (Fr 0 w' O') (.slice A9 x0.vars.length a1) x0.vars∧Vb w' (Fr 0 w' O') (.slice b1 x0.init.length c1) x0.init∧Vb w' (Fr 0 w' O') (.slice d1 x0.goal.length e1) x0.goal∧Vb w' (Fr 0 w' O') (.slice f1 x0.ops.length g1) x0.ops∧Rw 3 w' O' 3 (.slice (some ⟨j1,0,none⟩) h1.length i1) q0.1∧Vb w' (Fr 0 w' O') (.slice o0 g0.length p0) g0) _ () ⟨k4,hB,h0,h8,l0,i0,j0,o1,f0⟩ ⟨rfl,rfl,rfl,rfl,rfl,rfl,rfl,rfl,trivial⟩ (fun _ _=>⟨rfl,rfl⟩) (fun _ _=>⟨rfl,rfl,rfl,rfl,rfl,trivial⟩) (fun _ _ _ ⟨O',hB,h0,h8,l0,i0,j0,e0,f0⟩=>⟨O',hB,h0,h8,l0,i0,j0,e0,f0⟩) ⟨rfl,rfl,rfl⟩ ⟨rfl,rfl⟩ ?_)
    rintro r2 p1 q0 v1 q7 a6 x1 ⟨l4,hB,h0,h8,l0,i0,j0,e0,f0⟩ b0 u3 v3
    have rk153:inI64 (r2:Int):=rngK x1 b2
    refine Al (Aj ?_)
    obtain ⟨r7,s7,b6,s2,t2,u2,rfl,t7,u7,w7⟩:=f0.elem' x1
    refine Bi (hA:=s2) (hj:=rfl) (hlt:=t2) rfl rfl rfl ?_
    refine Bk (hl:=rfl) (hc:=u2) rfl rfl ?_
    refine BD 4 l4 rfl fun d2 x7 m4 c0 m0=>?_
    refine AR m0 rfl rfl rfl (Ba rfl) (allOne rfl) fun v2 d0 m0=>?_
    replace m0:Lc 4 v2 m4 d2 122 [(.int .i64 p1.src),(.int .i64 p1.op),(.int .i64 p1.dst)]:=m0
    refine o_z ?_
    refine Al (Aj (AG rfl rfl ?_))
    replace h0:=(h0.st c0).st d0
    refine AE (hc:=Blk.cell (i:=3) (h0.1) rfl) rfl rfl ?_
    refine AG rfl rfl (AE (hc:=Blk.cell (i:=1) (m0.1) rfl) rfl rfl ?_)
    obtain ⟨n4,o4,b0⟩:=bs b0
    obtain ⟨p4,q4⟩:=AS o4
    replace j0:=(j0.st c0).st d0
    obtain ⟨y7,z7,c6,w2,x2,y2,a8,b8,rfl,r4,s4,c8,d8⟩:=j0.elem' q4
    obtain ⟨e8,f8,rfl⟩:=r4.form
    obtain ⟨g8,i8,rfl⟩:=s4.form
    refine Bi (hA:=w2) (hj:=(Int.toNat_of_nonneg p4).symm) (hlt:=x2) rfl rfl rfl ?_
    refine AG rfl rfl (AE (hc:=cat1 y2) rfl rfl ?_)
    refine Au rfl rfl (o_z ?_)
    refine Al (Al (Aj (Ar rfl rfl (Tu rfl rfl ?_))))
    refine o_z ?_
    refine Ae rfl (AO (Al ?_))
    obtain ⟨t4,a0,b0⟩:=bs b0
    refine AL (fun l' w'=>∃ (u4:Unit) (O':Lab),subs l' [(1,(.slice none 0 0)),(2,(.pointer (some ⟨k1,0,none⟩))),(6,(.slice (some ⟨j1,0,none⟩) h1.length i1)),(9,(.slice o0 g0.length p0)),(10,(.bool q0.2)),(12,(.pointer (some ⟨d2,0,none⟩))),(13,(.int .i64 n4.cost)),(41,(.slice o0 g0.length p0)),(42,(.int .i64 (g0.length:Int))),(43,(.int .i64 (r2:Int))),(81,(.bool t4))]∧Bs w A w' O'∧Lc 2 w' O' k1 26 [(.slice A9 x0.vars.length a1),(.slice b1 x0.init.length c1),(.slice d1 x0.goal.length e1),(.slice f1 x0.ops.length g1)]∧Vb w' (Fr 0 w' O') (.slice A9 x0.vars.length a1) x0.vars∧Vb w' (Fr 0 w' O') (.slice b1 x0.init.length c1) x0.init∧Vb w' (Fr 0 w' O') (.slice d1 x0.goal.length e1) x0.goal∧Vb w' (Fr 0 w' O') (.slice f1 x0.ops.length g1) x0.ops∧Rw 3 w' O' 3 (.slice (some ⟨j1,0,none⟩) h1.length i1) q0.1∧Vb w' (Fr 0 w' O') (.slice o0 g0.length p0) g0∧Lc 4 w' O' d2 122 [(.int .i64 p1.src),(.int .i64 p1.op),(.int .i64 p1.dst)]) ?_ ?_
    ·
     refine Cr (·=v2) [(0,true),(1,true),(2,true),(3,true),(4,true),(5,true),(6,true),(7,true),(8,true),(9,true),(10,true),(11,true),(12,true),(13,true),(14,true),(15,true),(16,true),(17,true),(18,true),(19,true),(20,true)] (by kernel_rfl) rfl (by kernel_rfl) rfl ?_
     refine AJ rfl rfl rfl (Bc rfl rfl rfl (Cm (hc:=Blk.cell (i:=2) (m0.1) rfl) rfl rfl rfl ?_))
     obtain ⟨j8,w4,a0⟩:=bs a0
     obtain ⟨x4,y4⟩:=AS w4
     replace e0:=(e0.st c0).st d0
     obtain ⟨k8,l8,d6,z2,a3,b3,rfl,m8⟩:=e0.elem y4
     refine BP (hA:=z2) (hj:=(Int.toNat_of_nonneg x4).symm) (hlt:=a3) rfl rfl rfl rfl ?_
     refine Cm (hc:=cat0 b3) rfl rfl rfl ?_
     refine FA rfl rfl rfl rfl (fun e2=>?_) fun e2=>?_
     ·
      replace a0:=ip a0 e2
      refine AJ rfl rfl rfl (AA rfl (Az rfl rfl (Cc rfl rfl (AA rfl (Az rfl rfl (Cs rfl rfl (AA rfl (Az rfl rfl (Bq (hc:=Blk.cell (i:=2) (m0.1) rfl) rfl rfl ?_)))))))))
      refine AA rfl (Az rfl rfl ?_)
      obtain ⟨n8,z4,a0⟩:=bs a0
      obtain ⟨a5,b5⟩:=AS z4
      obtain ⟨o8,p8,e6,c3,d3,e3,rfl,q8⟩:=e0.elem b5
      refine Ix (hA:=c3) (hj:=(Int.toNat_of_nonneg a5).symm) (hlt:=d3) rfl rfl rfl ?_
      refine AA rfl (Az rfl rfl (Bq (hc:=cat0 e3) rfl rfl ?_))
      refine AA rfl (Az rfl rfl (Cc rfl rfl (AA rfl (Az rfl rfl ?_))))
      obtain ⟨r8,f3,a0⟩:=bs a0
      have s8:=(AW f3)
      refine SY (he:=f3) rfl rfl rfl ?_
      refine AA rfl (Az rfl rfl (Cc rfl rfl (AA rfl (Az rfl rfl (Cs rfl rfl (AA rfl (Az rfl rfl (Bq (hc:=Blk.cell (i:=0) (m0.1) rfl) rfl rfl ?_))))))))
      refine AA rfl (Az rfl rfl ?_)
      obtain ⟨t8,c5,a0⟩:=bs a0
      obtain ⟨d5,e5⟩:=AS c5
      obtain ⟨u8,v8,f6,g3,h3,i3,rfl,w8⟩:=e0.elem e5
      refine Ix (hA:=g3) (hj:=(Int.toNat_of_nonneg d5).symm) (hlt:=h3) rfl rfl rfl ?_
      refine AA rfl (Az rfl rfl (Bq (hc:=cat0 i3) rfl rfl ?_))
      refine AA rfl (Az rfl rfl (Be (fun _ _=>CF rfl rfl) rfl (fun f2=>?_) (fun f2=>?_)))
      ·
       replace a0:=ip a0 f2
       refine CU rfl rfl rfl rfl (h_z ?_)
       obtain rfl:=sm a0
       exact ⟨(),_,⟨rfl,rfl,rfl,rfl,rfl,rfl,rfl,rfl,rfl,rfl,rfl,trivial⟩,(hB.st c0).st d0,h0,(h8.st c0).st d0,(l0.st c0).st d0,(i0.st c0).st d0,j0,e0,(f0.st c0).st d0,m0⟩
      replace a0:=im a0 f2
      refine CU rfl rfl rfl rfl (h_z ?_)
      obtain rfl:=sm a0
      exact ⟨(),_,⟨rfl,rfl,rfl,rfl,rfl,rfl,rfl,rfl,rfl,rfl,rfl,trivial⟩,(hB.st c0).st d0,h0,(h8.st c0).st d0,(l0.st c0).st d0,(i0.st c0).st d0,j0,e0,(f0.st c0).st d0,m0⟩
     replace a0:=im a0 e2
     refine AJ rfl rfl rfl (BW rfl rfl rfl rfl rfl (BW rfl rfl rfl rfl rfl (BW rfl rfl rfl rfl rfl (BW rfl rfl rfl rfl rfl (BW rfl rfl rfl rfl rfl (BW rfl rfl rfl rfl rfl (BW rfl rfl rfl rfl rfl (BW rfl rfl rfl rfl rfl (BW rfl rfl rfl rfl rfl (BW rfl rfl rfl rfl rfl (BW rfl rfl rfl rfl rfl (BW rfl rfl rfl rfl rfl (BW rfl rfl rfl rfl rfl (CL rfl rfl rfl rfl ?_))))))))))))))
     refine h_z ?_
     obtain rfl:=sm a0
     exact ⟨(),_,⟨rfl,rfl,rfl,rfl,rfl,rfl,rfl,rfl,rfl,rfl,rfl,trivial⟩,(hB.st c0).st d0,h0,(h8.st c0).st d0,(l0.st c0).st d0,(i0.st c0).st d0,j0,e0,(f0.st c0).st d0,m0⟩
    replace hB:=(hB.st c0).st d0
    replace h8:=(h8.st c0).st d0
    replace l0:=(l0.st c0).st d0
    replace i0:=(i0.st c0).st d0
    replace f0:=(f0.st c0).st d0
    replace e0:=(e0.st c0).st d0
    rintro x8 y8 ⟨u4,f5,j3,hB,h0,h8,l0,i0,j0,e0,f0,m0⟩
    refine AQ _ j3 ?_
    refine CN rfl (fun g2=>?_) (fun g2=>?_)
    ·
     replace b0:=ip b0 g2
     refine Al (BC [] f5 ?_)
     refine AY (fuel:=1) [] [(0,true),(1,true),(2,true),(3,true),(4,true),(5,true),(6,true),(7,true),(8,true),(9,true),(10,true)] (by kernel_rfl) rfl ?_
     refine AJ rfl rfl rfl (Bc rfl rfl rfl (AZ (hc:=fun w' ⟨O',hq⟩=>Blk.cell (i:=0) ((m0.st hq (by decide)).1) rfl) rfl rfl rfl ?_))
     refine AJ rfl rfl rfl (Bc rfl rfl rfl (AZ (hc:=fun w' ⟨O',hq⟩=>Blk.cell (i:=2) ((m0.st hq (by decide)).1) rfl) rfl rfl rfl ?_))
     obtain ⟨z8,g5,b0⟩:=bs b0
     obtain ⟨h5,i5⟩:=AS g5
     obtain ⟨a9,b9,g6,k3,l3,m3,n3,rfl,c9⟩:=e0.elemF i5
     refine BP (hA:=k3) (hj:=(Int.toNat_of_nonneg h5).symm) (hlt:=m3) rfl rfl rfl rfl ?_
     refine AZ (hc:=fun w' ⟨O',hq⟩=>cat0 (Bh (hq.agree (i:=3) (by decide)) l3 n3)) rfl rfl rfl ?_
     refine AJ rfl rfl rfl ?_
     obtain ⟨j5,o3,b0⟩:=bs b0
     have k5:=(AW o3)
     refine Ey (he:=o3) rfl rfl rfl rfl ?_
     obtain ⟨d9,l5,b0⟩:=bs b0
     obtain ⟨m5,p3⟩:=AS l5
     obtain ⟨e9,f9,h6,y1,i6,q3,j6,rfl,g9⟩:=e0.elemF p3
     refine BP (hA:=y1) (hj:=(Int.toNat_of_nonneg m5).symm) (hlt:=q3) rfl rfl rfl rfl ?_
     refine AM ?_
     refine Bb (i:=11) (by kernel_rfl) rfl ?_
     refine CW rfl e0 (a:=j5) (vInt k5) y1 rfl rfl (AD p3) fun h9 y0 e0=>?_
     refine Dm (by kernel_rfl) ?_
     refine Cn (by kernel_rfl) ?_
     refine Aj (Au rfl rfl (o_z ?_))
     obtain rfl:=sm b0
     exact show Exists _ from ⟨_,(),rfl,⟨rfl,rfl,rfl,rfl,rfl,rfl,rfl,rfl,trivial⟩,_,hB.st y0,h0.st y0,h8.st y0,l0.st y0,i0.st y0,j0.st y0,e0,f0.st y0⟩
    replace b0:=im' b0 g2
    refine AO ?_
    obtain rfl:=sm b0
    exact show Exists _ from ⟨_,(),rfl,⟨rfl,rfl,rfl,rfl,rfl,rfl,rfl,rfl,trivial⟩,_,hB,h0,h8,l0,i0,j0,e0,f0⟩
   rintro i9 j9 ⟨k9,l9,rfl,s0,m9,hB,h0,h8,l0,i0,j0,e0,f0⟩
   replace k0:=AV k0
   obtain rfl:=sm k0
   exact show Exists _ from ⟨_,(),rfl,⟨(Bn s0 _ _ rfl),(Bn s0 _ _ rfl),(Bn s0 _ _ rfl),(Bn s0 _ _ rfl),(Bn s0 _ _ rfl),trivial⟩,_,hB,h0,h8,l0,i0,j0,e0,f0⟩
  replace k0:=im' k0 a2
  refine DN ?_
  obtain rfl:=sm k0
  exact show Exists _ from ⟨_,(),u1 _ rfl,⟨rfl,trivial⟩,_,hB,o1⟩
 replace hB:=hB.st r0
 rintro n9 n5 ⟨o9,p9,rfl,r3,q9,hB,o1⟩
 replace hm:=AV hm
 refine AQ _ r3 ?_
 refine Al (Aj (Ar rfl rfl (Au rfl rfl (o_z ?_))))
 refine AK ?_
 obtain ⟨o5,p5,o1⟩:=o1.freeze
 obtain rfl:=sm hm
 replace hB:=hB.st p5
 exact ret1v rfl (AB rfl) ⟨hB.ext,(Vb.mono (F:=Fr 0 n5 o5) o1 hB.out)⟩
noncomputable def FK (x0:Tsk) (x1:List Int) (x2:List Int):Option (Int×Bool) :=
  bnd (rng (ρ:=Int×Bool) (fun (k36:Nat) (a37:Int) (s34:(List Int)×Int)=>bnd (CG x0 s34.1 a37) fun q59=>if (!q59.2)=true then (some (.ret (0,false))) else (bnd (atI x0.ops a37) fun a73=>bnd (chkI (s34.2 + a73.cost)) fun n94=>some (.next (q59.1,n94)))) x2 0 (x1,0)) fun res32=>fin res32 fun (s101:(List Int)×Int)=>bnd (bnd (DI x0.goal s101.1) fun q107=>if q107=true then some true else some false:Option Bool) fun y103=>some (s101.2,y103)
theorem NK {w:World} {A:Nat→Prop} (hA:∀ k,A k→k < w.heap.size) {vx0:Value} {x0:Tsk} (f1:Vb w A vx0 x0) {vx1:Value} {x1:List Int} (m0:Vb w A vx1 x1) {vx2:Value} {x2:List Int} (g0:Vb w A vx2 x2) {r:Int×Bool} (hm:FK x0 x1 x2=some r) :
    Fn Tryz.prog 15 [vx0,vx1,vx2] w fun v w'=>Ext w w'∧T2 w' (upA A w w') v r:=by
 obtain ⟨O,hB,g1⟩:=enter hA
 replace f1:=f1.mono g1
 obtain ⟨h3,rfl,v5,v6,v7,v8,rfl,h9,h0,e0,c0⟩:=f1
 obtain ⟨n0,o0,rfl⟩:=h9.form
 obtain ⟨p0,q0,rfl⟩:=h0.form
 obtain ⟨r0,s0,rfl⟩:=e0.form
 obtain ⟨t0,u0,rfl⟩:=c0.form
 replace m0:=m0.mono g1
 obtain ⟨e2,f2,rfl⟩:=m0.form
 replace g0:=g0.mono g1
 obtain ⟨z1,a2,rfl⟩:=g0.form
 refine AH Tryz.func15 rfl Tryz.ntmps15 rfl ?_
 unfold FK at hm
 refine Al (Aj (Da 2 O rfl rfl fun v0 g2 b2 i0 f0=>?_))
 replace f0:Lc 2 g2 b2 v0 26 [(.slice n0 x0.vars.length o0),(.slice p0 x0.init.length q0),(.slice r0 x0.goal.length s0),(.slice t0 x0.ops.length u0)]:=f0
 refine Au rfl rfl (Au rfl rfl (o_z ?_))
 refine Al (Aj (Au rfl rfl (o_z ?_)))
 refine Al (Al (Aj (Ar rfl rfl (AP rfl rfl ?_))))
 replace g0:=g0.st i0
 have h1:x2.length≤9223372036854775807:=Nat.le_trans g0.len.2.1 g0.len.2.2
 have i3:inI64 (x2.length:Int):=rngNat h1
 refine Ar rfl rfl (o_z ?_)
 obtain ⟨w0,i1,hm⟩:=bs hm
 refine AL (aft w0 (fun (d0:(List Int)×Int) (j0:(Option Addr×Nat))=>[(1,(.slice j0.1 d0.1.length j0.2)),(3,(.pointer (some ⟨v0,0,none⟩))),(8,(.int .i64 d0.2))]) (fun d0 j0 w'=>∃ O':Lab,Bs w A w' O'∧Vb w' (Fr 0 w' O') (.slice j0.1 d0.1.length j0.2) d0.1∧Lc 2 w' O' v0 26 [(.slice n0 x0.vars.length o0),(.slice p0 x0.init.length q0),(.slice r0 x0.goal.length s0),(.slice t0 x0.ops.length u0)]∧Vb w' (Fr 0 w' O') (.slice n0 x0.vars.length o0) x0.vars∧Vb w' (Fr 0 w' O') (.slice p0 x0.init.length q0) x0.init∧Vb w' (Fr 0 w' O') (.slice r0 x0.goal.length s0) x0.goal∧Vb w' (Fr 0 w' O') (.slice t0 x0.ops.length u0) x0.ops∧inI64 d0.2)) ?_ ?_
 ·
  refine AN ?_
  replace hB:=hB.st i0
  replace m0:=m0.st i0
  replace h9:=h9.st i0
  replace h0:=h0.st i0
  replace e0:=e0.st i0
  replace c0:=c0.st i0
  refine Bp (σ:=(List Int)×Int) (X:=(Option Addr×Nat)) (x2.length) i1 rfl h1 (fun (d0:(List Int)×Int) (j0:(Option Addr×Nat))=>[(1,(.slice j0.1 d0.1.length j0.2)),(3,(.pointer (some ⟨v0,0,none⟩))),(8,(.int .i64 d0.2)),(13,(.slice z1 x2.length a2))]) _ (fun d0 j0 w'=>∃ O':Lab,Bs w A w' O'∧Vb w' (Fr 0 w' O') (.slice j0.1 d0.1.length j0.2) d0.1∧Lc 2 w' O' v0 26 [(.slice n0 x0.vars.length o0),(.slice p0 x0.init.length q0),(.slice r0 x0.goal.length s0),(.slice t0 x0.ops.length u0)]∧Vb w' (Fr 0 w' O') (.slice n0 x0.vars.length o0) x0.vars∧Vb w' (Fr 0 w' O') (.slice p0 x0.init.length q0) x0.init∧Vb w' (Fr 0 w' O') (.slice r0 x0.goal.length s0) x0.goal∧Vb w' (Fr 0 w' O') (.slice t0 x0.ops.length u0) x0.ops∧Vb w' (Fr 0 w' O') (.slice z1 x2.length a2) x2∧inI64 d0.2) _ (e2,f2) ⟨b2,hB,m0,f0,h9,h0,e0,c0,g0,(show inI64 (0) from by decide)⟩ ⟨rfl,rfl,rfl,rfl,rfl,rfl,trivial⟩ (fun _ _=>⟨rfl,rfl⟩) (fun _ _=>⟨rfl,rfl,rfl,trivial⟩) (fun _ _ _ ⟨O',hB,y0,f0,h9,h0,e0,c0,g0,e1⟩=>⟨O',hB,y0,f0,h9,h0,e0,c0,e1⟩) ⟨rfl,rfl,rfl⟩ ⟨rfl,rfl⟩ ?_
  rintro h2 j3 d0 j0 k3 i2 z0 ⟨j2,hB,y0,f0,h9,h0,e0,c0,g0,e1⟩ b0 l0 j1
  have rk36:inI64 (h2:Int):=rngK z0 h1
  refine Al (Aj ?_)
  obtain ⟨l3,m3,k2,k1,l1,m1,rfl,l2⟩:=g0.elem' z0
  refine Bi (hA:=k1) (hj:=rfl) (hlt:=l1) rfl rfl rfl ?_
  refine AE (hc:=cat0 m1) rfl rfl ?_
  refine Au rfl rfl (o_z ?_)
  refine Al (Aj (Bk (hl:=rfl) (hc:=(f0.1).cellsAt) rfl rfl ?_))
  refine Ar rfl rfl (Ar rfl rfl ?_)
  obtain ⟨m2,n2,b0⟩:=bs b0
  refine Dl (O:=j2) (R:=fun w' F v=>T2 w' F v m2) (JD Fr.lt (Vb.ofAgg (cs:=[(.slice n0 x0.vars.length o0),(.slice p0 x0.init.length q0),(.slice r0 x0.goal.length s0),(.slice t0 x0.ops.length u0)]) (x:=x0) rfl ⟨_,_,_,_,rfl,h9,h0,e0,c0⟩) y0 l2 n2) rfl rfl fun n3 o3 p3 k0 o2=>?_
  obtain ⟨q3,r3,rfl,c2,p2⟩:=o2
  obtain ⟨q2,r2,rfl⟩:=c2.form
  obtain rfl:=p2.bool
  refine Ar rfl rfl (BH rfl rfl rfl (BH rfl rfl rfl (Au rfl rfl (Au rfl rfl (o_z ?_)))))
  refine Al (Al (Aj (Ar rfl rfl (DB rfl rfl (o_z ?_)))))
  refine CN rfl (fun n1=>?_) (fun n1=>?_)
  ·
   replace b0:=ip b0 n1
   refine Al (Aj (Au rfl rfl (Au rfl rfl (o_z ?_))))
   refine AK ?_
   obtain rfl:=sm b0
   obtain rfl:=l0 _ rfl
   obtain rfl:=sm (Dc hm)
   replace hB:=hB.st k0
   exact ret2 rfl (AB rfl) (AB rfl) ⟨hB.ext,_,_,rfl,(vInt (show inI64 (0) from by decide)),vBool⟩
  replace b0:=im' b0 n1
  refine AO (Al (Aj (Ar rfl rfl (Au rfl rfl (o_z ?_)))))
  refine Aj (Ar rfl rfl (AG rfl rfl ?_))
  replace f0:=f0.st k0
  refine AE (hc:=Blk.cell (i:=3) (f0.1) rfl) rfl rfl ?_
  refine Ar rfl rfl ?_
  obtain ⟨s3,s2,b0⟩:=bs b0
  obtain ⟨t2,u2⟩:=AS s2
  replace c0:=c0.st k0
  obtain ⟨t3,u3,v2,o1,p1,q1,v3,w3,rfl,w2,y2,x3,y3⟩:=c0.elem' u2
  obtain ⟨z3,a4,rfl⟩:=w2.form
  obtain ⟨b4,c4,rfl⟩:=y2.form
  refine Bi (hA:=o1) (hj:=(Int.toNat_of_nonneg t2).symm) (hlt:=p1) rfl rfl rfl ?_
  refine AG rfl rfl (AE (hc:=cat1 q1) rfl rfl ?_)
  obtain ⟨d4,d2,b0⟩:=bs b0
  have z2:=(AW d2)
  refine Dv (he:=d2) rfl rfl rfl ?_
  refine Au rfl rfl (o_z ?_)
  obtain rfl:=sm b0
  exact show Exists _ from ⟨_,(q2,r2),rfl,⟨rfl,rfl,rfl,rfl,rfl,rfl,trivial⟩,_,hB.st k0,c2,f0,h9.st k0,h0.st k0,e0.st k0,c0,g0.st k0,z2⟩
 replace hB:=hB.st i0
 replace h9:=h9.st i0
 replace h0:=h0.st i0
 replace e0:=e0.st i0
 replace c0:=c0.st i0
 rintro e4 r1 ⟨s1,a3,rfl,a1,t1,hB,y0,f0,h9,h0,e0,c0,e1⟩
 replace hm:=AV hm
 refine AQ _ a1 ?_
 refine Al ?_
 obtain ⟨u1,a0,hm⟩:=bs hm
 refine AL (fun l' w'=>∃ (v1:Unit) (O':Lab),subs l' [(6,(.int .i64 s1.2)),(7,(.bool u1))]∧Bs w A w' O') ?_ ?_
 ·
  refine Aj (Ar rfl rfl (AG rfl rfl (AE (hc:=Blk.cell (i:=2) (f0.1) rfl) rfl rfl ?_)))
  refine Ar rfl rfl ?_
  obtain ⟨b1,w1,a0⟩:=bs a0
  refine BE (O:=t1) (A:=All r1) (R:=fun w' F v=>Vb w' F v b1) (Gl (fun _ h=>h) (Vb.mono (F:=Fr 0 r1 t1) e0 Fr.lt) (Vb.mono (F:=Fr 0 r1 t1) y0 Fr.lt) w1) rfl rfl fun b3 c3 d3 c1 y1=>?_
  obtain rfl:=y1.bool
  cases b1
  case false =>
   replace a0:=iF a0
   refine Au rfl rfl (Au rfl rfl (o_z ?_))
   obtain rfl:=sm a0
   exact ⟨(),_,⟨rfl,rfl,trivial⟩,hB.st c1⟩
  replace a0:=iT a0
  refine Au rfl rfl (Au rfl rfl (o_z ?_))
  obtain rfl:=sm a0
  exact ⟨(),_,⟨rfl,rfl,trivial⟩,hB.st c1⟩
 rintro e3 f3 ⟨v1,g3,d1,hB⟩
 refine AQ _ d1 ?_
 refine AK ?_
 obtain rfl:=sm hm
 exact ret2 rfl (AB rfl) (AB rfl) ⟨hB.ext,_,_,rfl,(vInt e1),vBool⟩
end
section
section
variable {α σ ρ : Type}
theorem BO {s:σ} {f:σ→Option ρ}:fin (.done s) f=f s:=rfl
theorem Di {x y:α}:(if true=true then x else y)=x:=rfl
theorem CT {x y:α}:(if false=true then x else y)=y:=rfl
theorem JE {f:Nat→α→σ→Option (Ctl σ ρ)} {I:Nat→σ→Prop} {R:ρ→Prop}:∀ (ys:List α) (j:Nat) (s:σ),I j s →
    (∀ k x s,ys[k]?=some x→I (j + k) s→(∃ s',f (j + k) x s=some (.next s')∧I (j + k + 1) s')∨(∃ r,f (j + k) x s=some (.ret r)∧R r)) →
    (∃ s',rng f ys j s=some (.done s')∧I (j + ys.length) s')∨∃ r,rng f ys j s=some (.ret r)∧R r
  | [],j,s,h0,_=>.inl ⟨s,rfl,h0⟩
  | y :: ys,j,s,h0,h=>by
    rcases h 0 y s rfl h0 with ⟨s',h1,h2⟩|⟨r,h1,h2⟩
    · have h1':f j y s=some (.next s'):=h1
      simp only [rng,h1']
      rcases JE (I:=I) (R:=R) ys (j + 1) s' h2 (fun k x s hk hI=>by
        have:=h (k + 1) x s (by simpa using hk) (by rwa [show j + (k + 1)=j + 1 + k from by omega])
        rwa [show j + (k + 1)=j + 1 + k from by omega] at this) with ⟨s2,h3,h4⟩|h3
      · exact .inl ⟨s2,h3,by rw [List.length_cons,show j + (ys.length + 1)=j + 1 + ys.length from by omega];exact h4⟩
      · exact .inr h3
    · have h1':f j y s=some (.ret r):=h1
      simp only [rng,h1']
      exact .inr ⟨r,rfl,h2⟩
theorem Ro {f:Nat→α→σ→Option (Ctl σ ρ)} {xs:List α} {s₀:σ} (I:Nat→σ→Prop) (R:ρ→Prop) (h0:I 0 s₀)
    (h:∀ k x s,xs[k]?=some x→I k s→(∃ s',f k x s=some (.next s')∧I (k + 1) s')∨(∃ r,f k x s=some (.ret r)∧R r)) :
    (∃ s',rng f xs 0 s₀=some (.done s')∧I xs.length s')∨∃ r,rng f xs 0 s₀=some (.ret r)∧R r:=by
  have:=JE (f:=f) (I:=I) (R:=R) xs 0 s₀ h0 (fun k x s hk hI=>by rw [Nat.zero_add] at hI ⊢;exact h k x s hk hI)
  rwa [Nat.zero_add] at this
theorem EI {f:Nat→α→σ→Option (Ctl σ ρ)} {xs:List α} {s₀:σ} (I:Nat→σ→Prop) (h0:I 0 s₀) (h:∀ k x s,xs[k]?=some x→I k s→∃ s',f k x s=some (.next s')∧I (k + 1) s') :
    ∃ s',rng f xs 0 s₀=some (.done s')∧I xs.length s':=by
  rcases Ro I (fun _=>False) h0 (fun k x s hk hI=>.inl (h k x s hk hI)) with h|⟨_,_,h⟩
  · exact h
  · exact h.elim
theorem Oj {f:Nat→α→σ→Option (Ctl σ ρ)} {xs:List α} (g:Nat→σ) (h:∀ k x,xs[k]?=some x→f k x (g k)=some (.next (g (k + 1)))):rng f xs 0 (g 0)=some (.done (g xs.length)):=by
  obtain ⟨s',h1,h2⟩:=EI (f:=f) (xs:=xs) (s₀:=g 0) (fun k s=>s=g k) rfl (fun k x s hk hI=>⟨_,by rw [hI];exact h k x hk,rfl⟩)
  rw [h1,h2]
theorem DE {f:Nat→α→σ→Option (Ctl σ ρ)} {xs:List α} {s₀:σ} (g:Nat→σ) (h0:s₀=g 0) (h:∀ k x,xs[k]?=some x→f k x (g k)=some (.next (g (k + 1)))):rng f xs 0 s₀=some (.done (g xs.length)):=by
  rw [h0];exact Oj g h
theorem Qm {f:Nat→σ→Option (Ctl σ ρ)} {N:Nat} (g:Nat→σ) (h:∀ k,k < N→f k (g k)=some (.next (g (k + 1)))):rngN f N (g 0)=some (.done (g N)):=by
  have:=Oj (f:=fun _ k s=>f k s) (xs:=List.range N) g (fun k x hk=>by
    obtain ⟨hlt,rfl⟩:=List.getElem?_eq_some_iff.1 hk
    simpa using h k (by simpa using hlt))
  rwa [List.length_range] at this
theorem JF {f:Nat→σ→Option (Ctl σ ρ)} {N:Nat} {s₀:σ} (g:Nat→σ) (h0:s₀=g 0) (h:∀ k,k < N→f k (g k)=some (.next (g (k + 1)))):rngN f N s₀=some (.done (g N)):=by
  rw [h0];exact Qm g h
theorem Qn {f:Nat→σ→Option (Ctl σ ρ)} {N:Nat} {s₀:σ} (I:Nat→σ→Prop) (h0:I 0 s₀) (h:∀ k s,k < N→I k s→∃ s',f k s=some (.next s')∧I (k + 1) s') :
    ∃ s',rngN f N s₀=some (.done s')∧I N s':=by
  have:=EI (f:=fun _ k s=>f k s) (xs:=List.range N) (s₀:=s₀) I h0 (fun k x s hk hI=>by
    obtain ⟨hlt,rfl⟩:=List.getElem?_eq_some_iff.1 hk
    simpa using h k s (by simpa using hlt) hI)
  rwa [List.length_range] at this
end
end
section
open Go Go.RowKit
theorem PG {vars:List Int} (h0:∀ (i:Nat) n,vars[i]?=some n→0≤n∧n≤64) (hb:∀ k,(statesL (vars.take k)).length≤1000000) (hvn:vars.length≤1000):DO vars=some (statesL vars):=by
  unfold DO
  rw [DE (fun k=>statesL (vars.take k)) ?_ ?_]
  · rw [Am,BO,List.take_length]
  · rfl
  intro k n hn
  obtain ⟨N,rfl⟩:=Int.eq_ofNat_of_zero_le (h0 k n hn).1
  have hN:=(h0 k _ hn).2
  have hk:=AD hn
  have hlen:=hb k
  rw [DE (fun i=>((statesL (vars.take k)).take i).flatMap (exts N)) ?_ ?_]
  · rw [Am,BO,List.take_length,EH hn];rfl
  · rfl
  intro i s hs
  have hsl:=NI vars k (by omega) s (List.mem_of_getElem? hs)
  have hfl:=HN N ((statesL (vars.take k)).take i)
  have hfl2:((statesL (vars.take k)).take i).length * N≤1000000 * 64:=Nat.mul_le_mul (by rw [List.length_take];omega) (by omega)
  rw [Re,Am,JF (fun x=>((statesL (vars.take k)).take i).flatMap (exts N) ++ exts x s) ?_ ?_]
  · rw [Am,BO,PF _ hs]
  · simp [exts]
  intro x hx
  rw [Bz (by simp;omega) (by simp;omega),Am,Bz (by simp;omega) (by simp;omega),Am,Bz (by simp only [List.length_append,GA,List.length_singleton];omega) (by simp only [List.length_append,GA,List.length_singleton];omega),Am,PE]
  simp
theorem JG {t:Tsk} (h:Mid t):DO t.vars=some (statesL t.vars) :=
  PG (fun i n hn=>by have:=h.ok.vars i n hn;omega) (fun k=>by have:=h.states k;omega) (by have:=h.ok.1;omega)
end
section
open Go Go.RowKit
theorem HA (f:List Fct) (s:List Int):DI f s=some (holdsB f s):=rfl
theorem Na {ρ:Type} {s:List Int} {effs:List Eff} (he:EffsIn s effs) (m:List Fct→List Int→Option Bool) (hm:∀ f s,m f s=some (holdsB f s)) (u:List Int) (hu:u.length=s.length) :
    rng (ρ:=ρ) (fun (_:Nat) (e:Eff) (out:List Int)=>bnd (m e.cond s) fun q=>if q=true then bnd (atI out e.var) fun _=>some (.next (out.set (e.var).toNat e.val)) else some (.next out)) effs 0 u=some (.done (effsOn s effs u)):=by
  rw [DE (fun k=>effsOn s (effs.take k) u) ?_ ?_,List.take_length]
  · rfl
  intro k e hk
  rw [hm,Am,ND s hk]
  have hin:=he k e hk
  have hl:=FQ s (effs.take k) u
  by_cases hb:holdsB e.cond s=true
  · rw [if_pos hb,if_pos hb]
    obtain ⟨j,hj⟩:=Int.eq_ofNat_of_zero_le hin.1
    rw [hj,By,List.getElem?_eq_getElem (by omega),Am]
  · rw [if_neg hb,if_neg hb]
theorem Qp {t:Tsk} {s:List Int} {j:Nat} {o:Opr} (ho:t.ops[j]?=some o) (hp:holdsB o.pre s=true) (hl:s.length≤1000000) (he:EffsIn s o.effs):CG t s (j:Int)=some (succ o s,true):=by
  have hj:=AD ho
  unfold CG
  rw [if_neg (by omega),if_neg (by omega),By,ho,Am,HA,Am,hp,Di,Am,CT,Bz (by simp;omega) (by simp;omega),Am,Am,List.nil_append,Na he DI HA s rfl,Am,BO]
  rfl
theorem Ma {vars s:List Int}:∀ (l:List Eff),(∀ e∈l,EffOk vars e)→∀ (u:List Int),StateOk vars u→StateOk vars (effsOn s l u)
  | [],_,_,hu=>hu
  | e :: l,he,u,hu=>by
    refine Ma l (fun e' h'=>he e' (List.mem_cons_of_mem _ h')) _ ?_
    split
    · obtain ⟨_,h1,h2,y,hy,h3⟩:=he e List.mem_cons_self
      refine ⟨by rw [List.length_set];exact hu.1,fun i x n hx hn=>?_⟩
      rw [List.getElem?_set] at hx
      by_cases hi:e.var.toNat=i
      · subst hi
        rw [if_pos rfl] at hx
        split at hx
        · obtain rfl:=Option.some.inj hx
          simp only at hy h2 h3
          rw [hy] at hn
          obtain rfl:=Option.some.inj hn
          exact ⟨h2,h3⟩
        · cases hx
      · rw [if_neg hi] at hx
        exact hu.2 i x n hx hn
    · exact hu
theorem Ik {t:Tsk} (h:TaskOk t) {s:List Int} (hs:StateOk t.vars s) {k:Nat} {o:Opr} (ho:t.ops[k]?=some o):StateOk t.vars (succ o s) :=
  Ma o.effs (fun e he=>by obtain ⟨j,hj⟩:=List.getElem?_of_mem he;exact (h.2.2.2.2.2 k o ho).2.2.2.2.2 j e hj) s hs
theorem Mb {t:Tsk} (h:TaskOk t) {s:List Int} (hs:StateOk t.vars s) {k:Nat} {o:Opr} (ho:t.ops[k]?=some o):CG t s (k:Int)=some (if holdsB o.pre s=true then (succ o s,true) else ([],false)):=by
  have hk:=AD ho
  by_cases hp:holdsB o.pre s=true
  · rw [Qp ho hp (by have:=hs.1;have:=h.1;omega) (h.effs hs k o ho),if_pos hp]
  · unfold CG
    rw [if_neg (by omega),if_neg (by omega),By,ho,Am,HA,Am,if_neg hp,if_neg hp,Am,Di]
theorem KE {n:Nat} (hn:0 < n):∀ (l:List (List Int)) (q:Nat),(l.flatMap (exts n))[q]?=(l[q / n]?).map (· ++ [((q % n:Nat):Int)])
  | [],q=>by simp
  | a :: l,q=>by
    rw [List.flatMap_cons]
    by_cases hq:q < n
    · rw [List.getElem?_append_left (by rw [GA];exact hq),Nat.div_eq_of_lt hq,Nat.mod_eq_of_lt hq]
      simp [exts,hq]
    · rw [List.getElem?_append_right (by rw [GA];omega),GA,KE hn l (q - n)]
      obtain ⟨r,rfl⟩:∃ r,q=r + n:=⟨q - n,by omega⟩
      rw [Nat.add_sub_cancel,Nat.add_div_right _ hn,Nat.add_mod_right]
      simp
theorem Ll {vars:List Int} (hv:∀ (i:Nat) n,vars[i]?=some n→1≤n):∀ (k:Nat),k≤vars.length→∀ (i j:Nat) (s:List Int),(statesL (vars.take k))[i]?=some s→(statesL (vars.take k))[j]?=some s→i=j
  | 0,_,i,j,s,h1,h2=>by
    have e1:=AD h1
    have e2:=AD h2
    simp [statesL] at e1 e2
    omega
  | k + 1,hk,i,j,s,h1,h2=>by
    obtain ⟨n,hn⟩:=AF (l:=vars) (k:=k) (by omega)
    have hn1:=hv k n hn
    rw [EH hn] at h1 h2
    unfold grows at h1 h2
    rw [KE (by omega)] at h1 h2
    obtain ⟨p,hp,rfl⟩:=Option.map_eq_some_iff.1 h1
    obtain ⟨p',hp',e⟩:=Option.map_eq_some_iff.1 h2
    obtain ⟨e1,e2⟩:=List.append_inj' e rfl
    subst e1
    have:=Ll hv k (by omega) _ _ _ hp hp'
    have e3:j % n.toNat=i % n.toNat:=by
      have:=List.singleton_inj.1 e2
      omega
    have d1:=Nat.div_add_mod i n.toNat
    have d2:=Nat.div_add_mod j n.toNat
    rw [this,← e3] at d1
    omega
theorem NL {t:Tsk} (h:TaskOk t) {i j:Nat} {s:List Int} (h1:(statesL t.vars)[i]?=some s) (h2:(statesL t.vars)[j]?=some s):i=j:=by
  have:=Ll (vars:=t.vars) (fun i n hn=>(h.vars i n hn).1) t.vars.length (Nat.le_refl _) i j s
  rw [List.take_length] at this
  exact this h1 h2
theorem LG {t:Tsk} (h:Mid t) {s:List Int} (hs:StateOk t.vars s):∃ i:Nat,DZ t.vars s=some (i:Int)∧(statesL t.vars)[i]?=some s:=by
  unfold DZ
  obtain ⟨r,h1,i,rfl,h2⟩:=EI (ρ:=Int) (f:=fun (k11:Nat) (a12:Int) (s9:Int)=>bnd (t.vars[k11]?) fun a24=>bnd (chkI (s9 * a24)) fun n34=>bnd (chkI (n34 + a12)) fun n45=>some (.next n45)) (xs:=s) (s₀:=0) (fun k r=>∃ i:Nat,r=(i:Int)∧(statesL (t.vars.take k))[i]?=some (s.take k)) ⟨0,rfl,by simp [statesL]⟩ (fun k x r hk hI=>by
    obtain ⟨i,rfl,hi⟩:=hI
    have hlt:=AD hk
    obtain ⟨n,hn⟩:=AF (l:=t.vars) (k:=k) (by rw [← hs.1];exact hlt)
    have hn1:=h.ok.vars k n hn
    obtain ⟨hx1,hx2⟩:=hs.2 k x n hk hn
    obtain ⟨x,rfl⟩:=Int.eq_ofNat_of_zero_le hx1
    obtain ⟨n,rfl⟩:=Int.eq_ofNat_of_zero_le (by omega:0≤n)
    have hget:(statesL (t.vars.take (k + 1)))[i * n + x]?=some (s.take (k + 1)):=by
      rw [EH hn]
      show ((statesL (t.vars.take k)).flatMap (exts ((n:Int)).toNat))[i * n + x]?=_
      rw [show ((n:Int)).toNat=n from by omega,KE (by omega)]
      have e1:(i * n + x) / n=i:=by
        rw [Nat.mul_comm,Nat.mul_add_div (by omega),Nat.div_eq_of_lt (by omega)];omega
      have e2:(i * n + x) % n=x:=by
        rw [Nat.mul_comm,Nat.mul_add_mod,Nat.mod_eq_of_lt (by omega)]
      rw [e1,e2,hi,List.take_add_one,hk];rfl
    have hb:=AD hget
    have hb2:=h.states (k + 1)
    have e3:(i:Int) * (n:Int)=((i * n:Nat):Int):=by simp
    rw [hn,Am,e3,BA (by unfold inI64;omega),Am,BA (by unfold inI64;omega),Am]
    exact ⟨_,rfl,i * n + x,by omega,hget⟩)
  rw [List.take_length,hs.1,List.take_length] at h2
  exact ⟨i,by rw [h1,Am,BO],h2⟩
def EdgeOk (t:Tsk) (e:Edg):Prop:=∃ (i k j:Nat) (s:List Int) (o:Opr),e=⟨i,k,j⟩∧(statesL t.vars)[i]?=some s∧t.ops[k]?=some o∧holdsB o.pre s=true∧(statesL t.vars)[j]?=some (succ o s)
theorem Qq {t:Tsk} (h:Mid t):∃ es,Fs t=some es∧∀ e,e∈es↔EdgeOk t e:=by
  have hlen:(statesL t.vars).length≤600:=by have:=h.states t.vars.length;rwa [List.take_length] at this
  have hops:=h.ops
  have uniq:∀ {i i':Nat} {s:List Int},(statesL t.vars)[i]?=some s→(statesL t.vars)[i']?=some s→i=i':=fun h1 h2=>NL h.ok h1 h2
  unfold Fs
  rw [JG h,Am]
  obtain ⟨es, h1,h2,h3⟩:=EI (ρ:=List Edg) (f:=fun (k38:Nat) (a39:List Int) (s36:(List Edg))=>bnd (rng (ρ:=Ctl (List Edg) (List Edg)) (fun (k70:Nat) (_:Opr) (s68:(List Edg))=>bnd (CG t a39 (k70:Int)) fun q85=>if q85.2=true then (bnd (DZ t.vars q85.1) fun q99=>bnd (appI 24 s68 [(⟨(k38:Int),(k70:Int),q99⟩:Edg)]) fun u107=>some (.next u107)) else (some (.next s68))) t.ops 0 s36) fun res66=>fin res66 fun (s123:(List Edg))=>some (.next s123)) (xs:=statesL t.vars) (s₀:=[])
    (fun n acc=>acc.length≤n * 80∧∀ e,e∈acc↔EdgeOk t e∧e.src < (n:Int)) ⟨by simp,fun e=>⟨fun he=>by simp at he,fun ⟨⟨i,_,_,_,_,hE,_⟩,hlt⟩=>by subst hE;simp only at hlt;omega⟩⟩ (fun n s acc hn hI=>by
      obtain ⟨i1,i2⟩:=hI
      have hnlt:=AD hn
      have hs:StateOk t.vars s:=GI.1 (List.mem_of_getElem? hn)
      obtain ⟨es,g1,g2,g3⟩:=EI (ρ:=Ctl (List Edg) (List Edg)) (f:=fun (k70:Nat) (_:Opr) (s68:(List Edg))=>bnd (CG t s (k70:Int)) fun q85=>if q85.2=true then (bnd (DZ t.vars q85.1) fun q99=>bnd (appI 24 s68 [(⟨(n:Int),(k70:Int),q99⟩:Edg)]) fun u107=>some (.next u107)) else (some (.next s68))) (xs:=t.ops) (s₀:=acc)
        (fun m acc'=>acc'.length≤n * 80 + m∧∀ e,e∈acc'↔EdgeOk t e∧(e.src < (n:Int)∨e.src=(n:Int)∧e.op < (m:Int))) ⟨by omega,fun e=>by
          rw [i2]
          constructor
          · rintro ⟨a,b⟩;exact ⟨a,.inl b⟩
          · rintro ⟨a,b|⟨b,c⟩⟩
            · exact ⟨a,b⟩
            · obtain ⟨i,k,j,s',o,rfl,_⟩:=a
              simp at c;omega⟩ (fun m o acc' hm hI=>by
          obtain ⟨j1,j2⟩:=hI
          have hmlt:=AD hm
          rw [Mb h.ok hs hm,Am]
          by_cases hp:holdsB o.pre s=true
          · obtain ⟨r,hr,hr2⟩:=LG h (Ik h.ok hs hm)
            rw [if_pos hp,Di,hr,Am,Bz (by simp;omega) (by simp;omega),Am]
            refine ⟨_,rfl,by simp;omega,fun e=>?_⟩
            rw [List.mem_append,j2]
            constructor
            · rintro (⟨a,b⟩|hmem)
              · refine ⟨a,?_⟩
                rcases b with b|⟨b,c⟩
                · exact .inl b
                · exact .inr ⟨b,by omega⟩
              · obtain rfl:e=⟨(n:Int),(m:Int),(r:Int)⟩:=by simpa using hmem
                exact ⟨⟨n,m,r,s,o,rfl,hn,hm,hp,hr2⟩,.inr ⟨rfl,by simp;omega⟩⟩
            · rintro ⟨a,b⟩
              obtain ⟨i,k,j,s',o',rfl,a1,a2,a3,a4⟩:=a
              simp only at b
              by_cases hc:i=n∧k=m
              · obtain ⟨rfl,rfl⟩:=hc
                obtain rfl:s'=s:=by rw [hn] at a1;exact (Option.some.inj a1).symm
                obtain rfl:o'=o:=by rw [hm] at a2;exact (Option.some.inj a2).symm
                obtain rfl:=uniq a4 hr2
                exact .inr (by simp)
              · exact .inl ⟨⟨i,k,j,s',o',rfl,a1,a2,a3,a4⟩,by simp only;omega⟩
          · rw [if_neg hp]
            refine ⟨_,if_neg (by simp),by omega,fun e=>?_⟩
            rw [j2]
            constructor
            · rintro ⟨a,b⟩
              refine ⟨a,?_⟩
              rcases b with b|⟨b,c⟩
              · exact .inl b
              · exact .inr ⟨b,by omega⟩
            · rintro ⟨a,b⟩
              obtain ⟨i,k,j,s',o',rfl,a1,a2,a3,a4⟩:=a
              simp only at b
              by_cases hc:i=n∧k=m
              · obtain ⟨rfl,rfl⟩:=hc
                obtain rfl:s'=s:=by rw [hn] at a1;exact (Option.some.inj a1).symm
                obtain rfl:o'=o:=by rw [hm] at a2;exact (Option.some.inj a2).symm
                exact absurd a3 hp
              · exact ⟨⟨i,k,j,s',o',rfl,a1,a2,a3,a4⟩,by simp only;omega⟩)
      rw [g1,Am,BO]
      refine ⟨_,rfl,by omega,fun e=>?_⟩
      rw [g3]
      constructor
      · rintro ⟨a,b⟩
        exact ⟨a,by rcases b with b|⟨b,_⟩<;>omega⟩
      · rintro ⟨a,b⟩
        refine ⟨a,?_⟩
        obtain ⟨i,k,j,s',o',rfl,a1,a2,a3,a4⟩:=a
        simp only at b ⊢
        have:=AD a2
        omega)
  refine ⟨es,by rw [h1,Am,BO],fun e=>?_⟩
  rw [h3]
  refine ⟨fun a=>a.1,fun a=>⟨a,?_⟩⟩
  obtain ⟨i,k,j,s',o',rfl,a1,a2,a3,a4⟩:=a
  have:=AD a1
  simp only;omega
end
section
open Go Go.RowKit
section
attribute [local irreducible] ewp owp hwp hwq hws Ev Evg Fn retPost loud loudS Res1
noncomputable def Br (x0:Option Gnr) (x1:List Int):Option (List Suc) :=
  bnd (Cu x0 x1) fun q7=>bnd (rng (ρ:=(List Suc)) (fun (k23:Nat) (a24:Int) (s21:(List Suc))=>bnd (BT x1) fun q46=>bnd (x0) fun o56=>bnd (atI o56.t.ops a24) fun a88=>bnd (rng (ρ:=Ctl (List Suc) (List Suc)) (fun (k115:Nat) (a116:Eff) (s113:(List Int))=>bnd (DJ a116.cond x1) fun q150=>if q150=true then bnd (atI s113 a116.var) fun a157=>some (.next (s113.set (a116.var:Int).toNat a116.val)) else some (.next s113)) a88.effs 0 q46) fun res111=>fin res111 fun (s175:(List Int))=>bnd (appI 32 s21 [(⟨a24,s175⟩:Suc)]) fun u179=>some (.next u179)) q7 0 ([]:List Suc)) fun res19=>fin res19 fun (s195:(List Suc))=>some s195
theorem Gn {w:World} {A:Nat→Prop} (hA:∀ k,A k→k < w.heap.size) {vx0:Value} {x0:Option Gnr} (h0:Vb w A vx0 x0) {vx1:Value} {x1:List Int} (g0:Vb w A vx1 x1) {r:(List Suc)} (hm:Br x0 x1=some r) :
    Fn Tryz.prog 61 [vx0,vx1] w fun v w'=>Ext w w'∧Vb w' (upA A w w') v r:=by
 obtain ⟨O,hB,k3⟩:=enter hA
 replace h0:=h0.mono k3
 obtain ⟨p3,rfl,s3⟩:=h0.ptr
 replace g0:=g0.mono k3
 obtain ⟨A5,c6,rfl⟩:=g0.form
 refine AH Tryz.func61 rfl Tryz.ntmps61 rfl ?_
 unfold Br at hm
 refine Al (Aj (Au rfl rfl (o_z ?_)))
 refine Al (Aj (Au rfl rfl (o_z ?_)))
 refine Al (Al (Aj (Ar rfl rfl (Ar rfl rfl ?_))))
 obtain ⟨q7,e8,hm⟩:=bs hm
 refine DG 2 (by decide) (O:=O) (Gm Fr.lt h0 g0 e8) rfl rfl fun e1 f1 w9 t3 b2 m0=>?_
 refine AP rfl rfl ?_
 have e2:q7.length≤9223372036854775807:=Nat.le_trans m0.len.2.1 m0.len.2.2
 have q5:inI64 (q7.length:Int):=rngNat e2
 refine Ar rfl rfl (o_z ?_)
 obtain ⟨h1,f2,hm⟩:=bs hm
 refine AL (aft h1 (fun (n0:(List Suc)) (i0:(Option Addr×Nat))=>[(5,(.slice i0.1 n0.length i0.2))]) (fun n0 i0 w'=>∃ O':Lab,Bs w A w' O'∧Rw 5 w' O' 112 (.slice i0.1 n0.length i0.2) n0)) ?_ ?_
 ·
  refine AN ?_
  replace hB:=hB.st b2
  replace h0:=h0.st b2
  replace g0:=g0.st b2
  refine Bp (σ:=(List Suc)) (X:=(Option Addr×Nat)) (q7.length) f2 rfl e2 (fun (n0:(List Suc)) (i0:(Option Addr×Nat))=>[(0,(.pointer p3)),(1,(.slice A5 x1.length c6)),(5,(.slice i0.1 n0.length i0.2)),(13,(.slice e1 q7.length f1))]) _ (fun n0 i0 w'=>∃ O':Lab,Bs w A w' O'∧Vb w' (Fr 0 w' O') (.pointer p3) x0∧Vb w' (Fr 0 w' O') (.slice A5 x1.length c6) x1∧Rw 5 w' O' 112 (.slice i0.1 n0.length i0.2) n0∧Rw 2 w' O' 3 (.slice e1 q7.length f1) q7) _ (none,0) ⟨t3,hB,h0,g0,(Rw.nil 5 (by decide)),m0⟩ ⟨rfl,rfl,rfl,rfl,rfl,rfl,trivial⟩ (fun _ _=>⟨rfl,rfl⟩) (fun _ _=>⟨rfl,trivial⟩) (fun _ _ _ ⟨O',hB,h0,g0,j0,m0⟩=>⟨O',hB,j0⟩) ⟨rfl,rfl,rfl⟩ ⟨rfl,rfl⟩ ?_
  rintro g2 i1 n0 i0 r5 u3 j1 ⟨v3,hB,h0,g0,j0,m0⟩ e0 h2 i2
  have rk23:inI64 (g2:Int):=rngK j1 e2
  refine Al (Aj ?_)
  obtain ⟨s5,t5,w3,j2,k2,l2,rfl,x3⟩:=m0.elem j1
  refine Bi (hA:=j2) (hj:=rfl) (hlt:=k2) rfl rfl rfl ?_
  refine AE (hc:=cat0 l2) rfl rfl ?_
  refine Au rfl rfl (o_z ?_)
  refine Al (Aj (Ar rfl rfl ?_))
  obtain ⟨k1,y3,e0⟩:=bs e0
  refine DG 3 (by decide) (O:=v3) (En Fr.lt g0 y3) rfl rfl fun l1 m1 u5 z3 r0 a4=>?_
  refine Au rfl rfl (o_z ?_)
  refine Al (Al (Aj (Ar rfl rfl ?_)))
  obtain ⟨v5,l3,e0⟩:=bs e0
  obtain ⟨ad59,m2⟩:=LA (s3.trans (by rw [l3];rfl))
  refine SX (hA:=m2) rfl rfl ?_
  replace h0:=h0.st r0
  obtain ⟨w5,x5,y5,z5,a6,b6,n2,b4,o2,c4,d4,e4,m3⟩:=Ql h0 l3
  obtain ⟨d6,e6,rfl⟩:=c4.form
  obtain ⟨f6,g6,rfl⟩:=d4.form
  obtain ⟨h6,i6,rfl⟩:=e4.form
  obtain ⟨j6,k6,rfl⟩:=m3.form
  refine SW (hA:=n2) rfl rfl ?_
  refine AG rfl rfl (AE (hc:=cat3 o2) rfl rfl ?_)
  refine Ar rfl rfl ?_
  obtain ⟨g1,f4,e0⟩:=bs e0
  obtain ⟨g4,h4⟩:=AS f4
  obtain ⟨l6,m6,i4,p2,q2,r2,n6,j4,rfl,s2,k0,k4,l4⟩:=m3.elem' h4
  obtain ⟨m4,n4,rfl⟩:=s2.form
  obtain ⟨n1,o1,rfl⟩:=k0.form
  refine Bi (hA:=p2) (hj:=(Int.toNat_of_nonneg g4).symm) (hlt:=q2) rfl rfl rfl ?_
  refine AG rfl rfl (AE (hc:=cat3 r2) rfl rfl ?_)
  refine AP rfl rfl ?_
  have b1:g1.effs.length≤9223372036854775807:=Nat.le_trans k0.len.2.1 k0.len.2.2
  have o4:inI64 (g1.effs.length:Int):=rngNat b1
  refine Ar rfl rfl (o_z ?_)
  obtain ⟨c1,p1,e0⟩:=bs e0
  refine AL (aft c1 (fun (o0:(List Int)) (s0:Unit)=>[(0,(.pointer p3)),(1,(.slice A5 x1.length c6)),(5,(.slice i0.1 n0.length i0.2)),(7,(.int .i64 i1)),(8,(.slice l1 k1.length m1)),(13,(.slice e1 q7.length f1)),(14,(.int .i64 (q7.length:Int))),(15,(.int .i64 (g2:Int)))]) (fun o0 s0 w'=>∃ O':Lab,Bs w A w' O'∧Vb w' (Fr 0 w' O') (.pointer p3) x0∧Vb w' (Fr 0 w' O') (.slice A5 x1.length c6) x1∧Rw 5 w' O' 112 (.slice i0.1 n0.length i0.2) n0∧Rw 3 w' O' 3 (.slice l1 k1.length m1) o0∧Rw 2 w' O' 3 (.slice e1 q7.length f1) q7)) ?_ ?_
  ·
   refine AN ?_
   replace hB:=hB.st r0
   replace g0:=g0.st r0
   replace m0:=m0.st r0
   replace j0:=j0.st r0
   refine Bp (σ:=(List Int)) (X:=Unit) (g1.effs.length) p1 rfl b1 (fun (o0:(List Int)) (s0:Unit)=>[(0,(.pointer p3)),(1,(.slice A5 x1.length c6)),(5,(.slice i0.1 n0.length i0.2)),(7,(.int .i64 i1)),(8,(.slice l1 k1.length m1)),(13,(.slice e1 q7.length f1)),(14,(.int .i64 (q7.length:Int))),(15,(.int .i64 (g2:Int))),(29,(.slice n1 g1.effs.length o1))]) _ (fun o0 s0 w'=>∃ O':Lab,Bs w A w' O'∧Vb w' (Fr 0 w' O') (.pointer p3) x0∧Vb w' (Fr 0 w' O') (.slice A5 x1.length c6) x1∧Rw 5 w' O' 112 (.slice i0.1 n0.length i0.2) n0∧Rw 3 w' O' 3 (.slice l1 k1.length m1) o0∧Rw 2 w' O' 3 (.slice e1 q7.length f1) q7∧Vb w' (Fr 0 w' O') (.slice n1 g1.effs.length o1) g1.effs) _ () ⟨z3,hB,h0,g0,j0,a4,m0,k0⟩ ⟨rfl,rfl,rfl,rfl,rfl,rfl,rfl,rfl,rfl,rfl,rfl,trivial⟩ (fun _ _=>⟨rfl,rfl⟩) (fun _ _=>⟨rfl,rfl,rfl,rfl,rfl,rfl,rfl,rfl,trivial⟩) (fun _ _ _ ⟨O',hB,h0,g0,j0,f0,m0,k0⟩=>⟨O',hB,h0,g0,j0,f0,m0⟩) ⟨rfl,rfl,rfl⟩ ⟨rfl,rfl⟩ ?_
   rintro t2 t0 o0 s0 p4 n3 z0 ⟨u2,hB,h0,g0,j0,f0,m0,k0⟩ a0 c2 d2
   have rk115:inI64 (t2:Int):=rngK z0 b1
   refine Al (Aj ?_)
   obtain ⟨q4,r4,o3,q1,r1,s1,s4,rfl,u0,t4,v2⟩:=k0.elem' z0
   obtain ⟨w2,x2,rfl⟩:=u0.form
   refine Bi (hA:=q1) (hj:=rfl) (hlt:=r1) rfl rfl rfl ?_
   refine Bk (hl:=rfl) (hc:=s1) rfl rfl ?_
   refine BD 4 u2 rfl fun y2 u4 v0 c0 l0=>?_
   refine AR l0 rfl rfl rfl (Ba rfl) (allOne rfl) fun w0 d0 l0=>?_
   replace l0:Lc 4 w0 v0 y2 64 [(.slice w2 t0.cond.length x2),(.int .i64 t0.var),(.int .i64 t0.val)]:=l0
   refine o_z ?_
   refine Al (Aj (AG rfl rfl (AE (hc:=Blk.cell (i:=0) (l0.1) rfl) rfl rfl ?_)))
   refine Ar rfl rfl ?_
   obtain ⟨t1,z2,a0⟩:=bs a0
   replace g0:=(g0.st c0).st d0
   replace u0:=(u0.st c0).st d0
   refine BE (O:=v0) (A:=All w0) (R:=fun w' F v=>Vb w' F v t1) (Ju (fun _ h=>h) (Vb.mono (F:=Fr 0 w0 v0) u0 Fr.lt) (Vb.mono (F:=Fr 0 w0 v0) g0 Fr.lt) z2) rfl rfl fun v4 w4 x4 b0 a3=>?_
   obtain rfl:=a3.bool
   cases t1
   case false =>
    replace a0:=iF a0
    refine o_z ?_
    refine Ae rfl (AO ?_)
    obtain rfl:=sm a0
    exact show Exists _ from ⟨_,(),rfl,⟨rfl,rfl,rfl,rfl,rfl,rfl,rfl,rfl,rfl,rfl,rfl,trivial⟩,_,((hB.st c0).st d0).st b0,((h0.st c0).st d0).st b0,g0.st b0,((j0.st c0).st d0).st b0,((f0.st c0).st d0).st b0,((m0.st c0).st d0).st b0,((k0.st c0).st d0).st b0⟩
   replace a0:=iT a0
   refine o_z ?_
   refine Ah rfl (Aj (Ar rfl rfl (AG rfl rfl ?_)))
   replace l0:=l0.st b0
   refine AE (hc:=Blk.cell (i:=1) (l0.1) rfl) rfl rfl ?_
   refine AG rfl rfl (AE (hc:=Blk.cell (i:=2) (l0.1) rfl) rfl rfl ?_)
   obtain ⟨y4,b3,a0⟩:=bs a0
   obtain ⟨c3,u1⟩:=AS b3
   replace f0:=((f0.st c0).st d0).st b0
   obtain ⟨z4,a5,q3,a1,v1,r3,rfl,b5⟩:=f0.elem u1
   refine Bi (hA:=a1) (hj:=(Int.toNat_of_nonneg c3).symm) (hlt:=v1) rfl rfl rfl ?_
   refine CW rfl f0 (a:=t0.val) (vInt v2) a1 rfl rfl (AD u1) fun c5 p0 f0=>?_
   refine o_z ?_
   obtain rfl:=sm a0
   exact show Exists _ from ⟨_,(),rfl,⟨rfl,rfl,rfl,rfl,rfl,rfl,rfl,rfl,rfl,rfl,rfl,trivial⟩,_,(((hB.st c0).st d0).st b0).st p0,(((h0.st c0).st d0).st b0).st p0,(g0.st b0).st p0,(((j0.st c0).st d0).st b0).st p0,f0,(((m0.st c0).st d0).st b0).st p0,(((k0.st c0).st d0).st b0).st p0⟩
  replace hB:=hB.st r0
  replace g0:=g0.st r0
  replace m0:=m0.st r0
  replace j0:=j0.st r0
  rintro d5 e5 ⟨w1,f5,rfl,y1,g5,hB,h0,g0,j0,f0,m0⟩
  replace e0:=AV e0
  refine AQ _ y1 ?_
  refine Aj (Ar rfl rfl (Ar rfl rfl (Ar rfl rfl (Cw rfl rfl rfl ?_))))
  obtain ⟨h5,q0,f0⟩:=f0.freeze
  obtain ⟨i5,d1,e0⟩:=bs e0
  obtain ⟨d1,d3,e3⟩:=AU d1
  replace j0:=j0.st q0
  refine CP rfl (a:=(⟨i1,w1⟩:Suc)) j0 (Vb.ofAgg (cs:=[(.int .i64 i1),(.slice l1 k1.length m1)]) (x:=(⟨i1,w1⟩:Suc)) rfl ⟨_,rfl,f0,x3⟩) (fun _=>rfl) rfl (by decide) (by decide) d3 e3 ⟨rfl,rfl⟩ fun j5 f3 g3 k5 l5 y0 z1=>?_
  rw [← d1] at z1 ⊢
  refine Au rfl rfl (o_z ?_)
  obtain rfl:=sm e0
  exact show Exists _ from ⟨_,(f3,g3),rfl,⟨rfl,rfl,rfl,rfl,rfl,rfl,trivial⟩,_,(hB.st q0).st y0,(h0.st q0).st y0,(g0.st q0).st y0,z1,(m0.st q0).st y0⟩
 replace hB:=hB.st b2
 rintro m5 h3 ⟨n5,o5,rfl,a2,p5,hB,j0⟩
 replace hm:=AV hm
 refine AQ _ a2 ?_
 refine Al (Aj (Ar rfl rfl (Au rfl rfl (o_z ?_))))
 refine AK ?_
 obtain ⟨i3,j3,j0⟩:=j0.freeze
 obtain rfl:=sm hm
 replace hB:=hB.st j3
 exact ret1v rfl (AB rfl) ⟨hB.ext,(Vb.mono (F:=Fr 0 h3 i3) j0 hB.out)⟩
end
theorem Qr {s:List Int} (hl:s.length≤1000000):BT s=some s:=if_pos ⟨by omega,by omega⟩
theorem Rq {t:Tsk} {s:List Int} (hok:TaskOk t) (hl:s.length≤1000000):Br (some ⟨t⟩) s=some ((appS t s).map (sucOf t s)):=by
  have ha:Cu (some ⟨t⟩) s=some (appS t s):=if_pos hl
  have hol:=hok.2.1
  have hal:=Qk t s
  unfold Br
  rw [ha,Am]
  rw [DE (fun k=>((appS t s).take k).map (sucOf t s)) ?_ ?_,Am,BO,List.take_length]
  · rfl
  intro k x hk
  have hkl:=AD hk
  obtain ⟨hst,hmem⟩:=Qj (List.mem_of_getElem? hk)
  obtain ⟨j,o,rfl,hj,hp⟩:=MW hmem
  rw [Qr hl,Am,Am,By,hj,Am,Na (hok.effs hst j o hj) DJ (fun _ _=>rfl) s rfl,Am,BO,Bz (by simp;omega) (by simp;omega),Am,List.take_add_one,hk,List.map_append]
  simp [sucOf,hj,succ]
theorem PH {t:Tsk} (h:TaskOk t):Fc t=some (some ⟨t⟩,⟨0⟩):=by unfold Fc;rw [Bo h,Di,CS.2 h]
end
section
open Go Go.RowKit
attribute [local irreducible] ewp owp hwp hwq hws Ev Evg Fn retPost loud loudS Res1
attribute [local irreducible] hwx loudX
structure Spc where
  t:Tsk
  reg:Reg
  gen:Option Gnr
instance:Ow Spc where
  R w F M v x:=∃ (g:Nat) (L:Lab) (c0 c1 c2 c3 c4 c5:Value),v=.pointer (some ⟨g,0,none⟩)∧Blk w g 106 [c0,c1,c2,c3,c4,c5]∧M g∧L g=0∧Vb w F c0 x.t.vars∧Vb w F c1 x.t.init∧Vb w F c2 x.t.goal∧Vb w F c3 x.t.ops∧Ow.R w F (fun k=>M k∧L k=1) c4 x.reg∧Vb w F c5 x.gen
  agree:=by rintro w w' F M v x ⟨g,L,c0,c1,c2,c3,c4,c5,rfl,hb,hM,hL,h0,h1,h2,h3,h4,h5⟩ a1 a2;exact ⟨g,L,c0,c1,c2,c3,c4,c5,rfl,hb.keep (a2 g hM),hM,hL,h0.agree a1,h1.agree a1,h2.agree a1,h3.agree a1,Ow.agree h4 a1 fun k hk=>a2 k hk.1,h5.agree a1⟩
  mono:=by rintro w F M F' M' v x ⟨g,L,c0,c1,c2,c3,c4,c5,rfl,hb,hM,hL,h0,h1,h2,h3,h4,h5⟩ a1 a2 a3;exact ⟨g,L,c0,c1,c2,c3,c4,c5,rfl,hb,a2 g hM,hL,h0.mono a1,h1.mono a1,h2.mono a1,h3.mono a1,Ow.mono h4 a1 (fun k hk=>⟨a2 k hk.1,hk.2⟩) fun k hf hm=>a3 k hf hm.1,h5.mono a1⟩
instance:OwP Spc:=⟨by rintro w F M v x ⟨g,L,c0,c1,c2,c3,c4,c5,rfl,_⟩;exact ⟨g,rfl⟩⟩
theorem Spc.opn {i:Nat} {w:World} {O:Lab} {p:Nat} {x:Spc} (h:Ob i w O (.pointer (some ⟨p,0,none⟩)) x) (l0 l1:Nat) (hl:l0≠0∧l1≠0):∃ (O':Lab) (c0 c1 c2 c3 c4 c5:Value),St (eT i) w O w O'∧(∀ k,Fr i w O k→∃ q,q∈[l0,l1]∧Fr q w O' k)∧Lc l0 w O' p 106 [c0,c1,c2,c3,c4,c5]∧Vb w (Fr 0 w O') c0 x.t.vars∧Vb w (Fr 0 w O') c1 x.t.init∧Vb w (Fr 0 w O') c2 x.t.goal∧Vb w (Fr 0 w O') c3 x.t.ops∧Ob l1 w O' c4 x.reg∧Vb w (Fr 0 w O') c5 x.gen:=by
  obtain ⟨⟨g,L,c0,c1,c2,c3,c4,c5,hv,hb,hM,hL,h0,h1,h2,h3,h4,h5⟩,hi⟩:=h
  obtain rfl:p=g:=by injection hv with hv;injection hv with hv;injection hv
  exact ⟨part O i L [l0,l1],c0,c1,c2,c3,c4,c5,JY hi,Iu (by simp),⟨hb,(Fh (j:=0) rfl p ⟨hM,hL⟩).2⟩,h0.mono (Ed hi),h1.mono (Ed hi),h2.mono (Ed hi),h3.mono (Ed hi),⟨Ow.mono h4 (Ed hi) (Fh (j:=1) rfl) (frNe0 hl.2),hl.2⟩,h5.mono (Ed hi)⟩
theorem Spc.shut {w:World} {O:Lab} {p:Nat} {x:Spc} {l0 l1:Nat} {c0 c1 c2 c3 c4 c5:Value} (hd:¬ 0∈[l0,l1]∧[l0,l1].idxOf l0=0∧[l0,l1].idxOf l1=1) (hb:Lc l0 w O p 106 [c0,c1,c2,c3,c4,c5]) (h0:Vb w (Fr 0 w O) c0 x.t.vars) (h1:Vb w (Fr 0 w O) c1 x.t.init) (h2:Vb w (Fr 0 w O) c2 x.t.goal) (h3:Vb w (Fr 0 w O) c3 x.t.ops) (h4:Ob l1 w O c4 x.reg) (h5:Vb w (Fr 0 w O) c5 x.gen):∃ O',St (·∈[l0,l1]) w O w O'∧(∀ k,Fr 0 w O k→Fr 0 w O' k)∧(∀ q,q∈[l0,l1]→∀ k,Fr q w O k→Fr l0 w O' k)∧Ob l0 w O' (.pointer (some ⟨p,0,none⟩)) x:=by
  have hb1:l0≠0:=fun e=>hd.1 (by simp [e])
  have hg:=EB (i:=l0) hd.2.1 (by simp) p ⟨hb.1.lt,hb.2⟩
  exact ⟨whole O l0 [l0,l1],Iv,CQ hd.1,HI,⟨p,fun k=>[l0,l1].idxOf (O k),c0,c1,c2,c3,c4,c5,rfl,hb.1,hg.1,hg.2,h0.mono (CQ hd.1),h1.mono (CQ hd.1),h2.mono (CQ hd.1),h3.mono (CQ hd.1),Ow.mono h4.1 (CQ hd.1) (EB hd.2.2 (by simp)) (fun k a b=>frNe0 hb1 k a b.1),h5.mono (CQ hd.1)⟩,hb1⟩
noncomputable def Db (x0:Tsk):Option ((Option Spc)×Err) :=
  bnd (Fc x0) fun q24=>if q24.2.n≠0 then (some (none,(⟨q24.2.n⟩:Err))) else (bnd (DD x0.vars) fun q39=>if q39.2.n≠0 then (some (none,(⟨q39.2.n⟩:Err))) else (bnd q39.1 fun o52=>bnd (BK o52 x0.init) fun q55=>if q55.2.2.1.n≠0 then (some (none,(⟨q55.2.2.1.n⟩:Err))) else (some ((some (⟨(⟨x0.vars,x0.init,x0.goal,x0.ops⟩:Tsk),q55.2.2.2,q24.1⟩:Spc)),(⟨0⟩:Err)))))
theorem Lm {w:World} {O:Lab} {vx0:Value} {x0:Tsk} (m0:Vb w (Fr 0 w O) vx0 x0) (j0:Nat) (hj0:j0≠0) {r:(Option Spc)×Err} (hm:Db x0=some r) :
    Fn Tryz.prog 55 [vx0] w fun v w'=>∃ O',St nT w O w' O'∧∃ v0 v1:Value,v=.tuple #[v0,v1]∧Obo j0 w' O' v0 r.1∧Vb w' (Fr 0 w' O') v1 r.2:=by
 obtain ⟨O0,hE,d1⟩:=ent0 (w:=w) (O:=O)
 have hB:Bm w O0 w O0:=Bm.refl
 replace m0:=m0.mono d1
 obtain ⟨l2,rfl,v3,v4,v5,v6,rfl,h7,b0,g0,h0⟩:=m0
 obtain ⟨A8,c9,rfl⟩:=h7.form
 obtain ⟨n0,o0,rfl⟩:=b0.form
 obtain ⟨p0,q0,rfl⟩:=g0.form
 obtain ⟨r0,s0,rfl⟩:=h0.form
 refine AH Tryz.func55 rfl Tryz.ntmps55 rfl ?_
 unfold Db at hm
 refine Al (Aj (Da 2 O0 rfl rfl fun e1 f1 b1 e0 a0=>?_))
 replace a0:Lc 2 f1 b1 e1 26 [(.slice A8 x0.vars.length c9),(.slice n0 x0.init.length o0),(.slice p0 x0.goal.length q0),(.slice r0 x0.ops.length s0)]:=a0
 refine Au rfl rfl (Au rfl rfl (o_z ?_))
 refine Al (Aj (Bk (hl:=rfl) (hc:=(a0.1).cellsAt) rfl rfl ?_))
 obtain ⟨c1,g1,hm⟩:=bs hm
 replace h7:=h7.st e0
 replace b0:=b0.st e0
 replace g0:=g0.st e0
 replace h0:=h0.st e0
 refine Dl (O:=b1) (R:=fun w' F v=>T2 w' F v c1) (Mn Fr.lt (Vb.ofAgg (cs:=[(.slice A8 x0.vars.length c9),(.slice n0 x0.init.length o0),(.slice p0 x0.goal.length q0),(.slice r0 x0.ops.length s0)]) (x:=x0) rfl ⟨_,_,_,_,rfl,h7,b0,g0,h0⟩) g1) rfl rfl fun m2 n2 h1 c0 i1=>?_
 obtain ⟨o2,p2,rfl,k0,j1⟩:=i1
 obtain ⟨k1,rfl,m1⟩:=k0.ptr
 obtain ⟨rfl,n1⟩:=j1.err
 refine Ar rfl rfl (BH rfl rfl rfl (BH rfl rfl rfl (Au rfl rfl (Au rfl rfl (o_z ?_)))))
 refine Al (Al (Aj (Ar rfl rfl (ER rfl rfl (fun t0=>?_) fun t0=>?_))))
 ·
  replace hm:=ip hm t0
  refine o_z ?_
  refine Ah rfl (Al (Aj (Ar rfl rfl (Au rfl rfl (Au rfl rfl (o_z ?_))))))
  refine AK ?_
  obtain rfl:=sm hm
  replace hB:=(hB.st e0).st c0
  obtain ⟨O',hS',hz,hl⟩:=hE.leave (fun _=>0) rfl hB
  exact ret2 rfl (AB rfl) (AB rfl) ⟨O',hS',_,_,rfl,rfl,(vErr n1)⟩
 replace hm:=im hm t0
 refine o_z ?_
 refine Ae rfl (AO (Al (Aj (AG rfl rfl ?_))))
 replace a0:=a0.st c0
 refine AE (hc:=Blk.cell (i:=0) (a0.1) rfl) rfl rfl ?_
 obtain ⟨q2,o1,hm⟩:=bs hm
 replace h7:=h7.st c0
 refine Cx (O:=h1) (LE h7 3 (by decide) o1) rfl rfl fun r2 s2 p1 d0 q1=>?_
 obtain ⟨t2,u2,rfl,u0,r1⟩:=q1
 obtain ⟨rfl,s1⟩:=r1.err
 refine Ar rfl rfl (BH rfl rfl rfl (BH rfl rfl rfl (Au rfl rfl (Au rfl rfl (o_z ?_)))))
 refine Al (Al (Aj (Ar rfl rfl (ER rfl rfl (fun w0=>?_) fun w0=>?_))))
 ·
  replace hm:=ip hm w0
  refine o_z ?_
  refine Ah rfl (Al (Aj (Ar rfl rfl (Au rfl rfl (Au rfl rfl (o_z ?_))))))
  refine AK ?_
  obtain rfl:=sm hm
  replace hB:=((hB.st e0).st c0).st d0
  obtain ⟨O',hS',hz,hl⟩:=hE.leave (fun _=>0) rfl hB
  exact ret2 rfl (AB rfl) (AB rfl) ⟨O',hS',_,_,rfl,rfl,(vErr s1)⟩
 replace hm:=im hm w0
 refine o_z ?_
 refine Ae rfl (AO (Al (Al (Aj (Ar rfl rfl (AG rfl rfl ?_))))))
 replace a0:=a0.st d0
 refine AE (hc:=Blk.cell (i:=1) (a0.1) rfl) rfl rfl ?_
 obtain ⟨v2,t1,hm⟩:=bs hm
 rw [t1] at u0
 obtain ⟨u1,rfl⟩:=Ob.ptr u0
 obtain ⟨w1,x1,hm⟩:=bs hm
 replace b0:=(b0.st c0).st d0
 refine Cx (O:=p1) (FC u0 b0 x1) rfl rfl fun w2 x2 y1 f0 z1=>?_
 obtain ⟨y2,z2,a3,y0,rfl,a2,b2,c2⟩:=z1
 obtain ⟨rfl,b3⟩:=a2.int
 obtain rfl:=b2.bool
 obtain ⟨rfl,d2⟩:=c2.err
 refine Ar rfl rfl (BH rfl rfl rfl (BH rfl rfl rfl (BH rfl rfl rfl (Au rfl rfl (Au rfl rfl (Au rfl rfl (o_z ?_)))))))
 refine Al (Aj (Ar rfl rfl (ER rfl rfl (fun z0=>?_) fun z0=>?_)))
 ·
  replace hm:=ip hm z0
  refine o_z ?_
  refine Ah rfl (Al (Aj (Ar rfl rfl (Au rfl rfl (Au rfl rfl (o_z ?_))))))
  refine AK ?_
  obtain rfl:=sm hm
  replace hB:=(((hB.st e0).st c0).st d0).st f0
  obtain ⟨O',hS',hz,hl⟩:=hE.leave (fun _=>0) rfl hB
  exact ret2 rfl (AB rfl) (AB rfl) ⟨O',hS',_,_,rfl,rfl,(vErr d2)⟩
 replace hm:=im hm z0
 refine o_z ?_
 refine Ae rfl (AO (Al (Aj ?_)))
 replace a0:=a0.st f0
 refine Bk (hl:=rfl) (hc:=(a0.1).cellsAt) rfl rfl ?_
 refine Ar rfl rfl (Ar rfl rfl (Cw rfl rfl rfl ?_))
 refine Da 4 y1 rfl rfl fun e2 f2 g2 i0 a1=>?_
 replace a1:Lc 4 f2 g2 e2 106 [(.slice A8 x0.vars.length c9),(.slice n0 x0.init.length o0),(.slice p0 x0.goal.length q0),(.slice r0 x0.ops.length s0),(.pointer (some ⟨u1,0,none⟩)),(.pointer k1)]:=a1
 refine Au rfl rfl (Au rfl rfl (o_z ?_))
 refine AK ?_
 replace h7:=((h7.st d0).st f0).st i0
 replace b0:=(b0.st f0).st i0
 replace g0:=(((g0.st c0).st d0).st f0).st i0
 replace h0:=(((h0.st c0).st d0).st f0).st i0
 replace k0:=((k0.st d0).st f0).st i0
 replace y0:=y0.st i0
 obtain ⟨c3,h2,i2,j2,k2⟩:=Spc.shut (x:=(⟨(⟨x0.vars,x0.init,x0.goal,x0.ops⟩:Tsk),w1.2.2.2,c1.1⟩:Spc)) (l0:=4) (l1:=3) (by decide) a1 h7 b0 g0 h0 y0 k0
 obtain rfl:=sm hm
 replace hB:=(((((hB.st e0).st c0).st d0).st f0).st i0).st h2
 obtain ⟨O',hS',hz,hl⟩:=hE.leave (fun q=>if q=4 then j0 else 0) rfl hB
 exact ret2 rfl (AB rfl) (AB rfl) ⟨O',hS',_,_,rfl,(Ob.leave k2 hz (hl 4 (by decide) (by decide)) hj0),(vErr (show inI64 0 from by decide))⟩
noncomputable def Ci (x0:Spc) (x1:Int) (x2:Int):Option (Rsl×Err) :=
  bnd (Ck x0.reg x1) fun q36=>if q36.2.n≠0 then (some ((⟨0,([]:List Int),0,0⟩:Rsl),(⟨q36.2.n⟩:Err))) else (bnd (rng (ρ:=Rsl×Err) (fun (k77:Nat) (a78:Int) (s75:Int)=>bnd (atI x0.t.ops a78) fun a125=>bnd (chkI (s75 + a125.cost)) fun n146=>some (.next n146)) q36.1 0 0) fun res73=>fin res73 fun (s160:Int)=>some ((⟨1,q36.1,s160,x2⟩:Rsl),(⟨0⟩:Err)))
theorem HY {w:World} {O:Lab} {p0 i0:Nat} {x0:Spc} (z0:Ob i0 w O (.pointer (some ⟨p0,0,none⟩)) x0) {x1:Int} (rx1:inI64 x1) {x2:Int} (rx2:inI64 x2) {r:Rsl×Err} (hm:Ci x0 x1 x2=some r) :
    Fn Tryz.prog 59 [(.pointer (some ⟨p0,0,none⟩)),(.int .i64 x1),(.int .i64 x2)] w fun v w'=>∃ O',St (eT i0) w O w' O'∧∃ v0 v1:Value,Ob i0 w' O' (.pointer (some ⟨p0,0,none⟩)) x0∧v=.tuple #[v0,v1]∧Vb w' (Fr 0 w' O') v0 r.1∧Vb w' (Fr 0 w' O') v1 r.2:=by
 obtain ⟨O0,hE,e3,f3⟩:=ent1 (w:=w) (O:=O) z0.2
 have z0':=Ob.leave z0 e3 f3 (j:=2) (by decide)
 have hB:Bm w O0 w O0:=Bm.refl
 refine AH Tryz.func59 rfl Tryz.ntmps59 rfl ?_
 unfold Ci at hm
 refine Al (Aj (BD 3 O0 rfl fun g4 w5 O6 S7 h8=>?_))
 refine Au rfl rfl (o_z ?_)
 refine Al (Aj (Ar rfl rfl (CI rfl rfl ?_)))
 replace z0':=z0'.st S7
 obtain ⟨O9,e5,f5,g5,h5,i5,j5,k1,g3,d1,e1,f1,g1,h1,u2,i1⟩:=Spc.opn z0' 2 4 (by decide)
 obtain ⟨k5,l5,rfl⟩:=e1.form
 obtain ⟨m5,n5,rfl⟩:=f1.form
 obtain ⟨o5,p5,rfl⟩:=g1.form
 obtain ⟨q5,r5,rfl⟩:=h1.form
 obtain ⟨s5,rfl⟩:=u2.ptr
 obtain ⟨t5,rfl,h3⟩:=i1.ptr
 refine AG rfl rfl (AE (hc:=Blk.cell (i:=4) (d1.1) rfl) rfl rfl ?_)
 refine Ar rfl rfl ?_
 obtain ⟨e0,i3,hm⟩:=bs hm
 refine Cx (O:=O9) (Hz u2 rx1 i3) rfl rfl fun u5 v5 v2 d0 j3=>?_
 obtain ⟨x5,y5,m1,rfl,c0,k3⟩:=j3
 obtain ⟨k0,m0,rfl⟩:=c0.form
 obtain ⟨rfl,l3⟩:=k3.err
 refine Ar rfl rfl (BH rfl rfl rfl (BH rfl rfl rfl (Au rfl rfl (Au rfl rfl (o_z ?_)))))
 refine Al (Al (Aj (Ar rfl rfl (ER rfl rfl (fun b2=>?_) fun b2=>?_))))
 ·
  replace hm:=ip hm b2
  refine o_z ?_
  refine Ah rfl (Al (Aj (Cw rfl rfl rfl ?_)))
  refine Ar rfl rfl ?_
  replace h8:=(h8.st k1).st d0
  refine AR h8 rfl rfl rfl (Ba rfl) (allOne rfl) fun m3 a1 h8=>?_
  replace h8:Lc 3 m3 v2 g4 32 [(.int .i64 0),(.slice none 0 0),(.int .i64 0),(.int .i64 0)]:=h8
  refine Au rfl rfl (o_z ?_)
  refine AK ?_
  replace d1:=(d1.st d0).st a1
  replace e1:=(e1.st d0).st a1
  replace f1:=(f1.st d0).st a1
  replace g1:=(g1.st d0).st a1
  replace h1:=(h1.st d0).st a1
  replace i1:=(i1.st d0).st a1
  replace m1:=m1.st a1
  obtain ⟨z5,w2,n3,o3,p3⟩:=Spc.shut (x:=x0) (l0:=2) (l1:=4) (by decide) d1 e1 f1 g1 h1 m1 i1
  obtain rfl:=sm hm
  replace hB:=((((hB.st S7).st k1).st d0).st a1).st w2
  obtain ⟨O',hS',hz,hl⟩:=hE.leave (fun q=>if q=2 then i0 else 0) rfl hB
  replace h8:=h8.st w2
  exact ret2 rfl (BM (cs:=[(.int .i64 0),(.slice none 0 0),(.int .i64 0),(.int .i64 0)]) rfl rfl h8.1.cellsAt) (AB rfl) ⟨O',hS',_,_,(Ob.leave p3 hz (hl 2 (by decide) (by decide)) z0.2),rfl,(Vb.mono (Vb.ofAgg (cs:=[(.int .i64 0),(.slice none 0 0),(.int .i64 0),(.int .i64 0)]) (x:=(⟨0,([]:List Int),0,0⟩:Rsl)) rfl ⟨_,rfl,(Vb.nil _ _),(show inI64 0 from by decide),(show inI64 0 from by decide),(show inI64 0 from by decide)⟩) hz),(vErr l3)⟩
 replace hm:=im hm b2
 refine o_z ?_
 refine Ae rfl (AO (Al (Aj (Ar rfl rfl (Ar rfl rfl (Cw rfl rfl rfl ?_))))))
 refine BD 5 v2 rfl fun n1 a6 q3 f0 a0=>?_
 refine AR a0 rfl rfl rfl (Ba rfl) (allOne rfl) fun r3 g0 a0=>?_
 replace a0:Lc 5 r3 q3 n1 32 [(.int .i64 1),(.slice k0 e0.1.length m0),(.int .i64 0),(.int .i64 x2)]:=a0
 refine o_z ?_
 refine Al (Al (Aj (Ar rfl rfl (AP rfl rfl ?_))))
 replace c0:=(c0.st f0).st g0
 have c2:e0.1.length≤9223372036854775807:=Nat.le_trans c0.len.2.1 c0.len.2.2
 have b6:inI64 (e0.1.length:Int):=rngNat c2
 refine Ar rfl rfl (o_z ?_)
 replace d1:=((d1.st d0).st f0).st g0
 replace e1:=((e1.st d0).st f0).st g0
 replace f1:=((f1.st d0).st f0).st g0
 replace g1:=((g1.st d0).st f0).st g0
 replace h1:=((h1.st d0).st f0).st g0
 replace i1:=((i1.st d0).st f0).st g0
 replace m1:=(m1.st f0).st g0
 obtain ⟨s3,b1,t3,u3,n0⟩:=Spc.shut (x:=x0) (l0:=2) (l1:=4) (by decide) d1 e1 f1 g1 h1 m1 i1
 obtain ⟨o1,d2,hm⟩:=bs hm
 refine AL (aft o1 (fun (c1:Int) (y1:Unit)=>[(6,(.pointer (some ⟨g4,0,none⟩))),(10,(.pointer (some ⟨n1,0,none⟩)))]) (fun c1 y1 w'=>∃ O':Lab,Bm w O0 w' O'∧Lc 3 w' O' g4 32 [(.int .i64 0),(.slice none 0 0),(.int .i64 0),(.int .i64 0)]∧Lc 5 w' O' n1 32 [(.int .i64 1),(.slice k0 e0.1.length m0),(.int .i64 c1),(.int .i64 x2)]∧Vb w' (Fr 0 w' O') (.slice k0 e0.1.length m0) e0.1∧Ob 2 w' O' (.pointer (some ⟨p0,0,none⟩)) x0∧inI64 c1)) ?_ ?_
 ·
  refine AN ?_
  replace hB:=(((((hB.st S7).st k1).st d0).st f0).st g0).st b1
  replace h8:=((((h8.st k1).st d0).st f0).st g0).st b1
  replace c0:=c0.st b1
  replace a0:=a0.st b1
  refine Bp (σ:=Int) (X:=Unit) (e0.1.length) d2 rfl c2 (fun (c1:Int) (y1:Unit)=>[(0,(.pointer (some ⟨p0,0,none⟩))),(6,(.pointer (some ⟨g4,0,none⟩))),(10,(.pointer (some ⟨n1,0,none⟩))),(29,(.slice k0 e0.1.length m0))]) _ (fun c1 y1 w'=>∃ O':Lab,Bm w O0 w' O'∧Ob 2 w' O' (.pointer (some ⟨p0,0,none⟩)) x0∧Lc 3 w' O' g4 32 [(.int .i64 0),(.slice none 0 0),(.int .i64 0),(.int .i64 0)]∧Lc 5 w' O' n1 32 [(.int .i64 1),(.slice k0 e0.1.length m0),(.int .i64 c1),(.int .i64 x2)]∧Vb w' (Fr 0 w' O') (.slice k0 e0.1.length m0) e0.1∧inI64 c1) _ () ⟨s3,hB,n0,h8,a0,c0,(show inI64 0 from by decide)⟩ ⟨rfl,rfl,rfl,rfl,rfl,rfl,trivial⟩ (fun _ _=>⟨rfl,rfl⟩) (fun _ _=>⟨rfl,rfl,trivial⟩) (fun _ _ _ ⟨O',hB,n0,h8,a0,c0,z1⟩=>⟨O',hB,h8,a0,c0,n0,z1⟩) ⟨rfl,rfl,rfl⟩ ⟨rfl,rfl⟩ ?_
  rintro v3 c6 c1 y1 d6 w3 p1 ⟨e6,hB,n0,h8,a0,c0,z1⟩ h0 e2 f2
  have rk77:inI64 (v3:Int):=rngK p1 c2
  refine Al (Aj ?_)
  obtain ⟨f6,g6,x3,g2,h2,i2,rfl,h6⟩:=c0.elem' p1
  refine Bi (hA:=g2) (hj:=rfl) (hlt:=h2) rfl rfl rfl ?_
  refine AE (hc:=cat0 i2) rfl rfl ?_
  refine Au rfl rfl (o_z ?_)
  obtain ⟨y2,y3,z3,a4,b4,c4,d4,a2,z2,o0,q0,r0,s0,j0,t0,u0⟩:=Spc.opn n0 2 4 (by decide)
  obtain ⟨e4,f4,rfl⟩:=q0.form
  obtain ⟨h4,i4,rfl⟩:=r0.form
  obtain ⟨j4,k4,rfl⟩:=s0.form
  obtain ⟨l4,m4,rfl⟩:=j0.form
  obtain ⟨n4,rfl⟩:=t0.ptr
  obtain ⟨o4,rfl,a3⟩:=u0.ptr
  refine BC [] y2 ?_
  refine AY (fuel:=1) [] [(0,true),(1,true),(2,true),(3,true),(4,true),(5,true),(6,true),(7,true),(8,true),(9,true),(10,true),(11,true),(12,true)] (by kernel_rfl) rfl ?_
  refine Bc rfl rfl rfl ?_
  replace a0:=a0.st a2
  refine AZ (hc:=fun w' ⟨O',hq⟩=>Blk.cell (i:=2) ((a0.st hq (by decide)).1) rfl) rfl rfl rfl ?_
  refine AJ rfl rfl rfl (Ec rfl rfl rfl (Bc rfl rfl rfl (Bc rfl rfl rfl (AZ (hc:=fun w' ⟨O',hq⟩=>Blk.cell (i:=3) ((o0.st hq (by decide)).1) rfl) rfl rfl rfl ?_))))
  refine AJ rfl rfl rfl ?_
  obtain ⟨p4,j2,h0⟩:=bs h0
  obtain ⟨k2,l2⟩:=AS j2
  obtain ⟨q4,r4,b3,q1,r1,s1,t1,s4,t4,rfl,m2,n2,u4,v4⟩:=j0.elem l2
  obtain ⟨w4,x4,rfl⟩:=m2.form
  obtain ⟨y4,z4,rfl⟩:=n2.form
  refine BP (hA:=q1) (hj:=(Int.toNat_of_nonneg k2).symm) (hlt:=s1) rfl rfl rfl rfl ?_
  refine Bc rfl rfl rfl (AZ (hc:=fun w' ⟨O',hq⟩=>cat1 (Bh (hq.agree (i:=0) (by decide)) r1 t1)) rfl rfl rfl ?_)
  obtain ⟨o2,u1,h0⟩:=bs h0
  have p2:=(AW u1)
  refine Ey (he:=u1) rfl rfl rfl rfl ?_
  refine Bc rfl rfl rfl (AM ?_)
  refine Bb (i:=13) (by kernel_rfl) rfl ?_
  refine AR a0 rfl rfl rfl (Ba rfl) (allOne rfl) fun q2 b0 a0=>?_
  replace a0:Lc 5 q2 y2 n1 32 [(.int .i64 1),(.slice k0 e0.1.length m0),(.int .i64 o2),(.int .i64 x2)]:=a0
  refine Dm (by kernel_rfl) ?_
  refine Cn (by kernel_rfl) ?_
  replace o0:=o0.st b0
  replace q0:=q0.st b0
  replace r0:=r0.st b0
  replace s0:=s0.st b0
  replace j0:=j0.st b0
  replace t0:=t0.st b0
  replace u0:=u0.st b0
  obtain ⟨a5,w0,c3,d3,r2⟩:=Spc.shut (x:=x0) (l0:=2) (l1:=4) (by decide) o0 q0 r0 s0 j0 t0 u0
  obtain rfl:=sm h0
  exact show Exists _ from ⟨_,(),rfl,⟨rfl,rfl,rfl,rfl,rfl,rfl,trivial⟩,_,((hB.st a2).st b0).st w0,r2,((h8.st a2).st b0).st w0,a0.st w0,((c0.st a2).st b0).st w0,p2⟩
 replace hB:=(((((hB.st S7).st k1).st d0).st f0).st g0).st b1
 replace h8:=((((h8.st k1).st d0).st f0).st g0).st b1
 replace c0:=c0.st b1
 replace a0:=a0.st b1
 rintro b5 c5 ⟨y0,d5,rfl,w1,s2,hB,h8,a0,c0,n0,z1⟩
 replace hm:=AV hm
 refine AQ _ w1 ?_
 refine Al (Aj (Bk (hl:=rfl) (hc:=(a0.1).cellsAt) rfl rfl ?_))
 refine AR h8 rfl rfl rfl (Ba rfl) (allOne rfl) fun t2 j1 h8=>?_
 replace h8:Lc 3 t2 s2 g4 32 [(.int .i64 1),(.slice k0 e0.1.length m0),(.int .i64 y0),(.int .i64 x2)]:=h8
 refine Au rfl rfl (o_z ?_)
 refine AK ?_
 obtain rfl:=sm hm
 replace hB:=hB.st j1
 obtain ⟨O',hS',hz,hl⟩:=hE.leave (fun q=>if q=2 then i0 else 0) rfl hB
 replace c0:=c0.st j1
 replace n0:=n0.st j1
 exact ret2 rfl (BM (cs:=[(.int .i64 1),(.slice k0 e0.1.length m0),(.int .i64 y0),(.int .i64 x2)]) rfl rfl h8.1.cellsAt) (AB rfl) ⟨O',hS',_,_,(Ob.leave n0 hz (hl 2 (by decide) (by decide)) z0.2),rfl,(Vb.mono (Vb.ofAgg (cs:=[(.int .i64 1),(.slice k0 e0.1.length m0),(.int .i64 y0),(.int .i64 x2)]) (x:=(⟨1,e0.1,y0,x2⟩:Rsl)) rfl ⟨_,rfl,c0,(show inI64 (1) from by decide),z1,rx2⟩) hz),(vErr (show inI64 0 from by decide))⟩
noncomputable def Cl (x0:Int) (x1:Int):Option (Rsl×Err) :=
  some ((⟨x0,([]:List Int),0,x1⟩:Rsl),(⟨0⟩:Err))
theorem FT {w:World} {A:Nat→Prop} (hA:∀ k,A k→k < w.heap.size) {x0:Int} (rx0:inI64 x0) {x1:Int} (rx1:inI64 x1) {r:Rsl×Err} (hm:Cl x0 x1=some r) :
    Fn Tryz.prog 60 [(.int .i64 x0),(.int .i64 x1)] w fun v w'=>Ext w w'∧T2 w' (upA A w w') v r:=by
 obtain ⟨O,hB,a0⟩:=enter hA
 refine AH Tryz.func60 rfl Tryz.ntmps60 rfl ?_
 unfold Cl at hm
 refine Al (Aj (BD 2 O rfl fun g3 w4 O5 S6 h7=>?_))
 refine Au rfl rfl (o_z ?_)
 refine Al (Aj (Ar rfl rfl (Ar rfl rfl (Cw rfl rfl rfl ?_))))
 refine AR h7 rfl rfl rfl (Ba rfl) (allOne rfl) fun w8 S9 h7=>?_
 replace h7:Lc 2 w8 O5 g3 32 [(.int .i64 x0),(.slice none 0 0),(.int .i64 0),(.int .i64 x1)]:=h7
 refine Au rfl rfl (o_z ?_)
 refine AK ?_
 obtain rfl:=sm hm
 replace hB:=(hB.st S6).st S9
 exact ret2 rfl (BM (cs:=[(.int .i64 x0),(.slice none 0 0),(.int .i64 0),(.int .i64 x1)]) rfl rfl h7.1.cellsAt) (AB rfl) ⟨hB.ext,_,_,rfl,(Vb.mono (F:=Fr 0 w8 O5) (Vb.ofAgg (cs:=[(.int .i64 x0),(.slice none 0 0),(.int .i64 0),(.int .i64 x1)]) (x:=(⟨x0,([]:List Int),0,x1⟩:Rsl)) rfl ⟨_,rfl,(Vb.nil _ _),rx0,(show inI64 0 from by decide),rx1⟩) hB.out),(vErr (show inI64 0 from by decide))⟩
noncomputable def Cf (x0:Tsk) (x1:Int):Option (Rsl×Err) :=
  bnd (Db x0) fun q30=>if q30.2.n≠0 then (some ((⟨0,([]:List Int),0,0⟩:Rsl),(⟨q30.2.n⟩:Err))) else (bnd q30.1 fun o68=>bnd (lop (ρ:=Rsl×Err) (fun (s78:(List Int)×(List Bool)×Int×Int×Spc×(BxR 99 97 Itm))=>bnd (BF s78.2.2.2.2.2.l) fun q116=>if 0 < q116 then (bnd (Ct s78.2.2.2.2.2) fun q130=>bnd (atI s78.2.1 q130.1.x.id) fun a152=>if a152=true then (some (.next (s78.1,s78.2.1,s78.2.2.1,s78.2.2.2.1,s78.2.2.2.2.1,q130.2))) else (bnd (BU s78.2.2.2.2.1.reg q130.1.x.id) fun q191=>if q191.2.n≠0 then (some (.ret ((⟨0,([]:List Int),0,0⟩:Rsl),(⟨q191.2.n⟩:Err)))) else (bnd (DJ x0.goal q191.1) fun q209=>if q209=true then bnd (Ci s78.2.2.2.2.1 q130.1.x.id s78.2.2.2.1) fun q581=>some (.ret (q581.1,(⟨q581.2.n⟩:Err))) else if x1≤s78.2.2.2.1 then (bnd (Cl 3 s78.2.2.2.1) fun q217=>some (.ret (q217.1,(⟨q217.2.n⟩:Err)))) else (bnd (atI s78.2.1 q130.1.x.id) fun a239=>bnd (chkI (s78.2.2.2.1 + 1)) fun n252=>bnd (Br s78.2.2.2.2.1.gen q191.1) fun q255=>bnd (rng (ρ:=Ctl ((List Int)×(List Bool)×Int×Int×Spc×(BxR 99 97 Itm)) (Rsl×Err)) (fun (k275:Nat) (a276:Suc) (s273:(List Int)×(List Bool)×Int×Spc×(BxR 99 97 Itm))=>bnd (BK s273.2.2.2.1.reg a276.state) fun q346=>if q346.2.2.1.n≠0 then (bnd (Cl 3 n252) fun q363=>some (.ret (.ret (q363.1,(⟨q363.2.n⟩:Err))))) else (bnd (atI x0.ops a276.op) fun a385=>bnd (chkI (q130.1.x.cost + a385.cost)) fun n406=>bnd (if q346.2.1=true then (bnd (appI 8 s273.1 [n406]) fun u418=>bnd (appI 1 s273.2.1 [false]) fun u430=>some (.done (u418,u430))) else (bnd (bnd (atI s273.2.1 q346.1) fun a451=>if a451=true then (some true) else (bnd (atI s273.1 q346.1) fun a468=>if a468≤n406 then (some true) else (some false)):Option Bool) fun y447=>if y447=true then (some (.ret (.next (s273.1,s273.2.1,s273.2.2.1,(⟨(⟨s273.2.2.2.1.t.vars,s273.2.2.2.1.t.init,s273.2.2.2.1.t.goal,s273.2.2.2.1.t.ops⟩:Tsk),q346.2.2.2,s273.2.2.2.1.gen⟩:Spc),s273.2.2.2.2)))) else (some (.done (s273.1,s273.2.1)))):Option (Fin ((List Int)×(List Bool)) (Ctl ((List Int)×(List Bool)×Int×Spc×(BxR 99 97 Itm)) (Ctl ((List Int)×(List Bool)×Int×Int×Spc×(BxR 99 97 Itm)) (Rsl×Err))))) fun y409=>fin y409 fun (s411:(List Int)×(List Bool))=>bnd (atI s411.1 q346.1) fun a500=>bnd (BL ((⟨(⟨s273.2.2.2.1.t.vars,s273.2.2.2.1.t.init,s273.2.2.2.1.t.goal,s273.2.2.2.1.t.ops⟩:Tsk),q346.2.2.2,s273.2.2.2.1.gen⟩:Spc).reg) q346.1 q130.1.x.id a276.op n406) fun q541=>if q541.1.n≠0 then (some (.ret (.ret ((⟨0,([]:List Int),0,0⟩:Rsl),(⟨q541.1.n⟩:Err))))) else (bnd (Cq s273.2.2.2.2 (⟨(⟨n406,s273.2.2.1,q346.1⟩:Itm)⟩:An 97 Itm)) fun q554=>bnd (chkI (s273.2.2.1 + 1)) fun n562=>some (.next ((s411.1.set (q346.1:Int).toNat n406),s411.2,n562,(⟨(⟨(⟨(⟨s273.2.2.2.1.t.vars,s273.2.2.2.1.t.init,s273.2.2.2.1.t.goal,s273.2.2.2.1.t.ops⟩:Tsk),q346.2.2.2,s273.2.2.2.1.gen⟩:Spc).t.vars,(⟨(⟨s273.2.2.2.1.t.vars,s273.2.2.2.1.t.init,s273.2.2.2.1.t.goal,s273.2.2.2.1.t.ops⟩:Tsk),q346.2.2.2,s273.2.2.2.1.gen⟩:Spc).t.init,(⟨(⟨s273.2.2.2.1.t.vars,s273.2.2.2.1.t.init,s273.2.2.2.1.t.goal,s273.2.2.2.1.t.ops⟩:Tsk),q346.2.2.2,s273.2.2.2.1.gen⟩:Spc).t.goal,(⟨(⟨s273.2.2.2.1.t.vars,s273.2.2.2.1.t.init,s273.2.2.2.1.t.goal,s273.2.2.2.1.t.ops⟩:Tsk),q346.2.2.2,s273.2.2.2.1.gen⟩:Spc).t.ops⟩:Tsk),q541.2,(⟨(⟨s273.2.2.2.1.t.vars,s273.2.2.2.1.t.init,s273.2.2.2.1.t.goal,s273.2.2.2.1.t.ops⟩:Tsk),q346.2.2.2,s273.2.2.2.1.gen⟩:Spc).gen⟩:Spc),q554))))) q255 0 (s78.1,(s78.2.1.set (q130.1.x.id:Int).toNat true),s78.2.2.1,s78.2.2.2.2.1,q130.2)) fun res271=>fin res271 fun (s574:(List Int)×(List Bool)×Int×Spc×(BxR 99 97 Itm))=>some (.next (s574.1,s574.2.1,s574.2.2.1,n252,s574.2.2.2.1,s574.2.2.2.2)))))) else (some (.brk (s78.1,s78.2.1,s78.2.2.1,s78.2.2.2.1,s78.2.2.2.2.1,s78.2.2.2.2.2)))) (([0]:List Int),[false],1,0,o68,(⟨[(⟨0,0,0⟩:Itm)]⟩:BxR 99 97 Itm))) fun res76=>fin res76 fun (s613:(List Int)×(List Bool)×Int×Int×Spc×(BxR 99 97 Itm))=>bnd (Cl 2 s613.2.2.2.1) fun q615=>some (q615.1,(⟨q615.2.n⟩:Err)))
theorem Kf {w:World} {A:Nat→Prop} (hA:∀ k,A k→k < w.heap.size) {vx0:Value} {x0:Tsk} (v8:Vb w A vx0 x0) {x1:Int} (rx1:inI64 x1) {r:Rsl×Err} (hm:Cf x0 x1=some r) :
    Fn Tryz.prog 31 [vx0,(.int .i64 x1)] w fun v w'=>Ext w w'∧T2 w' (upA A w w') v r:=by
 obtain ⟨O,hB,fF⟩:=enter hA
 replace v8:=v8.mono fF
 obtain ⟨oM,rfl,v4,v5,v6,v7,rfl,h8,n1,j1,o1⟩:=v8
 obtain ⟨A9,n3,rfl⟩:=h8.form
 obtain ⟨o3,p3,rfl⟩:=n1.form
 obtain ⟨q3,r3,rfl⟩:=j1.form
 obtain ⟨s3,t3,rfl⟩:=o1.form
 refine AH Tryz.func31 rfl Tryz.ntmps31 rfl ?_
 unfold Cf at hm
 refine Al (Aj (Da 2 O rfl rfl fun w3 gF pD d5 k1=>?_))
 replace k1:Lc 2 gF pD w3 26 [(.slice A9 x0.vars.length n3),(.slice o3 x0.init.length p3),(.slice q3 x0.goal.length r3),(.slice s3 x0.ops.length t3)]:=k1
 refine BD 3 pD rfl fun u2 pM hF z4 h0=>?_
 refine Au rfl rfl (o_z ?_)
 refine Al (Aj ?_)
 replace k1:=k1.st z4
 refine Bk (hl:=rfl) (hc:=(k1.1).cellsAt) rfl rfl ?_
 obtain ⟨qM,jF,hm⟩:=bs hm
 replace h8:=(h8.st d5).st z4
 replace n1:=(n1.st d5).st z4
 replace j1:=(j1.st d5).st z4
 replace o1:=(o1.st d5).st z4
 refine Cx (O:=hF) (Lm (Vb.ofAgg (cs:=[(.slice A9 x0.vars.length n3),(.slice o3 x0.init.length p3),(.slice q3 x0.goal.length r3),(.slice s3 x0.ops.length t3)]) (x:=x0) rfl ⟨_,_,_,_,rfl,h8,n1,j1,o1⟩) 4 (by decide) jF) rfl rfl fun rM sM w8 x3 kF=>?_
 obtain ⟨tM,uM,rfl,e5,lF⟩:=kF
 obtain ⟨rfl,mF⟩:=lF.err
 refine Ar rfl rfl (BH rfl rfl rfl (BH rfl rfl rfl (Au rfl rfl (Au rfl rfl (o_z ?_)))))
 refine Al (Al (Aj (Ar rfl rfl (ER rfl rfl (fun x8=>?_) fun x8=>?_))))
 ·
  replace hm:=ip hm x8
  refine o_z ?_
  refine Ah rfl (Al (Aj (Cw rfl rfl rfl ?_)))
  refine Ar rfl rfl ?_
  replace h0:=h0.st x3
  refine AR h0 rfl rfl rfl (Ba rfl) (allOne rfl) fun qD nF h0=>?_
  replace h0:Lc 3 qD w8 u2 32 [(.int .i64 0),(.slice none 0 0),(.int .i64 0),(.int .i64 0)]:=h0
  refine Au rfl rfl (o_z ?_)
  refine AK ?_
  obtain rfl:=sm hm
  replace hB:=(((hB.st d5).st z4).st x3).st nF
  exact ret2 rfl (BM (cs:=[(.int .i64 0),(.slice none 0 0),(.int .i64 0),(.int .i64 0)]) rfl rfl h0.1.cellsAt) (AB rfl) ⟨hB.ext,_,_,rfl,(Vb.mono (F:=Fr 0 qD w8) (Vb.ofAgg (cs:=[(.int .i64 0),(.slice none 0 0),(.int .i64 0),(.int .i64 0)]) (x:=(⟨0,([]:List Int),0,0⟩:Rsl)) rfl ⟨_,rfl,(Vb.nil _ _),(show inI64 0 from by decide),(show inI64 0 from by decide),(show inI64 0 from by decide)⟩) hB.out),(vErr mF)⟩
 replace hm:=im hm x8
 refine o_z ?_
 refine Ae rfl (AO (Al (Aj (Bv 5 (by decide) w8 (xs:=(([0]:List Int):List Int)) rfl rfl rfl rfl ⟨(vInt (show inI64 (0) from by decide)),trivial⟩ (by decide) (by decide) rfl fun oF vM pF f4 y8=>?_))))
 refine Bv 6 (by decide) pF (xs:=([false]:List Bool)) rfl rfl rfl rfl ⟨vBool,trivial⟩ (by decide) (by decide) rfl fun qF wM rF y3 z8=>?_
 refine Au rfl rfl (Au rfl rfl (o_z ?_))
 refine Al (Aj (Cw rfl rfl rfl ?_))
 refine Bv 7 (by decide) rF (xs:=([(⟨0,0,0⟩:Itm)]:List Itm)) rfl rfl rfl rfl ⟨(Vb.ofAgg (cs:=[(.int .i64 0),(.int .i64 0),(.int .i64 0)]) (x:=(⟨0,0,0⟩:Itm)) rfl ⟨rfl,(show inI64 0 from by decide),(show inI64 0 from by decide),(show inI64 0 from by decide)⟩),trivial⟩ (by decide) (by decide) rfl fun xM yM sF u3 a9=>?_
 refine Da 8 sF rfl rfl fun g4 zM aN f3 tF=>?_
 refine Au rfl rfl (o_z ?_)
 refine Al (Aj (Au rfl rfl (Au rfl rfl (o_z ?_))))
 refine Al ?_
 obtain ⟨bN,uF,hm⟩:=bs hm
 replace e5:=(((e5.st f4).st y3).st u3).st f3
 rw [uF] at e5
 obtain ⟨h4,rfl⟩:=Ob.ptr e5
 replace a9:=a9.st f3
 obtain ⟨vF,v3,wF,xF,yF⟩:=BxR.shut (x:=(⟨[(⟨0,0,0⟩:Itm)]⟩:BxR 99 97 Itm)) (l0:=8) (l1:=7) (by decide) tF a9
 obtain ⟨i6,b9,hm⟩:=bs hm
 refine AL (aft i6 (fun (l2:(List Int)×(List Bool)×Int×Int×Spc×(BxR 99 97 Itm)) (o2:(Option Addr×Nat)×(Option Addr×Nat))=>[(4,(.pointer (some ⟨u2,0,none⟩))),(12,(.int .i64 l2.2.2.2.1))]) (fun l2 o2 w'=>∃ O':Lab,Bs w A w' O'∧Lc 3 w' O' u2 32 [(.int .i64 0),(.slice none 0 0),(.int .i64 0),(.int .i64 0)]∧inI64 l2.2.2.1∧inI64 l2.2.2.2.1)) ?_ ?_
 ·
  refine AN ?_
  replace hB:=(((((((hB.st d5).st z4).st x3).st f4).st y3).st u3).st f3).st v3
  replace h8:=(((((h8.st x3).st f4).st y3).st u3).st f3).st v3
  replace n1:=(((((n1.st x3).st f4).st y3).st u3).st f3).st v3
  replace j1:=(((((j1.st x3).st f4).st y3).st u3).st f3).st v3
  replace o1:=(((((o1.st x3).st f4).st y3).st u3).st f3).st v3
  replace k1:=(((((k1.st x3).st f4).st y3).st u3).st f3).st v3
  replace h0:=(((((h0.st x3).st f4).st y3).st u3).st f3).st v3
  replace e5:=e5.st v3
  replace y8:=(((y8.st y3).st u3).st f3).st v3
  replace z8:=((z8.st u3).st f3).st v3
  refine Gz (σ:=(List Int)×(List Bool)×Int×Int×Spc×(BxR 99 97 Itm)) (X:=(Option Addr×Nat)×(Option Addr×Nat)) b9 (fun (l2:(List Int)×(List Bool)×Int×Int×Spc×(BxR 99 97 Itm)) (o2:(Option Addr×Nat)×(Option Addr×Nat))=>[(1,(.int .i64 x1)),(2,(.pointer (some ⟨w3,0,none⟩))),(4,(.pointer (some ⟨u2,0,none⟩))),(6,(.pointer (some ⟨h4,0,none⟩))),(8,(.slice o2.1.1 l2.1.length o2.1.2)),(9,(.slice o2.2.1 l2.2.1.length o2.2.2)),(10,(.pointer (some ⟨g4,0,none⟩))),(11,(.int .i64 l2.2.2.1)),(12,(.int .i64 l2.2.2.2.1))]) _ (fun l2 o2 w'=>∃ O':Lab,Bs w A w' O'∧Lc 2 w' O' w3 26 [(.slice A9 x0.vars.length n3),(.slice o3 x0.init.length p3),(.slice q3 x0.goal.length r3),(.slice s3 x0.ops.length t3)]∧Vb w' (Fr 0 w' O') (.slice A9 x0.vars.length n3) x0.vars∧Vb w' (Fr 0 w' O') (.slice o3 x0.init.length p3) x0.init∧Vb w' (Fr 0 w' O') (.slice q3 x0.goal.length r3) x0.goal∧Vb w' (Fr 0 w' O') (.slice s3 x0.ops.length t3) x0.ops∧Lc 3 w' O' u2 32 [(.int .i64 0),(.slice none 0 0),(.int .i64 0),(.int .i64 0)]∧Ob 4 w' O' (.pointer (some ⟨h4,0,none⟩)) l2.2.2.2.2.1∧Rw 5 w' O' 3 (.slice o2.1.1 l2.1.length o2.1.2) l2.1∧Rw 6 w' O' 4 (.slice o2.2.1 l2.2.1.length o2.2.2) l2.2.1∧Ob 8 w' O' (.pointer (some ⟨g4,0,none⟩)) l2.2.2.2.2.2∧inI64 l2.2.2.1∧inI64 l2.2.2.2.1) _ (((some ⟨oF,0,none⟩),1),((some ⟨qF,0,none⟩),1)) ⟨vF,hB,k1,h8,n1,j1,o1,h0,e5,y8,z8,yF,(show inI64 (1) from by decide),(show inI64 (0) from by decide)⟩ ⟨rfl,rfl,rfl,rfl,rfl,rfl,rfl,rfl,rfl,trivial⟩ ?_
  rintro l2 o2 zF aG ⟨cN,hB,k1,h8,n1,j1,o1,h0,i4,t8,m2,c9,j4,g3⟩ f0 p2 f5
  refine Al (Al (Aj (Ar rfl rfl (CI rfl rfl ?_))))
  obtain ⟨d9,bG,o0,rD,w2,v2⟩:=BxR.opn c9 8 9 (by decide)
  obtain ⟨cG,dG,rfl⟩:=v2.form
  refine AE (hc:=Blk.cell (i:=0) (w2.1) rfl) rfl rfl ?_
  obtain ⟨e9,f9,f0⟩:=bs f0
  refine BE (O:=d9) (A:=All zF) (R:=fun w' F v=>Vb w' F v e9) (Fk (fun _ h=>h) (v2).all f9) rfl rfl fun eG fG gG j0 g9=>?_
  obtain ⟨rfl,hG⟩:=g9.int
  refine Ce rfl rfl rfl (fun g5=>?_) fun g5=>?_
  ·
   replace f0:=ip f0 g5
   refine o_z ?_
   refine Ah rfl (AO (AN (Al (Aj (Ar rfl rfl (Mv rfl rfl ?_))))))
   replace w2:=w2.st j0
   replace v2:=v2.st j0
   obtain ⟨h9,r0,sD,tD,i9⟩:=BxR.shut (x:=l2.2.2.2.2.2) (l0:=8) (l1:=9) (by decide) w2 v2
   obtain ⟨c2,j9,f0⟩:=bs f0
   refine Cx (O:=h9) (ID i9 j9) rfl rfl fun iG jG k9 s0 l9=>?_
   obtain ⟨k4,m9⟩:=l9
   obtain ⟨kG,rfl,n9⟩:=m9.any
   obtain ⟨uD,rfl,rfl,lG,mG,h5⟩:=n9
   refine QX rfl rfl ?_
   refine Ar rfl rfl (BH rfl rfl rfl (BH rfl rfl rfl (BD 10 k9 rfl fun x2 nG o9 p0 n0=>?_)))
   refine AR n0 rfl rfl rfl (Ba rfl) (allOne rfl) fun p9 q0 n0=>?_
   replace n0:Lc 10 p9 o9 x2 97 [(.int .i64 c2.1.x.cost),(.int .i64 c2.1.x.order),(.int .i64 c2.1.x.id)]:=n0
   refine Au rfl rfl (o_z ?_)
   refine Al (Al (Aj (Ar rfl rfl (AG rfl rfl (AE (hc:=Blk.cell (i:=2) (n0.1) rfl) rfl rfl ?_)))))
   obtain ⟨oG,q9,f0⟩:=bs f0
   obtain ⟨r9,s9⟩:=AS q9
   replace m2:=(((((m2.st o0).st j0).st r0).st s0).st p0).st q0
   obtain ⟨pG,qG,vD,j6,k6,l6,rfl⟩:=m2.elem s9
   refine Bi (hA:=j6) (hj:=(Int.toNat_of_nonneg r9).symm) (hlt:=k6) rfl rfl rfl ?_
   refine AE (hc:=cat0 l6) rfl rfl ?_
   refine o_z ?_
   refine CN rfl (fun i5=>?_) (fun i5=>?_)
   ·
    replace f0:=ip f0 i5
    refine DN ?_
    obtain rfl:=sm f0
    exact show Exists _ from ⟨_,((o2.1.1,o2.1.2),(o2.2.1,o2.2.2)),rfl,⟨rfl,rfl,rfl,rfl,rfl,rfl,rfl,rfl,rfl,trivial⟩,_,(((((hB.st o0).st j0).st r0).st s0).st p0).st q0,(((((k1.st o0).st j0).st r0).st s0).st p0).st q0,(((((h8.st o0).st j0).st r0).st s0).st p0).st q0,(((((n1.st o0).st j0).st r0).st s0).st p0).st q0,(((((j1.st o0).st j0).st r0).st s0).st p0).st q0,(((((o1.st o0).st j0).st r0).st s0).st p0).st q0,(((((h0.st o0).st j0).st r0).st s0).st p0).st q0,(((((i4.st o0).st j0).st r0).st s0).st p0).st q0,(((((t8.st o0).st j0).st r0).st s0).st p0).st q0,m2,(k4.st p0).st q0,j4,g3⟩
   replace f0:=im' f0 i5
   refine AO (Al ?_)
   replace i4:=(((((i4.st o0).st j0).st r0).st s0).st p0).st q0
   obtain ⟨m6,rG,sG,tG,uG,vG,wG,y0,wD,q2,y2,z2,a3,b3,n6,r2⟩:=Spc.opn i4 4 11 (by decide)
   obtain ⟨xG,yG,rfl⟩:=y2.form
   obtain ⟨zG,aH,rfl⟩:=z2.form
   obtain ⟨bH,cH,rfl⟩:=a3.form
   obtain ⟨dH,eH,rfl⟩:=b3.form
   obtain ⟨fH,rfl⟩:=n6.ptr
   obtain ⟨gH,rfl,xD⟩:=r2.ptr
   refine BC [(6,[11])] m6 ?_
   refine AY (fuel:=6) [] [(0,true),(1,true),(2,true),(3,true),(4,true),(5,true)] (by kernel_rfl) rfl ?_
   refine AJ rfl rfl rfl (Ec rfl rfl rfl (Bc rfl rfl rfl (AZ (hc:=fun w' ⟨O',hq⟩=>Blk.cell (i:=4) ((q2.st hq (by decide)).1) rfl) rfl rfl rfl ?_)))
   refine Bc rfl rfl rfl ?_
   replace n0:=n0.st y0
   refine AZ (hc:=fun w' ⟨O',hq⟩=>Blk.cell (i:=2) ((n0.st hq (by decide)).1) rfl) rfl rfl rfl ?_
   refine AM ?_
   refine Bb (i:=6) (by kernel_rfl) rfl ?_
   obtain ⟨hH,t9,f0⟩:=bs f0
   refine Cx (O:=m6) (Hf n6 h5 t9) rfl rfl fun iH j5 z3 k0 u9=>?_
   obtain ⟨jH,kH,h3,rfl,a4,v9⟩:=u9
   obtain ⟨lH,mH,rfl⟩:=a4.form
   obtain ⟨rfl,w9⟩:=v9.err
   have hZ:=k0.lst [11] (fun _ h=>by cases h;decide)
   refine BG [] hZ (by kernel_rfl) ?_
   refine AY (fuel:=0) [] [(7,true),(8,true),(9,true),(10,true),(11,true)] (by kernel_rfl) rfl ?_
   refine AJ rfl rfl rfl (Kx rfl rfl rfl rfl (Kx rfl rfl rfl rfl (De rfl rfl rfl (De rfl rfl rfl (AM ?_)))))
   refine Cn (by kernel_rfl) ?_
   refine Al (Al (Aj (Ar rfl rfl (ER rfl rfl (fun k5=>?_) fun k5=>?_))))
   ·
    replace f0:=ip f0 k5
    refine o_z ?_
    refine Ah rfl (Al (Aj (Cw rfl rfl rfl ?_)))
    refine Ar rfl rfl ?_
    replace h0:=(((((((h0.st o0).st j0).st r0).st s0).st p0).st q0).st y0).st k0
    refine AR h0 rfl rfl rfl (Ba rfl) (allOne rfl) fun o6 x9 h0=>?_
    replace h0:Lc 3 o6 z3 u2 32 [(.int .i64 0),(.slice none 0 0),(.int .i64 0),(.int .i64 0)]:=h0
    refine Au rfl rfl (o_z ?_)
    refine AK ?_
    obtain rfl:=sm f0
    obtain rfl:=p2 _ rfl
    obtain rfl:=sm (Dc hm)
    replace hB:=((((((((hB.st o0).st j0).st r0).st s0).st p0).st q0).st y0).st k0).st x9
    exact ret2 rfl (BM (cs:=[(.int .i64 0),(.slice none 0 0),(.int .i64 0),(.int .i64 0)]) rfl rfl h0.1.cellsAt) (AB rfl) ⟨hB.ext,_,_,rfl,(Vb.mono (F:=Fr 0 o6 z3) (Vb.ofAgg (cs:=[(.int .i64 0),(.slice none 0 0),(.int .i64 0),(.int .i64 0)]) (x:=(⟨0,([]:List Int),0,0⟩:Rsl)) rfl ⟨_,rfl,(Vb.nil _ _),(show inI64 0 from by decide),(show inI64 0 from by decide),(show inI64 0 from by decide)⟩) hB.out),(vErr w9)⟩
   replace f0:=im f0 k5
   refine o_z ?_
   refine Ae rfl (AO (Al (Al (Aj (AG rfl rfl ?_)))))
   replace k1:=(((((((k1.st o0).st j0).st r0).st s0).st p0).st q0).st y0).st k0
   refine AE (hc:=Blk.cell (i:=2) (k1.1) rfl) rfl rfl ?_
   refine Ar rfl rfl ?_
   obtain ⟨p6,y9,f0⟩:=bs f0
   replace j1:=(((((((j1.st o0).st j0).st r0).st s0).st p0).st q0).st y0).st k0
   refine BE (O:=z3) (A:=All j5) (R:=fun w' F v=>Vb w' F v p6) (Ju (fun _ h=>h) (Vb.mono (F:=Fr 0 j5 z3) j1 Fr.lt) (Vb.mono (F:=Fr 0 j5 z3) a4 Fr.lt) y9) rfl rfl fun nH oH q6 i0 z9=>?_
   obtain rfl:=z9.bool
   cases p6
   case false =>
    replace f0:=iF f0
    refine o_z ?_
    refine Ae rfl (AO (Al (Al (Aj (Ar rfl rfl (Ar rfl rfl (Ha rfl rfl rfl (fun l5=>?_) fun l5=>?_)))))))
    ·
     replace f0:=ip f0 l5
     refine o_z ?_
     refine Ah rfl (Al (Aj (Ar rfl rfl ?_)))
     obtain ⟨t1,aA,f0⟩:=bs f0
     refine Dl (O:=q6) (R:=fun w' F v=>T2 w' F v t1) (FT Fr.lt (show inI64 (3) from by decide) g3 aA) rfl rfl fun pH qH r6 s6 bA=>?_
     obtain ⟨rH,sH,rfl,cA,dA⟩:=bA
     obtain ⟨yD,rfl,tH,rfl,l4,eA,fA,gA⟩:=cA
     obtain ⟨m5,n5,rfl⟩:=l4.form
     obtain ⟨rfl,iA⟩:=dA.err
     refine BH rfl rfl rfl (BH rfl rfl rfl ?_)
     replace h0:=(((((((((h0.st o0).st j0).st r0).st s0).st p0).st q0).st y0).st k0).st i0).st s6
     refine AR h0 rfl rfl rfl (Ba rfl) (allOne rfl) fun t6 u6 h0=>?_
     replace h0:Lc 3 t6 r6 u2 32 [(.int .i64 t1.1.verdict),(.slice m5 t1.1.plan.length n5),(.int .i64 t1.1.cost),(.int .i64 t1.1.expanded)]:=h0
     refine Au rfl rfl (o_z ?_)
     refine AK ?_
     obtain rfl:=sm f0
     obtain rfl:=p2 _ rfl
     obtain rfl:=sm (Dc hm)
     replace hB:=((((((((((hB.st o0).st j0).st r0).st s0).st p0).st q0).st y0).st k0).st i0).st s6).st u6
     replace l4:=l4.st u6
     exact ret2 rfl (BM (cs:=[(.int .i64 t1.1.verdict),(.slice m5 t1.1.plan.length n5),(.int .i64 t1.1.cost),(.int .i64 t1.1.expanded)]) rfl rfl h0.1.cellsAt) (AB rfl) ⟨hB.ext,_,_,rfl,(Vb.mono (F:=Fr 0 t6 r6) (Vb.ofAgg (cs:=[(.int .i64 t1.1.verdict),(.slice m5 t1.1.plan.length n5),(.int .i64 t1.1.cost),(.int .i64 t1.1.expanded)]) (x:=t1.1) rfl ⟨_,rfl,l4,eA,fA,gA⟩) hB.out),(vErr iA)⟩
    replace f0:=im f0 l5
    refine o_z ?_
    refine Ae rfl (AO (Al (Aj (Ar rfl rfl (AG rfl rfl ?_)))))
    replace n0:=(n0.st k0).st i0
    refine AE (hc:=Blk.cell (i:=2) (n0.1) rfl) rfl rfl ?_
    obtain ⟨uH,jA,f0⟩:=bs f0
    obtain ⟨kA,w6⟩:=AS jA
    replace m2:=((m2.st y0).st k0).st i0
    obtain ⟨vH,wH,zD,a5,x6,aE,rfl⟩:=m2.elem w6
    refine Bi (hA:=a5) (hj:=(Int.toNat_of_nonneg kA).symm) (hlt:=x6) rfl rfl rfl ?_
    refine CW rfl m2 (a:=true) vBool a5 rfl rfl (AD w6) fun xH u0 m2=>?_
    refine o_z ?_
    refine Al (Aj (Ar rfl rfl ?_))
    obtain ⟨m4,y6,f0⟩:=bs f0
    have z6:=(AW y6)
    refine Dv (he:=y6) rfl rfl rfl ?_
    refine Au rfl rfl (o_z ?_)
    refine Al (Aj (Ar rfl rfl (CI rfl rfl (AG rfl rfl ?_))))
    replace q2:=((q2.st k0).st i0).st u0
    refine AE (hc:=Blk.cell (i:=5) (q2.1) rfl) rfl rfl ?_
    refine Ar rfl rfl ?_
    obtain ⟨p1,lA,f0⟩:=bs f0
    replace r2:=((r2.st k0).st i0).st u0
    replace a4:=(a4.st i0).st u0
    refine Dl (O:=q6) (R:=fun w' F v=>Vb w' F v p1) (Gn Fr.lt r2 a4 lA) rfl rfl fun yH zH aI v0 z0=>?_
    obtain ⟨i3,j3,rfl⟩:=z0.form
    refine AP rfl rfl ?_
    have o5:p1.length≤9223372036854775807:=Nat.le_trans z0.len.2.1 z0.len.2.2
    have bI:inI64 (p1.length:Int):=rngNat o5
    refine Ar rfl rfl (o_z ?_)
    replace q2:=q2.st v0
    replace y2:=(((y2.st k0).st i0).st u0).st v0
    replace z2:=(((z2.st k0).st i0).st u0).st v0
    replace a3:=(((a3.st k0).st i0).st u0).st v0
    replace b3:=(((b3.st k0).st i0).st u0).st v0
    replace r2:=r2.st v0
    replace h3:=((h3.st i0).st u0).st v0
    obtain ⟨mA,e1,bE,cE,nA⟩:=Spc.shut (x:=l2.2.2.2.2.1) (l0:=4) (l1:=11) (by decide) q2 y2 z2 a3 b3 h3 r2
    obtain ⟨p5,a7,f0⟩:=bs f0
    refine AL (aft p5 (fun (a0:(List Int)×(List Bool)×Int×Spc×(BxR 99 97 Itm)) (m0:(Option Addr×Nat)×(Option Addr×Nat))=>[(1,(.int .i64 x1)),(2,(.pointer (some ⟨w3,0,none⟩))),(4,(.pointer (some ⟨u2,0,none⟩))),(6,(.pointer (some ⟨h4,0,none⟩))),(8,(.slice m0.1.1 a0.1.length m0.1.2)),(9,(.slice m0.2.1 a0.2.1.length m0.2.2)),(10,(.pointer (some ⟨g4,0,none⟩))),(11,(.int .i64 a0.2.2.1)),(12,(.int .i64 m4))]) (fun a0 m0 w'=>∃ O':Lab,Bs w A w' O'∧Lc 2 w' O' w3 26 [(.slice A9 x0.vars.length n3),(.slice o3 x0.init.length p3),(.slice q3 x0.goal.length r3),(.slice s3 x0.ops.length t3)]∧Vb w' (Fr 0 w' O') (.slice A9 x0.vars.length n3) x0.vars∧Vb w' (Fr 0 w' O') (.slice o3 x0.init.length p3) x0.init∧Vb w' (Fr 0 w' O') (.slice q3 x0.goal.length r3) x0.goal∧Vb w' (Fr 0 w' O') (.slice s3 x0.ops.length t3) x0.ops∧Lc 3 w' O' u2 32 [(.int .i64 0),(.slice none 0 0),(.int .i64 0),(.int .i64 0)]∧Ob 4 w' O' (.pointer (some ⟨h4,0,none⟩)) a0.2.2.2.1∧Rw 5 w' O' 3 (.slice m0.1.1 a0.1.length m0.1.2) a0.1∧Rw 6 w' O' 4 (.slice m0.2.1 a0.2.1.length m0.2.2) a0.2.1∧Ob 8 w' O' (.pointer (some ⟨g4,0,none⟩)) a0.2.2.2.2∧inI64 a0.2.2.1)) ?_ ?_
    ·
     refine AN ?_
     replace hB:=(((((((((((hB.st o0).st j0).st r0).st s0).st p0).st q0).st y0).st k0).st i0).st u0).st v0).st e1
     replace h8:=(((((((((((h8.st o0).st j0).st r0).st s0).st p0).st q0).st y0).st k0).st i0).st u0).st v0).st e1
     replace n1:=(((((((((((n1.st o0).st j0).st r0).st s0).st p0).st q0).st y0).st k0).st i0).st u0).st v0).st e1
     replace j1:=(((j1.st i0).st u0).st v0).st e1
     replace o1:=(((((((((((o1.st o0).st j0).st r0).st s0).st p0).st q0).st y0).st k0).st i0).st u0).st v0).st e1
     replace k1:=(((k1.st i0).st u0).st v0).st e1
     replace h0:=(((((((((((h0.st o0).st j0).st r0).st s0).st p0).st q0).st y0).st k0).st i0).st u0).st v0).st e1
     replace t8:=(((((((((((t8.st o0).st j0).st r0).st s0).st p0).st q0).st y0).st k0).st i0).st u0).st v0).st e1
     replace m2:=(m2.st v0).st e1
     replace k4:=(((((((k4.st p0).st q0).st y0).st k0).st i0).st u0).st v0).st e1
     replace n0:=((n0.st u0).st v0).st e1
     replace z0:=z0.st e1
     refine Bp (σ:=(List Int)×(List Bool)×Int×Spc×(BxR 99 97 Itm)) (X:=(Option Addr×Nat)×(Option Addr×Nat)) (p1.length) a7 rfl o5 (fun (a0:(List Int)×(List Bool)×Int×Spc×(BxR 99 97 Itm)) (m0:(Option Addr×Nat)×(Option Addr×Nat))=>[(1,(.int .i64 x1)),(2,(.pointer (some ⟨w3,0,none⟩))),(4,(.pointer (some ⟨u2,0,none⟩))),(6,(.pointer (some ⟨h4,0,none⟩))),(8,(.slice m0.1.1 a0.1.length m0.1.2)),(9,(.slice m0.2.1 a0.2.1.length m0.2.2)),(10,(.pointer (some ⟨g4,0,none⟩))),(11,(.int .i64 a0.2.2.1)),(12,(.int .i64 m4)),(13,(.pointer (some ⟨x2,0,none⟩))),(98,(.slice i3 p1.length j3))]) _ (fun a0 m0 w'=>∃ O':Lab,Bs w A w' O'∧Lc 2 w' O' w3 26 [(.slice A9 x0.vars.length n3),(.slice o3 x0.init.length p3),(.slice q3 x0.goal.length r3),(.slice s3 x0.ops.length t3)]∧Vb w' (Fr 0 w' O') (.slice A9 x0.vars.length n3) x0.vars∧Vb w' (Fr 0 w' O') (.slice o3 x0.init.length p3) x0.init∧Vb w' (Fr 0 w' O') (.slice q3 x0.goal.length r3) x0.goal∧Vb w' (Fr 0 w' O') (.slice s3 x0.ops.length t3) x0.ops∧Lc 3 w' O' u2 32 [(.int .i64 0),(.slice none 0 0),(.int .i64 0),(.int .i64 0)]∧Ob 4 w' O' (.pointer (some ⟨h4,0,none⟩)) a0.2.2.2.1∧Rw 5 w' O' 3 (.slice m0.1.1 a0.1.length m0.1.2) a0.1∧Rw 6 w' O' 4 (.slice m0.2.1 a0.2.1.length m0.2.2) a0.2.1∧Ob 8 w' O' (.pointer (some ⟨g4,0,none⟩)) a0.2.2.2.2∧Lc 10 w' O' x2 97 [(.int .i64 c2.1.x.cost),(.int .i64 c2.1.x.order),(.int .i64 c2.1.x.id)]∧Vb w' (Fr 0 w' O') (.slice i3 p1.length j3) p1∧inI64 a0.2.2.1) _ ((o2.1.1,o2.1.2),(o2.2.1,o2.2.2)) ⟨mA,hB,k1,h8,n1,j1,o1,h0,nA,t8,m2.relen,k4,n0,z0,j4⟩ ⟨rfl,rfl,rfl,rfl,rfl,rfl,rfl,(congrArg (fun n=>some (Value.slice _ n _)) ((by simp:(l2.2.1.set (c2.1.x.id:Int).toNat true).length=l2.2.1.length).trans rfl).symm),rfl,rfl,rfl,rfl,rfl,trivial⟩ (fun _ _=>⟨rfl,rfl⟩) (fun _ _=>⟨rfl,rfl,rfl,rfl,rfl,rfl,rfl,rfl,rfl,trivial⟩) (fun _ _ _ ⟨O',hB,k1,h8,n1,j1,o1,h0,c3,g1,h1,f1,n0,z0,k3⟩=>⟨O',hB,k1,h8,n1,j1,o1,h0,c3,g1,h1,f1,k3⟩) ⟨rfl,rfl,rfl⟩ ⟨rfl,rfl⟩ ?_
     rintro q5 s2 a0 m0 cI dE b5 ⟨oA,hB,k1,h8,n1,j1,o1,h0,c3,g1,h1,f1,n0,z0,k3⟩ g0 e3 u8
     have rk275:inI64 (q5:Int):=rngK b5 o5
     refine Al (Aj ?_)
     obtain ⟨dI,eI,eE,b7,c7,d7,fI,rfl,q1,pA⟩:=z0.elem' b5
     obtain ⟨b4,c4,rfl⟩:=q1.form
     refine Bi (hA:=b7) (hj:=rfl) (hlt:=c7) rfl rfl rfl ?_
     refine Bk (hl:=rfl) (hc:=d7) rfl rfl ?_
     refine BD 12 oA rfl fun d4 gI qA c0 b1=>?_
     refine AR b1 rfl rfl rfl (Ba rfl) (allOne rfl) fun rA d0 b1=>?_
     replace b1:Lc 12 rA qA d4 112 [(.int .i64 s2.op),(.slice b4 s2.state.length c4)]:=b1
     refine o_z ?_
     refine Al ?_
     replace c3:=(c3.st c0).st d0
     obtain ⟨e7,hI,iI,jI,kI,lI,mI,e0,fE,d2,e2,f2,g2,h2,f7,i2⟩:=Spc.opn c3 4 11 (by decide)
     obtain ⟨nI,oI,rfl⟩:=e2.form
     obtain ⟨pI,qI,rfl⟩:=f2.form
     obtain ⟨rI,sI,rfl⟩:=g2.form
     obtain ⟨tI,uI,rfl⟩:=h2.form
     obtain ⟨vI,rfl⟩:=f7.ptr
     obtain ⟨wI,rfl,gE⟩:=i2.ptr
     refine BC [(6,[11])] e7 ?_
     refine AY (fuel:=8) [] [(0,true),(1,true),(2,true),(3,true),(4,true),(5,true)] (by kernel_rfl) rfl ?_
     refine AJ rfl rfl rfl (Ec rfl rfl rfl (Bc rfl rfl rfl (AZ (hc:=fun w' ⟨O',hq⟩=>Blk.cell (i:=4) ((d2.st hq (by decide)).1) rfl) rfl rfl rfl ?_)))
     refine Bc rfl rfl rfl ?_
     replace b1:=b1.st e0
     refine AZ (hc:=fun w' ⟨O',hq⟩=>Blk.cell (i:=1) ((b1.st hq (by decide)).1) rfl) rfl rfl rfl ?_
     refine AM ?_
     refine Bb (i:=6) (by kernel_rfl) rfl ?_
     obtain ⟨m1,sA,g0⟩:=bs g0
     replace q1:=((q1.st c0).st d0).st e0
     refine Cx (O:=e7) (FC f7 q1 sA) rfl rfl fun xI tA uA b0 vA=>?_
     obtain ⟨yI,zI,aJ,l3,rfl,wA,xA,yA⟩:=vA
     obtain ⟨rfl,g7⟩:=wA.int
     obtain rfl:=xA.bool
     obtain ⟨rfl,bJ⟩:=yA.err
     have hZ:=b0.lst [11] (fun _ h=>by cases h;decide)
     refine BG [] hZ (by kernel_rfl) ?_
     refine AY (fuel:=0) [] [(7,true),(8,true),(9,true),(10,true),(11,true),(12,true),(13,true)] (by kernel_rfl) rfl ?_
     refine AJ rfl rfl rfl (Kx rfl rfl rfl rfl (Kx rfl rfl rfl rfl (Kx rfl rfl rfl rfl (De rfl rfl rfl (De rfl rfl rfl (De rfl rfl rfl (AM ?_)))))))
     refine Cn (by kernel_rfl) ?_
     refine Al (Al (Aj (Ar rfl rfl (ER rfl rfl (fun r5=>?_) fun r5=>?_))))
     ·
      replace g0:=ip g0 r5
      refine o_z ?_
      refine Ah rfl (Al (Aj (Ar rfl rfl ?_)))
      obtain ⟨u1,zA,g0⟩:=bs g0
      refine Dl (O:=uA) (R:=fun w' F v=>T2 w' F v u1) (FT Fr.lt (show inI64 (3) from by decide) z6 zA) rfl rfl fun cJ dJ h7 i7 aB=>?_
      obtain ⟨eJ,fJ,rfl,bB,cB⟩:=aB
      obtain ⟨hE,rfl,gJ,rfl,n4,dB,eB,fB⟩:=bB
      obtain ⟨s5,t5,rfl⟩:=n4.form
      obtain ⟨rfl,gB⟩:=cB.err
      refine BH rfl rfl rfl (BH rfl rfl rfl ?_)
      replace h0:=((((h0.st c0).st d0).st e0).st b0).st i7
      refine AR h0 rfl rfl rfl (Ba rfl) (allOne rfl) fun j7 k7 h0=>?_
      replace h0:Lc 3 j7 h7 u2 32 [(.int .i64 u1.1.verdict),(.slice s5 u1.1.plan.length t5),(.int .i64 u1.1.cost),(.int .i64 u1.1.expanded)]:=h0
      refine Au rfl rfl (o_z ?_)
      refine AK ?_
      obtain rfl:=sm g0
      obtain rfl:=e3 _ rfl
      obtain rfl:=sm (Dc f0)
      obtain rfl:=p2 _ rfl
      obtain rfl:=sm (Dc hm)
      replace hB:=(((((hB.st c0).st d0).st e0).st b0).st i7).st k7
      replace n4:=n4.st k7
      exact ret2 rfl (BM (cs:=[(.int .i64 u1.1.verdict),(.slice s5 u1.1.plan.length t5),(.int .i64 u1.1.cost),(.int .i64 u1.1.expanded)]) rfl rfl h0.1.cellsAt) (AB rfl) ⟨hB.ext,_,_,rfl,(Vb.mono (F:=Fr 0 j7 h7) (Vb.ofAgg (cs:=[(.int .i64 u1.1.verdict),(.slice s5 u1.1.plan.length t5),(.int .i64 u1.1.cost),(.int .i64 u1.1.expanded)]) (x:=u1.1) rfl ⟨_,rfl,n4,dB,eB,fB⟩) hB.out),(vErr gB)⟩
     replace g0:=im g0 r5
     refine o_z ?_
     refine Ae rfl (AO (Al (Cr (·=tA) [(0,true),(1,true),(2,true),(3,true),(4,true),(5,true),(6,true),(7,true),(8,true),(9,true),(10,true)] (by kernel_rfl) rfl (by kernel_rfl) rfl ?_)))
     refine Bc rfl rfl rfl ?_
     replace n0:=(((n0.st c0).st d0).st e0).st b0
     refine Cm (hc:=Blk.cell (i:=0) (n0.1) rfl) rfl rfl rfl ?_
     refine Bc rfl rfl rfl ?_
     replace k1:=(((k1.st c0).st d0).st e0).st b0
     refine Cm (hc:=Blk.cell (i:=3) (k1.1) rfl) rfl rfl rfl ?_
     refine Bc rfl rfl rfl ?_
     replace b1:=b1.st b0
     refine Cm (hc:=Blk.cell (i:=0) (b1.1) rfl) rfl rfl rfl ?_
     obtain ⟨hJ,iB,g0⟩:=bs g0
     obtain ⟨jB,kB⟩:=AS iB
     replace o1:=(((o1.st c0).st d0).st e0).st b0
     obtain ⟨iJ,jJ,iE,l7,m7,n7,kJ,lJ,rfl,lB,mB,mJ,nJ⟩:=o1.elem' kB
     obtain ⟨oJ,pJ,rfl⟩:=lB.form
     obtain ⟨qJ,rJ,rfl⟩:=mB.form
     refine BP (hA:=l7) (hj:=(Int.toNat_of_nonneg jB).symm) (hlt:=m7) rfl rfl rfl rfl ?_
     refine Bc rfl rfl rfl (Cm (hc:=cat1 n7) rfl rfl rfl ?_)
     obtain ⟨d3,o7,g0⟩:=bs g0
     have o4:=(AW o7)
     refine Ey (he:=o7) rfl rfl rfl rfl ?_
     refine De rfl rfl rfl (h_z ?_)
     refine Al ?_
     obtain ⟨nB,t0,g0⟩:=bs g0
     refine AL (fun l' w'=>∃ (t2:(List Int)×(List Bool)) (j2:(Option Addr×Nat)×(Option Addr×Nat)) (O':Lab),nB=.done t2∧subs l' [(1,(.int .i64 x1)),(2,(.pointer (some ⟨w3,0,none⟩))),(4,(.pointer (some ⟨u2,0,none⟩))),(6,(.pointer (some ⟨h4,0,none⟩))),(8,(.slice j2.1.1 t2.1.length j2.1.2)),(9,(.slice j2.2.1 t2.2.length j2.2.2)),(10,(.pointer (some ⟨g4,0,none⟩))),(11,(.int .i64 a0.2.2.1)),(12,(.int .i64 m4)),(13,(.pointer (some ⟨x2,0,none⟩))),(18,(.pointer (some ⟨d4,0,none⟩))),(19,(.int .i64 m1.1)),(22,(.int .i64 d3)),(98,(.slice i3 p1.length j3)),(99,(.int .i64 (p1.length:Int))),(100,(.int .i64 (q5:Int)))]∧Bs w A w' O'∧Lc 2 w' O' w3 26 [(.slice A9 x0.vars.length n3),(.slice o3 x0.init.length p3),(.slice q3 x0.goal.length r3),(.slice s3 x0.ops.length t3)]∧Vb w' (Fr 0 w' O') (.slice A9 x0.vars.length n3) x0.vars∧Vb w' (Fr 0 w' O') (.slice o3 x0.init.length p3) x0.init∧Vb w' (Fr 0 w' O') (.slice q3 x0.goal.length r3) x0.goal∧Vb w' (Fr 0 w' O') (.slice s3 x0.ops.length t3) x0.ops∧Lc 3 w' O' u2 32 [(.int .i64 0),(.slice none 0 0),(.int .i64 0),(.int .i64 0)]∧Ob 4 w' O' (.pointer (some ⟨h4,0,none⟩)) (⟨(⟨a0.2.2.2.1.t.vars,a0.2.2.2.1.t.init,a0.2.2.2.1.t.goal,a0.2.2.2.1.t.ops⟩:Tsk),m1.2.2.2,a0.2.2.2.1.gen⟩:Spc)∧Rw 5 w' O' 3 (.slice j2.1.1 t2.1.length j2.1.2) t2.1∧Rw 6 w' O' 4 (.slice j2.2.1 t2.2.length j2.2.2) t2.2∧Ob 8 w' O' (.pointer (some ⟨g4,0,none⟩)) a0.2.2.2.2∧Lc 10 w' O' x2 97 [(.int .i64 c2.1.x.cost),(.int .i64 c2.1.x.order),(.int .i64 c2.1.x.id)]∧Lc 12 w' O' d4 112 [(.int .i64 s2.op),(.slice b4 s2.state.length c4)]∧Vb w' (Fr 0 w' O') (.slice b4 s2.state.length c4) s2.state∧Vb w' (Fr 0 w' O') (.slice i3 p1.length j3) p1) ?_ ?_
     ·
      refine Al (Aj (Ar rfl rfl (o_z ?_)))
      refine CN rfl (fun u5=>?_) (fun u5=>?_)
      ·
       replace t0:=ip t0 u5
       refine Aj (Ar rfl rfl (Ar rfl rfl ?_))
       obtain ⟨sJ,w5,t0⟩:=bs t0
       obtain ⟨w5,oB,pB⟩:=AU w5
       replace g1:=(((g1.st c0).st d0).st e0).st b0
       refine CP rfl (a:=d3) g1 (vInt o4) (fun _=>rfl) rfl (by decide) (by decide) oB pB ⟨rfl,rfl⟩ fun tJ qB rB uJ vJ c1 p7=>?_
       rw [← w5] at p7 ⊢
       refine Ar rfl rfl ?_
       obtain ⟨wJ,x5,t0⟩:=bs t0
       obtain ⟨x5,sB,tB⟩:=AU x5
       replace h1:=((((h1.st c0).st d0).st e0).st b0).st c1
       refine CP rfl (a:=false) h1 vBool (fun _=>rfl) rfl (by decide) (by decide) sB tB ⟨rfl,rfl⟩ fun xJ uB vB yJ zJ d1 q7=>?_
       rw [← x5] at q7 ⊢
       refine Au rfl rfl (Au rfl rfl (o_z ?_))
       replace d2:=((d2.st b0).st c1).st d1
       replace e2:=((e2.st b0).st c1).st d1
       replace f2:=((f2.st b0).st c1).st d1
       replace g2:=((g2.st b0).st c1).st d1
       replace h2:=((h2.st b0).st c1).st d1
       replace i2:=((i2.st b0).st c1).st d1
       replace l3:=(l3.st c1).st d1
       obtain ⟨aK,v1,jE,kE,wB⟩:=Spc.shut (x:=(⟨(⟨a0.2.2.2.1.t.vars,a0.2.2.2.1.t.init,a0.2.2.2.1.t.goal,a0.2.2.2.1.t.ops⟩:Tsk),m1.2.2.2,a0.2.2.2.1.gen⟩:Spc)) (l0:=4) (l1:=11) (by decide) d2 e2 f2 g2 h2 l3 i2
       obtain rfl:=sm t0
       exact ⟨_,((qB,rB),(uB,vB)),_,rfl,⟨rfl,rfl,rfl,rfl,rfl,rfl,rfl,rfl,rfl,rfl,rfl,rfl,rfl,rfl,rfl,rfl,trivial⟩,((((((hB.st c0).st d0).st e0).st b0).st c1).st d1).st v1,((k1.st c1).st d1).st v1,((((((h8.st c0).st d0).st e0).st b0).st c1).st d1).st v1,((((((n1.st c0).st d0).st e0).st b0).st c1).st d1).st v1,((((((j1.st c0).st d0).st e0).st b0).st c1).st d1).st v1,((o1.st c1).st d1).st v1,((((((h0.st c0).st d0).st e0).st b0).st c1).st d1).st v1,wB,(p7.st d1).st v1,q7.st v1,((((((f1.st c0).st d0).st e0).st b0).st c1).st d1).st v1,((n0.st c1).st d1).st v1,((b1.st c1).st d1).st v1,(((q1.st b0).st c1).st d1).st v1,((((((z0.st c0).st d0).st e0).st b0).st c1).st d1).st v1⟩
      replace t0:=im' t0 u5
      refine Al ?_
      obtain ⟨xB,w0,t0⟩:=bs t0
      refine AL (fun l' w'=>∃ (yB:Unit) (O':Lab),subs l' [(1,(.int .i64 x1)),(2,(.pointer (some ⟨w3,0,none⟩))),(4,(.pointer (some ⟨u2,0,none⟩))),(6,(.pointer (some ⟨h4,0,none⟩))),(8,(.slice m0.1.1 a0.1.length m0.1.2)),(9,(.slice m0.2.1 a0.2.1.length m0.2.2)),(10,(.pointer (some ⟨g4,0,none⟩))),(11,(.int .i64 a0.2.2.1)),(12,(.int .i64 m4)),(13,(.pointer (some ⟨x2,0,none⟩))),(18,(.pointer (some ⟨d4,0,none⟩))),(19,(.int .i64 m1.1)),(22,(.int .i64 d3)),(98,(.slice i3 p1.length j3)),(99,(.int .i64 (p1.length:Int))),(100,(.int .i64 (q5:Int))),(150,(.bool xB))]∧Bs w A w' O'∧Lc 2 w' O' w3 26 [(.slice A9 x0.vars.length n3),(.slice o3 x0.init.length p3),(.slice q3 x0.goal.length r3),(.slice s3 x0.ops.length t3)]∧Vb w' (Fr 0 w' O') (.slice A9 x0.vars.length n3) x0.vars∧Vb w' (Fr 0 w' O') (.slice o3 x0.init.length p3) x0.init∧Vb w' (Fr 0 w' O') (.slice q3 x0.goal.length r3) x0.goal∧Vb w' (Fr 0 w' O') (.slice s3 x0.ops.length t3) x0.ops∧Lc 3 w' O' u2 32 [(.int .i64 0),(.slice none 0 0),(.int .i64 0),(.int .i64 0)]∧Ob 4 w' O' (.pointer (some ⟨h4,0,none⟩)) (⟨(⟨a0.2.2.2.1.t.vars,a0.2.2.2.1.t.init,a0.2.2.2.1.t.goal,a0.2.2.2.1.t.ops⟩:Tsk),m1.2.2.2,a0.2.2.2.1.gen⟩:Spc)∧Rw 5 w' O' 3 (.slice m0.1.1 a0.1.length m0.1.2) a0.1∧Rw 6 w' O' 4 (.slice m0.2.1 a0.2.1.length m0.2.2) a0.2.1∧Ob 8 w' O' (.pointer (some ⟨g4,0,none⟩)) a0.2.2.2.2∧Lc 10 w' O' x2 97 [(.int .i64 c2.1.x.cost),(.int .i64 c2.1.x.order),(.int .i64 c2.1.x.id)]∧Lc 12 w' O' d4 112 [(.int .i64 s2.op),(.slice b4 s2.state.length c4)]∧Vb w' (Fr 0 w' O') (.slice b4 s2.state.length c4) s2.state∧Vb w' (Fr 0 w' O') (.slice i3 p1.length j3) p1) ?_ ?_
      ·
       refine Aj (Ar rfl rfl (Ar rfl rfl ?_))
       obtain ⟨zB,aC,w0⟩:=bs w0
       obtain ⟨bC,cC⟩:=AS aC
       replace h1:=(((h1.st c0).st d0).st e0).st b0
       obtain ⟨bK,cK,lE,r7,s7,t7,rfl⟩:=h1.elem cC
       refine Bi (hA:=r7) (hj:=(Int.toNat_of_nonneg bC).symm) (hlt:=s7) rfl rfl rfl ?_
       refine AE (hc:=cat0 t7) rfl rfl ?_
       refine Ar rfl rfl ?_
       rcases Bool.eq_false_or_eq_true zB with e4|e4
       ·
        try rw [e4]
        replace w0:=ip w0 e4
        refine At rfl rfl rfl rfl (At rfl rfl rfl rfl (At rfl rfl rfl rfl (At rfl rfl rfl rfl (At rfl rfl rfl rfl (At rfl rfl rfl rfl (AX rfl rfl rfl (o_z ?_)))))))
        replace d2:=d2.st b0
        replace e2:=e2.st b0
        replace f2:=f2.st b0
        replace g2:=g2.st b0
        replace h2:=h2.st b0
        replace i2:=i2.st b0
        obtain ⟨dK,w1,mE,nE,dC⟩:=Spc.shut (x:=(⟨(⟨a0.2.2.2.1.t.vars,a0.2.2.2.1.t.init,a0.2.2.2.1.t.goal,a0.2.2.2.1.t.ops⟩:Tsk),m1.2.2.2,a0.2.2.2.1.gen⟩:Spc)) (l0:=4) (l1:=11) (by decide) d2 e2 f2 g2 h2 l3 i2
        obtain rfl:=sm w0
        exact ⟨(),_,⟨rfl,rfl,rfl,rfl,rfl,rfl,rfl,rfl,rfl,rfl,rfl,rfl,rfl,rfl,rfl,rfl,rfl,trivial⟩,((((hB.st c0).st d0).st e0).st b0).st w1,k1.st w1,((((h8.st c0).st d0).st e0).st b0).st w1,((((n1.st c0).st d0).st e0).st b0).st w1,((((j1.st c0).st d0).st e0).st b0).st w1,o1.st w1,((((h0.st c0).st d0).st e0).st b0).st w1,dC,((((g1.st c0).st d0).st e0).st b0).st w1,h1.st w1,((((f1.st c0).st d0).st e0).st b0).st w1,n0.st w1,b1.st w1,(q1.st b0).st w1,((((z0.st c0).st d0).st e0).st b0).st w1⟩
       try rw [e4]
       replace w0:=im' w0 e4
       refine Ay rfl rfl (Ar rfl rfl (Ay rfl rfl (Ar rfl rfl (Ay rfl rfl (Ar rfl rfl (Ay rfl rfl ?_))))))
       obtain ⟨eK,eC,w0⟩:=bs w0
       obtain ⟨fC,gC⟩:=AS eC
       replace g1:=(((g1.st c0).st d0).st e0).st b0
       obtain ⟨fK,gK,oE,u7,w7,x7,rfl,hK⟩:=g1.elem gC
       refine Bi (hA:=u7) (hj:=(Int.toNat_of_nonneg fC).symm) (hlt:=w7) rfl rfl rfl ?_
       refine Ay rfl rfl (AE (hc:=cat0 x7) rfl rfl ?_)
       refine Ay rfl rfl (Ha rfl rfl rfl (fun y5=>?_) fun y5=>?_)
       ·
        replace w0:=ip w0 y5
        refine AT rfl rfl rfl (o_z ?_)
        replace d2:=d2.st b0
        replace e2:=e2.st b0
        replace f2:=f2.st b0
        replace g2:=g2.st b0
        replace h2:=h2.st b0
        replace i2:=i2.st b0
        obtain ⟨iK,y1,pE,qE,hC⟩:=Spc.shut (x:=(⟨(⟨a0.2.2.2.1.t.vars,a0.2.2.2.1.t.init,a0.2.2.2.1.t.goal,a0.2.2.2.1.t.ops⟩:Tsk),m1.2.2.2,a0.2.2.2.1.gen⟩:Spc)) (l0:=4) (l1:=11) (by decide) d2 e2 f2 g2 h2 l3 i2
        obtain rfl:=sm w0
        exact ⟨(),_,⟨rfl,rfl,rfl,rfl,rfl,rfl,rfl,rfl,rfl,rfl,rfl,rfl,rfl,rfl,rfl,rfl,rfl,trivial⟩,((((hB.st c0).st d0).st e0).st b0).st y1,k1.st y1,((((h8.st c0).st d0).st e0).st b0).st y1,((((n1.st c0).st d0).st e0).st b0).st y1,((((j1.st c0).st d0).st e0).st b0).st y1,o1.st y1,((((h0.st c0).st d0).st e0).st b0).st y1,hC,g1.st y1,h1.st y1,((((f1.st c0).st d0).st e0).st b0).st y1,n0.st y1,b1.st y1,(q1.st b0).st y1,((((z0.st c0).st d0).st e0).st b0).st y1⟩
       replace w0:=im w0 y5
       refine AT rfl rfl rfl (o_z ?_)
       replace d2:=d2.st b0
       replace e2:=e2.st b0
       replace f2:=f2.st b0
       replace g2:=g2.st b0
       replace h2:=h2.st b0
       replace i2:=i2.st b0
       obtain ⟨jK,z1,rE,sE,iC⟩:=Spc.shut (x:=(⟨(⟨a0.2.2.2.1.t.vars,a0.2.2.2.1.t.init,a0.2.2.2.1.t.goal,a0.2.2.2.1.t.ops⟩:Tsk),m1.2.2.2,a0.2.2.2.1.gen⟩:Spc)) (l0:=4) (l1:=11) (by decide) d2 e2 f2 g2 h2 l3 i2
       obtain rfl:=sm w0
       exact ⟨(),_,⟨rfl,rfl,rfl,rfl,rfl,rfl,rfl,rfl,rfl,rfl,rfl,rfl,rfl,rfl,rfl,rfl,rfl,trivial⟩,((((hB.st c0).st d0).st e0).st b0).st z1,k1.st z1,((((h8.st c0).st d0).st e0).st b0).st z1,((((n1.st c0).st d0).st e0).st b0).st z1,((((j1.st c0).st d0).st e0).st b0).st z1,o1.st z1,((((h0.st c0).st d0).st e0).st b0).st z1,iC,g1.st z1,h1.st z1,((((f1.st c0).st d0).st e0).st b0).st z1,n0.st z1,b1.st z1,(q1.st b0).st z1,((((z0.st c0).st d0).st e0).st b0).st z1⟩
      replace hB:=(((hB.st c0).st d0).st e0).st b0
      replace h8:=(((h8.st c0).st d0).st e0).st b0
      replace n1:=(((n1.st c0).st d0).st e0).st b0
      replace j1:=(((j1.st c0).st d0).st e0).st b0
      replace h0:=(((h0.st c0).st d0).st e0).st b0
      replace z0:=(((z0.st c0).st d0).st e0).st b0
      replace g1:=(((g1.st c0).st d0).st e0).st b0
      replace h1:=(((h1.st c0).st d0).st e0).st b0
      replace f1:=(((f1.st c0).st d0).st e0).st b0
      replace q1:=q1.st b0
      rintro kK lK ⟨yB,mK,y7,hB,k1,h8,n1,j1,o1,h0,z7,g1,h1,f1,n0,b1,q1,z0⟩
      refine AQ _ y7 ?_
      refine CN rfl (fun z5=>?_) (fun z5=>?_)
      ·
       replace t0:=ip t0 z5
       refine DN ?_
       obtain rfl:=sm t0
       obtain rfl:=sm (Dc g0)
       exact show Exists _ from ⟨_,((m0.1.1,m0.1.2),(m0.2.1,m0.2.2)),rfl,⟨rfl,rfl,rfl,rfl,rfl,rfl,rfl,rfl,rfl,rfl,rfl,rfl,rfl,trivial⟩,_,hB,k1,h8,n1,j1,o1,h0,z7,g1,h1,f1,n0,z0,k3⟩
      replace t0:=im' t0 z5
      refine AO ?_
      obtain rfl:=sm t0
      exact ⟨_,((m0.1.1,m0.1.2),(m0.2.1,m0.2.2)),_,rfl,⟨rfl,rfl,rfl,rfl,rfl,rfl,rfl,rfl,rfl,rfl,rfl,rfl,rfl,rfl,rfl,rfl,trivial⟩,hB,k1,h8,n1,j1,o1,h0,z7,g1,h1,f1,n0,b1,q1,z0⟩
     replace hB:=(((hB.st c0).st d0).st e0).st b0
     replace h8:=(((h8.st c0).st d0).st e0).st b0
     replace n1:=(((n1.st c0).st d0).st e0).st b0
     replace j1:=(((j1.st c0).st d0).st e0).st b0
     replace h0:=(((h0.st c0).st d0).st e0).st b0
     replace z0:=(((z0.st c0).st d0).st e0).st b0
     replace f1:=(((f1.st c0).st d0).st e0).st b0
     replace q1:=q1.st b0
     rintro nK oK ⟨t2,j2,pK,rfl,a8,hB,k1,h8,n1,j1,o1,h0,a6,m3,jC,f1,n0,b1,q1,z0⟩
     replace g0:=AV g0
     refine AQ _ a8 ?_
     refine Al (Aj (Ar rfl rfl (Ar rfl rfl (Ar rfl rfl ?_))))
     obtain ⟨qK,kC,g0⟩:=bs g0
     obtain ⟨lC,b8⟩:=AS kC
     obtain ⟨rK,sK,tE,c5,c8,uE,rfl,tK⟩:=m3.elem b8
     refine Bi (hA:=c5) (hj:=(Int.toNat_of_nonneg lC).symm) (hlt:=c8) rfl rfl rfl ?_
     refine CW rfl m3 (a:=d3) (vInt o4) c5 rfl rfl (AD b8) fun uK r1 m3=>?_
     refine o_z ?_
     refine Al (Al ?_)
     replace a6:=a6.st r1
     obtain ⟨d8,vK,wK,xK,yK,zK,aL,s1,vE,p4,q4,r4,s4,t4,e8,u4⟩:=Spc.opn a6 4 11 (by decide)
     obtain ⟨bL,cL,rfl⟩:=q4.form
     obtain ⟨dL,eL,rfl⟩:=r4.form
     obtain ⟨fL,gL,rfl⟩:=s4.form
     obtain ⟨hL,iL,rfl⟩:=t4.form
     obtain ⟨jL,rfl⟩:=e8.ptr
     obtain ⟨kL,rfl,wE⟩:=u4.ptr
     refine BC [(10,[11])] d8 ?_
     refine AY (fuel:=2) [] [(0,true),(1,true),(2,true),(3,true),(4,true),(5,true),(6,true),(7,true),(8,true),(9,true)] (by kernel_rfl) rfl ?_
     refine AJ rfl rfl rfl (Ec rfl rfl rfl (Bc rfl rfl rfl (AZ (hc:=fun w' ⟨O',hq⟩=>Blk.cell (i:=4) ((p4.st hq (by decide)).1) rfl) rfl rfl rfl ?_)))
     refine AJ rfl rfl rfl (Bc rfl rfl rfl ?_)
     replace n0:=(n0.st r1).st s1
     refine AZ (hc:=fun w' ⟨O',hq⟩=>Blk.cell (i:=2) ((n0.st hq (by decide)).1) rfl) rfl rfl rfl ?_
     refine Bc rfl rfl rfl ?_
     replace b1:=(b1.st r1).st s1
     refine AZ (hc:=fun w' ⟨O',hq⟩=>Blk.cell (i:=0) ((b1.st hq (by decide)).1) rfl) rfl rfl rfl ?_
     refine AJ rfl rfl rfl (AM ?_)
     refine Bb (i:=10) (by kernel_rfl) rfl ?_
     obtain ⟨mC,nC,g0⟩:=bs g0
     refine Cx (O:=d8) (GL e8 g7 h5 pA o4 nC) rfl rfl fun lL mL b6 a1 oC=>?_
     obtain ⟨c6,pC⟩:=oC
     obtain ⟨rfl,qC⟩:=pC.err
     have hZ:=a1.lst [11] (fun _ h=>by cases h;decide)
     refine BG [] hZ (by kernel_rfl) ?_
     refine AY (fuel:=0) [] [(11,true)] (by kernel_rfl) rfl ?_
     refine De rfl rfl rfl (AM ?_)
     refine Cn (by kernel_rfl) ?_
     refine Al (Aj (Ar rfl rfl (ER rfl rfl (fun d6=>?_) fun d6=>?_)))
     ·
      replace g0:=ip g0 d6
      refine o_z ?_
      refine Ah rfl (Al (Aj (Cw rfl rfl rfl ?_)))
      refine Ar rfl rfl ?_
      replace h0:=((h0.st r1).st s1).st a1
      refine AR h0 rfl rfl rfl (Ba rfl) (allOne rfl) fun f8 rC h0=>?_
      replace h0:Lc 3 f8 b6 u2 32 [(.int .i64 0),(.slice none 0 0),(.int .i64 0),(.int .i64 0)]:=h0
      refine Au rfl rfl (o_z ?_)
      refine AK ?_
      obtain rfl:=sm g0
      obtain rfl:=e3 _ rfl
      obtain rfl:=sm (Dc f0)
      obtain rfl:=p2 _ rfl
      obtain rfl:=sm (Dc hm)
      replace hB:=(((hB.st r1).st s1).st a1).st rC
      exact ret2 rfl (BM (cs:=[(.int .i64 0),(.slice none 0 0),(.int .i64 0),(.int .i64 0)]) rfl rfl h0.1.cellsAt) (AB rfl) ⟨hB.ext,_,_,rfl,(Vb.mono (F:=Fr 0 f8 b6) (Vb.ofAgg (cs:=[(.int .i64 0),(.slice none 0 0),(.int .i64 0),(.int .i64 0)]) (x:=(⟨0,([]:List Int),0,0⟩:Rsl)) rfl ⟨_,rfl,(Vb.nil _ _),(show inI64 0 from by decide),(show inI64 0 from by decide),(show inI64 0 from by decide)⟩) hB.out),(vErr qC)⟩
     replace g0:=im g0 d6
     refine o_z ?_
     refine Ae rfl (AO (Al (Aj (Ar rfl rfl (Mv rfl rfl ?_)))))
     refine Ar rfl rfl (Ar rfl rfl (Ar rfl rfl (Cw rfl rfl rfl ?_)))
     refine Mv rfl rfl ?_
     obtain ⟨nL,sC,g0⟩:=bs g0
     replace f1:=((f1.st r1).st s1).st a1
     refine Cx (O:=b6) (Ii f1 (vAny (Vb.ofAgg (cs:=[(.int .i64 d3),(.int .i64 a0.2.2.1),(.int .i64 m1.1)]) (x:=(⟨d3,a0.2.2.1,m1.1⟩:Itm)) rfl ⟨rfl,o4,k3,g7⟩)) sC) rfl rfl fun oL pL qL i1 tC=>?_
     refine o_z ?_
     refine Aj (Ar rfl rfl ?_)
     obtain ⟨rL,g8,g0⟩:=bs g0
     have uC:=(AW g8)
     refine Dv (he:=g8) rfl rfl rfl ?_
     refine Au rfl rfl (o_z ?_)
     replace p4:=(p4.st a1).st i1
     replace q4:=(q4.st a1).st i1
     replace r4:=(r4.st a1).st i1
     replace s4:=(s4.st a1).st i1
     replace t4:=(t4.st a1).st i1
     replace u4:=(u4.st a1).st i1
     replace c6:=c6.st i1
     obtain ⟨sL,n2,xE,yE,vC⟩:=Spc.shut (x:=(⟨(⟨(⟨(⟨a0.2.2.2.1.t.vars,a0.2.2.2.1.t.init,a0.2.2.2.1.t.goal,a0.2.2.2.1.t.ops⟩:Tsk),m1.2.2.2,a0.2.2.2.1.gen⟩:Spc).t.vars,(⟨(⟨a0.2.2.2.1.t.vars,a0.2.2.2.1.t.init,a0.2.2.2.1.t.goal,a0.2.2.2.1.t.ops⟩:Tsk),m1.2.2.2,a0.2.2.2.1.gen⟩:Spc).t.init,(⟨(⟨a0.2.2.2.1.t.vars,a0.2.2.2.1.t.init,a0.2.2.2.1.t.goal,a0.2.2.2.1.t.ops⟩:Tsk),m1.2.2.2,a0.2.2.2.1.gen⟩:Spc).t.goal,(⟨(⟨a0.2.2.2.1.t.vars,a0.2.2.2.1.t.init,a0.2.2.2.1.t.goal,a0.2.2.2.1.t.ops⟩:Tsk),m1.2.2.2,a0.2.2.2.1.gen⟩:Spc).t.ops⟩:Tsk),mC.2,(⟨(⟨a0.2.2.2.1.t.vars,a0.2.2.2.1.t.init,a0.2.2.2.1.t.goal,a0.2.2.2.1.t.ops⟩:Tsk),m1.2.2.2,a0.2.2.2.1.gen⟩:Spc).gen⟩:Spc)) (l0:=4) (l1:=11) (by decide) p4 q4 r4 s4 t4 c6 u4
     obtain rfl:=sm g0
     replace m3:=(((m3.st s1).st a1).st i1).st n2
     exact show Exists _ from ⟨_,((j2.1.1,j2.1.2),(j2.2.1,j2.2.2)),rfl,⟨rfl,rfl,rfl,rfl,rfl,rfl,(congrArg (fun n=>some (Value.slice _ n _)) ((by simp:(t2.1.set (m1.1:Int).toNat d3).length=t2.1.length).trans rfl).symm),rfl,rfl,rfl,rfl,rfl,rfl,trivial⟩,_,((((hB.st r1).st s1).st a1).st i1).st n2,((((k1.st r1).st s1).st a1).st i1).st n2,((((h8.st r1).st s1).st a1).st i1).st n2,((((n1.st r1).st s1).st a1).st i1).st n2,((((j1.st r1).st s1).st a1).st i1).st n2,((((o1.st r1).st s1).st a1).st i1).st n2,((((h0.st r1).st s1).st a1).st i1).st n2,vC,m3.relen,((((jC.st r1).st s1).st a1).st i1).st n2,tC.st n2,((n0.st a1).st i1).st n2,((((z0.st r1).st s1).st a1).st i1).st n2,uC⟩
    replace hB:=(((((((((((hB.st o0).st j0).st r0).st s0).st p0).st q0).st y0).st k0).st i0).st u0).st v0).st e1
    replace h8:=(((((((((((h8.st o0).st j0).st r0).st s0).st p0).st q0).st y0).st k0).st i0).st u0).st v0).st e1
    replace n1:=(((((((((((n1.st o0).st j0).st r0).st s0).st p0).st q0).st y0).st k0).st i0).st u0).st v0).st e1
    replace j1:=(((j1.st i0).st u0).st v0).st e1
    replace o1:=(((((((((((o1.st o0).st j0).st r0).st s0).st p0).st q0).st y0).st k0).st i0).st u0).st v0).st e1
    replace k1:=(((k1.st i0).st u0).st v0).st e1
    replace h0:=(((((((((((h0.st o0).st j0).st r0).st s0).st p0).st q0).st y0).st k0).st i0).st u0).st v0).st e1
    rintro tL uL ⟨vL,w4,rfl,a2,wL,hB,k1,h8,n1,j1,o1,h0,c3,g1,h1,f1,k3⟩
    replace f0:=AV f0
    obtain rfl:=sm f0
    exact show Exists _ from ⟨_,((w4.1.1,w4.1.2),(w4.2.1,w4.2.2)),rfl,⟨(Bn a2 _ _ rfl),(Bn a2 _ _ rfl),(Bn a2 _ _ rfl),(Bn a2 _ _ rfl),(Bn a2 _ _ rfl),(Bn a2 _ _ rfl),(Bn a2 _ _ rfl),(Bn a2 _ _ rfl),(Bn a2 _ _ rfl),trivial⟩,_,hB,k1,h8,n1,j1,o1,h0,c3,g1,h1,f1,k3,z6⟩
   replace f0:=iT f0
   refine o_z ?_
   refine Ah rfl (Al (Aj (Ar rfl rfl (AG rfl rfl ?_))))
   replace n0:=(n0.st k0).st i0
   refine AE (hc:=Blk.cell (i:=2) (n0.1) rfl) rfl rfl ?_
   refine Ar rfl rfl ?_
   replace q2:=(q2.st k0).st i0
   replace y2:=(y2.st k0).st i0
   replace z2:=(z2.st k0).st i0
   replace a3:=(a3.st k0).st i0
   replace b3:=(b3.st k0).st i0
   replace r2:=(r2.st k0).st i0
   replace h3:=h3.st i0
   obtain ⟨wC,i8,zE,aF,xC⟩:=Spc.shut (x:=l2.2.2.2.2.1) (l0:=4) (l1:=11) (by decide) q2 y2 z2 a3 b3 h3 r2
   obtain ⟨k2,yC,f0⟩:=bs f0
   refine Cx (O:=wC) (HY xC h5 g3 yC) rfl rfl fun xL yL j8 k8 zC=>?_
   obtain ⟨zL,aM,bM,rfl,aD,bD⟩:=zC
   obtain ⟨bF,rfl,cM,rfl,x4,cD,dD,eD⟩:=aD
   obtain ⟨e6,f6,rfl⟩:=x4.form
   obtain ⟨rfl,fD⟩:=bD.err
   refine BH rfl rfl rfl (BH rfl rfl rfl ?_)
   replace h0:=((((((((((h0.st o0).st j0).st r0).st s0).st p0).st q0).st y0).st k0).st i0).st i8).st k8
   refine AR h0 rfl rfl rfl (Ba rfl) (allOne rfl) fun l8 m8 h0=>?_
   replace h0:Lc 3 l8 j8 u2 32 [(.int .i64 k2.1.verdict),(.slice e6 k2.1.plan.length f6),(.int .i64 k2.1.cost),(.int .i64 k2.1.expanded)]:=h0
   refine Au rfl rfl (o_z ?_)
   refine AK ?_
   obtain rfl:=sm f0
   obtain rfl:=p2 _ rfl
   obtain rfl:=sm (Dc hm)
   replace hB:=(((((((((((hB.st o0).st j0).st r0).st s0).st p0).st q0).st y0).st k0).st i0).st i8).st k8).st m8
   replace x4:=x4.st m8
   exact ret2 rfl (BM (cs:=[(.int .i64 k2.1.verdict),(.slice e6 k2.1.plan.length f6),(.int .i64 k2.1.cost),(.int .i64 k2.1.expanded)]) rfl rfl h0.1.cellsAt) (AB rfl) ⟨hB.ext,_,_,rfl,(Vb.mono (F:=Fr 0 l8 j8) (Vb.ofAgg (cs:=[(.int .i64 k2.1.verdict),(.slice e6 k2.1.plan.length f6),(.int .i64 k2.1.cost),(.int .i64 k2.1.expanded)]) (x:=k2.1) rfl ⟨_,rfl,x4,cD,dD,eD⟩) hB.out),(vErr fD)⟩
  replace f0:=im f0 g5
  refine o_z ?_
  refine Ae rfl (DN ?_)
  replace w2:=w2.st j0
  replace v2:=v2.st j0
  obtain ⟨dM,n8,cF,dF,eM⟩:=BxR.shut (x:=l2.2.2.2.2.2) (l0:=8) (l1:=9) (by decide) w2 v2
  obtain rfl:=sm f0
  exact show Exists _ from ⟨_,((o2.1.1,o2.1.2),(o2.2.1,o2.2.2)),f5 _ rfl,⟨rfl,rfl,trivial⟩,_,((hB.st o0).st j0).st n8,((h0.st o0).st j0).st n8,j4,g3⟩
 replace hB:=(((((((hB.st d5).st z4).st x3).st f4).st y3).st u3).st f3).st v3
 replace h0:=(((((h0.st x3).st f4).st y3).st u3).st f3).st v3
 rintro fM gM ⟨hM,iM,rfl,o8,gD,hB,h0,j4,g3⟩
 replace hm:=AV hm
 refine AQ _ o8 ?_
 refine Al (Aj (Ar rfl rfl ?_))
 obtain ⟨b2,hD,hm⟩:=bs hm
 refine Dl (O:=gD) (R:=fun w' F v=>T2 w' F v b2) (FT Fr.lt (show inI64 (2) from by decide) g3 hD) rfl rfl fun jM kM p8 q8 iD=>?_
 obtain ⟨lM,mM,rfl,jD,kD⟩:=iD
 obtain ⟨eF,rfl,nM,rfl,y4,lD,mD,nD⟩:=jD
 obtain ⟨g6,h6,rfl⟩:=y4.form
 obtain ⟨rfl,oD⟩:=kD.err
 refine BH rfl rfl rfl (BH rfl rfl rfl ?_)
 replace h0:=h0.st q8
 refine AR h0 rfl rfl rfl (Ba rfl) (allOne rfl) fun r8 s8 h0=>?_
 replace h0:Lc 3 r8 p8 u2 32 [(.int .i64 b2.1.verdict),(.slice g6 b2.1.plan.length h6),(.int .i64 b2.1.cost),(.int .i64 b2.1.expanded)]:=h0
 refine Au rfl rfl (o_z ?_)
 refine AK ?_
 obtain rfl:=sm hm
 replace hB:=(hB.st q8).st s8
 replace y4:=y4.st s8
 exact ret2 rfl (BM (cs:=[(.int .i64 b2.1.verdict),(.slice g6 b2.1.plan.length h6),(.int .i64 b2.1.cost),(.int .i64 b2.1.expanded)]) rfl rfl h0.1.cellsAt) (AB rfl) ⟨hB.ext,_,_,rfl,(Vb.mono (F:=Fr 0 r8 p8) (Vb.ofAgg (cs:=[(.int .i64 b2.1.verdict),(.slice g6 b2.1.plan.length h6),(.int .i64 b2.1.cost),(.int .i64 b2.1.expanded)]) (x:=b2.1) rfl ⟨_,rfl,y4,lD,mD,nD⟩) hB.out),(vErr oD)⟩
end
section
open Go Go.RowKit
attribute [local irreducible] ewp owp hwp hwq hws Ev Evg Fn retPost loud loudS Res1
noncomputable def CX (x0:List ByteArray) (x1:List ByteArray):Option Int :=
  bnd (chkI ((x1.length:Int) + 1)) fun n9=>bnd (mkI 8 (0:Int) n9) fun u12=>bnd (rngN (ρ:=Int) (fun (k31:Nat) (s29:(List Int))=>bnd (s29[k31]?) fun a50=>some (.next (s29.set k31 (k31:Int)))) u12.length u12) fun res27=>fin res27 fun (s66:(List Int))=>bnd (rng (ρ:=Int) (fun (k74:Nat) (a75:ByteArray) (s72:(List Int))=>bnd (chkI ((x1.length:Int) + 1)) fun n99=>bnd (mkI 8 (0:Int) n99) fun u102=>bnd (chkI ((k74:Int) + 1)) fun n115=>bnd (atI u102 0) fun a118=>bnd (rng (ρ:=Ctl (List Int) Int) (fun (k138:Nat) (a139:ByteArray) (s136:(List Int))=>bnd (chkI ((k138:Int) + 1)) fun n161=>bnd (s136[k138]?) fun a164=>bnd (chkI ((k138:Int) + 1)) fun n174=>bnd (atI s72 n174) fun a177=>bnd (chkI ((min a164 a177) + 1)) fun n189=>bnd (atI s136 n161) fun a192=>if a75=a139 then (bnd (chkI ((k138:Int) + 1)) fun n207=>bnd (chkI ((k138:Int) + 1)) fun n210=>bnd (atI (s136.set (n161:Int).toNat n189) n210) fun a213=>bnd (s72[k138]?) fun a225=>bnd (atI (s136.set (n161:Int).toNat n189) n207) fun a235=>some (.next ((s136.set (n161:Int).toNat n189).set (n207:Int).toNat (min a213 a225)))) else (some (.next (s136.set (n161:Int).toNat n189)))) x1 0 (u102.set (0:Int).toNat n115)) fun res134=>fin res134 fun (s253:(List Int))=>some (.next s253)) x0 0 s66) fun res70=>fin res70 fun (s261:(List Int))=>bnd (s261[x1.length]?) fun a265=>some a265
theorem Kg {w:World} {A:Nat→Prop} (hA:∀ k,A k→k < w.heap.size) {vx0:Value} {x0:List ByteArray} (d0:Vb w A vx0 x0) {vx1:Value} {x1:List ByteArray} (b0:Vb w A vx1 x1) {r:Int} (hm:CX x0 x1=some r) :
    Fn Tryz.prog 32 [vx0,vx1] w fun v w'=>Ext w w'∧Vb w' (upA A w w') v r:=by
 obtain ⟨O,hB,d5⟩:=enter hA
 replace d0:=d0.mono d5
 obtain ⟨A3,c4,rfl⟩:=d0.form
 replace b0:=b0.mono d5
 obtain ⟨A5,c6,rfl⟩:=b0.form
 refine AH Tryz.func32 rfl Tryz.ntmps32 rfl ?_
 unfold CX at hm
 refine Al (Aj (Au rfl rfl (o_z ?_)))
 refine Al (Aj (Ar rfl rfl (AP rfl rfl ?_)))
 have l8:x1.length≤9223372036854775807:=Nat.le_trans b0.len.2.1 b0.len.2.2
 have r7:inI64 (x1.length:Int):=rngNat l8
 obtain ⟨n9,e5,hm⟩:=bs hm
 have u8:=(AW e5)
 refine Dv (he:=e5) rfl rfl rfl ?_
 obtain ⟨y0,w5,hm⟩:=bs hm
 obtain ⟨h1,x5,y5,z5,a6⟩:=FS w5
 refine Hs 2 (by decide) O (z0:=(0:Int)) rfl rfl rfl rfl rfl x5 (vInt (show inI64 0 from by decide)) y5 z5 rfl fun i1 v8 b6 f1 b3=>?_
 rw [← a6] at b3 ⊢
 refine Au rfl rfl (o_z ?_)
 refine Al (Al (Aj (Ar rfl rfl (AP rfl rfl ?_))))
 have f3:y0.length≤9223372036854775807:=Nat.le_trans b3.len.2.1 b3.len.2.2
 have w8:inI64 (y0.length:Int):=rngNat f3
 refine Ar rfl rfl (o_z ?_)
 obtain ⟨j1,g3,hm⟩:=bs hm
 refine AL (aft j1 (fun (g1:(List Int)) (c3:Unit)=>[(0,(.slice A3 x0.length c4)),(1,(.slice A5 x1.length c6)),(5,(.slice (some ⟨i1,0,none⟩) y0.length h1))]) (fun g1 c3 w'=>∃ O':Lab,Bs w A w' O'∧Vb w' (Fr 0 w' O') (.slice A3 x0.length c4) x0∧Vb w' (Fr 0 w' O') (.slice A5 x1.length c6) x1∧Rw 2 w' O' 3 (.slice (some ⟨i1,0,none⟩) y0.length h1) g1)) ?_ ?_
 ·
  refine AN ?_
  replace d0:=d0.st f1
  replace hB:=hB.st f1
  replace b0:=b0.st f1
  refine Gy (σ:=(List Int)) (X:=Unit) (y0.length) g3 f3 (fun (g1:(List Int)) (c3:Unit)=>[(0,(.slice A3 x0.length c4)),(1,(.slice A5 x1.length c6)),(5,(.slice (some ⟨i1,0,none⟩) y0.length h1))]) _ (fun g1 c3 w'=>∃ O':Lab,Bs w A w' O'∧Vb w' (Fr 0 w' O') (.slice A3 x0.length c4) x0∧Vb w' (Fr 0 w' O') (.slice A5 x1.length c6) x1∧Rw 2 w' O' 3 (.slice (some ⟨i1,0,none⟩) y0.length h1) g1) _ () ⟨b6,hB,d0,b0,b3⟩ ⟨rfl,rfl,rfl,rfl,rfl,trivial⟩ (fun _ _=>⟨rfl,rfl⟩) (fun _ _=>⟨rfl,rfl,rfl,trivial⟩) (fun _ _ _ ⟨O',hB,d0,b0,m0⟩=>⟨O',hB,d0,b0,m0⟩) ⟨rfl,rfl,rfl⟩ ⟨rfl,rfl⟩ ?_
  rintro f5 g1 c3 x8 d6 h3 ⟨y8,hB,d0,b0,m0⟩ a1 i3 j3
  have rk31:inI64 (f5:Int):=rngKN h3 f3
  refine Al (Aj (Ar rfl rfl (Au rfl rfl (o_z ?_))))
  refine Aj (Ar rfl rfl (Ar rfl rfl (Ar rfl rfl ?_)))
  obtain ⟨z8,g5,a1⟩:=bs a1
  obtain ⟨a9,b9,e6,k1,k3,f6,rfl,c9⟩:=m0.elem g5
  refine Bi (hA:=k1) (hj:=rfl) (hlt:=k3) rfl rfl rfl ?_
  refine CW rfl m0 (a:=(f5:Int)) (vInt rk31) k1 rfl rfl (AD g5) fun d9 l3 m0=>?_
  refine o_z ?_
  obtain rfl:=sm a1
  exact show Exists _ from ⟨_,(),rfl,⟨rfl,rfl,rfl,rfl,rfl,trivial⟩,_,hB.st l3,d0.st l3,b0.st l3,m0⟩
 replace d0:=d0.st f1
 replace hB:=hB.st f1
 replace b0:=b0.st f1
 rintro e9 f9 ⟨g9,h9,rfl,m3,i9,hB,d0,b0,m0⟩
 replace hm:=AV hm
 refine AQ _ m3 ?_
 refine Al (Al (Aj (Ar rfl rfl (AP rfl rfl ?_))))
 have n3:x0.length≤9223372036854775807:=Nat.le_trans d0.len.2.1 d0.len.2.2
 have j9:inI64 (x0.length:Int):=rngNat n3
 refine Ar rfl rfl (o_z ?_)
 obtain ⟨l1,o3,hm⟩:=bs hm
 refine AL (aft l1 (fun (i0:(List Int)) (g0:(Option Addr×Nat))=>[(1,(.slice A5 x1.length c6)),(5,(.slice g0.1 i0.length g0.2))]) (fun i0 g0 w'=>∃ O':Lab,Bs w A w' O'∧Vb w' (Fr 0 w' O') (.slice A5 x1.length c6) x1∧Vb w' (Fr 0 w' O') (.slice g0.1 i0.length g0.2) i0)) ?_ ?_
 ·
  refine AN ?_
  obtain ⟨g6,p3,m0⟩:=m0.freeze
  replace d0:=d0.st p3
  replace hB:=hB.st p3
  replace b0:=b0.st p3
  refine Bp (σ:=(List Int)) (X:=(Option Addr×Nat)) (x0.length) o3 rfl n3 (fun (i0:(List Int)) (g0:(Option Addr×Nat))=>[(1,(.slice A5 x1.length c6)),(5,(.slice g0.1 i0.length g0.2)),(26,(.slice A3 x0.length c4))]) _ (fun i0 g0 w'=>∃ O':Lab,Bs w A w' O'∧Vb w' (Fr 0 w' O') (.slice A5 x1.length c6) x1∧Vb w' (Fr 0 w' O') (.slice g0.1 i0.length g0.2) i0∧Vb w' (Fr 0 w' O') (.slice A3 x0.length c4) x0) _ ((some ⟨i1,0,none⟩),h1) ⟨g6,hB,b0,m0.relen,d0⟩ ⟨rfl,rfl,rfl,(congrArg (fun n=>some (Value.slice _ n _)) m0.len.1.symm.symm),rfl,trivial⟩ (fun _ _=>⟨rfl,rfl⟩) (fun _ _=>⟨rfl,rfl,trivial⟩) (fun _ _ _ ⟨O',hB,b0,h0,d0⟩=>⟨O',hB,b0,h0⟩) ⟨rfl,rfl,rfl⟩ ⟨rfl,rfl⟩ ?_
  rintro q3 h6 i0 g0 k9 i6 m1 ⟨j6,hB,b0,h0,d0⟩ e0 r3 s3
  have rk74:inI64 (q3:Int):=rngK m1 n3
  refine Al (Aj (Ar rfl rfl ?_))
  obtain ⟨l9,m9,k6,t3,u3,v3,rfl,o9⟩:=d0.elem' m1
  refine Bi (hA:=t3) (hj:=rfl) (hlt:=u3) rfl rfl rfl ?_
  refine AE (hc:=cat0 v3) rfl rfl ?_
  refine Au rfl rfl (Au rfl rfl (o_z ?_))
  refine Al (Aj (Ar rfl rfl (AP rfl rfl ?_)))
  have l6:x1.length≤9223372036854775807:=Nat.le_trans b0.len.2.1 b0.len.2.2
  have p9:inI64 (x1.length:Int):=rngNat l6
  obtain ⟨q9,n1,e0⟩:=bs e0
  have m6:=(AW n1)
  refine Dv (he:=n1) rfl rfl rfl ?_
  obtain ⟨q0,w3,e0⟩:=bs e0
  obtain ⟨n0,x3,y3,z3,a4⟩:=FS w3
  refine Hs 3 (by decide) j6 (z0:=(0:Int)) rfl rfl rfl rfl rfl x3 (vInt (show inI64 0 from by decide)) y3 z3 rfl fun o0 n6 b4 j0 p0=>?_
  rw [← a4] at p0 ⊢
  refine Au rfl rfl (o_z ?_)
  refine Al (Aj (Ar rfl rfl (Ar rfl rfl ?_)))
  obtain ⟨d4,o1,e0⟩:=bs e0
  have e4:=(AW o1)
  refine Dv (he:=o1) rfl rfl rfl ?_
  obtain ⟨o6,f4,e0⟩:=bs e0
  obtain ⟨g4,p1⟩:=AS f4
  obtain ⟨p6,q6,h5,t0,q1,i5,rfl,r6⟩:=p0.elem p1
  refine Bi (hA:=t0) (hj:=(Int.toNat_of_nonneg g4).symm) (hlt:=q1) rfl rfl rfl ?_
  refine CW rfl p0 (a:=d4) (vInt e4) t0 rfl rfl (AD p1) fun s6 k0 p0=>?_
  refine o_z ?_
  refine Al (Al (Aj (Ar rfl rfl (AP rfl rfl ?_))))
  replace b0:=(b0.st j0).st k0
  have b1:x1.length≤9223372036854775807:=Nat.le_trans b0.len.2.1 b0.len.2.2
  have t6:inI64 (x1.length:Int):=rngNat b1
  refine Ar rfl rfl (o_z ?_)
  obtain ⟨c1,r1,e0⟩:=bs e0
  refine AL (aft c1 (fun (l0:(List Int)) (r0:Unit)=>[(1,(.slice A5 x1.length c6)),(9,(.slice (some ⟨o0,0,none⟩) q0.length n0)),(26,(.slice A3 x0.length c4)),(27,(.int .i64 (x0.length:Int))),(28,(.int .i64 (q3:Int)))]) (fun l0 r0 w'=>∃ O':Lab,Bs w A w' O'∧Vb w' (Fr 0 w' O') (.slice A5 x1.length c6) x1∧Rw 3 w' O' 3 (.slice (some ⟨o0,0,none⟩) q0.length n0) l0∧Vb w' (Fr 0 w' O') (.slice A3 x0.length c4) x0)) ?_ ?_
  ·
   refine AN ?_
   replace d0:=(d0.st j0).st k0
   replace hB:=(hB.st j0).st k0
   replace h0:=(h0.st j0).st k0
   refine Bp (σ:=(List Int)) (X:=Unit) (x1.length) r1 rfl b1 (fun (l0:(List Int)) (r0:Unit)=>[(1,(.slice A5 x1.length c6)),(5,(.slice g0.1 i0.length g0.2)),(8,(.string h6)),(9,(.slice (some ⟨o0,0,none⟩) q0.length n0)),(26,(.slice A3 x0.length c4)),(27,(.int .i64 (x0.length:Int))),(28,(.int .i64 (q3:Int))),(41,(.slice A5 x1.length c6))]) _ (fun l0 r0 w'=>∃ O':Lab,Bs w A w' O'∧Vb w' (Fr 0 w' O') (.slice A5 x1.length c6) x1∧Vb w' (Fr 0 w' O') (.slice g0.1 i0.length g0.2) i0∧Rw 3 w' O' 3 (.slice (some ⟨o0,0,none⟩) q0.length n0) l0∧Vb w' (Fr 0 w' O') (.slice A3 x0.length c4) x0) _ () ⟨b4,hB,b0,h0,p0,d0⟩ ⟨rfl,rfl,rfl,rfl,rfl,rfl,rfl,rfl,rfl,rfl,trivial⟩ (fun _ _=>⟨rfl,rfl⟩) (fun _ _=>⟨rfl,rfl,rfl,rfl,rfl,trivial⟩) (fun _ _ _ ⟨O',hB,b0,h0,c0,d0⟩=>⟨O',hB,b0,c0,d0⟩) ⟨rfl,rfl,rfl⟩ ⟨rfl,rfl⟩ ?_
   rintro h4 u6 l0 r0 v6 j5 u0 ⟨s1,hB,b0,h0,c0,d0⟩ a0 d3 e3
   have rk138:inI64 (h4:Int):=rngK u0 b1
   refine Al (Aj (Ar rfl rfl ?_))
   obtain ⟨w6,x6,k5,t1,u1,v1,rfl,y6⟩:=b0.elem' u0
   refine Bi (hA:=t1) (hj:=rfl) (hlt:=u1) rfl rfl rfl ?_
   refine AE (hc:=cat0 v1) rfl rfl ?_
   refine Au rfl rfl (Au rfl rfl (o_z ?_))
   refine Al (BC [] s1 ?_)
   refine AY (fuel:=1) [] [(0,true),(1,true),(2,true),(3,true),(4,true),(5,true),(6,true),(7,true),(8,true),(9,true),(10,true),(11,true),(12,true),(13,true),(14,true)] (by kernel_rfl) rfl ?_
   refine AJ rfl rfl rfl (AJ rfl rfl rfl ?_)
   obtain ⟨z6,w1,a0⟩:=bs a0
   have a7:=(AW w1)
   refine Ey (he:=w1) rfl rfl rfl rfl ?_
   refine AJ rfl rfl rfl (AJ rfl rfl rfl ?_)
   obtain ⟨b7,i4,a0⟩:=bs a0
   obtain ⟨c7,d7,l5,y1,z1,a2,b2,rfl,e7⟩:=c0.elemF i4
   refine BP (hA:=y1) (hj:=rfl) (hlt:=a2) rfl rfl rfl rfl ?_
   refine AZ (hc:=fun w' ⟨O',hq⟩=>cat0 (Bh (hq.agree (i:=3) (by decide)) z1 b2)) rfl rfl rfl ?_
   refine AJ rfl rfl rfl (AJ rfl rfl rfl ?_)
   obtain ⟨f7,c2,a0⟩:=bs a0
   have g7:=(AW c2)
   refine Ey (he:=c2) rfl rfl rfl rfl ?_
   obtain ⟨h7,j4,a0⟩:=bs a0
   obtain ⟨k4,l4⟩:=AS j4
   obtain ⟨i7,j7,m5,d2,e2,f2,g2,rfl,k7⟩:=h0.elem l4
   refine BP (hA:=d2) (hj:=(Int.toNat_of_nonneg k4).symm) (hlt:=f2) rfl rfl rfl rfl ?_
   refine AZ (hc:=fun w' ⟨O',hq⟩=>cat0 (Bh (hq.agree (i:=0) (by decide)) e2 g2)) rfl rfl rfl ?_
   refine Mu rfl rfl rfl rfl ?_
   obtain ⟨m4,h2,a0⟩:=bs a0
   have n4:=(AW h2)
   refine Ey (he:=h2) rfl rfl rfl rfl ?_
   obtain ⟨l7,o4,a0⟩:=bs a0
   obtain ⟨p4,i2⟩:=AS o4
   obtain ⟨m7,n7,n5,v0,o5,j2,p5,rfl,o7⟩:=c0.elemF i2
   refine BP (hA:=v0) (hj:=(Int.toNat_of_nonneg p4).symm) (hlt:=j2) rfl rfl rfl rfl ?_
   refine AM ?_
   refine Bb (i:=15) (by kernel_rfl) rfl ?_
   refine CW rfl c0 (a:=m4) (vInt n4) v0 rfl rfl (AD i2) fun p7 f0 c0=>?_
   refine Dm (by kernel_rfl) ?_
   refine Cn (by kernel_rfl) ?_
   refine Al (Aj (Ar rfl rfl (Ar rfl rfl (OI rfl rfl rfl (fun d1=>?_) fun d1=>?_))))
   ·
    replace a0:=ip a0 d1
    refine o_z ?_
    refine Ah rfl (BC [] s1 ?_)
    refine AY (fuel:=1) [] [(0,true),(1,true),(2,true),(3,true),(4,true),(5,true),(6,true),(7,true),(8,true),(9,true),(10,true),(11,true),(12,true),(13,true)] (by kernel_rfl) rfl ?_
    refine AJ rfl rfl rfl (AJ rfl rfl rfl ?_)
    obtain ⟨q7,k2,a0⟩:=bs a0
    have s7:=(AW k2)
    refine Ey (he:=k2) rfl rfl rfl rfl ?_
    refine AJ rfl rfl rfl (AJ rfl rfl rfl ?_)
    obtain ⟨t7,l2,a0⟩:=bs a0
    have u7:=(AW l2)
    refine Ey (he:=l2) rfl rfl rfl rfl ?_
    obtain ⟨q4,r4,a0⟩:=bs a0
    obtain ⟨s4,t4⟩:=AS r4
    obtain ⟨v7,w7,q5,m2,n2,o2,p2,rfl,u4⟩:=c0.elemF t4
    refine BP (hA:=m2) (hj:=(Int.toNat_of_nonneg s4).symm) (hlt:=o2) rfl rfl rfl rfl ?_
    refine AZ (hc:=fun w' ⟨O',hq⟩=>cat0 (Bh (hq.agree (i:=3) (by decide)) n2 p2)) rfl rfl rfl ?_
    refine AJ rfl rfl rfl (AJ rfl rfl rfl ?_)
    obtain ⟨v4,w4,a0⟩:=bs a0
    replace h0:=h0.st f0
    obtain ⟨x7,y7,r5,q2,r2,s2,t2,rfl,x4⟩:=h0.elem w4
    refine BP (hA:=q2) (hj:=rfl) (hlt:=s2) rfl rfl rfl rfl ?_
    refine AZ (hc:=fun w' ⟨O',hq⟩=>cat0 (Bh (hq.agree (i:=0) (by decide)) r2 t2)) rfl rfl rfl ?_
    refine Mu rfl rfl rfl rfl ?_
    obtain ⟨z7,y4,a0⟩:=bs a0
    obtain ⟨z4,u2⟩:=AS y4
    obtain ⟨a8,b8,s5,w0,t5,v2,u5,rfl,c8⟩:=c0.elemF u2
    refine BP (hA:=w0) (hj:=(Int.toNat_of_nonneg z4).symm) (hlt:=v2) rfl rfl rfl rfl ?_
    refine AM ?_
    refine Bb (i:=14) (by kernel_rfl) rfl ?_
    refine CW rfl c0 (a:=(min q4 v4)) (vInt (rngMin u4 x4)) w0 rfl rfl (AD u2) fun d8 s0 c0=>?_
    refine Dm (by kernel_rfl) ?_
    refine Cn (by kernel_rfl) ?_
    obtain rfl:=sm a0
    exact show Exists _ from ⟨_,(),rfl,⟨rfl,rfl,rfl,rfl,rfl,rfl,rfl,rfl,rfl,rfl,trivial⟩,_,(hB.st f0).st s0,(b0.st f0).st s0,h0.st s0,c0,(d0.st f0).st s0⟩
   replace a0:=im a0 d1
   refine o_z ?_
   refine Ae rfl (AO ?_)
   obtain rfl:=sm a0
   exact show Exists _ from ⟨_,(),rfl,⟨rfl,rfl,rfl,rfl,rfl,rfl,rfl,rfl,rfl,rfl,trivial⟩,_,hB.st f0,b0.st f0,h0.st f0,c0,d0.st f0⟩
  replace d0:=(d0.st j0).st k0
  replace hB:=(hB.st j0).st k0
  rintro e8 f8 ⟨g8,h8,rfl,w2,i8,hB,b0,c0,d0⟩
  replace e0:=AV e0
  refine AQ _ w2 ?_
  refine Aj (Ar rfl rfl (Au rfl rfl (o_z ?_)))
  obtain ⟨j8,e1,c0⟩:=c0.freeze
  obtain rfl:=sm e0
  exact show Exists _ from ⟨_,((some ⟨o0,0,none⟩),n0),rfl,⟨rfl,rfl,rfl,(congrArg (fun n=>some (Value.slice _ n _)) c0.len.1.symm.symm),rfl,trivial⟩,_,hB.st e1,b0.st e1,c0.relen,d0.st e1⟩
 rintro k8 m8 ⟨n8,o8,rfl,x2,p8,hB,b0,h0⟩
 replace hm:=AV hm
 refine AQ _ x2 ?_
 refine Al (Aj (Ar rfl rfl (Ar rfl rfl (AP rfl rfl ?_))))
 have a5:x1.length≤9223372036854775807:=Nat.le_trans b0.len.2.1 b0.len.2.2
 have q8:inI64 (x1.length:Int):=rngNat a5
 obtain ⟨r8,b5,hm⟩:=bs hm
 obtain ⟨s8,t8,v5,y2,z2,a3,rfl,c5⟩:=h0.elem' b5
 refine Bi (hA:=y2) (hj:=rfl) (hlt:=z2) rfl rfl rfl ?_
 refine AE (hc:=cat0 a3) rfl rfl ?_
 refine Au rfl rfl (o_z ?_)
 refine AK ?_
 obtain rfl:=sm hm
 exact ret1v rfl (AB rfl) ⟨hB.ext,(vInt c5)⟩
noncomputable def Eg (x0:List ByteArray) (x1:List ByteArray):Option Int :=
  bnd (chkI ((x1.length:Int) + 1)) fun n9=>bnd (mkI 8 (0:Int) n9) fun u12=>bnd (rngN (ρ:=Int) (fun (k31:Nat) (s29:(List Int))=>bnd (s29[k31]?) fun a50=>some (.next (s29.set k31 (k31:Int)))) u12.length u12) fun res27=>fin res27 fun (s66:(List Int))=>bnd (rng (ρ:=Int) (fun (k74:Nat) (a75:ByteArray) (s72:(List Int))=>bnd (chkI ((x1.length:Int) + 1)) fun n91=>bnd (mkI 8 (0:Int) n91) fun u94=>bnd (chkI ((k74:Int) + 1)) fun n107=>bnd (atI u94 0) fun a110=>bnd (rng (ρ:=Ctl (List Int) Int) (fun (k130:Nat) (a131:ByteArray) (s128:(List Int))=>bnd (chkI ((k130:Int) + 1)) fun n145=>bnd (chkI ((k130:Int) + 1)) fun n148=>bnd (atI s72 n148) fun a151=>bnd (s128[k130]?) fun a163=>bnd (chkI ((min a151 a163) + 1)) fun n173=>bnd (atI s128 n145) fun a176=>if a75=a131 then (bnd (chkI ((k130:Int) + 1)) fun n207=>bnd (chkI ((k130:Int) + 1)) fun n210=>bnd (atI (s128.set (n145:Int).toNat n173) n210) fun a213=>bnd (s72[k130]?) fun a225=>bnd (atI (s128.set (n145:Int).toNat n173) n207) fun a235=>some (.next ((s128.set (n145:Int).toNat n173).set (n207:Int).toNat (min a213 a225)))) else (some (.next (s128.set (n145:Int).toNat n173)))) x1 0 (u94.set (0:Int).toNat n107)) fun res126=>fin res126 fun (s253:(List Int))=>some (.next s253)) x0 0 s66) fun res70=>fin res70 fun (s261:(List Int))=>bnd (s261[x1.length]?) fun a265=>some a265
theorem KF {w:World} {A:Nat→Prop} (hA:∀ k,A k→k < w.heap.size) {vx0:Value} {x0:List ByteArray} (c0:Vb w A vx0 x0) {vx1:Value} {x1:List ByteArray} (b0:Vb w A vx1 x1) {r:Int} (hm:Eg x0 x1=some r) :
    Fn Tryz.prog 16 [vx0,vx1] w fun v w'=>Ext w w'∧Vb w' (upA A w w') v r:=by
 obtain ⟨O,hB,z4⟩:=enter hA
 replace c0:=c0.mono z4
 obtain ⟨A3,c4,rfl⟩:=c0.form
 replace b0:=b0.mono z4
 obtain ⟨A5,c6,rfl⟩:=b0.form
 refine AH Tryz.func16 rfl Tryz.ntmps16 rfl ?_
 unfold Eg at hm
 refine Al (Aj (Au rfl rfl (o_z ?_)))
 refine Al (Aj (Ar rfl rfl (AP rfl rfl ?_)))
 have l8:x1.length≤9223372036854775807:=Nat.le_trans b0.len.2.1 b0.len.2.2
 have r7:inI64 (x1.length:Int):=rngNat l8
 obtain ⟨n9,a5,hm⟩:=bs hm
 have v8:=(AW a5)
 refine Dv (he:=a5) rfl rfl rfl ?_
 obtain ⟨v0,u5,hm⟩:=bs hm
 obtain ⟨f1,v5,w5,x5,y5⟩:=FS u5
 refine Hs 2 (by decide) O (z0:=(0:Int)) rfl rfl rfl rfl rfl v5 (vInt (show inI64 0 from by decide)) w5 x5 rfl fun g1 w8 z5 d1 c3=>?_
 rw [← y5] at c3 ⊢
 refine Au rfl rfl (o_z ?_)
 refine Al (Al (Aj (Ar rfl rfl (AP rfl rfl ?_))))
 have i3:v0.length≤9223372036854775807:=Nat.le_trans c3.len.2.1 c3.len.2.2
 have x8:inI64 (v0.length:Int):=rngNat i3
 refine Ar rfl rfl (o_z ?_)
 obtain ⟨h1,j3,hm⟩:=bs hm
 refine AL (aft h1 (fun (e1:(List Int)) (d3:Unit)=>[(0,(.slice A3 x0.length c4)),(1,(.slice A5 x1.length c6)),(5,(.slice (some ⟨g1,0,none⟩) v0.length f1))]) (fun e1 d3 w'=>∃ O':Lab,Bs w A w' O'∧Vb w' (Fr 0 w' O') (.slice A3 x0.length c4) x0∧Vb w' (Fr 0 w' O') (.slice A5 x1.length c6) x1∧Rw 2 w' O' 3 (.slice (some ⟨g1,0,none⟩) v0.length f1) e1)) ?_ ?_
 ·
  refine AN ?_
  replace c0:=c0.st d1
  replace hB:=hB.st d1
  replace b0:=b0.st d1
  refine Gy (σ:=(List Int)) (X:=Unit) (v0.length) j3 i3 (fun (e1:(List Int)) (d3:Unit)=>[(0,(.slice A3 x0.length c4)),(1,(.slice A5 x1.length c6)),(5,(.slice (some ⟨g1,0,none⟩) v0.length f1))]) _ (fun e1 d3 w'=>∃ O':Lab,Bs w A w' O'∧Vb w' (Fr 0 w' O') (.slice A3 x0.length c4) x0∧Vb w' (Fr 0 w' O') (.slice A5 x1.length c6) x1∧Rw 2 w' O' 3 (.slice (some ⟨g1,0,none⟩) v0.length f1) e1) _ () ⟨z5,hB,c0,b0,c3⟩ ⟨rfl,rfl,rfl,rfl,rfl,trivial⟩ (fun _ _=>⟨rfl,rfl⟩) (fun _ _=>⟨rfl,rfl,rfl,trivial⟩) (fun _ _ _ ⟨O',hB,c0,b0,m0⟩=>⟨O',hB,c0,b0,m0⟩) ⟨rfl,rfl,rfl⟩ ⟨rfl,rfl⟩ ?_
  rintro b5 e1 d3 y8 a6 k3 ⟨z8,hB,c0,b0,m0⟩ w0 l3 m3
  have rk31:inI64 (b5:Int):=rngKN k3 i3
  refine Al (Aj (Ar rfl rfl (Au rfl rfl (o_z ?_))))
  refine Aj (Ar rfl rfl (Ar rfl rfl (Ar rfl rfl ?_)))
  obtain ⟨a9,c5,w0⟩:=bs w0
  obtain ⟨b9,c9,b6,i1,n3,d6,rfl,d9⟩:=m0.elem c5
  refine Bi (hA:=i1) (hj:=rfl) (hlt:=n3) rfl rfl rfl ?_
  refine CW rfl m0 (a:=(b5:Int)) (vInt rk31) i1 rfl rfl (AD c5) fun e9 o3 m0=>?_
  refine o_z ?_
  obtain rfl:=sm w0
  exact show Exists _ from ⟨_,(),rfl,⟨rfl,rfl,rfl,rfl,rfl,trivial⟩,_,hB.st o3,c0.st o3,b0.st o3,m0⟩
 replace c0:=c0.st d1
 replace hB:=hB.st d1
 replace b0:=b0.st d1
 rintro f9 g9 ⟨h9,i9,rfl,p3,j9,hB,c0,b0,m0⟩
 replace hm:=AV hm
 refine AQ _ p3 ?_
 refine Al (Al (Aj (Ar rfl rfl (AP rfl rfl ?_))))
 have q3:x0.length≤9223372036854775807:=Nat.le_trans c0.len.2.1 c0.len.2.2
 have k9:inI64 (x0.length:Int):=rngNat q3
 refine Ar rfl rfl (o_z ?_)
 obtain ⟨j1,r3,hm⟩:=bs hm
 refine AL (aft j1 (fun (h0:(List Int)) (f0:(Option Addr×Nat))=>[(1,(.slice A5 x1.length c6)),(5,(.slice f0.1 h0.length f0.2))]) (fun h0 f0 w'=>∃ O':Lab,Bs w A w' O'∧Vb w' (Fr 0 w' O') (.slice A5 x1.length c6) x1∧Vb w' (Fr 0 w' O') (.slice f0.1 h0.length f0.2) h0)) ?_ ?_
 ·
  refine AN ?_
  obtain ⟨e6,s3,m0⟩:=m0.freeze
  replace c0:=c0.st s3
  replace hB:=hB.st s3
  replace b0:=b0.st s3
  refine Bp (σ:=(List Int)) (X:=(Option Addr×Nat)) (x0.length) r3 rfl q3 (fun (h0:(List Int)) (f0:(Option Addr×Nat))=>[(0,(.slice A3 x0.length c4)),(1,(.slice A5 x1.length c6)),(5,(.slice f0.1 h0.length f0.2))]) _ (fun h0 f0 w'=>∃ O':Lab,Bs w A w' O'∧Vb w' (Fr 0 w' O') (.slice A3 x0.length c4) x0∧Vb w' (Fr 0 w' O') (.slice A5 x1.length c6) x1∧Vb w' (Fr 0 w' O') (.slice f0.1 h0.length f0.2) h0) _ ((some ⟨g1,0,none⟩),f1) ⟨e6,hB,c0,b0,m0.relen⟩ ⟨rfl,rfl,rfl,rfl,(congrArg (fun n=>some (Value.slice _ n _)) m0.len.1.symm.symm),trivial⟩ (fun _ _=>⟨rfl,rfl⟩) (fun _ _=>⟨rfl,rfl,trivial⟩) (fun _ _ _ ⟨O',hB,c0,b0,g0⟩=>⟨O',hB,b0,g0⟩) ⟨rfl,rfl,rfl⟩ ⟨rfl,rfl⟩ ?_
  rintro e3 l9 h0 f0 m9 f6 k1 ⟨g6,hB,c0,b0,g0⟩ e0 t3 u3
  have rk74:inI64 (e3:Int):=rngK k1 q3
  refine Al (Aj (Ar rfl rfl (Au rfl rfl (o_z ?_))))
  refine Al (Aj (Ar rfl rfl (AP rfl rfl ?_)))
  have h6:x1.length≤9223372036854775807:=Nat.le_trans b0.len.2.1 b0.len.2.2
  have o9:inI64 (x1.length:Int):=rngNat h6
  obtain ⟨p9,d5,e0⟩:=bs e0
  have q9:=(AW d5)
  refine Dv (he:=d5) rfl rfl rfl ?_
  obtain ⟨f3,i6,e0⟩:=bs e0
  obtain ⟨l1,j6,k6,l6,v3⟩:=FS i6
  refine Hs 3 (by decide) g6 (z0:=(0:Int)) rfl rfl rfl rfl rfl j6 (vInt (show inI64 0 from by decide)) k6 l6 rfl fun n0 m6 w3 i0 o0=>?_
  rw [← v3] at o0 ⊢
  refine Au rfl rfl (o_z ?_)
  refine Al (Aj (Ar rfl rfl (Ar rfl rfl ?_)))
  obtain ⟨x3,m1,e0⟩:=bs e0
  have y3:=(AW m1)
  refine Dv (he:=m1) rfl rfl rfl ?_
  obtain ⟨n6,z3,e0⟩:=bs e0
  obtain ⟨a4,n1⟩:=AS z3
  obtain ⟨o6,p6,e5,r0,o1,f5,rfl,q6⟩:=o0.elem n1
  refine Bi (hA:=r0) (hj:=(Int.toNat_of_nonneg a4).symm) (hlt:=o1) rfl rfl rfl ?_
  refine CW rfl o0 (a:=x3) (vInt y3) r0 rfl rfl (AD n1) fun r6 j0 o0=>?_
  refine o_z ?_
  refine Al (Al (Aj (Ar rfl rfl (AP rfl rfl ?_))))
  replace b0:=(b0.st i0).st j0
  have y0:x1.length≤9223372036854775807:=Nat.le_trans b0.len.2.1 b0.len.2.2
  have s6:inI64 (x1.length:Int):=rngNat y0
  refine Ar rfl rfl (o_z ?_)
  obtain ⟨a1,p1,e0⟩:=bs e0
  refine AL (aft a1 (fun (k0:(List Int)) (p0:Unit)=>[(0,(.slice A3 x0.length c4)),(1,(.slice A5 x1.length c6)),(8,(.slice (some ⟨n0,0,none⟩) f3.length l1)),(25,(.int .i64 (x0.length:Int))),(26,(.int .i64 (e3:Int)))]) (fun k0 p0 w'=>∃ O':Lab,Bs w A w' O'∧Vb w' (Fr 0 w' O') (.slice A3 x0.length c4) x0∧Vb w' (Fr 0 w' O') (.slice A5 x1.length c6) x1∧Rw 3 w' O' 3 (.slice (some ⟨n0,0,none⟩) f3.length l1) k0)) ?_ ?_
  ·
   refine AN ?_
   replace c0:=(c0.st i0).st j0
   replace hB:=(hB.st i0).st j0
   replace g0:=(g0.st i0).st j0
   refine Bp (σ:=(List Int)) (X:=Unit) (x1.length) p1 rfl y0 (fun (k0:(List Int)) (p0:Unit)=>[(0,(.slice A3 x0.length c4)),(1,(.slice A5 x1.length c6)),(5,(.slice f0.1 h0.length f0.2)),(7,(.int .i64 (e3:Int))),(8,(.slice (some ⟨n0,0,none⟩) f3.length l1)),(25,(.int .i64 (x0.length:Int))),(26,(.int .i64 (e3:Int)))]) _ (fun k0 p0 w'=>∃ O':Lab,Bs w A w' O'∧Vb w' (Fr 0 w' O') (.slice A3 x0.length c4) x0∧Vb w' (Fr 0 w' O') (.slice A5 x1.length c6) x1∧Vb w' (Fr 0 w' O') (.slice f0.1 h0.length f0.2) h0∧Rw 3 w' O' 3 (.slice (some ⟨n0,0,none⟩) f3.length l1) k0) _ () ⟨w3,hB,c0,b0,g0,o0⟩ ⟨rfl,rfl,rfl,rfl,rfl,rfl,rfl,rfl,rfl,trivial⟩ (fun _ _=>⟨rfl,rfl⟩) (fun _ _=>⟨rfl,rfl,rfl,rfl,rfl,trivial⟩) (fun _ _ _ ⟨O',hB,c0,b0,g0,d0⟩=>⟨O',hB,c0,b0,d0⟩) ⟨rfl,rfl,rfl⟩ ⟨rfl,rfl⟩ ?_
   rintro b4 t6 k0 p0 u6 g5 s0 ⟨q1,hB,c0,b0,g0,d0⟩ a0 g3 h3
   have rk130:inI64 (b4:Int):=rngK s0 y0
   refine Al (Aj (Ar rfl rfl (Au rfl rfl (o_z ?_))))
   refine Al (BC [] q1 ?_)
   refine AY (fuel:=1) [] [(0,true),(1,true),(2,true),(3,true),(4,true),(5,true),(6,true),(7,true),(8,true),(9,true),(10,true),(11,true),(12,true),(13,true),(14,true)] (by kernel_rfl) rfl ?_
   refine AJ rfl rfl rfl (AJ rfl rfl rfl ?_)
   obtain ⟨v6,r1,a0⟩:=bs a0
   have w6:=(AW r1)
   refine Ey (he:=r1) rfl rfl rfl rfl ?_
   refine AJ rfl rfl rfl (AJ rfl rfl rfl ?_)
   obtain ⟨x6,s1,a0⟩:=bs a0
   have y6:=(AW s1)
   refine Ey (he:=s1) rfl rfl rfl rfl ?_
   obtain ⟨z6,d4,a0⟩:=bs a0
   obtain ⟨e4,f4⟩:=AS d4
   obtain ⟨a7,b7,h5,t1,u1,v1,w1,rfl,c7⟩:=g0.elem f4
   refine BP (hA:=t1) (hj:=(Int.toNat_of_nonneg e4).symm) (hlt:=v1) rfl rfl rfl rfl ?_
   refine AZ (hc:=fun w' ⟨O',hq⟩=>cat0 (Bh (hq.agree (i:=0) (by decide)) u1 w1)) rfl rfl rfl ?_
   refine AJ rfl rfl rfl (AJ rfl rfl rfl ?_)
   obtain ⟨d7,g4,a0⟩:=bs a0
   obtain ⟨e7,f7,i5,y1,z1,a2,b2,rfl,g7⟩:=d0.elemF g4
   refine BP (hA:=y1) (hj:=rfl) (hlt:=a2) rfl rfl rfl rfl ?_
   refine AZ (hc:=fun w' ⟨O',hq⟩=>cat0 (Bh (hq.agree (i:=3) (by decide)) z1 b2)) rfl rfl rfl ?_
   refine Mu rfl rfl rfl rfl ?_
   obtain ⟨h4,c2,a0⟩:=bs a0
   have i4:=(AW c2)
   refine Ey (he:=c2) rfl rfl rfl rfl ?_
   obtain ⟨h7,j4,a0⟩:=bs a0
   obtain ⟨k4,d2⟩:=AS j4
   obtain ⟨i7,j7,j5,t0,k5,e2,l5,rfl,k7⟩:=d0.elemF d2
   refine BP (hA:=t0) (hj:=(Int.toNat_of_nonneg k4).symm) (hlt:=e2) rfl rfl rfl rfl ?_
   refine AM ?_
   refine Bb (i:=15) (by kernel_rfl) rfl ?_
   refine CW rfl d0 (a:=h4) (vInt i4) t0 rfl rfl (AD d2) fun l4 l0 d0=>?_
   refine Dm (by kernel_rfl) ?_
   refine Cn (by kernel_rfl) ?_
   refine Al (Cr (·=l4) [(0,true),(1,true),(2,true),(3,true),(4,true),(5,true),(6,true),(7,true),(8,true)] (by kernel_rfl) rfl (by kernel_rfl) rfl ?_)
   refine AJ rfl rfl rfl (AJ rfl rfl rfl ?_)
   replace c0:=c0.st l0
   obtain ⟨l7,m7,m5,f2,g2,h2,rfl,n7⟩:=c0.elem' k1
   refine BP (hA:=f2) (hj:=rfl) (hlt:=g2) rfl rfl rfl rfl ?_
   refine Cm (hc:=cat0 h2) rfl rfl rfl ?_
   refine AJ rfl rfl rfl (AJ rfl rfl rfl ?_)
   replace b0:=b0.st l0
   obtain ⟨o7,p7,n5,i2,j2,k2,rfl,q7⟩:=b0.elem' s0
   refine BP (hA:=i2) (hj:=rfl) (hlt:=j2) rfl rfl rfl rfl ?_
   refine Cm (hc:=cat0 k2) rfl rfl rfl ?_
   refine SU rfl rfl rfl rfl (fun b1=>?_) fun b1=>?_
   ·
    replace a0:=ip a0 b1
    refine h_z ?_
    refine Ah rfl (BC [] q1 ?_)
    refine AY (fuel:=1) [] [(0,true),(1,true),(2,true),(3,true),(4,true),(5,true),(6,true),(7,true),(8,true),(9,true),(10,true),(11,true),(12,true),(13,true)] (by kernel_rfl) rfl ?_
    refine AJ rfl rfl rfl (AJ rfl rfl rfl ?_)
    obtain ⟨s7,l2,a0⟩:=bs a0
    have t7:=(AW l2)
    refine Ey (he:=l2) rfl rfl rfl rfl ?_
    refine AJ rfl rfl rfl (AJ rfl rfl rfl ?_)
    obtain ⟨u7,m2,a0⟩:=bs a0
    have v7:=(AW m2)
    refine Ey (he:=m2) rfl rfl rfl rfl ?_
    obtain ⟨m4,n4,a0⟩:=bs a0
    obtain ⟨o4,p4⟩:=AS n4
    obtain ⟨w7,x7,o5,n2,o2,p2,q2,rfl,q4⟩:=d0.elemF p4
    refine BP (hA:=n2) (hj:=(Int.toNat_of_nonneg o4).symm) (hlt:=p2) rfl rfl rfl rfl ?_
    refine AZ (hc:=fun w' ⟨O',hq⟩=>cat0 (Bh (hq.agree (i:=3) (by decide)) o2 q2)) rfl rfl rfl ?_
    refine AJ rfl rfl rfl (AJ rfl rfl rfl ?_)
    obtain ⟨r4,s4,a0⟩:=bs a0
    replace g0:=g0.st l0
    obtain ⟨y7,z7,p5,r2,s2,t2,u2,rfl,t4⟩:=g0.elem s4
    refine BP (hA:=r2) (hj:=rfl) (hlt:=t2) rfl rfl rfl rfl ?_
    refine AZ (hc:=fun w' ⟨O',hq⟩=>cat0 (Bh (hq.agree (i:=0) (by decide)) s2 u2)) rfl rfl rfl ?_
    refine Mu rfl rfl rfl rfl ?_
    obtain ⟨a8,u4,a0⟩:=bs a0
    obtain ⟨v4,v2⟩:=AS u4
    obtain ⟨b8,c8,q5,u0,r5,w2,s5,rfl,d8⟩:=d0.elemF v2
    refine BP (hA:=u0) (hj:=(Int.toNat_of_nonneg v4).symm) (hlt:=w2) rfl rfl rfl rfl ?_
    refine AM ?_
    refine Bb (i:=14) (by kernel_rfl) rfl ?_
    refine CW rfl d0 (a:=(min m4 r4)) (vInt (rngMin q4 t4)) u0 rfl rfl (AD v2) fun e8 q0 d0=>?_
    refine Dm (by kernel_rfl) ?_
    refine Cn (by kernel_rfl) ?_
    obtain rfl:=sm a0
    exact show Exists _ from ⟨_,(),rfl,⟨rfl,rfl,rfl,rfl,rfl,rfl,rfl,rfl,rfl,trivial⟩,_,(hB.st l0).st q0,c0.st q0,b0.st q0,g0.st q0,d0⟩
   replace a0:=im a0 b1
   refine h_z ?_
   refine Ae rfl (AO ?_)
   obtain rfl:=sm a0
   exact show Exists _ from ⟨_,(),rfl,⟨rfl,rfl,rfl,rfl,rfl,rfl,rfl,rfl,rfl,trivial⟩,_,hB.st l0,c0,b0,g0.st l0,d0⟩
  replace c0:=(c0.st i0).st j0
  replace hB:=(hB.st i0).st j0
  rintro f8 g8 ⟨h8,i8,rfl,x2,j8,hB,c0,b0,d0⟩
  replace e0:=AV e0
  refine AQ _ x2 ?_
  refine Aj (Ar rfl rfl (Au rfl rfl (o_z ?_)))
  obtain ⟨k8,c1,d0⟩:=d0.freeze
  obtain rfl:=sm e0
  exact show Exists _ from ⟨_,((some ⟨n0,0,none⟩),l1),rfl,⟨rfl,rfl,rfl,rfl,(congrArg (fun n=>some (Value.slice _ n _)) d0.len.1.symm.symm),trivial⟩,_,hB.st c1,c0.st c1,b0.st c1,d0.relen⟩
 rintro m8 n8 ⟨o8,p8,rfl,y2,q8,hB,b0,g0⟩
 replace hm:=AV hm
 refine AQ _ y2 ?_
 refine Al (Aj (Ar rfl rfl (Ar rfl rfl (AP rfl rfl ?_))))
 have w4:x1.length≤9223372036854775807:=Nat.le_trans b0.len.2.1 b0.len.2.2
 have r8:inI64 (x1.length:Int):=rngNat w4
 obtain ⟨s8,x4,hm⟩:=bs hm
 obtain ⟨t8,u8,t5,z2,a3,b3,rfl,y4⟩:=g0.elem' x4
 refine Bi (hA:=z2) (hj:=rfl) (hlt:=a3) rfl rfl rfl ?_
 refine AE (hc:=cat0 b3) rfl rfl ?_
 refine Au rfl rfl (o_z ?_)
 refine AK ?_
 obtain rfl:=sm hm
 exact ret1v rfl (AB rfl) ⟨hB.ext,(vInt y4)⟩
noncomputable def Ft (x0:List ByteArray):Option Bool :=
  bnd (rng (ρ:=Bool) (fun (k12:Nat) (a13:ByteArray) (s10:Int)=>some (.next (wr (s10 + (a13.size:Int))))) x0 0 (x0.length:Int)) fun res8=>fin res8 fun (s38:Int)=>bnd (if 600 < s38 then (some true) else (some false):Option Bool) fun y40=>some y40
theorem Nb {w:World} {A:Nat→Prop} (hA:∀ k,A k→k < w.heap.size) {vx0:Value} {x0:List ByteArray} (b0:Vb w A vx0 x0) {r:Bool} (hm:Ft x0=some r) :
    Fn Tryz.prog 9 [vx0] w fun v w'=>Ext w w'∧Vb w' (upA A w w') v r:=by
 obtain ⟨O,hB,q0⟩:=enter hA
 replace b0:=b0.mono q0
 obtain ⟨A2,c3,rfl⟩:=b0.form
 refine AH Tryz.func9 rfl Tryz.ntmps9 rfl ?_
 unfold Ft at hm
 refine Al (Aj (Au rfl rfl (o_z ?_)))
 refine Al (Aj (Ar rfl rfl (AP rfl rfl ?_)))
 have l5:x0.length≤9223372036854775807:=Nat.le_trans b0.len.2.1 b0.len.2.2
 have r4:inI64 (x0.length:Int):=rngNat l5
 refine Au rfl rfl (o_z ?_)
 refine Al (Al (Aj (Ar rfl rfl (AP rfl rfl ?_))))
 have l7:x0.length≤9223372036854775807:=Nat.le_trans b0.len.2.1 b0.len.2.2
 have r6:inI64 (x0.length:Int):=rngNat l7
 refine Ar rfl rfl (o_z ?_)
 obtain ⟨f0,r0,hm⟩:=bs hm
 refine AL (aft f0 (fun (c0:Int) (e0:Unit)=>[(3,(.int .i64 c0))]) (fun c0 e0 w'=>∃ O':Lab,Bs w A w' O'∧inI64 c0)) ?_ ?_
 ·
  refine AN (Bp (σ:=Int) (X:=Unit) (x0.length) r0 rfl l7 (fun (c0:Int) (e0:Unit)=>[(3,(.int .i64 c0)),(8,(.slice A2 x0.length c3))]) _ (fun c0 e0 w'=>∃ O':Lab,Bs w A w' O'∧Vb w' (Fr 0 w' O') (.slice A2 x0.length c3) x0∧inI64 c0) _ () ⟨O,hB,b0,r4⟩ ⟨rfl,rfl,rfl,rfl,trivial⟩ (fun _ _=>⟨rfl,rfl⟩) (fun _ _=>⟨rfl,trivial⟩) (fun _ _ _ ⟨O',hB,b0,g0⟩=>⟨O',hB,g0⟩) ⟨rfl,rfl,rfl⟩ ⟨rfl,rfl⟩ ?_)
  rintro s0 t0 c0 e0 a1 u0 d0 ⟨b1,hB,b0,g0⟩ h0 i0 j0
  have rk12:inI64 (s0:Int):=rngK d0 l7
  refine Al (Aj ?_)
  obtain ⟨c1,d1,v0,k0,l0,m0,rfl,w0⟩:=b0.elem' d0
  refine Bi (hA:=k0) (hj:=rfl) (hlt:=l0) rfl rfl rfl ?_
  refine AE (hc:=cat0 m0) rfl rfl ?_
  refine Au rfl rfl (o_z ?_)
  refine Aj (Ar rfl rfl (Ar rfl rfl (Jo rfl rfl ?_)))
  have e1:inI64 (t0.size:Int):=rngNat w0
  refine SV rfl rfl rfl ?_
  refine Au rfl rfl (o_z ?_)
  obtain rfl:=sm h0
  exact show Exists _ from ⟨_,(),rfl,⟨rfl,rfl,rfl,rfl,trivial⟩,_,hB,b0,(Pp _)⟩
 rintro f1 g1 ⟨h1,i1,rfl,n0,j1,hB,g0⟩
 replace hm:=AV hm
 refine AQ _ n0 ?_
 refine Al ?_
 obtain ⟨y0,a0,hm⟩:=bs hm
 refine AL (fun l' w'=>∃ (z0:Unit) (O':Lab),subs l' [(2,(.bool y0))]∧Bs w A w' O') ?_ ?_
 ·
  refine Aj (Ar rfl rfl (Ce rfl rfl rfl (fun o0=>?_) fun o0=>?_))
  ·
   replace a0:=ip a0 o0
   refine Au rfl rfl (o_z ?_)
   obtain rfl:=sm a0
   exact ⟨(),_,⟨rfl,trivial⟩,hB⟩
  replace a0:=im a0 o0
  refine Au rfl rfl (o_z ?_)
  obtain rfl:=sm a0
  exact ⟨(),_,⟨rfl,trivial⟩,hB⟩
 rintro k1 l1 ⟨z0,m1,p0,hB⟩
 refine AQ _ p0 ?_
 refine AK ?_
 obtain rfl:=sm hm
 exact ret1v rfl (AB rfl) ⟨hB.ext,vBool⟩
end
end Go.Proofs.YtafdmfhdjfkooaaGreat

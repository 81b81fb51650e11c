/- Own text: what the proof of repairReplays_holds uses, part 4: rules, models and their proofs, plain laws. -/
import Derived.Test.YtafdmfhdjfkooaaGreatZRC
set_option linter.unusedVariables false
set_option linter.unusedSimpArgs false
namespace Go.Proofs.YtafdmfhdjfkooaaGreat
open Go Go.RowKit
section
open Go Go.RowKit
attribute [local irreducible] ewp owp hwp hwq hws Ev Evg Fn retPost loud loudS Res1
def preOf (t:Tsk) (op:Int):List Fct:=match t.ops[op.toNat]? with|some o=>o.pre|none=>[]
def tests (t:Tsk) (ops:List Int) (v:Nat):Bool:=ops.any fun op=>(factOn (preOf t op) (v:Int)).isSome
def nextF (t:Tsk) (ops:List Int):Nat→Nat→Nat
  | 0,v=>v
  | k + 1,v=>if tests t ops v=true then v else nextF t ops k (v + 1)
def nextV (t:Tsk) (ops:List Int) (v:Nat):Nat:=nextF t ops (t.vars.length - v) v
def valB (t:Tsk) (u:Nat) (x:Nat) (op:Int):Bool:=match factOn (preOf t op) (u:Int) with|some f=>decide (f.val=(x:Int))|none=>false
def restB (t:Tsk) (u:Nat) (op:Int):Bool:=(factOn (preOf t op) (u:Int)).isNone
def mkT (t:Tsk):Nat→List Int→Nat→Tr
  | 0,_,_=>.nil
  | fuel + 1,ops,v =>
    if ops.isEmpty then .nil
    else if nextV t ops v=t.vars.length then .leaf ops
    else .node (nextV t ops v) (t.vars[nextV t ops v]?.getD 0).toNat (fun x=>mkT t fuel (ops.filter (valB t (nextV t ops v) x)) (nextV t ops v + 1)) (mkT t fuel (ops.filter (restB t (nextV t ops v))) (nextV t ops v + 1))
theorem HF (t:Tsk) (ops:List Int):∀ (k v:Nat),v≤nextF t ops k v∧nextF t ops k v≤v + k∧(∀ u,v≤u→u < nextF t ops k v→tests t ops u=false)∧(nextF t ops k v < v + k→tests t ops (nextF t ops k v)=true)
  | 0,v=>by simp [nextF];intro u h1 h2;omega
  | k + 1,v=>by
    by_cases h:tests t ops v=true
    · simp only [nextF,h,if_true]
      exact ⟨Nat.le_refl _,by omega,fun u h1 h2=>by omega,fun _=>trivial⟩
    · obtain ⟨h1,h2,h3,h4⟩:=HF t ops k (v + 1)
      simp only [nextF,h]
      refine ⟨by simp;omega,by simp;omega,fun u hu1 hu2=>?_,fun hlt=>h4 (by simp at hlt;omega)⟩
      by_cases he:u=v
      · subst he;simpa using h
      · exact h3 u (by omega) (by simpa using hu2)
theorem MJ (t:Tsk) (ops:List Int) {v u:Nat} (h1:v≤u) (h2:u≤t.vars.length) (h3:∀ x,v≤x→x < u→tests t ops x=false) (h4:u < t.vars.length→tests t ops u=true):nextV t ops v=u:=by
  obtain ⟨g1,g2,g3,g4⟩:=HF t ops (t.vars.length - v) v
  unfold nextV
  rcases Nat.lt_trichotomy (nextF t ops (t.vars.length - v) v) u with h|h|h
  · have:=h3 _ g1 h
    rw [g4 (by omega)] at this;cases this
  · exact h
  · have:=g3 u h1 h
    rw [h4 (by omega)] at this;cases this
def OpsIn (t:Tsk) (ops:List Int):Prop:=∀ op∈ops,0≤op∧op < t.ops.length
def FitsVals (t:Tsk):Prop:=∀ (i:Nat) o,t.ops[i]?=some o→∀ (v:Nat) f,factOn o.pre (v:Int)=some f→v < t.vars.length→0≤f.val∧∃ n,t.vars[v]?=some n∧f.val < n
structure ByInv (w:World) (base gby:Nat) (vals:List Value) (rv:Value) (L:Nat→List Int) (R:List Int) (m:Nat):Prop where
  len:vals.length=m
  blk:Blk w gby 22 vals
  own:∀ (i:Nat) (u:Value),vals[i]?=some u→Own w base (fun _=>False) 3 u (L i)
  rest:Own w base (fun _=>False) 3 rv R
  apart:∀ (i j:Nat) (u u':Value),i≠j→vals[i]?=some u→vals[j]?=some u'→∀ g,u.ownBlock=some g→u'.ownBlock≠some g
  apartR:∀ (i:Nat) (u:Value),vals[i]?=some u→∀ g,u.ownBlock=some g→rv.ownBlock≠some g
theorem ByInv.ext {w w':World} {base gby:Nat} {vals:List Value} {rv:Value} {L:Nat→List Int} {R:List Int} {m:Nat} (h:ByInv w base gby vals rv L R m) (hE:Ext w w'):ByInv w' base gby vals rv L R m :=
  ⟨h.len,h.blk.ext hE,fun i u hu=>(h.own i u hu).ext hE fun _ hk=>hk.elim,h.rest.ext hE fun _ hk=>hk.elim,h.apart,h.apartR⟩
theorem ByInv.putRest {w w':World} {base gby:Nat} {vals:List Value} {rv rv':Value} {L:Nat→List Int} {R R':List Int} {m:Nat} (h:ByInv w base gby vals rv L R m) (hK:Kept w w' rv) (ho:Own w' base (fun _=>False) 3 rv' R')
    (hat:rv'.ownBlock=rv.ownBlock∨∃ g,rv'.ownBlock=some g∧w.heap.size≤g):ByInv w' base gby vals rv' L R' m:=by
  refine ⟨h.len,hK.blk h.blk (h.rest.blk_ne h.blk (by decide)),fun i u hu=>(h.own i u hu).kept hK (fun _ hk=>hk.elim) (h.apartR i u hu),ho,h.apart,fun i u hu g hg he=>?_⟩
  rcases hat with hat|⟨g',hat,hge⟩
  · exact h.apartR i u hu g hg (hat ▸ he)
  · have:=((h.own i u hu).lt g hg).2
    rw [hat] at he;injection he with he;omega
theorem ByInv.putVal {w w' w'':World} {base gby:Nat} {vals:List Value} {rv u v':Value} {L:Nat→List Int} {R:List Int} {m i:Nat} {xs:List Int} (h:ByInv w base gby vals rv L R m) (hu:vals[i]?=some u) (hK:Kept w w' u) (ho:Own w' base (fun _=>False) 3 v' xs)
    (hat:v'.ownBlock=u.ownBlock∨∃ g,v'.ownBlock=some g∧w.heap.size≤g) (hU:Upd w' w'' gby 22 (vals.set i v')):ByInv w'' base gby (vals.set i v') rv (fun j=>if j=i then xs else L j) R m:=by
  have hi:i < vals.length:=(List.getElem?_eq_some_iff.1 hu).1
  have key:∀ {v:Value} {ys:List Int},Own w' base (fun _=>False) 3 v ys→Own w'' base (fun _=>False) 3 v ys:=fun hv=>by
    have hne:=hv.blk_ne (hK.blk h.blk ((h.own i u hu).blk_ne h.blk (by decide))) (by decide)
    exact hv.agree (fun _ hk=>hk.elim) fun g hg=>hU.other g fun he=>hne (he ▸ hg)
  have sep:∀ {y:Value} {ys:List Int},Own w base (fun _=>False) 3 y ys→(∀ g,u.ownBlock=some g→y.ownBlock≠some g)→∀ g,v'.ownBlock=some g→y.ownBlock≠some g:=fun hy hsep g hg he=>by
    rcases hat with hat|⟨g',hat,hge⟩
    · exact hsep g (hat ▸ hg) he
    · have:=(hy.lt g he).2
      rw [hat] at hg;injection hg with hg;omega
  refine ⟨by rw [List.length_set];exact h.len,hU.blk,fun j y hy=>?_,key (h.rest.kept hK (fun _ hk=>hk.elim) fun g hg he=>h.apartR i u hu g he hg),fun j k y y' hjk hy hy' g hg=>?_,fun j y hy g hg=>?_⟩
  · by_cases hj:j=i
    · subst hj
      rw [List.getElem?_set_self hi] at hy
      injection hy with hy;subst hy
      rw [if_pos rfl];exact key ho
    · rw [List.getElem?_set_ne (Ne.symm hj)] at hy
      rw [if_neg hj]
      exact key ((h.own j y hy).kept hK (fun _ hk=>hk.elim) (h.apart j i y u hj hy hu))
  · by_cases hj:j=i
    · subst hj
      rw [List.getElem?_set_self hi] at hy
      injection hy with hy;subst hy
      rw [List.getElem?_set_ne hjk] at hy'
      exact sep (h.own k y' hy') (h.apart j k u y' hjk hu hy') g hg
    · rw [List.getElem?_set_ne (Ne.symm hj)] at hy
      by_cases hk:k=i
      · subst hk
        rw [List.getElem?_set_self hi] at hy'
        injection hy' with hy';subst hy'
        intro he
        exact sep (h.own j y hy) (h.apart k j u y (Ne.symm hj) hu hy) g he hg
      · rw [List.getElem?_set_ne (Ne.symm hk)] at hy'
        exact h.apart j k y y' hjk hy hy' g hg
  · by_cases hj:j=i
    · subst hj
      rw [List.getElem?_set_self hi] at hy
      injection hy with hy;subst hy
      exact sep h.rest (h.apartR j u hu) g hg
    · rw [List.getElem?_set_ne (Ne.symm hj)] at hy
      exact h.apartR j y hy g hg
instance:Rp Tr where
  isAgg:=false
  size:=1
  R w F cs T:=∃ q,cs=[.pointer q]∧TrR w F T (.pointer q)
  len:=by rintro w F cs x ⟨v,rfl,_⟩;rfl
  one:=by rintro w F cs x ⟨v,rfl,h⟩ u hu;simp at hu;subst hu;rfl
  agree:=by rintro w w' F cs x ⟨v,rfl,h⟩ ha;exact ⟨v,rfl,TrR.agree ha h⟩
  mono:=by rintro w F G cs x ⟨v,rfl,h⟩ ha;exact ⟨v,rfl,TrR.mono ha h⟩
def more (F:Nat→Prop) (w w':World):Nat→Prop:=fun k=>F k∨w.heap.size≤k∧k < w'.heap.size
theorem FV {p:Int→Bool} {l:List Int} {k:Nat} {x:Int} (h:l[k]?=some x):(l.take (k + 1)).filter p=(l.take k).filter p ++ if p x=true then [x] else []:=by
  rw [List.take_add_one,h,List.filter_append]
  cases hp:p x<;>simp [hp]
theorem Mv (n:Nat):(madeCells (Value.slice none 0 0).cells (n * 1)).toList=List.replicate n (.slice none 0 0):=KZ _ n rfl
theorem genBuild (t:Tsk) (hdom:VarsOk t) (hfv:FitsVals t) (hvl:t.vars.length≤64):∀ (fuel:Nat) (w:World) (gv opsv:Value) (ops:List Int) (v:Nat) (F:Nat→Prop),GenB w (All w) gv t→Vb w F opsv ops→(∀ k,F k→k < w.heap.size)→OpsIn t ops→ops.length≤4096 →
    v≤t.vars.length→t.vars.length < fuel + v→Fn Tryz.prog 88 [gv,opsv,.int .i64 (v:Int)] w fun p w'=>TrR w' (more F w w') (mkT t fuel ops v) p∧Ext w w':=by
  intro fuel
  induction fuel with
  | zero=>intro w gv opsv ops v F _ _ _ _ _ h1 h2;omega
  | succ fuel ih =>
    intro w gv opsv ops v F hg0 hops hF hin hlen hvn hfuel
    obtain ⟨gb,a,b,c,d,rp,rfl,hgb,hbg,hvars,hinit,hgoal,hopsv⟩:=id hg0
    obtain ⟨Av,cv,rfl⟩:=hvars.form
    obtain ⟨Ax,cx,rfl⟩:=hops.form
    refine AD Tryz.func88 rfl Tryz.ntmps88 rfl ?_
    repeat (first|refine At ?_|refine Ah rfl ?_|refine Ae rfl ?_)
    refine Ea rfl rfl fun w1 hN1=>?_
    refine Ea rfl rfl fun w2 hN2=>?_
    have hE2:Ext w w2:=hN1.ext.trans' hN2.ext
    have hb1:Blk w2 w.heap.size 104 [.pointer (some ⟨gb,0,none⟩)]:=hN1.blk.ext hN2.ext
    have hb2:Blk w2 w1.heap.size 3 [.int .i64 (v:Int)]:=hN2.blk
    have hg12:w1.heap.size≠w.heap.size:=by rw [hN1.size];omega
    have hg2w:w.heap.size≤w1.heap.size:=hN1.ext.size
    have hz1:w1.heap.size=w.heap.size + 1:=hN1.size
    have hz2:w2.heap.size=w1.heap.size + 1:=hN2.size
    (refine Ar rfl rfl ?_<;>(refine o_z ?_))
    repeat (first|refine At ?_|refine Ah rfl ?_|refine Ae rfl ?_)
    by_cases hemp:ops.length=0
    · have:ops=[]:=List.eq_nil_of_length_eq_zero hemp
      subst this
      ((repeat (first|refine At ?_|refine Ah rfl ?_|refine Ae rfl ?_))<;>(refine Am rfl rfl ?_<;>refine AP rfl rfl ?_<;>(first|refine LP rfl rfl rfl ?_|refine LQ rfl rfl rfl ?_)<;>(refine o_z ?_))<;>(repeat (first|refine At ?_|refine Ah rfl ?_|refine Ae rfl ?_))<;>(refine Ar rfl rfl ?_<;>(refine o_z ?_))<;>(repeat (first|refine At ?_|refine Ah rfl ?_|refine Ae rfl ?_)))
      exact ret1 rfl rfl ⟨rfl,hE2⟩
    have hemp':ops.isEmpty=false:=by cases ops<;>simp at *
    (refine Am rfl rfl ?_<;>refine AP rfl rfl ?_<;>(first|refine LP rfl rfl rfl ?_|refine LQ rfl rfl rfl ?_)<;>(refine o_z ?_))
    refine Ae rfl (AJ ?_)
    refine Lv (fun l' w'=>∃ u:Nat,subs l' [(1,.slice Ax ops.length cx),(3,.pointer (some ⟨w.heap.size,0,none⟩)),(5,.pointer (some ⟨w1.heap.size,0,none⟩))]∧Ext w w'∧Blk w' w.heap.size 104 [.pointer (some ⟨gb,0,none⟩)]∧Blk w' w1.heap.size 3 [.int .i64 (u:Int)] ∧
      v≤u∧u≤t.vars.length∧(∀ x,v≤x→x < u→tests t ops x=false)∧(u < t.vars.length→tests t ops u=true)) ?_ ?_
    · repeat (first|refine At ?_|refine Ah rfl ?_|refine Ae rfl ?_)
      refine Ez (fun _:Nat=>[(1,.slice Ax ops.length cx),(3,.pointer (some ⟨w.heap.size,0,none⟩)),(5,.pointer (some ⟨w1.heap.size,0,none⟩))]) (fun u w'=>Ext w w'∧Blk w' w.heap.size 104 [.pointer (some ⟨gb,0,none⟩)]∧Blk w' w1.heap.size 3 [.int .i64 (u:Int)] ∧
        v≤u∧u≤t.vars.length∧∀ x,v≤x→x < u→tests t ops x=false) (fun u=>t.vars.length - u) v ⟨hE2,hb1,hb2,Nat.le_refl _,hvn,fun x h1 h2=>by omega⟩ ⟨rfl,rfl,rfl,trivial⟩ ?_
      rintro u w3 ⟨hE3,hb1,hb2,hvu,hun,hno⟩
      have hb3:=hbg.ext hE3
      repeat (first|refine At ?_|refine Ah rfl ?_|refine Ae rfl ?_)
      refine Ca (Ext w3) [(0,true),(1,true),(2,true),(3,true),(4,true),(5,true),(6,true),(7,true),(8,true),(9,true),(10,true),(11,false),(12,true),(13,true)] (by kernel_rfl) rfl (by kernel_rfl) (Below.refl _ _) ?_
      by_cases hlt:u < t.vars.length
      · (refine Gm rfl rfl rfl ?_<;>refine Gm rfl rfl rfl ?_<;>refine Dx rfl rfl rfl ?_<;>refine AY rfl rfl rfl ?_<;>refine AY rfl rfl rfl ?_<;>refine Gm rfl rfl rfl ?_<;>refine JT rfl rfl rfl ?_<;>(first|refine FQ rfl rfl rfl rfl ?_|refine FR rfl rfl rfl rfl ?_|refine Fg rfl rfl rfl rfl (fun _=>?_) fun _=>?_)<;>refine AI rfl rfl rfl ?_<;>(refine Az rfl ?_;(first|(refine Ay rfl rfl ?_;refine BG rfl rfl ?_)|refine AB rfl rfl rfl rfl ?_))<;>(refine Az rfl ?_;(first|(refine Ay rfl rfl ?_;refine NP rfl rfl rfl ?_)|refine AB rfl rfl rfl rfl ?_)))
        refine BC rfl ?_
        refine Aw rfl rfl ?_
        have hV3:V w3 (.slice Ax ops.length cx) ops:=Vb.mono (Vb.agree hops (hE3.agree hF)) fun k hk=>Nat.lt_of_lt_of_le (hF k hk) hE3.size
        have hex:(∃ x∈ops,(factOn (preOf t x) (u:Int)).isSome=true)↔tests t ops u=true:=by unfold tests;rw [List.any_eq_true]
        refine EK rfl rfl (containsFuncInts (g:=100) (caps:=[.pointer (some ⟨w.heap.size,0,none⟩),.pointer (some ⟨w1.heap.size,0,none⟩)]) (p:=fun op=>(factOn (preOf t op) (u:Int)).isSome=true) hV3 ?_) ?_ ?_
        · intro vx x w' hx hE' hvx
          obtain ⟨hvx,_⟩:=hvx
          obtain rfl:vx=.int .i64 x:=by simpa using hvx
          obtain ⟨hx0,hx1⟩:=hin x hx
          obtain ⟨j,rfl⟩:=Int.eq_ofNat_of_zero_le hx0
          obtain ⟨o,ho⟩:=AR (l:=t.ops) (k:=j) (by omega)
          refine (genBuild1 (hg0.ext (hE3.trans' hE')) ho (hb1.ext hE') (hb2.ext hE')).mono fun r w'' ⟨hr,hE''⟩=>⟨?_,hE''⟩
          rw [hr,Gk]
          simp [preOf,ho]
        · intro w4 hp hE4
          refine BR hE4 ?_
          ((refine Az rfl ?_;(first|(refine Ay rfl rfl ?_;(first|refine MA rfl rfl ?_|refine MB rfl rfl ?_|refine MC rfl rfl ?_))|refine AB rfl rfl rfl rfl ?_))<;>(first|refine Cu rfl rfl rfl rfl ?_|refine Cn rfl rfl rfl rfl ?_)<;>(refine h_z ?_))
          repeat (first|refine At ?_|refine Ah rfl ?_|refine Ae rfl ?_)
          exact ⟨u,⟨rfl,rfl,rfl,trivial⟩,hE3.trans' hE4,hb1.ext hE4,hb2.ext hE4,hvu,hun,hno,fun _=>hex.1 hp⟩
        · intro w4 hp hE4
          refine BR hE4 ?_
          ((refine Az rfl ?_;(first|(refine Ay rfl rfl ?_;(first|refine MA rfl rfl ?_|refine MB rfl rfl ?_|refine MC rfl rfl ?_))|refine AB rfl rfl rfl rfl ?_))<;>(first|refine Cu rfl rfl rfl rfl ?_|refine Cn rfl rfl rfl rfl ?_)<;>(refine h_z ?_))
          repeat (first|refine At ?_|refine Ah rfl ?_|refine Ae rfl ?_)
          replace hb1:=hb1.ext hE4
          replace hb2:=hb2.ext hE4
          (refine AC rfl rfl ?_<;>(first|refine GE rfl rfl ?_|refine GD rfl rfl rfl ?_))
          refine BJ rfl rfl hb2 rfl (Nat.le_refl _) (by simp [Value.cells,Value.oneCell']) fun w5 hU=>?_
          ((refine o_z ?_))
          refine ⟨u + 1,⟨rfl,rfl,rfl,trivial⟩,⟨(hE3.trans' hE4).trans (hU.below hg2w),hb1.keep (hU.other _ (fun h=>hg12 h.symm)),hU.blk,by omega,by omega,fun x h1 h2=>?_⟩,by omega⟩
          by_cases he:x=u
          · subst he
            cases hq:tests t ops x
            · rfl
            · exact absurd (hex.2 hq) hp
          · exact hno x h1 (by omega)
      · (refine Gm rfl rfl rfl ?_<;>refine Gm rfl rfl rfl ?_<;>refine Dx rfl rfl rfl ?_<;>refine AY rfl rfl rfl ?_<;>refine AY rfl rfl rfl ?_<;>refine Gm rfl rfl rfl ?_<;>refine JT rfl rfl rfl ?_<;>(first|refine FQ rfl rfl rfl rfl ?_|refine FR rfl rfl rfl rfl ?_|refine Fg rfl rfl rfl rfl (fun _=>?_) fun _=>?_)<;>refine AI rfl rfl rfl ?_<;>(refine Az rfl ?_;(first|(refine Ay rfl rfl ?_;refine BG rfl rfl ?_)|refine AB rfl rfl rfl rfl ?_))<;>(refine Az rfl ?_;(first|(refine Ay rfl rfl ?_;refine NP rfl rfl rfl ?_)|refine AB rfl rfl rfl rfl ?_)))
        refine BC rfl ?_
        refine Au rfl rfl rfl rfl ?_
        refine BR (Below.refl _ _) ?_
        ((refine Az rfl ?_;(first|(refine Ay rfl rfl ?_;(first|refine MA rfl rfl ?_|refine MB rfl rfl ?_|refine MC rfl rfl ?_))|refine AB rfl rfl rfl rfl ?_))<;>(first|refine Cu rfl rfl rfl rfl ?_|refine Cn rfl rfl rfl rfl ?_)<;>(refine h_z ?_))
        repeat (first|refine At ?_|refine Ah rfl ?_|refine Ae rfl ?_)
        exact ⟨u,⟨rfl,rfl,rfl,trivial⟩,hE3,hb1,hb2,hvu,hun,hno,fun h=>absurd h hlt⟩
    rintro l' w3 ⟨u,hsub,hE3,hb1,hb2,hvu,hun,hno,hyes⟩
    refine AN _ hsub ?_
    clear hsub
    have hnx:nextV t ops v=u:=MJ t ops hvu hun hno hyes
    have hb3:=hbg.ext hE3
    have hV3:Vb w3 F (.slice Ax ops.length cx) ops:=Vb.agree hops (hE3.agree hF)
    repeat (first|refine At ?_|refine Ah rfl ?_|refine Ae rfl ?_)
    refine Ca (·=w3) [(0,true),(1,true),(2,true),(3,true),(4,true),(5,true),(6,true),(7,true)] (by kernel_rfl) rfl (by kernel_rfl) rfl ?_
    by_cases hlast:u=t.vars.length
    · (refine Cb rfl rfl rfl ?_<;>refine Cb rfl rfl rfl ?_<;>refine Dx rfl rfl rfl ?_<;>refine AY rfl rfl rfl ?_<;>refine AY rfl rfl rfl ?_<;>refine Cb rfl rfl rfl ?_<;>refine JT rfl rfl rfl ?_<;>(first|refine MX rfl rfl rfl rfl ?_|refine MY rfl rfl rfl rfl ?_|refine MZ rfl rfl rfl rfl (fun _=>?_) fun _=>?_)<;>(refine h_z ?_))<;>(repeat (first|refine At ?_|refine Ah rfl ?_|refine Ae rfl ?_))
      (refine Am rfl rfl ?_<;>refine Cr rfl rfl rfl ?_)
      refine Ea rfl rfl fun w4 hN4=>?_
      (refine Ar rfl rfl ?_<;>(refine o_z ?_))
      repeat (first|refine At ?_|refine Ah rfl ?_|refine Ae rfl ?_)
      have hE4:Ext w w4:=hE3.trans' hN4.ext
      have hT:mkT t (fuel + 1) ops v=.leaf ops:=by simp only [mkT,hemp',hnx,hlast];simp
      rw [hT]
      refine ret1 rfl rfl ⟨⟨w3.heap.size,.slice Ax ops.length cx,rfl,.inr ⟨hE3.size,hN4.blk.lt⟩,hN4.blk,?_⟩,hE4⟩
      exact Vb.mono (Vb.agree hV3 (hN4.ext.agree fun k hk=>Nat.lt_of_lt_of_le (hF k hk) hE3.size)) fun k hk=>.inl hk
    have hun':u < t.vars.length:=by omega
    obtain ⟨n,hn⟩:=AR hun'
    have hn1:=hdom u n hn
    obtain ⟨m,rfl⟩:=Int.eq_ofNat_of_zero_le (show 0≤n by omega)
    have hT:mkT t (fuel + 1) ops v=.node u m (fun x=>mkT t fuel (ops.filter (valB t u x)) (u + 1)) (mkT t fuel (ops.filter (restB t u)) (u + 1)):=by
      simp only [mkT,hemp',hnx,hlast,hn];simp
    rw [hT]
    clear hT hnx
    (refine Cb rfl rfl rfl ?_<;>refine Cb rfl rfl rfl ?_<;>refine Dx rfl rfl rfl ?_<;>refine AY rfl rfl rfl ?_<;>refine AY rfl rfl rfl ?_<;>refine Cb rfl rfl rfl ?_<;>refine JT rfl rfl rfl ?_<;>(first|refine MX rfl rfl rfl rfl ?_|refine MY rfl rfl rfl rfl ?_|refine MZ rfl rfl rfl rfl (fun _=>?_) fun _=>?_)<;>(refine h_z ?_))<;>(repeat (first|refine At ?_|refine Ah rfl ?_|refine Ae rfl ?_))
    obtain ⟨bv,ov,ce,rfl,hbv,_,hdv,rfl,_⟩:=hvars.elem hn
    refine Ca (Ext w3) [(0,true),(1,true),(2,true),(3,true),(4,true),(5,true),(6,true),(7,true),(8,false),(9,true)] (by kernel_rfl) rfl (by kernel_rfl) (Below.refl _ _) ?_
    have hb1s:=hb1
    have hb2s:=hb2
    replace hb1:∀ w',Ext w3 w'→Blk w' w.heap.size 104 [.pointer (some ⟨gb,0,none⟩)]:=fun w' h=>hb1s.ext h
    replace hb2:∀ w',Ext w3 w'→Blk w' w1.heap.size 3 [.int .i64 (u:Int)]:=fun w' h=>hb2s.ext h
    have hb3s:=hb3
    replace hb3:∀ w',Ext w3 w'→Blk w' gb 151 [.slice (some ⟨bv,ov,none⟩) t.vars.length cv,b,c,d,.pointer rp]:=fun w' h=>hb3s.ext h
    have hd1:∀ w',Ext w3 w'→cellsAt w' bv (ov + u * 1) [.int .i64 (m:Int)]:=fun w' h=>Id hdv hbv (hE3.trans' h)
    ((first|refine Ek rfl rfl rfl ?_|refine Bc rfl rfl rfl ?_)<;>refine Dx rfl rfl rfl ?_<;>refine AY rfl rfl rfl ?_<;>refine AY rfl rfl rfl ?_<;>(first|refine Ek rfl rfl rfl ?_|refine Bc rfl rfl rfl ?_)<;>(first|refine Ek rfl rfl rfl ?_|refine Bc rfl rfl rfl ?_)<;>refine Ih rfl rfl rfl rfl ?_<;>(first|refine Ek rfl rfl rfl ?_|refine Bc rfl rfl rfl ?_))
    refine BC rfl ?_
    refine IY rfl rfl (by omega) (by omega) rfl fun w4 hN4=>?_
    refine BR hN4.ext ?_
    (refine CB rfl rfl rfl ?_<;>(refine h_z ?_))
    have hE4:Ext w w4:=hE3.trans' hN4.ext
    have hw23:w2.heap.size≤w3.heap.size:=by have:=hb2s.lt;omega
    replace hb1:=hb1s.ext hN4.ext
    replace hb2:=hb2s.ext hN4.ext
    clear hb3 hd1
    repeat (first|refine At ?_|refine Ah rfl ?_|refine Ae rfl ?_)
    ((repeat (first|refine At ?_|refine Ah rfl ?_|refine Ae rfl ?_))<;>(refine Ar rfl rfl ?_<;>(refine o_z ?_))<;>(repeat (first|refine At ?_|refine Ah rfl ?_|refine Ae rfl ?_))<;>(refine Am rfl rfl ?_<;>refine AP rfl rfl ?_<;>refine Am rfl rfl ?_<;>(refine o_z ?_))<;>(repeat (first|refine At ?_|refine Ah rfl ?_|refine Ae rfl ?_)))
    have hby0:ByInv w4 w2.heap.size w3.heap.size (List.replicate m (.slice none 0 0)) (.slice none 0 0) (fun i=>((ops.take 0).filter (valB t u i))) ((ops.take 0).filter (restB t u)) m:=by
      have hget:∀ (i:Nat) (x:Value),(List.replicate m (Value.slice none 0 0))[i]?=some x→x=.slice none 0 0:=fun i x h=>by
        rw [List.getElem?_replicate] at h;split at h<;>simp at h;exact h.symm
      refine ⟨by simp,by have:=hN4.blk;rwa [Mv] at this,fun i x h=>?_,by simpa using Own.nil _ _ _ _,fun i j x y _ hx _ g hg=>?_,fun i x hx g hg=>?_⟩
      · rw [hget i x h];simpa using Own.nil _ _ _ _
      · rw [hget i x hx] at hg;simp [Value.ownBlock] at hg
      · rw [hget i x hx] at hg;simp [Value.ownBlock] at hg
    refine BL ops.length (by omega) (fun x:List Value×Value=>[(1,.slice Ax ops.length cx),(3,.pointer (some ⟨w.heap.size,0,none⟩)),(5,.pointer (some ⟨w1.heap.size,0,none⟩)),(7,.slice (some ⟨w3.heap.size,0,none⟩) m m),(8,x.2),(55,.slice Ax ops.length cx)])
      (fun k x w'=>Ext w w'∧Blk w' w.heap.size 104 [.pointer (some ⟨gb,0,none⟩)]∧Blk w' w1.heap.size 3 [.int .i64 (u:Int)]∧ByInv w' w2.heap.size w3.heap.size x.1 x.2 (fun i=>((ops.take k).filter (valB t u i))) ((ops.take k).filter (restB t u)) m) (List.replicate m (.slice none 0 0),.slice none 0 0)
      ⟨hE4,hb1,hb2,hby0⟩ ⟨rfl,rfl,rfl,rfl,rfl,rfl,rfl,rfl,trivial⟩ (fun _=>⟨rfl,rfl⟩) ⟨rfl,rfl,rfl⟩ ⟨rfl,rfl⟩ ?_ ?_
    · rintro k ⟨vals,rv⟩ w5 hk ⟨hE5,hb1,hb2,hby⟩
      dsimp only at hby
      obtain ⟨x,hx⟩:=AR hk
      obtain ⟨hx0,hx1⟩:=hin x (List.mem_of_getElem? hx)
      obtain ⟨j,rfl⟩:=Int.eq_ofNat_of_zero_le hx0
      obtain ⟨o,ho⟩:=AR (l:=t.ops) (k:=j) (by omega)
      have hpre:preOf t (j:Int)=o.pre:=by simp [preOf,ho]
      obtain ⟨b2,o2,ce,rfl,hbF,_,hd0,rfl,hxin⟩:=hops.elem hx
      have hd1:=Id hd0 (hF _ hbF) hE5
      ((repeat (first|refine At ?_|refine Ah rfl ?_|refine Ae rfl ?_))<;>(refine Df rfl rfl rfl ?_<;>refine AC rfl rfl ?_<;>refine Ar rfl rfl ?_<;>(refine o_z ?_))<;>(repeat (first|refine At ?_|refine Ah rfl ?_|refine Ae rfl ?_))<;>(refine AC rfl rfl ?_<;>refine Am rfl rfl ?_<;>refine AC rfl rfl ?_)<;>(repeat (first|refine At ?_|refine Ah rfl ?_|refine Ae rfl ?_)))
      refine Bi rfl rfl (genFact (hg0.ext hE5) ho) ?_
      rintro _ w6 ⟨rfl,hE6⟩
      replace hb1:=hb1.ext hE6
      replace hb2:=hb2.ext hE6
      replace hby:=hby.ext hE6
      have hE06:Ext w w6:=hE5.trans' hE6
      have hkl:((ops.take k).filter (restB t u)).length≤4096:=Nat.le_trans (List.length_filter_le _ _) (by rw [List.length_take];omega)
      cases hf:factOn o.pre (u:Int) with
      | none =>
        simp only [factV]
        (refine Am rfl rfl ?_<;>refine Bp rfl rfl rfl ?_<;>refine Bp rfl rfl rfl ?_)
        refine BW rfl rfl rfl (by simp [Value.cells,Value.oneCell']) fun w7 hN7=>?_
        replace hb1:=hb1.ext hN7.ext
        replace hb2:=hb2.ext hN7.ext
        replace hby:=hby.ext hN7.ext
        have hE7:Ext w w7:=hE06.trans' hN7.ext
        (refine Ar rfl rfl ?_<;>(refine o_z ?_))
        repeat (first|refine At ?_|refine Ah rfl ?_|refine Ae rfl ?_)
        ((repeat (first|refine At ?_|refine Ah rfl ?_|refine Ae rfl ?_))<;>(refine Am rfl rfl ?_<;>(refine o_z ?_))<;>(repeat (first|refine At ?_|refine Ah rfl ?_|refine Ae rfl ?_)))
        (refine Am rfl rfl ?_<;>refine Am rfl rfl ?_)
        have hl2:=hb2.lt
        refine KN (a:=(j:Int)) rfl rfl rfl hby.rest (fun _ h=>h.elim) (by omega) ⟨rfl,hxin⟩ (by decide) (by decide) (by omega) (by omega) ⟨rfl,rfl⟩ fun rv' w8 ho8 hK8 hat=>?_
        have hB8:Below w2.heap.size w7 w8:=hby.rest.fits (Nat.le_refl _) (by omega) hK8
        have hby8:=hby.putRest hK8 ho8 hat
        (refine Ar rfl rfl ?_<;>(refine o_z ?_))
        repeat (first|refine At ?_|refine Ah rfl ?_|refine Ae rfl ?_)
        refine ⟨(vals,rv'),⟨rfl,rfl,rfl,rfl,rfl,rfl,rfl,rfl,trivial⟩,hE7.trans (hB8.mono (by omega)),hb1.keep (hB8.block _ (by omega)),hb2.keep (hB8.block _ (by omega)),?_⟩
        have e1:∀ i,(ops.take (k + 1)).filter (valB t u i)=(ops.take k).filter (valB t u i):=fun i=>by rw [FV hx];simp [valB,hpre,hf]
        have e2:(ops.take (k + 1)).filter (restB t u)=(ops.take k).filter (restB t u) ++ [(j:Int)]:=by rw [FV hx];simp [restB,hpre,hf]
        dsimp only
        rw [e2]
        simp only [e1]
        exact hby8
      | some f =>
        obtain ⟨hf0,n',hn',hf1⟩:=hfv j o ho u f hf hun'
        rw [hn] at hn';injection hn' with hn';subst hn'
        obtain ⟨x0,hj1⟩:=Int.eq_ofNat_of_zero_le hf0
        have hx0m:x0 < m:=by omega
        obtain ⟨u0,hu0⟩:=AR (l:=vals) (k:=x0) (by rw [hby.len];exact hx0m)
        simp only [factV]
        (refine Am rfl rfl ?_<;>refine Bp rfl rfl rfl ?_<;>refine Bp rfl rfl rfl ?_)
        refine BW rfl rfl rfl (by simp [Value.cells,Value.oneCell']) fun w7 hN7=>?_
        replace hb1:=hb1.ext hN7.ext
        replace hb2:=hb2.ext hN7.ext
        replace hby:=hby.ext hN7.ext
        have hE7:Ext w w7:=hE06.trans' hN7.ext
        have hbf:=hN7.blk
        (refine Ar rfl rfl ?_<;>(refine o_z ?_))
        repeat (first|refine At ?_|refine Ah rfl ?_|refine Ae rfl ?_)
        ((repeat (first|refine At ?_|refine Ah rfl ?_|refine Ae rfl ?_))<;>(refine Am rfl rfl ?_<;>(refine o_z ?_))<;>(repeat (first|refine At ?_|refine Ah rfl ?_|refine Ae rfl ?_)))
        have hl2:=hb2.lt
        have hown0:=hby.own x0 u0 hu0
        have hkl0:((ops.take k).filter (valB t u x0)).length≤4096:=Nat.le_trans (List.length_filter_le _ _) (by rw [List.length_take];omega)
        refine Ca (fun w'=>Blk w' w6.heap.size 62 [.int .i64 f.var,.int .i64 f.val]∧Blk w' w3.heap.size 22 vals) [(0,true),(1,true),(2,true),(3,true),(4,true),(5,true),(6,true),(7,true),(8,true),(9,false),(10,false),(11,true),(12,false)] (by kernel_rfl) rfl (by kernel_rfl) ⟨hbf,hby.blk⟩ ?_
        have hb1s:=hb1
        have hb2s:=hb2
        clear hb2
        replace hb1:∀ w',(Blk w' w6.heap.size 62 [.int .i64 f.var,.int .i64 f.val]∧Blk w' w3.heap.size 22 vals)→Blk w' w6.heap.size 62 [.int .i64 f.var,.int .i64 f.val]:=fun _ h=>h.1
        have hc1:∀ w',(Blk w' w6.heap.size 62 [.int .i64 f.var,.int .i64 f.val]∧Blk w' w3.heap.size 22 vals)→w'.cell? ⟨w3.heap.size,0 + x0 * 1,none⟩=some u0:=fun _ h=>h.2.cell (by rw [Nat.zero_add,Nat.mul_one];exact hu0)
        (refine AI rfl rfl rfl ?_<;>refine AY rfl rfl rfl ?_<;>(first|refine Ek rfl rfl rfl ?_|refine Bc rfl rfl rfl ?_)<;>refine AI rfl rfl rfl ?_<;>refine AY rfl rfl rfl ?_<;>(first|refine Ek rfl rfl rfl ?_|refine Bc rfl rfl rfl ?_)<;>refine Ih rfl rfl rfl rfl ?_<;>(first|refine Ek rfl rfl rfl ?_|refine Bc rfl rfl rfl ?_)<;>refine AI rfl rfl rfl ?_)
        refine BC rfl ?_
        refine DP rfl rfl rfl (by simp [Value.cells]) (by decide) rfl fun w8 hN8=>?_
        refine BR ⟨hbf.ext hN8.ext,hby.blk.ext hN8.ext⟩ ?_
        refine BC rfl ?_
        refine EW (α:=Int) (A:=some ⟨w7.heap.size,0,none⟩) (c:=1) (ys:=[(j:Int)]) (cells:=[.int .i64 (j:Int)]) rfl rfl (hown0.ext hN8.ext fun _ h=>h.elim) (fun _ h=>h.elim) (by have:=hN8.size;omega) (.single ⟨rfl,hxin⟩) (fun _=>⟨_,_,rfl,hN8.blk.cellsAt⟩) (by decide) (by rw [List.length_singleton];omega) (by rw [List.length_singleton];omega) rfl fun v' w9 ho9 hg9 hat=>?_
        have hK9:Kept w7 w9 u0:=⟨hg9.os.trans hN8.ext.os,hg9.tape.trans hN8.ext.tape,hg9.output.trans hN8.ext.output,Nat.le_trans hN8.ext.size hg9.size,fun k hk hne=>by rw [hg9.block k (Nat.lt_of_lt_of_le hk hN8.ext.size) (fun he=>hne he.symm),hN8.ext.block k hk]⟩
        have hbf9:=hK9.blk hbf (hown0.blk_ne hbf (by decide))
        have hby9:=hK9.blk hby.blk (hown0.blk_ne hby.blk (by decide))
        have hB9:Below w2.heap.size w7 w9:=hown0.fits (Nat.le_refl _) (by omega) hK9
        refine BR ⟨hbf9,hby9⟩ ?_
        (refine Ih rfl rfl rfl rfl ?_)
        refine BC rfl ?_
        obtain ⟨A9,c9,rfl⟩:=ho9.form
        refine BJ (g:=w3.heap.size) (o:=0 + x0 * 1) rfl rfl hby9 rfl (by rw [hby.len];show 0 + x0 * 1 + 1≤m;omega) (by simp [Value.cells,Value.oneCell']) fun w10 hU=>?_
        have hset:setFrom vals (0 + x0 * 1) [.slice A9 (List.filter (valB t u x0) (List.take k ops) ++ [(j:Int)]).length c9]=vals.set x0 (.slice A9 (List.filter (valB t u x0) (List.take k ops) ++ [(j:Int)]).length c9):=by rw [Nat.zero_add,Nat.mul_one];rfl
        have hU':Upd w9 w10 w3.heap.size 22 (vals.set x0 (.slice A9 (List.filter (valB t u x0) (List.take k ops) ++ [(j:Int)]).length c9)):=hset ▸ hU
        have hby10:=hby.putVal hu0 hK9 ho9 (by
          rcases hat with hat|hat
          · exact .inl hat
          · exact .inr ⟨_,hat,hN8.ext.size⟩) hU'
        have hB10:Below w2.heap.size w9 w10:=hU.below hw23
        refine Fm ?_
        ((refine h_z ?_))
        repeat (first|refine At ?_|refine Ah rfl ?_|refine Ae rfl ?_)
        refine ⟨(vals.set x0 (.slice A9 (List.filter (valB t u x0) (List.take k ops) ++ [(j:Int)]).length c9),rv),⟨rfl,rfl,rfl,rfl,rfl,rfl,rfl,rfl,trivial⟩,hE7.trans ((hB9.trans hB10).mono (by omega)),hb1s.keep ((hB9.trans hB10).block _ (by omega)),hb2s.keep ((hB9.trans hB10).block _ (by omega)),?_⟩
        have e1:∀ i,(ops.take (k + 1)).filter (valB t u i)=if i=x0 then (ops.take k).filter (valB t u x0) ++ [(j:Int)] else (ops.take k).filter (valB t u i):=fun i=>by
          rw [FV hx]
          by_cases hi:i=x0
          · subst hi;simp [valB,hpre,hf,hj1]
          · have:¬ (f.val=(i:Int)):=by omega
            simp [valB,hpre,hf,hi,this]
        have e2:(ops.take (k + 1)).filter (restB t u)=(ops.take k).filter (restB t u):=by rw [FV hx];simp [restB,hpre,hf]
        dsimp only
        rw [e2]
        simp only [e1]
        exact hby10
    rintro ⟨vals,rv⟩ w5 ⟨hE5,hb1,hb2,hby⟩
    dsimp only at hby
    rw [List.take_length] at hby
    have hl2:=hb2.lt
    have hb1s:=hb1
    have hb2s:=hb2
    have hflt:∀ p:Int→Bool,OpsIn t (ops.filter p)∧(ops.filter p).length≤4096:=fun p=>⟨fun x hx=>hin x (List.mem_filter.1 hx).1,Nat.le_trans (List.length_filter_le _ _) hlen⟩
    have hrv:Vb w5 (fun k=>rv.ownBlock=some k) rv (ops.filter (restB t u)):=hby.rest.vb.mono fun k hk=>hk.resolve_left id
    repeat (first|refine At ?_|refine Ah rfl ?_|refine Ae rfl ?_)
    refine Ca (Ext w5) [(0,true),(1,true),(2,true),(3,true),(4,true),(5,false),(6,true),(7,false),(8,true)] (by kernel_rfl) rfl (by kernel_rfl) (Below.refl _ _) ?_
    (refine Gm rfl rfl rfl ?_<;>refine Gm rfl rfl rfl ?_<;>refine AI rfl rfl rfl ?_<;>refine Gm rfl rfl rfl ?_<;>(first|refine NO rfl rfl rfl ?_|refine NN rfl rfl rfl rfl ?_))
    refine BC rfl ?_
    refine Bi rfl rfl (ih w5 _ rv _ (u + 1) (fun k=>rv.ownBlock=some k) (hg0.ext hE5) hrv (fun k hk=>(hby.rest.lt k hk).2) (hflt _).1 (hflt _).2 (by omega) (by omega)) ?_
    rintro p6 w6 ⟨hT6,hE6⟩
    obtain ⟨q6,rfl⟩:=hT6.form
    refine BR hE6 ?_
    (refine Jc rfl rfl rfl rfl ?_)
    refine BC rfl ?_
    refine Ea rfl rfl fun w7 hN7=>?_
    refine BR (hE6.trans' hN7.ext) ?_
    (refine CB rfl rfl rfl ?_<;>(refine h_z ?_))
    have hnode:Blk w7 w6.heap.size 184 [.slice none 0 0,.bool false,.int .i64 (u:Int),.slice none 0 0,.pointer q6]:=hN7.blk
    have hby6:=hby.ext hE6
    repeat (first|refine At ?_|refine Ah rfl ?_|refine Ae rfl ?_)
    ((repeat (first|refine At ?_|refine Ah rfl ?_|refine Ae rfl ?_))<;>(refine Am rfl rfl ?_<;>refine AP rfl rfl ?_<;>refine Am rfl rfl ?_<;>(refine o_z ?_))<;>(repeat (first|refine At ?_|refine Ah rfl ?_|refine Ae rfl ?_)))
    refine BL m (by omega) (fun x:Value=>[(3,.pointer (some ⟨w.heap.size,0,none⟩)),(5,.pointer (some ⟨w1.heap.size,0,none⟩)),(13,.pointer (some ⟨w6.heap.size,0,none⟩)),(94,.slice (some ⟨w3.heap.size,0,none⟩) m m)])
      (fun k x w'=>Ext w6 w'∧Blk w' w6.heap.size 184 [.slice none 0 0,.bool false,.int .i64 (u:Int),x,.pointer q6]∧∃ G:Nat→Prop,(∀ k,G k→k < w'.heap.size∧w2.heap.size≤k)∧¬ G w6.heap.size∧Own w' w7.heap.size G 149 x ((List.range k).map fun i=>mkT t fuel (ops.filter (valB t u i)) (u + 1))) (.slice none 0 0)
      ⟨hN7.ext,hnode,fun _=>False,fun _ h=>h.elim,id,Own.nil _ _ _ _⟩ ⟨rfl,rfl,rfl,rfl,rfl,rfl,trivial⟩ (fun _=>⟨rfl,rfl⟩) ⟨rfl,rfl,rfl⟩ ⟨rfl,rfl⟩ ?_ ?_
    · rintro k xv w8 hk ⟨hE8,hnd,G,hG,hGn,hown⟩
      obtain ⟨u0,hu0⟩:=AR (l:=vals) (k:=k) (by rw [hby.len];exact hk)
      have hby8:=hby6.ext hE8
      have hE58:Ext w5 w8:=hE6.trans' hE8
      have hE08:Ext w w8:=hE5.trans' hE58
      have hc1:w8.cell? ⟨w3.heap.size,0 + k * 1,none⟩=some u0:=hby8.blk.cell (by rw [Nat.zero_add,Nat.mul_one];exact hu0)
      have hown0:=hby8.own k u0 hu0
      obtain ⟨Ak,ck,rfl⟩:=hown0.form
      obtain ⟨Ax',cx',rfl⟩:=hown.form
      have hz78:w7.heap.size≤w8.heap.size:=by have:=hnd.lt;have:=hN7.size;omega
      ((repeat (first|refine At ?_|refine Ah rfl ?_|refine Ae rfl ?_))<;>(refine Df rfl rfl rfl ?_<;>refine AC rfl rfl ?_<;>refine Ar rfl rfl ?_<;>(refine o_z ?_))<;>(repeat (first|refine At ?_|refine Ah rfl ?_|refine Ae rfl ?_)))
      refine Ca (fun w'=>Blk w' w6.heap.size 184 [.slice none 0 0,.bool false,.int .i64 (u:Int),.slice Ax' ((List.range k).map fun i=>mkT t fuel (ops.filter (valB t u i)) (u + 1)).length cx',.pointer q6]∧Blk w' w.heap.size 104 [.pointer (some ⟨gb,0,none⟩)]∧Blk w' w1.heap.size 3 [.int .i64 (u:Int)]) [(0,true),(1,true),(2,true),(3,true),(4,true),(5,true),(6,true),(7,true),(8,true),(9,false),(10,false),(11,false),(12,true),(13,true),(14,false)] (by kernel_rfl) rfl (by kernel_rfl) ⟨hnd,hb1s.ext hE58,hb2s.ext hE58⟩ ?_
      have hS8:∀ w',Ext w8 w'→Blk w' w6.heap.size 184 [.slice none 0 0,.bool false,.int .i64 (u:Int),.slice Ax' ((List.range k).map fun i=>mkT t fuel (ops.filter (valB t u i)) (u + 1)).length cx',.pointer q6]∧Blk w' w.heap.size 104 [.pointer (some ⟨gb,0,none⟩)]∧Blk w' w1.heap.size 3 [.int .i64 (u:Int)]:=fun w' h=>⟨hnd.ext h,(hb1s.ext hE58).ext h,(hb2s.ext hE58).ext h⟩
      clear hb1 hb2 hc1
      have hb1:∀ w',(Blk w' w6.heap.size 184 [.slice none 0 0,.bool false,.int .i64 (u:Int),.slice Ax' ((List.range k).map fun i=>mkT t fuel (ops.filter (valB t u i)) (u + 1)).length cx',.pointer q6]∧Blk w' w.heap.size 104 [.pointer (some ⟨gb,0,none⟩)]∧Blk w' w1.heap.size 3 [.int .i64 (u:Int)])→Blk w' w6.heap.size 184 [.slice none 0 0,.bool false,.int .i64 (u:Int),.slice Ax' ((List.range k).map fun i=>mkT t fuel (ops.filter (valB t u i)) (u + 1)).length cx',.pointer q6]:=fun _ h=>h.1
      have hb2:∀ w',(Blk w' w6.heap.size 184 [.slice none 0 0,.bool false,.int .i64 (u:Int),.slice Ax' ((List.range k).map fun i=>mkT t fuel (ops.filter (valB t u i)) (u + 1)).length cx',.pointer q6]∧Blk w' w.heap.size 104 [.pointer (some ⟨gb,0,none⟩)]∧Blk w' w1.heap.size 3 [.int .i64 (u:Int)])→Blk w' w.heap.size 104 [.pointer (some ⟨gb,0,none⟩)]:=fun _ h=>h.2.1
      have hb3:∀ w',(Blk w' w6.heap.size 184 [.slice none 0 0,.bool false,.int .i64 (u:Int),.slice Ax' ((List.range k).map fun i=>mkT t fuel (ops.filter (valB t u i)) (u + 1)).length cx',.pointer q6]∧Blk w' w.heap.size 104 [.pointer (some ⟨gb,0,none⟩)]∧Blk w' w1.heap.size 3 [.int .i64 (u:Int)])→Blk w' w1.heap.size 3 [.int .i64 (u:Int)]:=fun _ h=>h.2.2
      (refine AI rfl rfl rfl ?_<;>refine AI rfl rfl rfl ?_<;>refine Dx rfl rfl rfl ?_<;>refine AY rfl rfl rfl ?_<;>(first|refine Ek rfl rfl rfl ?_|refine Bc rfl rfl rfl ?_)<;>(first|refine Ek rfl rfl rfl ?_|refine Bc rfl rfl rfl ?_)<;>refine AI rfl rfl rfl ?_<;>(first|refine Ek rfl rfl rfl ?_|refine Bc rfl rfl rfl ?_)<;>(first|refine NO rfl rfl rfl ?_|refine NN rfl rfl rfl rfl ?_))
      refine BC rfl ?_
      have hu0v:Vb w8 (fun q=>(Value.slice Ak (ops.filter (valB t u k)).length ck).ownBlock=some q) (.slice Ak (ops.filter (valB t u k)).length ck) (ops.filter (valB t u k)):=hown0.vb.mono fun q hq=>hq.resolve_left id
      refine Bi rfl rfl (ih w8 _ _ _ (u + 1) _ (hg0.ext hE08) hu0v (fun q hq=>(hown0.lt q hq).2) (hflt _).1 (hflt _).2 (by omega) (by omega)) ?_
      rintro p9 w9 ⟨hT9,hE9⟩
      obtain ⟨q9,rfl⟩:=hT9.form
      refine BR (hS8 w9 hE9) ?_
      refine BC rfl ?_
      refine DP rfl rfl rfl (by simp [Value.cells]) (by decide) rfl fun w10 hN10=>?_
      have hE10:Ext w8 w10:=hE9.trans' hN10.ext
      refine BR (hS8 w10 hE10) ?_
      have hG':∀ q,(G q∨(Value.slice Ak (ops.filter (valB t u k)).length ck).ownBlock=some q∨w8.heap.size≤q∧q < w9.heap.size)→q < w9.heap.size∧w2.heap.size≤q:=fun q hq=>by
        have h9:=hE9.size
        have h6:=hE6.size
        have h7:=hN7.size
        rcases hq with hq|hq|hq
        · have:=hG q hq;exact ⟨by omega,this.2⟩
        · have:=hown0.lt q hq;exact ⟨by omega,this.1⟩
        · exact ⟨hq.2,by omega⟩
      have hGx:∀ g,(Value.slice Ax' ((List.range k).map fun i=>mkT t fuel (ops.filter (valB t u i)) (u + 1)).length cx').ownBlock=some g→¬ (G g∨(Value.slice Ak (ops.filter (valB t u k)).length ck).ownBlock=some g∨w8.heap.size≤g∧g < w9.heap.size):=fun g hg h=>by
        rcases h with h|h|h
        · obtain ⟨_,_,_,h3⟩:=hown;exact h3 g hg h
        · exact hown.own_ne hown0 (by decide) g hg h
        · have:=(hown.lt g hg).2;omega
      have hownG:Own w9 w7.heap.size (fun q=>G q∨(Value.slice Ak (ops.filter (valB t u k)).length ck).ownBlock=some q∨w8.heap.size≤q∧q < w9.heap.size) 149 _ _:=(hown.ext hE9 fun q hq=>(hG q hq).1).mono (fun q hq=>.inl hq) hGx
      have hch:Chunks w10 (fun q=>G q∨(Value.slice Ak (ops.filter (valB t u k)).length ck).ownBlock=some q∨w8.heap.size≤q∧q < w9.heap.size) [.pointer q9] [mkT t fuel (ops.filter (valB t u k)) (u + 1)] :=
        .single (show Rp.R w10 _ [.pointer q9] _ from ⟨q9,rfl,TrR.agree (hN10.ext.agree fun q hq=>(hG' q hq).1) (TrR.mono (fun q hq=>by
          rcases hq with hq|hq
          · exact .inr (.inl hq)
          · exact .inr (.inr hq)) hT9)⟩)
      refine BC rfl ?_
      have hmk:((List.range k).map fun i=>mkT t fuel (ops.filter (valB t u i)) (u + 1)).length≤64:=by simp;omega
      refine EW (α:=Tr) (A:=some ⟨w9.heap.size,0,none⟩) (c:=1) (ys:=[mkT t fuel (ops.filter (valB t u k)) (u + 1)]) (cells:=[.pointer q9]) rfl rfl (hownG.ext hN10.ext fun q hq=>(hG' q hq).1) (fun q hq=>Nat.lt_of_lt_of_le (hG' q hq).1 hN10.ext.size) (by have:=hE10.size;omega) hch (fun _=>⟨_,_,rfl,hN10.blk.cellsAt⟩) (by decide) (by rw [List.length_singleton];omega) (by rw [List.length_singleton];omega) rfl fun v' w11 ho11 hg11 hat=>?_
      have hown10:=hown.ext hE10 fun q hq=>(hG q hq).1
      have hK11:Kept w8 w11 (.slice Ax' ((List.range k).map fun i=>mkT t fuel (ops.filter (valB t u i)) (u + 1)).length cx'):=⟨hg11.os.trans hE10.os,hg11.tape.trans hE10.tape,hg11.output.trans hE10.output,Nat.le_trans hE10.size hg11.size,fun q hq hne=>by rw [hg11.block q (Nat.lt_of_lt_of_le hq hE10.size) (fun he=>hne he.symm),hE10.block q hq]⟩
      have hB11:Below w7.heap.size w8 w11:=hown.fits (Nat.le_refl _) hz78 hK11
      have hnd11:=hK11.blk hnd (hown.blk_ne hnd (by decide))
      have hz67:=hN7.size
      refine BR ⟨hnd11,(hb1s.ext hE58).keep (hB11.block _ (by have:=hE6.size;omega)),(hb2s.ext hE58).keep (hB11.block _ (by have:=hE6.size;omega))⟩ ?_
      (refine Dx rfl rfl rfl ?_<;>refine AY rfl rfl rfl ?_)
      refine BC rfl ?_
      obtain ⟨A11,c11,rfl⟩:=ho11.form
      refine BJ (g:=w6.heap.size) rfl rfl hnd11 rfl (show 0 + 3 + 1≤5 by decide) (by simp [Value.cells,Value.oneCell']) fun w12 hU=>?_
      refine Fm ?_
      ((refine h_z ?_))
      repeat (first|refine At ?_|refine Ah rfl ?_|refine Ae rfl ?_)
      refine ⟨_,⟨rfl,rfl,rfl,rfl,rfl,rfl,trivial⟩,?_,hU.blk,(fun q=>G q∨(Value.slice Ak (ops.filter (valB t u k)).length ck).ownBlock=some q∨w8.heap.size≤q∧q < w9.heap.size),?_,?_,?_⟩
      · exact hE8.trans ((hB11.mono (by omega)).trans (hU.below (Nat.le_refl _)))
      · intro q hq
        have:=hG' q hq
        have h1:=hN10.ext.size
        have h2:=hg11.size
        exact ⟨by rw [hU.size];omega,this.2⟩
      · rintro (h|h|h)
        · exact hGn h
        · exact hown0.blk_ne hnd (by decide) h
        · have:=hnd.lt;omega
      · rw [List.range_succ,List.map_append]
        have hne:(Value.slice A11 (((List.range k).map fun i=>mkT t fuel (ops.filter (valB t u i)) (u + 1)) ++ [mkT t fuel (ops.filter (valB t u k)) (u + 1)]).length c11).ownBlock≠some w6.heap.size:=ho11.blk_ne hnd11 (by decide)
        exact ho11.agree (hU.agree (by
          rintro (h|h|h)
          · exact hGn h
          · exact hown0.blk_ne hnd (by decide) h
          · have:=hnd.lt;omega)) fun g hg=>hU.other g fun he=>hne (he ▸ hg)
    rintro xv w8 ⟨hE8,hnd,G,hG,hGn,hown⟩
    repeat (first|refine At ?_|refine Ah rfl ?_|refine Ae rfl ?_)
    ((repeat (first|refine At ?_|refine Ah rfl ?_|refine Ae rfl ?_))<;>(refine Am rfl rfl ?_<;>refine Ar rfl rfl ?_<;>(refine o_z ?_))<;>(repeat (first|refine At ?_|refine Ah rfl ?_|refine Ae rfl ?_)))
    have hE08:Ext w w8:=hE5.trans' (hE6.trans' hE8)
    obtain ⟨Ax',cx',rfl⟩:=hown.form
    have hxl:((List.range m).map fun i=>mkT t fuel (ops.filter (valB t u i)) (u + 1)).length=m:=by simp
    rw [hxl] at hnd
    refine ret1 rfl rfl ⟨⟨w6.heap.size,Ax',cx',q6,rfl,.inr ⟨by have:=hE5.size;have:=hE6.size;omega,hnd.lt⟩,hnd,?_,fun i hi=>?_⟩,hE08⟩
    · refine TrR.mono (fun q hq=>?_) (TrR.agree (hE8.agree fun q hq=>?_) hT6)
      · rcases hq with hq|hq
        · have:=hby.rest.lt q hq;have:=hE6.size;have:=hE8.size;exact .inr ⟨by omega,by omega⟩
        · have:=hE8.size;have:=hE5.size;exact .inr ⟨by omega,by omega⟩
      · rcases hq with hq|hq
        · have:=hby.rest.lt q hq;have:=hE6.size;omega
        · exact hq.2
    · have hvb:=hown.vb
      obtain ⟨b9,o9,cs9,hA,hF9,_,hc9,q9,rfl,hT9⟩:=hvb.elem (k:=i) (x:=mkT t fuel (ops.filter (valB t u i)) (u + 1)) (by rw [List.getElem?_map,List.getElem?_range hi];rfl)
      have hsub:∀ q,(G q∨(Value.slice Ax' ((List.range m).map fun i=>mkT t fuel (ops.filter (valB t u i)) (u + 1)).length cx').ownBlock=some q)→more F w w8 q:=fun q hq=>by
        rcases hq with hq|hq
        · have:=hG q hq;exact .inr ⟨by omega,this.1⟩
        · have h1:=hown.lt q hq;have:=hN7.size;have:=hE6.size;exact .inr ⟨by omega,h1.2⟩
      exact ⟨b9,o9,q9,hA,hsub _ hF9,by have:=hc9.1;rwa [show i * Rp.size Tr=i from Nat.mul_one i] at this,TrR.mono hsub hT9⟩
end
section
open Go Go.RowKit
attribute [local irreducible] ewp owp hwp hwq hws Ev Evg Fn retPost loud loudS Res1
def nw (w w':World):Nat→Prop:=fun k=>w.heap.size≤k∧k < w'.heap.size
theorem JH {w:World} {F G:Nat→Prop}:∀ {xs:List Fct} {cells:List Value},Chunks w F cells xs→Chunks w G cells xs
  | [],_,h=>h
  | _ :: _,_,⟨cs,rest,he,hr,hc⟩=>⟨cs,rest,he,hr,JH hc⟩
theorem GY {w:World} {F G:Nat→Prop}:∀ {xs:List Int} {cells:List Value},Chunks w F cells xs→Chunks w G cells xs
  | [],_,h=>h
  | _ :: _,_,⟨cs,rest,he,hr,hc⟩=>⟨cs,rest,he,hr,GY hc⟩
theorem cloneIntsN {w:World} {sv:Value} {xs:List Int} (hs:V w sv xs) (hl:xs.length≤1000000):Fn Tryz.prog 50 [sv] w fun v w'=>Vb w' (nw w w') v xs∧Ext w w' :=
  (cloneInts hs (by omega)).mono fun v w' ⟨ho,hE⟩=>⟨by
    obtain ⟨cells,q1,q2,q3⟩:=id ho
    have ho':Own w' w.heap.size (fun _=>False) 3 v xs:=⟨cells,q1,GY q2,fun _ _ h=>h⟩
    exact ho'.vb.mono fun k hk=>ho.lt k (hk.resolve_left id),hE⟩
theorem cloneFactsN {w:World} {sv:Value} {xs:List Fct} (hs:V w sv xs) (hl:xs.length≤1000000):Fn Tryz.prog 51 [sv] w fun v w'=>Vb w' (nw w w') v xs∧Ext w w' :=
  (cloneFacts hs (by omega)).mono fun v w' ⟨ho,hE⟩=>⟨by
    obtain ⟨cells,q1,q2,q3⟩:=id ho
    have ho':Own w' w.heap.size (fun _=>False) 62 v xs:=⟨cells,q1,JH q2,fun _ _ h=>h⟩
    exact ho'.vb.mono fun k hk=>ho.lt k (hk.resolve_left id),hE⟩
theorem Vb.nwext {α:Type} [Rp α] {w w' w'':World} {v:Value} {x:α} (h:Vb w' (nw w w') v x) (hE:Ext w' w''):Vb w'' (nw w w') v x:=h.agree (hE.agree fun _ hk=>hk.2)
theorem genCopied {w:World} {tv:Value} {t:Tsk} (ht:V w tv t) (hl1:t.vars.length≤1000000) (hl2:t.init.length≤1000000) (hl3:t.goal.length≤1000000) (hl4:t.ops.length≤1000000)
    (hl5:∀ (i:Nat) o,t.ops[i]?=some o→o.pre.length≤1000000∧o.effs.length≤1000000∧∀ (j:Nat) e,o.effs[j]?=some e→e.cond.length≤1000000) :
    Fn Tryz.prog 87 [tv] w fun v w'=>Vb w' (nw w w') v t∧Ext w w':=by
  obtain ⟨cs,rfl,a,b,c,d,rfl,hvars,hinit,hgoal,hops⟩:=ht
  obtain ⟨Av,cv,rfl⟩:=hvars.form
  obtain ⟨Ai,ci,rfl⟩:=hinit.form
  obtain ⟨Ag,cg,rfl⟩:=hgoal.form
  obtain ⟨Ao,co,rfl⟩:=hops.form
  refine AD Tryz.func87 rfl Tryz.ntmps87 rfl ?_
  repeat (first|refine At ?_|refine Ah rfl ?_|refine Ae rfl ?_)
  refine Ea rfl rfl fun w1 hN1=>?_
  refine DO rfl fun w2 hN2=>?_
  have hE2:Ext w w2:=hN1.ext.trans' hN2.ext
  have hz1:w1.heap.size=w.heap.size + 1:=hN1.size
  have hz2:w2.heap.size=w1.heap.size + 1:=hN2.size
  have hb1:Blk w2 w.heap.size 26 [.slice Av t.vars.length cv,.slice Ai t.init.length ci,.slice Ag t.goal.length cg,.slice Ao t.ops.length co]:=hN1.blk.ext hN2.ext
  have hres:Blk w2 w1.heap.size 26 [.slice none 0 0,.slice none 0 0,.slice none 0 0,.slice none 0 0]:=hN2.blk
  ((refine o_z ?_))
  refine Lv (fun l' w'=>∃ g3 av bv cv',subs l' [(1,.pointer (some ⟨w.heap.size,0,none⟩)),(2,.pointer (some ⟨w1.heap.size,0,none⟩)),(3,.pointer (some ⟨g3,0,none⟩))]∧Ext w2 w'∧w2.heap.size≤g3∧Blk w' g3 26 [av,bv,cv',.slice none 0 0] ∧
    Vb w' (fun k=>nw w2 w' k∧k≠g3) av t.vars∧Vb w' (fun k=>nw w2 w' k∧k≠g3) bv t.init∧Vb w' (fun k=>nw w2 w' k∧k≠g3) cv' t.goal) ?_ ?_
  · have q0:∀ w',Ext w2 w'→Blk w' w.heap.size 26 [.slice Av t.vars.length cv,.slice Ai t.init.length ci,.slice Ag t.goal.length cg,.slice Ao t.ops.length co]:=fun w' h=>hb1.ext h
    refine Mh (Ext w2) ?_
    refine IB (i:=0) rfl (by kernel_rfl) (by kernel_rfl) (by kernel_rfl) rfl rfl (evg fun _ _=>Dw rfl) (Below.refl _ _) ?_
    refine IB (i:=1) rfl (by kernel_rfl) (by kernel_rfl) (by kernel_rfl) rfl rfl (evg fun _ hS=>Ej rfl ((hb1.ext hS).cell rfl)) (Below.refl _ _) ?_
    refine IB (i:=3) rfl (by kernel_rfl) (by kernel_rfl) (by kernel_rfl) rfl rfl (evg fun _ _=>Dw rfl) (Below.refl _ _) ?_
    refine IB (i:=4) rfl (by kernel_rfl) (by kernel_rfl) (by kernel_rfl) rfl rfl (evg fun _ hS=>Ej rfl ((hb1.ext hS).cell rfl)) (Below.refl _ _) ?_
    refine IB (i:=6) rfl (by kernel_rfl) (by kernel_rfl) (by kernel_rfl) rfl rfl (evg fun _ _=>Dw rfl) (Below.refl _ _) ?_
    refine IB (i:=7) rfl (by kernel_rfl) (by kernel_rfl) (by kernel_rfl) rfl rfl (evg fun _ hS=>Ej rfl ((hb1.ext hS).cell rfl)) (Below.refl _ _) ?_
    refine JR (i:=2) (j:=10) (by kernel_rfl) rfl rfl ?_ ?_
    · refine Bi rfl rfl (cloneIntsN (hvars.ext hE2) hl1) ?_
      rintro av w3 ⟨hav,hE3⟩
      refine Fo hE3 ?_
      refine JR (i:=5) (j:=10) (by kernel_rfl) rfl rfl ?_ ?_
      · refine Bi rfl rfl (cloneIntsN (hinit.ext (hE2.trans' hE3)) hl2) ?_
        rintro bv w4 ⟨hbv,hE4⟩
        refine Fo (hE3.trans' hE4) ?_
        refine JR (i:=8) (j:=10) (by kernel_rfl) rfl rfl ?_ ?_
        · refine Bi rfl rfl (cloneFactsN (hgoal.ext (hE2.trans' (hE3.trans' hE4))) hl3) ?_
          rintro cv' w5 ⟨hcv,hE5⟩
          refine Fo (hE3.trans' (hE4.trans' hE5)) ?_
          refine IC [(9,true),(10,false),(11,false)] (by kernel_rfl) rfl (by kernel_rfl) (hE3.trans' (hE4.trans' hE5)) ?_
          obtain ⟨Aa,ca,rfl⟩:=hav.form
          obtain ⟨Ab,cb,rfl⟩:=hbv.form
          obtain ⟨Ac,cc,rfl⟩:=hcv.form
          refine Az rfl ?_
          refine Bd (fun _ _=>FM rfl rfl) rfl ?_
          refine BC rfl ?_
          refine DO rfl fun w6 hN6=>?_
          refine BR (hE3.trans' (hE4.trans' (hE5.trans' hN6.ext))) ?_
          refine BC rfl ?_
          refine BJ rfl rfl hN6.blk rfl (Nat.le_refl _) (by simp [Value.cells,Value.oneCell',setParts,setFrom]) fun w7 hU=>?_
          refine Fm (AL ?_)
          have hE7:Ext w5 w7:=(hN6.upd hU).ext
          have s3:=hE3.size;have s4:=hE4.size;have s5:=hE5.size;have s7:=hE7.size
          refine ⟨w5.heap.size,_,_,_,⟨rfl,rfl,rfl,trivial⟩,hE3.trans' (hE4.trans' (hE5.trans' hE7)),by omega,hU.blk,?_,?_,?_⟩
          · exact ((((hav.nwext hE4).agree (hE5.agree fun k hk=>by have:=hk.2;omega)).agree (hE7.agree fun k hk=>by have:=hk.2;omega)).mono fun k hk=>⟨⟨by have:=hk.1;omega,by have:=hk.2;omega⟩,by have:=hk.2;omega⟩)
          · exact ((hbv.nwext hE5).agree (hE7.agree fun k hk=>by have:=hk.2;omega)).mono fun k hk=>⟨⟨by have:=hk.1;omega,by have:=hk.2;omega⟩,by have:=hk.2;omega⟩
          · exact (hcv.nwext hE7).mono fun k hk=>⟨⟨by have:=hk.1;omega,by have:=hk.2;omega⟩,by have:=hk.2;omega⟩
        · refine DO rfl fun w5 hN=>?_
          have hE5:=hN.ext
          refine Fo (hE3.trans' (hE4.trans' hE5)) ?_
          refine IC [(8,false),(9,true),(11,false)] (by kernel_rfl) rfl (by kernel_rfl) (hE3.trans' (hE4.trans' hE5)) ?_
          refine BC rfl ?_
          refine Bi rfl rfl (cloneFactsN (hgoal.ext (hE2.trans' (hE3.trans' (hE4.trans' hE5)))) hl3) ?_
          rintro cv' w6 ⟨hcv,hE6⟩
          refine BR (hE3.trans' (hE4.trans' (hE5.trans' hE6))) ?_
          have hg3:=hN.blk.ext hE6
          obtain ⟨Aa,ca,rfl⟩:=hav.form
          obtain ⟨Ab,cb,rfl⟩:=hbv.form
          obtain ⟨Ac,cc,rfl⟩:=hcv.form
          refine Az rfl ?_
          refine Bd (fun _ _=>FM rfl rfl) rfl ?_
          refine BC rfl ?_
          refine BJ rfl rfl hg3 rfl (Nat.le_refl _) (by simp [Value.cells,Value.oneCell',setParts,setFrom]) fun w7 hU=>?_
          refine Fm (AL ?_)
          have s3:=hE3.size;have s4:=hE4.size;have s5:=hE5.size;have s6:=hE6.size;have s7:=hU.size;have sN:=hN.size
          refine ⟨_,_,_,_,⟨rfl,rfl,rfl,trivial⟩,(hE3.trans' (hE4.trans' (hE5.trans' hE6))).trans (hU.below (by omega)),by omega,hU.blk,?_,?_,?_⟩
          · exact (hav.agree fun k hk=>(hU.other k (by have:=hk.2;omega)).trans ((hE4.trans' (hE5.trans' hE6)).block k hk.2)).mono fun k hk=>⟨⟨by have:=hk.1;omega,by have:=hk.2;omega⟩,by have:=hk.2;omega⟩
          · exact (hbv.agree fun k hk=>(hU.other k (by have:=hk.2;omega)).trans ((hE5.trans' hE6).block k hk.2)).mono fun k hk=>⟨⟨by have:=hk.1;omega,by have:=hk.2;omega⟩,by have:=hk.2;omega⟩
          · exact (hcv.agree fun k hk=>hU.other k (by have:=hk.1;omega)).mono fun k hk=>⟨⟨by have:=hk.1;omega,by have:=hk.2;omega⟩,by have:=hk.1;omega⟩
      · refine DO rfl fun w4 hN=>?_
        have hE4:=hN.ext
        refine Fo (hE3.trans' hE4) ?_
        refine IC [(5,false),(8,false),(9,true),(11,false)] (by kernel_rfl) rfl (by kernel_rfl) (hE3.trans' hE4) ?_
        refine BC rfl ?_
        refine Bi rfl rfl (cloneIntsN (hinit.ext (hE2.trans' (hE3.trans' hE4))) hl2) ?_
        rintro bv w5 ⟨hbv,hE5⟩
        refine BR (hE3.trans' (hE4.trans' hE5)) ?_
        refine BC rfl ?_
        refine Bi rfl rfl (cloneFactsN (hgoal.ext (hE2.trans' (hE3.trans' (hE4.trans' hE5)))) hl3) ?_
        rintro cv' w6 ⟨hcv,hE6⟩
        refine BR (hE3.trans' (hE4.trans' (hE5.trans' hE6))) ?_
        have hg3:=(hN.blk.ext hE5).ext hE6
        obtain ⟨Aa,ca,rfl⟩:=hav.form
        obtain ⟨Ab,cb,rfl⟩:=hbv.form
        obtain ⟨Ac,cc,rfl⟩:=hcv.form
        refine Az rfl ?_
        refine Bd (fun _ _=>FM rfl rfl) rfl ?_
        refine BC rfl ?_
        refine BJ rfl rfl hg3 rfl (Nat.le_refl _) (by simp [Value.cells,Value.oneCell',setParts,setFrom]) fun w7 hU=>?_
        refine Fm (AL ?_)
        have s3:=hE3.size;have s4:=hE4.size;have s5:=hE5.size;have s6:=hE6.size;have s7:=hU.size;have sN:=hN.size
        refine ⟨_,_,_,_,⟨rfl,rfl,rfl,trivial⟩,(hE3.trans' (hE4.trans' (hE5.trans' hE6))).trans (hU.below (by omega)),by omega,hU.blk,?_,?_,?_⟩
        · exact (hav.agree fun k hk=>(hU.other k (by have:=hk.2;omega)).trans ((hE4.trans' (hE5.trans' hE6)).block k hk.2)).mono fun k hk=>⟨⟨by have:=hk.1;omega,by have:=hk.2;omega⟩,by have:=hk.2;omega⟩
        · exact (hbv.agree fun k hk=>(hU.other k (by have:=hk.1;omega)).trans (hE6.block k hk.2)).mono fun k hk=>⟨⟨by have:=hk.1;omega,by have:=hk.2;omega⟩,by have:=hk.1;omega⟩
        · exact (hcv.agree fun k hk=>hU.other k (by have:=hk.1;omega)).mono fun k hk=>⟨⟨by have:=hk.1;omega,by have:=hk.2;omega⟩,by have:=hk.1;omega⟩
    · refine DO rfl fun w3 hN=>?_
      have hE3:=hN.ext
      refine Fo hE3 ?_
      refine IC [(2,false),(5,false),(8,false),(9,true),(11,false)] (by kernel_rfl) rfl (by kernel_rfl) hE3 ?_
      refine BC rfl ?_
      refine Bi rfl rfl (cloneIntsN (hvars.ext (hE2.trans' hE3)) hl1) ?_
      rintro av w4 ⟨hav,hE4⟩
      refine BR (hE3.trans' hE4) ?_
      refine BC rfl ?_
      refine Bi rfl rfl (cloneIntsN (hinit.ext (hE2.trans' (hE3.trans' hE4))) hl2) ?_
      rintro bv w5 ⟨hbv,hE5⟩
      refine BR (hE3.trans' (hE4.trans' hE5)) ?_
      refine BC rfl ?_
      refine Bi rfl rfl (cloneFactsN (hgoal.ext (hE2.trans' (hE3.trans' (hE4.trans' hE5)))) hl3) ?_
      rintro cv' w6 ⟨hcv,hE6⟩
      refine BR (hE3.trans' (hE4.trans' (hE5.trans' hE6))) ?_
      have hg3:=((hN.blk.ext hE4).ext hE5).ext hE6
      obtain ⟨Aa,ca,rfl⟩:=hav.form
      obtain ⟨Ab,cb,rfl⟩:=hbv.form
      obtain ⟨Ac,cc,rfl⟩:=hcv.form
      refine Az rfl ?_
      refine Bd (fun _ _=>FM rfl rfl) rfl ?_
      refine BC rfl ?_
      refine BJ rfl rfl hg3 rfl (Nat.le_refl _) (by simp [Value.cells,Value.oneCell',setParts,setFrom]) fun w7 hU=>?_
      refine Fm (AL ?_)
      have s3:=hE3.size;have s4:=hE4.size;have s5:=hE5.size;have s6:=hE6.size;have s7:=hU.size;have sN:=hN.size
      refine ⟨_,_,_,_,⟨rfl,rfl,rfl,trivial⟩,(hE3.trans' (hE4.trans' (hE5.trans' hE6))).trans (hU.below (by omega)),by omega,hU.blk,?_,?_,?_⟩
      · exact (hav.agree fun k hk=>(hU.other k (by have:=hk.1;omega)).trans ((hE5.trans' hE6).block k hk.2)).mono fun k hk=>⟨⟨by have:=hk.1;omega,by have:=hk.2;omega⟩,by have:=hk.1;omega⟩
      · exact (hbv.agree fun k hk=>(hU.other k (by have:=hk.1;omega)).trans (hE6.block k hk.2)).mono fun k hk=>⟨⟨by have:=hk.1;omega,by have:=hk.2;omega⟩,by have:=hk.1;omega⟩
      · exact (hcv.agree fun k hk=>hU.other k (by have:=hk.1;omega)).mono fun k hk=>⟨⟨by have:=hk.1;omega,by have:=hk.2;omega⟩,by have:=hk.1;omega⟩
  · rintro l' w3 ⟨g3,av,bv,cv',hsub,hE3,hg3,hb3,hav,hbv,hcv⟩
    refine AN _ hsub ?_
    clear hsub
    replace hb1:=hb1.ext hE3
    replace hres:=hres.ext hE3
    have hE03:Ext w w3:=hE2.trans' hE3
    have hg3z:g3 < w3.heap.size:=hb3.lt
    repeat (first|refine At ?_|refine Ah rfl ?_|refine Ae rfl ?_)
    ((repeat (first|refine At ?_|refine Ah rfl ?_|refine Ae rfl ?_))<;>(refine AE rfl rfl ?_<;>refine AC rfl rfl ?_<;>refine AP rfl rfl ?_<;>refine Am rfl rfl ?_<;>(refine o_z ?_))<;>(repeat (first|refine At ?_|refine Ah rfl ?_|refine Ae rfl ?_)))
    refine BL t.ops.length (by omega) (fun _:Unit=>[(2,.pointer (some ⟨w1.heap.size,0,none⟩)),(3,.pointer (some ⟨g3,0,none⟩)),(20,.slice Ao t.ops.length co)])
      (fun k _ w'=>Below w2.heap.size w2 w'∧w3.heap.size≤w'.heap.size∧(∀ q,q < w3.heap.size→q≠g3→w'.heap[q]?=w3.heap[q]?)∧∃ (ov:Value) (G:Nat→Prop),Blk w' g3 26 [av,bv,cv',ov]∧(∀ q,G q→w3.heap.size≤q∧q < w'.heap.size)∧Own w' w3.heap.size G 67 ov (t.ops.take k)) ()
      ⟨hE3,Nat.le_refl _,fun _ _ _=>rfl,.slice none 0 0,fun _=>False,hb3,fun _ h=>h.elim,Own.nil _ _ _ _⟩ ⟨rfl,rfl,rfl,rfl,rfl,trivial⟩ (fun _=>⟨rfl,rfl⟩) ⟨rfl,rfl,rfl⟩ ⟨rfl,rfl⟩ ?_ ?_
    · rintro k _ w4 hk ⟨hB4,hz34,hkeep,ov,G,hb3,hG,hown⟩
      have hE04:Ext w w4:=hE2.trans (hB4.mono (by omega))
      obtain ⟨o,ho⟩:=AR hk
      obtain ⟨hp5,hq5,hc5⟩:=hl5 k o ho
      obtain ⟨b2,o2,ce,rfl,_,_,hd1,p,q,rfl,hp,hq,hc,hn⟩:=(hops.ext hE04).elem ho
      obtain ⟨Ap,cp,rfl⟩:=hp.form
      obtain ⟨Aq,cq,rfl⟩:=hq.form
      obtain ⟨Aov,cov,rfl⟩:=hown.form
      ((repeat (first|refine At ?_|refine Ah rfl ?_|refine Ae rfl ?_))<;>(refine Df rfl rfl rfl ?_<;>refine Bk rfl rfl ?_)<;>(repeat (first|refine At ?_|refine Ah rfl ?_|refine Ae rfl ?_)))
      refine BW rfl rfl rfl (by simp [Value.cells,Value.oneCell']) fun w5 hN5=>?_
      have hb2:Blk w5 w4.heap.size 67 [.string o.name,.int .i64 o.cost,.slice Ap o.pre.length cp,.slice Aq o.effs.length cq]:=hN5.blk
      have hz5:=hN5.size
      ((refine o_z ?_))
      repeat (first|refine At ?_|refine Ah rfl ?_|refine Ae rfl ?_)
      clear hd1
      (refine AE rfl rfl ?_<;>refine AC rfl rfl ?_)
      refine Bi rfl rfl (cloneFactsN (hp.ext hN5.ext) hp5) ?_
      rintro pv w6 ⟨hpv,hE6⟩
      obtain ⟨Ap',cp',rfl⟩:=hpv.form
      replace hb2:=hb2.ext hE6
      (refine AE rfl rfl ?_)
      refine BJ rfl rfl hb2 rfl (show 0 + 2 + 1≤4 by decide) (by simp [Value.cells,Value.oneCell']) fun w7 hU7=>?_
      have hE47:Ext w4 w7:=(hN5.ext.trans' hE6).trans (hU7.below (Nat.le_refl _))
      replace hb2:Blk w7 w4.heap.size 67 [.string o.name,.int .i64 o.cost,.slice Ap' o.pre.length cp',.slice Aq o.effs.length cq]:=hU7.blk
      have hpv7:Vb w7 (nw w5 w6) (.slice Ap' o.pre.length cp') o.pre:=hpv.agree fun q hq=>hU7.other q (by have:=hq.1;omega)
      ((refine o_z ?_))
      repeat (first|refine At ?_|refine Ah rfl ?_|refine Ae rfl ?_)
      ((repeat (first|refine At ?_|refine Ah rfl ?_|refine Ae rfl ?_))<;>(refine Ar rfl rfl ?_<;>(refine o_z ?_))<;>(repeat (first|refine At ?_|refine Ah rfl ?_|refine Ae rfl ?_))<;>(refine AE rfl rfl ?_<;>refine AC rfl rfl ?_<;>refine AP rfl rfl ?_<;>refine Am rfl rfl ?_<;>(refine o_z ?_))<;>(repeat (first|refine At ?_|refine Ah rfl ?_|refine Ae rfl ?_)))
      refine BL o.effs.length (by omega) (fun ev:Value=>[(2,.pointer (some ⟨w1.heap.size,0,none⟩)),(3,.pointer (some ⟨g3,0,none⟩)),(5,.pointer (some ⟨w4.heap.size,0,none⟩)),(6,ev),(20,.slice (some ⟨b2,o2,none⟩) t.ops.length co),(21,.int .i64 (t.ops.length:Int)),(22,.int .i64 (k:Int)),(31,.slice Aq o.effs.length cq)])
        (fun i ev w'=>Ext w7 w'∧∃ H:Nat→Prop,(∀ q,H q→w7.heap.size≤q∧q < w'.heap.size)∧Own w' w7.heap.size H 64 ev (o.effs.take i)) (.slice none 0 0)
        ⟨Below.refl _ _,fun _=>False,fun _ h=>h.elim,Own.nil _ _ _ _⟩ ⟨rfl,rfl,rfl,rfl,rfl,rfl,rfl,rfl,rfl,rfl,trivial⟩ (fun _=>⟨rfl,rfl⟩) ⟨rfl,rfl,rfl⟩ ⟨rfl,rfl⟩ ?_ ?_
      · rintro i ev w8 hi ⟨hE8,H,hH,hev⟩
        obtain ⟨e,he⟩:=AR hi
        have hce:=hc5 i e he
        obtain ⟨b3,o3,ce,rfl,_,_,hd1,cv8,rfl,hcn,hr1,hr2⟩:=(hq.ext (hE47.trans' hE8)).elem he
        obtain ⟨Acn,ccn,rfl⟩:=hcn.form
        ((repeat (first|refine At ?_|refine Ah rfl ?_|refine Ae rfl ?_))<;>(refine Df rfl rfl rfl ?_<;>refine Bk rfl rfl ?_)<;>(repeat (first|refine At ?_|refine Ah rfl ?_|refine Ae rfl ?_)))
        refine BW rfl rfl rfl (by simp [Value.cells,Value.oneCell']) fun w9 hN9=>?_
        have hb4:Blk w9 w8.heap.size 64 [.slice Acn e.cond.length ccn,.int .i64 e.var,.int .i64 e.val]:=hN9.blk
        have hz9:=hN9.size
        ((refine o_z ?_))
        repeat (first|refine At ?_|refine Ah rfl ?_|refine Ae rfl ?_)
        clear hd1
        (refine AE rfl rfl ?_<;>refine AC rfl rfl ?_)
        refine Bi rfl rfl (cloneFactsN (hcn.ext hN9.ext) hce) ?_
        rintro cw w10 ⟨hcw,hE10⟩
        obtain ⟨Acw,ccw,rfl⟩:=hcw.form
        replace hb4:=hb4.ext hE10
        (refine AE rfl rfl ?_)
        refine BJ rfl rfl hb4 rfl (show 0 + 0 + 1≤3 by decide) (by simp [Value.cells,Value.oneCell']) fun w11 hU11=>?_
        replace hb4:Blk w11 w8.heap.size 64 [.slice Acw e.cond.length ccw,.int .i64 e.var,.int .i64 e.val]:=hU11.blk
        have hE811:Ext w8 w11:=(hN9.ext.trans' hE10).trans (hU11.below (Nat.le_refl _))
        have hE711:Ext w7 w11:=hE8.trans' hE811
        have hcw11:Vb w11 (nw w9 w10) (.slice Acw e.cond.length ccw) e.cond:=hcw.agree fun q hq=>hU11.other q (by have:=hq.1;omega)
        have s10:=hE10.size
        have s11:=hU11.size
        have hne:∀ g,ev.ownBlock=some g→¬ (H g∨nw w9 w10 g):=fun g hg h=>by
          have hlt:=(hev.lt g hg).2
          rcases h with h|h
          · obtain ⟨_,_,_,h3⟩:=hev;exact h3 g hg h
          · have:=h.1;omega
        have hev11:Own w11 w7.heap.size (fun q=>H q∨nw w9 w10 q) 64 ev _:=(hev.ext hE811 fun q hq=>(hH q hq).2).mono (fun q hq=>.inl hq) hne
        have hH11:∀ q,(H q∨nw w9 w10 q)→w7.heap.size≤q∧q < w11.heap.size:=fun q hq=>by
          rcases hq with hq|hq
          · have:=hH q hq;omega
          · have h1:=hq.1;have h2:=hq.2;have:=hE8.size;omega
        have hil:(o.effs.take i).length≤1000000:=by rw [List.length_take];omega
        ((refine o_z ?_))
        repeat (first|refine At ?_|refine Ah rfl ?_|refine Ae rfl ?_)
        (refine Am rfl rfl ?_<;>refine Bk rfl rfl ?_)
        refine Ff (a:=e) rfl rfl rfl hev11 (fun q hq=>(hH11 q hq).2) hE711.size ⟨_,rfl,_,rfl,hcw11.mono fun q hq=>.inr hq,hr1,hr2⟩ (by decide) (by decide) (by omega) (by omega) ⟨rfl,rfl⟩ fun ev' w12 hev12 hK12=>?_
        (refine Ar rfl rfl ?_<;>(refine o_z ?_))
        repeat (first|refine At ?_|refine Ah rfl ?_|refine Ae rfl ?_)
        exact ⟨ev',⟨rfl,rfl,rfl,rfl,rfl,rfl,rfl,rfl,rfl,rfl,trivial⟩,hE711.trans (hev11.fits (Nat.le_refl _) hE711.size hK12),_,fun q hq=>⟨(hH11 q hq).1,Nat.lt_of_lt_of_le (hH11 q hq).2 hK12.size⟩,by rw [List.take_add_one,he];simpa using hev12⟩
      rintro ev w12 ⟨hE12,H,hH,hev⟩
      rw [List.take_length] at hev
      obtain ⟨Aev,cev,rfl⟩:=hev.form
      replace hb2:=hb2.ext hE12
      repeat (first|refine At ?_|refine Ah rfl ?_|refine Ae rfl ?_)
      (refine Am rfl rfl ?_<;>refine AE rfl rfl ?_)
      refine BJ rfl rfl hb2 rfl (show 0 + 3 + 1≤4 by decide) (by simp [Value.cells,Value.oneCell']) fun w13 hU13=>?_
      replace hb2:Blk w13 w4.heap.size 67 [.string o.name,.int .i64 o.cost,.slice Ap' o.pre.length cp',.slice Aev o.effs.length cev]:=hU13.blk
      have hE413:Ext w4 w13:=(hE47.trans' hE12).trans (hU13.below (Nat.le_refl _))
      have s6:=hE6.size
      have s7:=hU7.size
      have s12:=hE12.size
      have s13:=hU13.size
      have hb3':=hb3.ext hE413
      have hg3lt:=hb3.lt
      have hpv13:Vb w13 (nw w5 w6) (.slice Ap' o.pre.length cp') o.pre:=hpv7.agree fun q hq=>(hU13.other q (by have:=hq.1;omega)).trans (hE12.block q (by have:=hq.2;omega))
      have hev13:Vb w13 (fun q=>H q∨(Value.slice Aev o.effs.length cev).ownBlock=some q) (.slice Aev o.effs.length cev) o.effs:=hev.vb.agree fun q hq=>hU13.other q (by
        rcases hq with hq|hq
        · have:=(hH q hq).1;omega
        · have:=(hev.lt q hq).1;omega)
      have hne:∀ g,(Value.slice Aov (t.ops.take k).length cov).ownBlock=some g→¬ (G g∨w4.heap.size≤g∧g < w13.heap.size):=fun g hg h=>by
        have hlt:=(hown.lt g hg).2
        rcases h with h|h
        · obtain ⟨_,_,_,h3⟩:=hown;exact h3 g hg h
        · omega
      have hown13:Own w13 w3.heap.size (fun q=>G q∨w4.heap.size≤q∧q < w13.heap.size) 67 _ _:=(hown.ext hE413 fun q hq=>(hG q hq).2).mono (fun q hq=>.inl hq) hne
      have hG13:∀ q,(G q∨w4.heap.size≤q∧q < w13.heap.size)→w3.heap.size≤q∧q < w13.heap.size:=fun q hq=>by
        have:=hE413.size
        rcases hq with hq|hq
        · have:=hG q hq;omega
        · omega
      have hopr:Vb w13 (fun q=>G q∨w4.heap.size≤q∧q < w13.heap.size) (.agg #[.string o.name,.int .i64 o.cost,.slice Ap' o.pre.length cp',.slice Aev o.effs.length cev]) o :=
        ⟨[.string o.name,.int .i64 o.cost,.slice Ap' o.pre.length cp',.slice Aev o.effs.length cev],rfl,_,_,rfl,hpv13.mono fun q hq=>.inr (by have h1:=hq.1;have h2:=hq.2;omega),hev13.mono fun q hq=>.inr (by
          rcases hq with hq|hq
          · have:=hH q hq;omega
          · have:=hev.lt q hq;omega),hc,hn⟩
      have hkl:(t.ops.take k).length≤1000000:=by rw [List.length_take];omega
      ((refine o_z ?_))
      repeat (first|refine At ?_|refine Ah rfl ?_|refine Ae rfl ?_)
      have hbx:=hb2
      clear hb1
      have hb1:=hb3'
      (refine AE rfl rfl ?_<;>refine AC rfl rfl ?_<;>refine Bk rfl rfl ?_)
      refine Ff (a:=o) rfl rfl rfl hown13 (fun q hq=>(hG13 q hq).2) (by have:=hE413.size;omega) hopr (by decide) (by decide) (by omega) (by omega) ⟨rfl,rfl⟩ fun ov' w14 hov14 hK14=>?_
      obtain ⟨Aov',cov',rfl⟩:=hov14.form
      have hb3k:=hK14.blk hb3' (hown13.blk_ne hb3' (by decide))
      (refine AE rfl rfl ?_)
      refine BJ rfl rfl hb3k rfl (show 0 + 3 + 1≤4 by decide) (by simp [Value.cells,Value.oneCell']) fun w15 hU15=>?_
      ((refine o_z ?_))
      repeat (first|refine At ?_|refine Ah rfl ?_|refine Ae rfl ?_)
      have hB14:Below w3.heap.size w13 w14:=hown13.fits (Nat.le_refl _) (by have:=hE413.size;omega) hK14
      have sz14:=hK14.size
      have sz15:=hU15.size
      refine ⟨(),⟨rfl,rfl,rfl,rfl,rfl,trivial⟩,?_,?_,?_,_,(fun q=>G q∨w4.heap.size≤q∧q < w13.heap.size),hU15.blk,fun q hq=>?_,?_⟩
      · exact hB4.trans (((hE413.mono (by omega)).trans (hB14.mono (by omega))).trans (hU15.below (by omega)))
      · have:=hE413.size;omega
      · intro q hq hne'
        rw [hU15.other q hne',hB14.block q hq,hE413.block q (by omega),hkeep q hq hne']
      · have:=hG13 q hq;omega
      · have hne15:=hov14.blk_ne hb3k (by decide)
        rw [List.take_add_one,ho]
        refine hov14.agree (hU15.agree ?_) fun g hg=>hU15.other g fun he=>hne15 (he ▸ hg)
        rintro (h|h)
        · have:=(hG g3 h).1;omega
        · omega
    rintro _ w4 ⟨hB4,hz34,hkeep,ov,G,hb3,hG,hown⟩
    rw [List.take_length] at hown
    obtain ⟨Aov,cov,rfl⟩:=hown.form
    have hresz:=hres.lt
    replace hres:=hres.keep (hkeep _ hresz (by omega))
    clear hb1
    have hb1:=hb3
    repeat (first|refine At ?_|refine Ah rfl ?_|refine Ae rfl ?_)
    obtain ⟨Aa,ca,rfl⟩:=hav.form
    obtain ⟨Ab,cb,rfl⟩:=hbv.form
    obtain ⟨Ac,cc,rfl⟩:=hcv.form
    (refine Bk rfl rfl ?_)
    refine BJ rfl rfl hres rfl (Nat.le_refl _) (by simp [Value.cells,Value.oneCell']) fun w5 hU=>?_
    ((refine o_z ?_))
    repeat (first|refine At ?_|refine Ah rfl ?_|refine Ae rfl ?_)
    have hE4:Ext w w4:=hE2.trans (hB4.mono (by omega))
    have s5:=hU.size
    have s04:=hE4.size
    have hcl:∀ {α:Type} [Rp α] {v:Value} {x:α},Vb w3 (fun k=>nw w2 w3 k∧k≠g3) v x→Vb w5 (nw w w5) v x:=fun h=>(h.agree fun q hq=>(hU.other q (by have:=hq.1.1;omega)).trans (hkeep q hq.1.2 hq.2)).mono fun q hq=>⟨by have:=hq.1.1;omega,by have:=hq.1.2;omega⟩
    have hovv:Vb w5 (nw w w5) (.slice Aov t.ops.length cov) t.ops:=(hown.vb.agree fun q hq=>hU.other q (by
      rcases hq with hq|hq
      · have:=(hG q hq).1;omega
      · have:=(hown.lt q hq).1;omega)).mono fun q hq=>by
        rcases hq with hq|hq
        · have:=hG q hq;exact ⟨by omega,by omega⟩
        · have:=hown.lt q hq;exact ⟨by omega,by omega⟩
    refine ret1v rfl (BH rfl rfl hU.blk.cellsAt) ⟨⟨_,rfl,_,_,_,_,rfl,hcl hav,hcl hbv,hcl hcv,hovv⟩,hE4.trans (hU.below (by omega))⟩
end
section
def PreOk (t:Tsk):Prop:=∀ (i:Nat) o,t.ops[i]?=some o→FactsOk t.vars o.pre
theorem TaskOk.pre {t:Tsk} (h:TaskOk t):PreOk t:=fun i o ho=>(h.2.2.2.2.2 i o ho).2.2.2.2.1
theorem La {t:Tsk} (h:PreOk t) (op:Int):FactsOk t.vars (preOf t op):=by
  unfold preOf
  cases ho:t.ops[op.toNat]? with
  | none=>exact ⟨fun i x hx=>by simp at hx,fun i x y hx=>by simp at hx⟩
  | some o=>exact h _ o ho
theorem GZ {l:List Fct} {v:Int} {f:Fct} (h:factOn l v=some f):f∈l∧f.var=v:=by
  unfold factOn at h
  exact ⟨List.mem_of_find?_eq_some h,by simpa using List.find?_some h⟩
theorem Lo {l:List Fct} {v:Int} (h:factOn l v=none):∀ f∈l,f.var≠v:=by
  unfold factOn at h
  rw [List.find?_eq_none] at h
  intro f hf
  simpa using h f hf
theorem Lp {vars:List Int} {l:List Fct} (hl:FactsOk vars l) {f g:Fct} (hf:f∈l) (hg:g∈l) (he:f.var=g.var):f=g:=by
  obtain ⟨i,hi⟩:=List.getElem?_of_mem hf
  obtain ⟨j,hj⟩:=List.getElem?_of_mem hg
  rcases Nat.lt_trichotomy i j with h|h|h
  · have:=HA hl j i f g h hi hj;omega
  · subst h;rw [hi] at hj;injection hj
  · have:=HA hl i j g f h hj hi;omega
theorem TaskOk.fits {t:Tsk} (h:TaskOk t):FitsVals t:=by
  intro i o ho v f hf hv
  obtain ⟨h1,h2⟩:=GZ hf
  obtain ⟨j,hj⟩:=List.getElem?_of_mem h1
  obtain ⟨g1,g2,n,g3,g4⟩:=(h.pre i o ho).1 j f hj
  rw [h2] at g3
  exact ⟨g2,n,by simpa using g3,g4⟩
def hf (t:Tsk) (s:List Int) (v:Nat) (op:Int):Bool:=(preOf t op).all fun f=>decide (f.var < (v:Int)) || hasB s f
theorem Ir {t:Tsk} {s:List Int} {v:Nat} {op:Int}:hf t s v op=true↔∀ f∈preOf t op,f.var < (v:Int)∨hasB s f=true:=by
  unfold hf
  simp [List.all_eq_true]
theorem LH {t:Tsk} {s:List Int} {v:Nat} {op:Int} (h:factOn (preOf t op) (v:Int)=none):hf t s v op=hf t s (v + 1) op:=by
  rw [Bool.eq_iff_iff,Ir,Ir]
  constructor
  · intro hh f hm
    rcases hh f hm with h1|h1
    · exact .inl (by omega)
    · exact .inr h1
  · intro hh f hm
    have:=Lo h f hm
    rcases hh f hm with h1|h1
    · exact .inl (by omega)
    · exact .inr h1
theorem Nv {t:Tsk} {s:List Int} {v:Nat} {op:Int} {f:Fct} (hp:PreOk t) (h:factOn (preOf t op) (v:Int)=some f):hf t s v op=(hasB s f && hf t s (v + 1) op):=by
  obtain ⟨h1,h2⟩:=GZ h
  rw [Bool.eq_iff_iff,Bool.and_eq_true,Ir,Ir]
  constructor
  · intro hh
    refine ⟨(hh f h1).resolve_left (by omega),fun g hg=>?_⟩
    rcases hh g hg with h3|h3
    · exact .inl (by omega)
    · exact .inr h3
  · rintro ⟨h3,hh⟩ g hg
    rcases hh g hg with h4|h4
    · by_cases he:g.var=(v:Int)
      · have:g=f:=Lp (La hp op) hg h1 (by omega)
        subst this;exact .inr h3
      · exact .inl (by omega)
    · exact .inr h4
theorem LI {t:Tsk} {s:List Int} {ops:List Int}:∀ (k v:Nat),(∀ x,v≤x→x < v + k→tests t ops x=false)→∀ op∈ops,hf t s v op=hf t s (v + k) op
  | 0,_,_,_,_=>rfl
  | k + 1,v,h,op,ho=>by
    have h0:=h v (Nat.le_refl _) (by omega)
    unfold tests at h0
    rw [List.any_eq_false] at h0
    have h1:=h0 op ho
    have h2:factOn (preOf t op) (v:Int)=none:=by simpa using h1
    rw [LH h2,LI k (v + 1) (fun x hx1 hx2=>h x (by omega) (by omega)) op ho]
    congr 1;omega
theorem JI {a b c:Int→Bool} {p:Int→Bool} (h:∀ x,p x=if a x=true then b x else if c x=true then b x else false) (hac:∀ x,a x=true→c x=false) :
    ∀ l:List Int,(l.filter p).Perm ((l.filter a).filter b ++ (l.filter c).filter b)
  | []=>by simp
  | x :: l=>by
    have ih:=JI h hac l
    have hx:=h x
    cases ha:a x
    · cases hc:c x
      · simp only [ha,hc] at hx
        simpa [List.filter_cons,ha,hc,hx] using ih
      · simp only [ha,hc] at hx
        cases hb:b x
        · rw [hb] at hx
          simpa [List.filter_cons,ha,hc,hb,hx] using ih
        · rw [hb] at hx
          simp only [List.filter_cons,ha,hc,hb,hx,if_true,Bool.false_eq_true,if_false]
          exact (ih.cons x).trans (List.perm_middle.symm)
    · have hc:=hac x ha
      simp only [ha] at hx
      cases hb:b x
      · rw [hb] at hx
        simpa [List.filter_cons,ha,hc,hb,hx] using ih
      · rw [hb] at hx
        simp only [List.filter_cons,ha,hc,hb,hx,if_true,Bool.false_eq_true,if_false,List.cons_append]
        exact ih.cons x
theorem Ou {t:Tsk} {s:List Int} (hp:PreOk t) (op:Int):hf t s t.vars.length op=true:=by
  rw [Ir]
  intro f hfm
  obtain ⟨i,hi⟩:=List.getElem?_of_mem hfm
  obtain ⟨h1,h2,n,h3,_⟩:=(La hp op).1 i f hi
  have:=Bz h3
  exact .inl (by omega)
theorem LY (t:Tsk) (ops:List Int) {v:Nat} (h:v≤t.vars.length):v≤nextV t ops v∧nextV t ops v≤t.vars.length∧(∀ u,v≤u→u < nextV t ops v→tests t ops u=false)∧(nextV t ops v < t.vars.length→tests t ops (nextV t ops v)=true):=by
  obtain ⟨h1,h2,h3,h4⟩:=HF t ops (t.vars.length - v) v
  exact ⟨h1,by unfold nextV;omega,h3,fun h=>h4 (by unfold nextV at h;omega)⟩
theorem StateOk.at {vars s:List Int} (h:StateOk vars s) {u:Nat} (hu:u < vars.length):∃ (x:Nat) (n:Int),s[u]?=some (x:Int)∧vars[u]?=some n∧(x:Int) < n∧atN s u=x:=by
  obtain ⟨y,hy⟩:=AR (l:=s) (k:=u) (by rw [h.1];exact hu)
  obtain ⟨n,hn⟩:=AR hu
  obtain ⟨h1,h2⟩:=h.2 u y n hy hn
  obtain ⟨x,rfl⟩:=Int.eq_ofNat_of_zero_le h1
  exact ⟨x,n,hy,hn,h2,by simp [atN,hy]⟩
theorem Lb {t:Tsk} {s:List Int} (hp:PreOk t) (hs:StateOk t.vars s):∀ (fuel:Nat) (ops:List Int) (v:Nat),v≤t.vars.length→t.vars.length < fuel + v →
    (coll s (mkT t fuel ops v)).Perm (ops.filter (hf t s v))∧Fits s (mkT t fuel ops v):=by
  intro fuel
  induction fuel with
  | zero=>intro ops v h1 h2;omega
  | succ fuel ih =>
    intro ops v h1 h2
    obtain ⟨g1,g2,g3,g4⟩:=LY t ops h1
    have hsame:=LI (t:=t) (s:=s) (ops:=ops) (nextV t ops v - v) v (fun x hx1 hx2=>g3 x hx1 (by omega))
    rw [show v + (nextV t ops v - v)=nextV t ops v from by omega] at hsame
    have hfil:ops.filter (hf t s v)=ops.filter (hf t s (nextV t ops v)):=List.filter_congr hsame
    rw [hfil]
    unfold mkT
    by_cases he:ops.isEmpty=true
    · rw [if_pos he]
      have:ops=[]:=by simpa using he
      subst this
      exact ⟨by simp [coll],trivial⟩
    rw [if_neg he]
    by_cases hn:nextV t ops v=t.vars.length
    · rw [if_pos hn,hn]
      have:ops.filter (hf t s t.vars.length)=ops:=List.filter_eq_self.2 fun x _=>Ou hp x
      rw [this]
      exact ⟨List.Perm.refl _,trivial⟩
    rw [if_neg hn]
    obtain ⟨x,n,q1,q2,q3,q4⟩:=hs.at (u:=nextV t ops v) (by omega)
    have i1:=ih (ops.filter (valB t (nextV t ops v) x)) (nextV t ops v + 1) (by omega) (by omega)
    have i2:=ih (ops.filter (restB t (nextV t ops v))) (nextV t ops v + 1) (by omega) (by omega)
    refine ⟨?_,⟨x,q1,by rw [q2];simp;omega⟩,by rw [q4];exact i1.2,i2.2⟩
    rw [coll,q4]
    refine (i1.1.append i2.1).trans (JI (a:=valB t (nextV t ops v) x) (c:=restB t (nextV t ops v)) (fun op=>?_) (fun op h=>?_) ops).symm
    · unfold valB restB
      cases ho:factOn (preOf t op) (nextV t ops v:Int) with
      | none=>rw [LH ho];simp
      | some f =>
        rw [Nv hp ho]
        obtain ⟨_,hv⟩:=GZ ho
        rw [JZ (s:=s) hv q1]
        by_cases hx:f.val=(x:Int)
        · simp [hx]
        · simp [hx,Ne.symm hx]
    · unfold valB at h
      unfold restB
      cases ho:factOn (preOf t op) (nextV t ops v:Int) with
      | none=>rw [ho] at h;simp at h
      | some f=>rfl
def allOps (t:Tsk):List Int:=(List.range t.ops.length).map fun i:Nat=>(i:Int)
def treeOf (t:Tsk):Tr:=mkT t (t.vars.length + 1) (allOps t) 0
theorem Kr {α:Type} {p q:α→Bool}:∀ {l:List α},(∀ x∈l,p x=q x)→l.all p=l.all q
  | [],_=>rfl
  | x :: l,h=>by rw [List.all_cons,List.all_cons,h x List.mem_cons_self,Kr fun y hy=>h y (List.mem_cons_of_mem _ hy)]
theorem Nw {t:Tsk} (hp:PreOk t) (s:List Int):appl t s=(allOps t).filter (hf t s 0):=by
  unfold appl applK allOps
  rw [List.filter_map]
  congr 1
  refine List.filter_congr fun i hi=>?_
  obtain ⟨o,ho⟩:=AR (l:=t.ops) (k:=i) (List.mem_range.1 hi)
  simp only [Function.comp,hf,preOf,holdsB,Int.toNat_natCast,ho]
  refine Kr fun f hfm=>?_
  obtain ⟨j,hj⟩:=List.getElem?_of_mem hfm
  have:=((hp i o ho).1 j f hj).1
  have:decide (f.var < ((0:Nat):Int))=false:=decide_eq_false (by omega)
  rw [this,Bool.false_or]
theorem Lq (t:Tsk) (s:List Int):(appl t s).Pairwise fun x y=>decide (x≤y)=true:=by
  unfold appl applK
  refine List.Pairwise.map _ (fun a b h=>?_) (List.Pairwise.filter _ List.pairwise_lt_range)
  exact decide_eq_true (by omega)
theorem LZ {l m:List Int} (h:l.Perm m) (hm:m.Pairwise fun x y=>decide (x≤y)=true):sortL l=m:=by
  refine List.Perm.eq_of_pairwise (le:=fun x y:Int=>decide (x≤y)=true) (fun a b _ _ h1 h2=>?_) (List.pairwise_mergeSort (fun a b c h1 h2=>?_) (fun a b=>?_) l) hm ((List.mergeSort_perm _ _).trans h)
  · have:=of_decide_eq_true h1;have:=of_decide_eq_true h2;omega
  · have:=of_decide_eq_true h1;have:=of_decide_eq_true h2;exact decide_eq_true (by omega)
  · simp;omega
theorem Ma {t:Tsk} {s:List Int} (hp:PreOk t) (hs:StateOk t.vars s):findL t (treeOf t) s=appl t s:=by
  unfold findL
  rw [if_pos (Bg hs)]
  refine LZ ?_ (Lq t s)
  rw [Nw hp]
  exact (Lb hp hs _ _ 0 (Nat.zero_le _) (by omega)).1
theorem Mw {t:Tsk} {s:List Int} (hp:PreOk t) (hs:StateOk t.vars s):Fits s (treeOf t):=(Lb hp hs _ _ 0 (Nat.zero_le _) (by omega)).2
theorem MK (t:Tsk) (s:List Int):∀ (fuel:Nat) (ops:List Int) (v:Nat),(coll s (mkT t fuel ops v)).length≤ops.length:=by
  intro fuel
  induction fuel with
  | zero=>intro ops v;exact Nat.zero_le _
  | succ fuel ih =>
    intro ops v
    unfold mkT
    by_cases he:ops.isEmpty=true
    · rw [if_pos he];exact Nat.zero_le _
    rw [if_neg he]
    by_cases hn:nextV t ops v=t.vars.length
    · rw [if_pos hn];exact Nat.le_refl _
    rw [if_neg hn,coll,List.length_append]
    refine Nat.le_trans (Nat.add_le_add (ih _ _) (ih _ _)) ?_
    generalize nextV t ops v=u
    generalize atN s u=x
    clear he hn ih
    induction ops with
    | nil=>simp
    | cons op ops ih2 =>
      have hac:valB t u x op=true→restB t u op=false:=by
        unfold valB restB
        cases factOn (preOf t op) (u:Int)<;>simp
      rw [List.filter_cons,List.filter_cons]
      cases ha:valB t u x op
      · cases hc:restB t u op<;>simp<;>omega
      · rw [hac ha];simp;omega
theorem JJ (t:Tsk):(allOps t).length=t.ops.length:=by simp [allOps]
theorem ML (t:Tsk) (s:List Int):(coll s (treeOf t)).length≤t.ops.length:=by
  have:=MK t s (t.vars.length + 1) (allOps t) 0
  rwa [JJ] at this
end
section
open Go Go.RowKit
attribute [local irreducible] ewp owp hwp hwq hws Ev Evg Fn retPost loud loudS Res1
theorem Lr:∀ k,((List.range (k + 1)).map fun i:Nat=>(i:Int))=((List.range k).map fun i:Nat=>(i:Int)) ++ [(k:Int)]:=fun k=>by
  rw [List.range_succ,List.map_append];rfl
theorem genNew {w:World} {tv:Value} {t:Tsk} (ht:V w tv t):Fn Tryz.prog 76 [tv] w fun v w'=>Ext w w' ∧
    ((TaskOk t∧∃ gv,v=.tuple #[gv,.nilIface]∧GenR w' (nw w w') gv t (treeOf t))∨(¬ TaskOk t∧v=.tuple #[.pointer none,errV (checkN t)])):=by
  have ht0:=ht
  obtain ⟨cs,rfl,a,b,c,d,rfl,hvars,hinit,hgoal,hops⟩:=ht
  refine AD Tryz.func76 rfl Tryz.ntmps76 rfl ?_
  repeat (first|refine At ?_|refine Ah rfl ?_|refine Ae rfl ?_)
  refine Ea rfl rfl fun w1 hN1=>?_
  have hE1:Ext w w1:=hN1.ext
  have hb1:Blk w1 w.heap.size 26 [a,b,c,d]:=hN1.blk
  have ht1:=ht0.ext hE1
  (refine Ar rfl rfl ?_<;>refine Ar rfl rfl ?_<;>(refine o_z ?_))
  repeat (first|refine At ?_|refine Ah rfl ?_|refine Ae rfl ?_)
  (refine Bk rfl rfl ?_)
  refine Bi rfl rfl (taskCheck ht1) ?_
  rintro _ w2 ⟨rfl,hE2⟩
  have hE02:Ext w w2:=hE1.trans' hE2
  have hb1:=hb1.ext hE2
  by_cases hok:TaskOk t
  case neg =>
    have hne:checkN t≠0:=fun h=>hok (EM.1 h)
    rw [GF hne]
    (refine Ar rfl rfl ?_<;>(refine o_z ?_))
    repeat (first|refine At ?_|refine Ah rfl ?_|refine Ae rfl ?_)
    ((repeat (first|refine At ?_|refine Ah rfl ?_|refine Ae rfl ?_))<;>(refine Am rfl rfl ?_<;>(first|refine NK rfl rfl ?_|refine NL rfl rfl ?_)<;>(refine o_z ?_))<;>(repeat (first|refine At ?_|refine Ah rfl ?_|refine Ae rfl ?_)))
    ((repeat (first|refine At ?_|refine Ah rfl ?_|refine Ae rfl ?_))<;>(refine Am rfl rfl ?_<;>refine Ar rfl rfl ?_<;>refine Ar rfl rfl ?_<;>(refine o_z ?_))<;>(repeat (first|refine At ?_|refine Ah rfl ?_|refine Ae rfl ?_)))
    exact ret2 rfl (AA rfl) (AA rfl) ⟨hE02,.inr ⟨hok,rfl⟩⟩
  rw [EM.2 hok,FX]
  (refine Ar rfl rfl ?_<;>(refine o_z ?_))
  repeat (first|refine At ?_|refine Ah rfl ?_|refine Ae rfl ?_)
  ((repeat (first|refine At ?_|refine Ah rfl ?_|refine Ae rfl ?_))<;>(refine Am rfl rfl ?_<;>(first|refine NK rfl rfl ?_|refine NL rfl rfl ?_)<;>(refine o_z ?_))<;>(repeat (first|refine At ?_|refine Ah rfl ?_|refine Ae rfl ?_)))
  have hpre:=hok.pre
  have hl1:t.vars.length≤64:=hok.1
  have hl4:t.ops.length≤4096:=hok.2.1
  have hcp:=genCopied (ht1.ext hE2) (by omega) (by rw [hok.2.2.2.1.1];omega) (by have:=FT hok.2.2.2.2.1;omega) (by omega) (fun i o ho=>by
    obtain ⟨_,_,h3,_,h5,h6⟩:=hok.2.2.2.2.2 i o ho
    exact ⟨by have:=FT h5;omega,by omega,fun j e he=>by have:=FT (h6 j e he).1;omega⟩)
  (refine Bk rfl rfl ?_)
  refine Bi rfl rfl hcp ?_
  rintro cvv w3 ⟨hcv,hE3⟩
  obtain ⟨cs',rfl,a',b',c',d',rfl,hvars',hinit',hgoal',hops'⟩:=hcv
  (refine Cr rfl rfl rfl ?_)
  refine Ea rfl rfl fun w4 hN4=>?_
  have hbg:Blk w4 w3.heap.size 151 [a',b',c',d',.pointer none]:=hN4.blk
  have hE34:Ext w3 w4:=hN4.ext
  have s2:=hE02.size
  have s3:=hE3.size
  have s4:w4.heap.size=w3.heap.size + 1:=hN4.size
  obtain ⟨Ao,co,rfl⟩:=hops'.form
  (refine Ar rfl rfl ?_<;>(refine o_z ?_))
  repeat (first|refine At ?_|refine Ah rfl ?_|refine Ae rfl ?_)
  ((repeat (first|refine At ?_|refine Ah rfl ?_|refine Ae rfl ?_))<;>(refine Ar rfl rfl ?_<;>(refine o_z ?_))<;>(repeat (first|refine At ?_|refine Ah rfl ?_|refine Ae rfl ?_)))
  clear hb1
  have hb1:=hbg
  ((repeat (first|refine At ?_|refine Ah rfl ?_|refine Ae rfl ?_))<;>(refine Am rfl rfl ?_<;>refine Ce rfl rfl ?_<;>refine AE rfl rfl ?_<;>refine AE rfl rfl ?_<;>refine AC rfl rfl ?_<;>refine AP rfl rfl ?_<;>refine Am rfl rfl ?_<;>(refine o_z ?_))<;>(repeat (first|refine At ?_|refine Ah rfl ?_|refine Ae rfl ?_)))
  refine BL t.ops.length (by omega) (fun v:Value=>[(1,.pointer (some ⟨w.heap.size,0,none⟩)),(5,.pointer (some ⟨w3.heap.size,0,none⟩)),(6,v)]) (fun k v w'=>Ext w4 w'∧Own w' w4.heap.size (fun _=>False) 3 v ((List.range k).map fun i:Nat=>(i:Int))) (.slice none 0 0)
    ⟨Below.refl _ _,Own.nil _ _ _ _⟩ ⟨rfl,rfl,rfl,rfl,rfl,trivial⟩ (fun _=>⟨rfl,rfl⟩) ⟨rfl,rfl,rfl⟩ ⟨rfl,rfl⟩ ?_ ?_
  · rintro k v w5 hk ⟨hE5,hown⟩
    ((repeat (first|refine At ?_|refine Ah rfl ?_|refine Ae rfl ?_))<;>(refine Am rfl rfl ?_<;>refine Ar rfl rfl ?_<;>(refine o_z ?_))<;>(repeat (first|refine At ?_|refine Ah rfl ?_|refine Ae rfl ?_)))
    (refine Am rfl rfl ?_<;>refine Am rfl rfl ?_)
    refine Ff (a:=(k:Int)) rfl rfl rfl hown (fun _ h=>h.elim) hE5.size ⟨rfl,by omega,by omega⟩ (by decide) (by decide) (by simp;omega) (by simp;omega) ⟨rfl,rfl⟩ fun v' w6 hown6 hK=>?_
    (refine Ar rfl rfl ?_<;>(refine o_z ?_))
    repeat (first|refine At ?_|refine Ah rfl ?_|refine Ae rfl ?_)
    exact ⟨v',⟨rfl,rfl,rfl,rfl,rfl,trivial⟩,hE5.trans (hown.fits (Nat.le_refl _) hE5.size hK),by rw [Lr];exact hown6⟩
  rintro v w5 ⟨hE5,hown⟩
  have s5:=hE5.size
  have hE35:=hE34.trans' hE5
  have hbg5:=hbg.ext hE5
  have hB5:GenB w5 (All w5) (.pointer (some ⟨w3.heap.size,0,none⟩)) t:=⟨_,_,_,_,_,_,rfl,by show _ < _;omega,hbg5,(hvars'.agree (hE35.agree fun _ h=>h.2)).mono fun k hk=>by have:=hk.2;show _ < _;omega,(hinit'.agree (hE35.agree fun _ h=>h.2)).mono fun k hk=>by have:=hk.2;show _ < _;omega,(hgoal'.agree (hE35.agree fun _ h=>h.2)).mono fun k hk=>by have:=hk.2;show _ < _;omega,(hops'.agree (hE35.agree fun _ h=>h.2)).mono fun k hk=>by have:=hk.2;show _ < _;omega⟩
  have hov:Vb w5 (nw w4 w5) v (allOps t):=hown.vb.mono fun k hk=>hown.lt k (hk.resolve_left id)
  have hbuild:=genBuild t hok.vars hok.fits hl1 (t.vars.length + 1) w5 _ v (allOps t) 0 (nw w4 w5) hB5 hov (fun k hk=>hk.2) (fun op hop=>by
    obtain ⟨i,hi,rfl⟩:=List.mem_map.1 hop
    have:=List.mem_range.1 hi
    exact ⟨by omega,by omega⟩) (by rw [JJ];omega) (Nat.zero_le _) (by omega)
  repeat (first|refine At ?_|refine Ah rfl ?_|refine Ae rfl ?_)
  (refine Am rfl rfl ?_<;>refine Am rfl rfl ?_<;>refine Am rfl rfl ?_)
  refine Bi rfl rfl hbuild ?_
  rintro p w6 ⟨hT,hE6⟩
  obtain ⟨rp,rfl⟩:=hT.form
  have s6:=hE6.size
  (refine Ce rfl rfl ?_<;>refine AE rfl rfl ?_)
  refine BJ rfl rfl (hbg5.ext hE6) rfl (Nat.le_refl _) (by simp [Value.cells,Value.oneCell']) fun w7 hU=>?_
  ((refine o_z ?_))
  repeat (first|refine At ?_|refine Ah rfl ?_|refine Ae rfl ?_)
  ((repeat (first|refine At ?_|refine Ah rfl ?_|refine Ae rfl ?_))<;>(refine Am rfl rfl ?_<;>refine Ar rfl rfl ?_<;>refine Ar rfl rfl ?_<;>(refine o_z ?_))<;>(repeat (first|refine At ?_|refine Ah rfl ?_|refine Ae rfl ?_)))
  have hE36:=hE35.trans' hE6
  have s7:=hU.size
  have hcl:∀ {α:Type} [Rp α] {v:Value} {x:α},Vb w3 (nw w2 w3) v x→Vb w7 (nw w w7) v x:=fun h=>((h.agree (hE36.agree fun _ h=>h.2)).agree fun q hq=>hU.other q (by have:=hq.2;omega)).mono fun k hk=>⟨by have:=hk.1;omega,by have:=hk.2;omega⟩
  refine ret2 rfl (AA rfl) (AA rfl) ⟨(((hE02.trans' hE3).trans' hE36).trans (hU.below (by omega))),.inl ⟨hok,_,rfl,_,_,_,_,_,_,rfl,⟨by omega,by omega⟩,hU.blk,hcl hvars',hcl hinit',hcl hgoal',hcl hops',?_⟩⟩
  refine TrR.mono (fun k hk=>?_) (TrR.agree (fun q hq=>hU.other q ?_) hT)
  · rcases hk with hk|hk
    · exact ⟨by have:=hk.1;omega,by have:=hk.2;omega⟩
    · exact ⟨by omega,by omega⟩
  · rcases hq with hk|hk
    · have:=hk.1;omega
    · omega
end
section
open Go Go.RowKit
theorem TaskOk.effs {t:Tsk} (h:TaskOk t) {s:List Int} (hs:StateOk t.vars s):∀ (i:Nat) o,t.ops[i]?=some o→EffsIn s o.effs:=fun i o ho j e he=>by
  obtain ⟨h1,_,y,hy,_⟩:=((h.2.2.2.2.2 i o ho).2.2.2.2.2 j e he).2
  refine ⟨h1,?_⟩
  have:=(List.getElem?_eq_some_iff.1 hy).1
  rw [hs.1]
  simp only at h1 this
  omega
end
section
open Go Go.RowKit
attribute [local irreducible] ewp owp hwp hwq hws Ev Evg Fn retPost loud loudS Res1
theorem GenR.mono {w:World} {F G:Nat→Prop} {gv:Value} {t:Tsk} {T:Tr} (h:GenR w F gv t T) (hk:∀ k,F k→G k):GenR w G gv t T:=by
  obtain ⟨gb,a,b,c,d,r,h1,h2,h3,h4,h5,h6,h7,h8⟩:=h
  exact ⟨gb,a,b,c,d,r,h1,hk _ h2,h3,h4.mono hk,h5.mono hk,h6.mono hk,h7.mono hk,TrR.mono hk h8⟩
theorem GenR.agree {w w':World} {F:Nat→Prop} {gv:Value} {t:Tsk} {T:Tr} (h:GenR w F gv t T) (ha:Agree F w w'):GenR w' F gv t T:=by
  obtain ⟨gb,a,b,c,d,r,h1,h2,h3,h4,h5,h6,h7,h8⟩:=h
  exact ⟨gb,a,b,c,d,r,h1,h2,h3.keep (ha gb h2),h4.agree ha,h5.agree ha,h6.agree ha,h7.agree ha,TrR.agree ha h8⟩
theorem GenR.form {w:World} {F:Nat→Prop} {gv:Value} {t:Tsk} {T:Tr} (h:GenR w F gv t T):∃ gb,gv=.pointer (some ⟨gb,0,none⟩):=by
  obtain ⟨gb,a,b,c,d,r,h1,_⟩:=h
  exact ⟨gb,h1⟩
noncomputable def appS (t:Tsk) (s:List Int):List Int:=if bof (StateOk t.vars s)=true then appl t s else []
theorem LJ {t:Tsk} {s:List Int} (h:StateOk t.vars s):appS t s=appl t s:=by unfold appS;rw [if_pos (Bg h)]
theorem Nx {t:Tsk} {s:List Int} (h:¬ StateOk t.vars s):appS t s=[]:=by unfold appS;rw [Bh h];rfl
theorem Mb {t:Tsk} (hp:PreOk t) (s:List Int):findL t (treeOf t) s=appS t s:=by
  by_cases h:StateOk t.vars s
  · rw [Ma hp h,LJ h]
  · rw [Nx h];unfold findL;rw [Bh h];rfl
section
variable {w : World} {gv sv : Value} {t : Tsk} {s : List Int}
theorem applT (hok:TaskOk t) (hg:GenR w (All w) gv t (treeOf t)) (hs:V w sv s) (hsl:s.length≤1000000) :
    Fn Tryz.prog 82 [gv,sv] w fun v w'=>Ext w w'∧Own w' w.heap.size (All w) 3 v (appS t s):=by
  have:=genApplicable hg hs (Mw hok.pre) (by have:=ML t s;have:=hok.2.1;omega) hsl
  rwa [Mb hok.pre] at this
end
theorem nilFind {w:World} {sv:Value}:Fn Tryz.prog 94 [.pointer none,sv] w fun v w'=>v=.tuple #[.slice none 0 0,.int .i64 0]∧Ext w w':=by
  refine AD Tryz.func94 rfl Tryz.ntmps94 rfl ?_
  ((repeat (first|refine At ?_|refine Ah rfl ?_|refine Ae rfl ?_))<;>(refine Ar rfl rfl ?_<;>refine Ar rfl rfl ?_<;>(refine o_z ?_))<;>(repeat (first|refine At ?_|refine Ah rfl ?_|refine Ae rfl ?_)))
  (refine Am rfl rfl ?_<;>refine Gc rfl rfl ?_<;>refine Am rfl rfl ?_<;>(first|(refine Aw rfl rfl ?_;refine Am rfl rfl ?_)|refine Au rfl rfl rfl rfl ?_)<;>(first|(refine Aw rfl rfl ?_;refine Ce rfl rfl ?_)|refine Au rfl rfl rfl rfl ?_)<;>(first|(refine Aw rfl rfl ?_;refine AE rfl rfl ?_)|refine Au rfl rfl rfl rfl ?_)<;>(first|(refine Aw rfl rfl ?_;refine AE rfl rfl ?_)|refine Au rfl rfl rfl rfl ?_)<;>(first|(refine Aw rfl rfl ?_;refine AC rfl rfl ?_)|refine Au rfl rfl rfl rfl ?_)<;>(first|(refine Aw rfl rfl ?_;refine Am rfl rfl ?_)|refine Au rfl rfl rfl rfl ?_))
  refine Au rfl rfl rfl rfl ?_
  ((first|(refine Aw rfl rfl ?_;(first|refine Dd rfl rfl ?_|refine De rfl rfl ?_|refine GC rfl rfl ?_))|refine Au rfl rfl rfl rfl ?_)<;>(first|refine Be rfl rfl rfl ?_|refine AU rfl rfl rfl ?_)<;>(refine o_z ?_))
  repeat (first|refine At ?_|refine Ah rfl ?_|refine Ae rfl ?_)
  ((repeat (first|refine At ?_|refine Ah rfl ?_|refine Ae rfl ?_))<;>(refine Ar rfl rfl ?_<;>refine Ar rfl rfl ?_<;>(refine o_z ?_))<;>(repeat (first|refine At ?_|refine Ah rfl ?_|refine Ae rfl ?_)))
  exact ret2 rfl (AA rfl) (AA rfl) ⟨rfl,Below.refl _ _⟩
theorem nilApplicable {w:World} {sv:Value}:Fn Tryz.prog 82 [.pointer none,sv] w fun v w'=>v=.slice none 0 0∧Ext w w':=by
  refine AD Tryz.func82 rfl Tryz.ntmps82 rfl ?_
  ((repeat (first|refine At ?_|refine Ah rfl ?_|refine Ae rfl ?_))<;>(refine Ar rfl rfl ?_<;>(refine o_z ?_))<;>(repeat (first|refine At ?_|refine Ah rfl ?_|refine Ae rfl ?_))<;>(refine Am rfl rfl ?_<;>refine Am rfl rfl ?_)<;>(repeat (first|refine At ?_|refine Ah rfl ?_|refine Ae rfl ?_)))
  refine Bi rfl rfl nilFind ?_
  rintro _ w1 ⟨rfl,hE⟩
  (refine Am rfl rfl ?_<;>refine Bp rfl rfl rfl ?_<;>refine Bp rfl rfl rfl ?_<;>refine Ar rfl rfl ?_<;>refine Ar rfl rfl ?_<;>(refine o_z ?_))
  repeat (first|refine At ?_|refine Ah rfl ?_|refine Ae rfl ?_)
  ((repeat (first|refine At ?_|refine Ah rfl ?_|refine Ae rfl ?_))<;>(refine Am rfl rfl ?_<;>refine Ar rfl rfl ?_<;>(refine o_z ?_))<;>(repeat (first|refine At ?_|refine Ah rfl ?_|refine Ae rfl ?_)))
  exact ret1 rfl rfl ⟨rfl,hE⟩
end
section
open Go Go.RowKit
attribute [local irreducible] ewp owp hwp hwq hws Ev Evg Fn retPost loud loudS Res1
structure Gnr where
  t:Tsk
def GnrR (w:World) (F:Nat→Prop) (v:Value):Option Gnr→Prop
  | none=>v=.pointer none
  | some g=>TaskOk g.t∧GenR w F v g.t (treeOf g.t)
theorem GnrR.one {w:World} {F:Nat→Prop} {v:Value}:∀ {x:Option Gnr},GnrR w F v x→v.oneCell'=true
  | none,h=>by    have:v=.pointer none:=h
                  subst this;rfl
  | some g,h=>by
    obtain ⟨gb,rfl⟩:=h.2.form
    rfl
instance:Rp (Option Gnr) where
  isAgg:=false
  size:=1
  R w F cs x:=∃ v,cs=[v]∧GnrR w F v x
  len:=by rintro w F cs x ⟨v,rfl,_⟩;rfl
  one:=by
    rintro w F cs x ⟨v,rfl,h⟩ u hu
    have:u=v:=by simpa using hu
    subst this;exact h.one
  agree:=by
    rintro w w' F cs x ⟨v,rfl,h⟩ ha
    refine ⟨v,rfl,?_⟩
    cases x with
    | none=>exact h
    | some g=>exact ⟨h.1,h.2.agree ha⟩
  mono:=by
    rintro w F G cs x ⟨v,rfl,h⟩ hk
    refine ⟨v,rfl,?_⟩
    cases x with
    | none=>exact h
    | some g=>exact ⟨h.1,h.2.mono hk⟩
theorem vNone {w:World} {F:Nat→Prop}:Vb w F (.pointer none) (none:Option Gnr):=⟨_,rfl,rfl⟩
theorem Vb.gnr {w:World} {F:Nat→Prop} {v:Value} {x:Option Gnr} (h:Vb w F v x):GnrR w F v x:=by
  obtain ⟨u,hu,h'⟩:=h
  have:v=u:=by simpa using hu
  subst this;exact h'
theorem Vb.ptr {w:World} {F:Nat→Prop} {v:Value} {x:Option Gnr} (h:Vb w F v x):∃ p,v=.pointer p∧p.isNone=x.isNone:=by
  cases x with
  | none=>exact ⟨none,h.gnr,rfl⟩
  | some g=>obtain ⟨gb,rfl⟩:=h.gnr.2.form;exact ⟨_,rfl,rfl⟩
theorem MM {w:World} {F:Nat→Prop} {p:Option Addr} {x:Option Gnr} {g:Gnr} (h:Vb w F (.pointer p) x) (e:x=some g) :
    ∃ gb a b c d r,p=some ⟨gb,0,none⟩∧F gb∧cellsAt w gb 0 [a,b,c,d,r]∧Vb w F a g.t.vars∧Vb w F b g.t.init∧Vb w F c g.t.goal∧Vb w F d g.t.ops:=by
  subst e
  obtain ⟨_,gb,a,b,c,d,r,h1,h2,h3,h4,h5,h6,h7,_⟩:=h.gnr
  injection h1 with h1
  exact ⟨gb,a,b,c,d,r,h1,h2,h3.cellsAt,h4,h5,h6,h7⟩
theorem vGnr {w:World} {F:Nat→Prop} {v:Value} {g:Gnr} (h:TaskOk g.t) (hg:GenR w F v g.t (treeOf g.t)):Vb w F v (some g):=⟨v,rfl,h,hg⟩
theorem Ny {A:Nat→Prop} {w w':World}:∀ k,nw w w' k→upA A w w' k:=fun _ h=>.inr h
theorem Own.intRow {w w':World} {F A:Nat→Prop} {e:TypeId} {v:Value} {xs:List Int} (h:Own w' w.heap.size F e v xs):RowR w w' (upA A w w') e v xs:=by
  obtain ⟨cells,q1,q2,q3⟩:=h
  exact ⟨fun _=>False,fun _ h=>h.elim,cells,q1,GY q2,fun _ _ h=>h⟩
noncomputable def Eu (t:Tsk):Option (Option Gnr×Err):=some (if bof (TaskOk t)=true then some ⟨t⟩ else none,⟨checkN t⟩)
theorem Kw {w:World} {A:Nat→Prop} (hA:∀ k,A k→k < w.heap.size) {v0:Value} {x0:Tsk} (h0:Vb w A v0 x0) {r:Option Gnr×Err} (hm:Eu x0=some r):Fn Tryz.prog 76 [v0] w fun v w'=>Ext w w'∧T2 w' (upA A w w') v r:=by
  obtain rfl:=sm hm
  refine (genNew (h0.mono hA)).mono fun v w' h=>⟨h.1,?_⟩
  rcases h.2 with ⟨hok,gv,rfl,hg⟩|⟨hno,rfl⟩
  · rw [Bg hok,EM.2 hok]
    exact ⟨gv,_,rfl,vGnr (g:=⟨x0⟩) hok (hg.mono Ny),vErr0⟩
  · rw [Bh hno]
    exact ⟨_,_,rfl,vNone,vErr (JG _)⟩
noncomputable def appG:Option Gnr→List Int→List Int
  | none,_=>[]
  | some g,s=>appS g.t s
noncomputable def Cj (x:Option Gnr) (s:List Int):Option (List Int):=if s.length≤1000000 then some (appG x s) else none
theorem FE {w:World} {A:Nat→Prop} (hA:∀ k,A k→k < w.heap.size) {v0:Value} {x0:Option Gnr} (h0:Vb w A v0 x0) {v1:Value} {x1:List Int} (h1:Vb w A v1 x1) {r:List Int} (hm:Cj x0 x1=some r) :
    Fn Tryz.prog 82 [v0,v1] w fun v w'=>Ext w w'∧RowR w w' (upA A w w') 3 v r:=by
  obtain ⟨hl,rfl⟩:=EL hm
  cases x0 with
  | none =>
    have h2:=h0.gnr
    have:v0=.pointer none:=h2
    subst this
    refine nilApplicable.mono fun v w' h=>⟨h.2,?_⟩
    rw [h.1];exact RowR.nil
  | some g =>
    obtain ⟨hok,hg⟩:=h0.gnr
    exact (applT hok (hg.mono hA) (h1.mono hA) hl).mono fun v w' h=>⟨h.1,h.2.intRow⟩
end
section
open Go Go.RowKit
attribute [local irreducible] ewp owp hwp hwq hws Ev Evg Fn retPost loud loudS Res1
noncomputable def BT (x0:Tsk) (x1:List Int) (x2:Int):Option ((List Int)×Bool) :=
  bnd (if x2 < 0 then (some true) else (if (x0.ops.length:Int)≤x2 then (some true) else (bnd (atI x0.ops x2) fun a36=>bnd (EN a36.pre x1) fun q57=>if q57=true then some false else some true)):Option Bool) fun y28=>if y28=true then (some (([]:List Int),false)) else (bnd (appI 8 ([]:List Int) x1) fun u75=>bnd (atI x0.ops x2) fun a86=>bnd (rng (ρ:=(List Int)×Bool) (fun (k113:Nat) (a114:Eff) (s111:(List Int))=>bnd (EN a114.cond x1) fun q148=>if q148=true then bnd (atI s111 a114.var) fun a155=>some (.next (s111.set (a114.var:Int).toNat a114.val)) else some (.next s111)) a86.effs 0 u75) fun res109=>fin res109 fun (s173:(List Int))=>some (s173,true))
theorem Is {w:World} {A:Nat→Prop} (hA:∀ k,A k→k < w.heap.size) {vx0:Value} {x0:Tsk} (y1:Vb w A vx0 x0) {vx1:Value} {x1:List Int} (e0:Vb w A vx1 x1) {x2:Int} (rx2:inI64 x2) {r:(List Int)×Bool} (hm:BT x0 x1 x2=some r) :
    Fn Tryz.prog 36 [vx0,vx1,(.int .i64 x2)] w fun v w'=>Ext w w'∧T2 w' (upA A w w') v r:=by
 obtain ⟨O,hB,h3⟩:=enter hA
 replace y1:=y1.mono h3
 obtain ⟨h5,rfl,v5,v6,v7,v8,rfl,h9,t0,u0,k0⟩:=y1
 obtain ⟨z1,a2,rfl⟩:=h9.form
 obtain ⟨b2,c2,rfl⟩:=t0.form
 obtain ⟨d2,e2,rfl⟩:=u0.form
 obtain ⟨f2,g2,rfl⟩:=k0.form
 replace e0:=e0.mono h3
 obtain ⟨o1,p1,rfl⟩:=e0.form
 refine AD Tryz.func36 rfl Tryz.ntmps36 rfl ?_
 unfold BT at hm
 refine Al (Aj (CD 2 O rfl rfl fun h2 q1 r1 c0 n0=>?_))
 replace n0:Lc 2 q1 r1 h2 26 [(.slice z1 x0.vars.length a2),(.slice b2 x0.init.length c2),(.slice d2 x0.goal.length e2),(.slice f2 x0.ops.length g2)]:=n0
 refine Ar rfl rfl (Ar rfl rfl (o_z ?_))
 refine Al (Al ?_)
 obtain ⟨q3,a0,hm⟩:=bs hm
 refine AK (fun l' w'=>∃ (r3:Unit) (O':Lab),subs l' [(1,(.slice o1 x1.length p1)),(2,(.int .i64 x2)),(3,(.pointer (some ⟨h2,0,none⟩))),(30,(.bool q3))]∧Bs w A w' O'∧Vb w' (Fr 0 w' O') (.slice o1 x1.length p1) x1∧Lc 2 w' O' h2 26 [(.slice z1 x0.vars.length a2),(.slice b2 x0.init.length c2),(.slice d2 x0.goal.length e2),(.slice f2 x0.ops.length g2)]∧Vb w' (Fr 0 w' O') (.slice z1 x0.vars.length a2) x0.vars∧Vb w' (Fr 0 w' O') (.slice b2 x0.init.length c2) x0.init∧Vb w' (Fr 0 w' O') (.slice d2 x0.goal.length e2) x0.goal∧Vb w' (Fr 0 w' O') (.slice f2 x0.ops.length g2) x0.ops) ?_ ?_
 ·
  refine Aj (Am rfl rfl (Dl rfl rfl rfl (fun i2=>?_) fun i2=>?_))
  ·
   replace a0:=ip a0 i2
   refine Am rfl rfl (Au rfl rfl rfl rfl (Au rfl rfl rfl rfl (Au rfl rfl rfl rfl (Au rfl rfl rfl rfl (Au rfl rfl rfl rfl (Be rfl rfl rfl (Am rfl rfl (Au rfl rfl rfl rfl (Au rfl rfl rfl rfl (Au rfl rfl rfl rfl (Au rfl rfl rfl rfl (Au rfl rfl rfl rfl (Au rfl rfl rfl rfl (Au rfl rfl rfl rfl ?_))))))))))))))
   refine Au rfl rfl rfl rfl (Au rfl rfl rfl rfl (Be rfl rfl rfl (o_z ?_)))
   obtain rfl:=sm a0
   exact ⟨(),_,⟨rfl,rfl,rfl,rfl,trivial⟩,hB.st c0,e0.st c0,n0,h9.st c0,t0.st c0,u0.st c0,k0.st c0⟩
  ·
   replace a0:=im a0 i2
   refine Am rfl rfl (Aw rfl rfl (Am rfl rfl (Aw rfl rfl (AE rfl rfl (Aw rfl rfl (AC (hc:=Blk.cell (i:=3) (n0.1) rfl) rfl rfl ?_))))))
   refine Aw rfl rfl (AP rfl rfl ?_)
   replace k0:=k0.st c0
   have s3:x0.ops.length≤9223372036854775807:=Nat.le_trans k0.len.2.1 k0.len.2.2
   have i5:inI64 (x0.ops.length:Int):=rngNat s3
   refine Aw rfl rfl (FP rfl rfl rfl (fun j2=>?_) fun j2=>?_)
   ·
    replace a0:=ip a0 j2
    refine AU rfl rfl rfl (Am rfl rfl (Au rfl rfl rfl rfl (Au rfl rfl rfl rfl (Au rfl rfl rfl rfl (Au rfl rfl rfl rfl (Au rfl rfl rfl rfl (Au rfl rfl rfl rfl (Au rfl rfl rfl rfl (Au rfl rfl rfl rfl (Au rfl rfl rfl rfl (Be rfl rfl rfl (o_z ?_))))))))))))
    obtain rfl:=sm a0
    exact ⟨(),_,⟨rfl,rfl,rfl,rfl,trivial⟩,hB.st c0,e0.st c0,n0,h9.st c0,t0.st c0,u0.st c0,k0⟩
   ·
    replace a0:=im a0 j2
    refine AU rfl rfl rfl (Am rfl rfl (Aw rfl rfl (AE rfl rfl (Aw rfl rfl (AC (hc:=Blk.cell (i:=3) (n0.1) rfl) rfl rfl ?_)))))
    refine Aw rfl rfl (Am rfl rfl (Aw rfl rfl ?_))
    obtain ⟨j5,t3,a0⟩:=bs a0
    obtain ⟨u3,v3⟩:=AS t3
    obtain ⟨k5,l5,w3,k2,l2,m2,m5,n5,rfl,i3,x3,o5,p5⟩:=k0.elem' v3
    obtain ⟨q5,r5,rfl⟩:=i3.form
    obtain ⟨s5,t5,rfl⟩:=x3.form
    refine Bl (hA:=k2) (hj:=(Int.toNat_of_nonneg u3).symm) (hlt:=l2) rfl rfl rfl ?_
    refine Aw rfl rfl (AE rfl rfl (Aw rfl rfl (AC (hc:=cat2 m2) rfl rfl ?_)))
    refine Aw rfl rfl (Am rfl rfl (Aw rfl rfl ?_))
    obtain ⟨j3,y3,a0⟩:=bs a0
    replace e0:=e0.st c0
    refine Bt (O:=r1) (A:=All q1) (R:=fun w' F v=>Vb w' F v j3) (Ik (fun _ h=>h) (Vb.mono (F:=Fr 0 q1 r1) i3 Fr.lt) (Vb.mono (F:=Fr 0 q1 r1) e0 Fr.lt) y3) rfl rfl fun u5 w5 x5 l0 z3=>?_
    obtain rfl:=z3.bool
    cases j3
    case false =>
     replace a0:=iF a0
     refine Aw rfl rfl (De rfl rfl (AU rfl rfl rfl (o_z ?_)))
     obtain rfl:=sm a0
     exact ⟨(),_,⟨rfl,rfl,rfl,rfl,trivial⟩,(hB.st c0).st l0,e0.st l0,n0.st l0,(h9.st c0).st l0,(t0.st c0).st l0,(u0.st c0).st l0,k0.st l0⟩
    replace a0:=iT a0
    refine Aw rfl rfl (Dd rfl rfl (AU rfl rfl rfl (o_z ?_)))
    obtain rfl:=sm a0
    exact ⟨(),_,⟨rfl,rfl,rfl,rfl,trivial⟩,(hB.st c0).st l0,e0.st l0,n0.st l0,(h9.st c0).st l0,(t0.st c0).st l0,(u0.st c0).st l0,k0.st l0⟩
 replace hB:=hB.st c0
 replace e0:=e0.st c0
 replace h9:=h9.st c0
 replace t0:=t0.st c0
 replace u0:=u0.st c0
 replace k0:=k0.st c0
 rintro y5 a4 ⟨r3,k3,n2,hB,e0,n0,h9,t0,u0,k0⟩
 refine AN _ n2 ?_
 refine CC rfl (fun o2=>?_) (fun o2=>?_)
 ·
  replace hm:=ip hm o2
  refine Al (Aj (Ar rfl rfl (Ar rfl rfl (o_z ?_))))
  refine AF ?_
  obtain rfl:=sm hm
  exact ret2 rfl (AA rfl) (AA rfl) ⟨hB.ext,_,_,rfl,(Vb.mono (F:=Fr 0 a4 k3) (Vb.nil _ _) hB.out),vBool⟩
 ·
  replace hm:=im' hm o2
  refine AJ (Al (Aj (Br 3 (by decide) k3 (xs:=(([]:List Int):List Int)) rfl rfl rfl rfl trivial (by decide) (by decide) rfl fun z5 a6 b6 c1 b4=>?_)))
  refine Am rfl rfl ?_
  obtain ⟨s1,p2,hm⟩:=bs hm
  obtain ⟨p2,c4,d4⟩:=AZ p2
  replace e0:=e0.st c1
  refine BI rfl b4 (e0.rd) rfl rfl (by decide) c4 d4 rfl fun t1 u1 c6 e4 d1 l3=>?_
  rw [← p2] at l3 ⊢
  refine Ar rfl rfl (o_z ?_)
  refine Al (Al (Aj (AE rfl rfl ?_)))
  replace n0:=(n0.st c1).st d1
  refine AC (hc:=Blk.cell (i:=3) (n0.1) rfl) rfl rfl ?_
  refine Am rfl rfl ?_
  obtain ⟨b1,f4,hm⟩:=bs hm
  obtain ⟨g4,h4⟩:=AS f4
  replace k0:=(k0.st c1).st d1
  obtain ⟨d6,e6,i4,q2,r2,s2,f6,g6,rfl,j4,f0,k4,l4⟩:=k0.elem' h4
  obtain ⟨m4,n4,rfl⟩:=j4.form
  obtain ⟨e1,f1,rfl⟩:=f0.form
  refine Bl (hA:=q2) (hj:=(Int.toNat_of_nonneg g4).symm) (hlt:=r2) rfl rfl rfl ?_
  refine AE rfl rfl (AC (hc:=cat3 s2) rfl rfl ?_)
  refine AP rfl rfl ?_
  have y0:b1.effs.length≤9223372036854775807:=Nat.le_trans f0.len.2.1 f0.len.2.2
  have o4:inI64 (b1.effs.length:Int):=rngNat y0
  refine Am rfl rfl (o_z ?_)
  obtain ⟨z0,g1,hm⟩:=bs hm
  refine AK (aft z0 (fun (m0:(List Int)) (o0:Unit)=>[(8,(.slice t1 s1.length u1))]) (fun m0 o0 w'=>∃ O':Lab,Bs w A w' O'∧Rw 3 w' O' 3 (.slice t1 s1.length u1) m0)) ?_ ?_
  ·
   refine AM ?_
   replace hB:=(hB.st c1).st d1
   replace e0:=e0.st d1
   refine Bw (σ:=(List Int)) (X:=Unit) (b1.effs.length) g1 rfl y0 (fun (m0:(List Int)) (o0:Unit)=>[(1,(.slice o1 x1.length p1)),(8,(.slice t1 s1.length u1)),(39,(.slice e1 b1.effs.length f1))]) _ (fun m0 o0 w'=>∃ O':Lab,Bs w A w' O'∧Vb w' (Fr 0 w' O') (.slice o1 x1.length p1) x1∧Rw 3 w' O' 3 (.slice t1 s1.length u1) m0∧Vb w' (Fr 0 w' O') (.slice e1 b1.effs.length f1) b1.effs) _ () ⟨e4,hB,e0,l3,f0⟩ ⟨rfl,rfl,rfl,rfl,rfl,trivial⟩ (fun _ _=>⟨rfl,rfl⟩) (fun _ _=>⟨rfl,trivial⟩) (fun _ _ _ ⟨O',hB,e0,d0,f0⟩=>⟨O',hB,d0⟩) ⟨rfl,rfl,rfl⟩ ⟨rfl,rfl⟩ ?_
   rintro t2 p0 m0 o0 p4 m3 v0 ⟨u2,hB,e0,d0,f0⟩ b0 v1 w1
   have rk113:inI64 (t2:Int):=rngK v0 y0
   refine Al (Aj ?_)
   obtain ⟨q4,r4,n3,h1,i1,j1,s4,rfl,q0,t4,v2⟩:=f0.elem' v0
   obtain ⟨w2,y2,rfl⟩:=q0.form
   refine Bl (hA:=h1) (hj:=rfl) (hlt:=i1) rfl rfl rfl ?_
   refine Bk (hl:=rfl) (hc:=j1) rfl rfl ?_
   refine Bv 4 u2 rfl fun z2 u4 r0 i0 g0=>?_
   refine AO g0 rfl rfl rfl (Nat.le_of_ble_eq_true rfl) (by first|exact allOne rfl|simp [Value.cells,Value.oneCell',AH]) fun s0 j0 g0=>?_
   replace g0:Lc 4 s0 r0 z2 64 [(.slice w2 p0.cond.length y2),(.int .i64 p0.var),(.int .i64 p0.val)]:=g0
   refine o_z ?_
   refine Al (Aj (AE rfl rfl (AC (hc:=Blk.cell (i:=0) (g0.1) rfl) rfl rfl ?_)))
   refine Am rfl rfl ?_
   obtain ⟨k1,a3,b0⟩:=bs b0
   replace e0:=(e0.st i0).st j0
   replace q0:=(q0.st i0).st j0
   refine Bt (O:=r0) (A:=All s0) (R:=fun w' F v=>Vb w' F v k1) (Ik (fun _ h=>h) (Vb.mono (F:=Fr 0 s0 r0) q0 Fr.lt) (Vb.mono (F:=Fr 0 s0 r0) e0 Fr.lt) a3) rfl rfl fun v4 w4 x4 h0 b3=>?_
   obtain rfl:=b3.bool
   cases k1
   case false =>
    replace b0:=iF b0
    refine o_z ?_
    refine Ae rfl (AJ ?_)
    obtain rfl:=sm b0
    refine (?_:Exists _)
    exact ⟨_,(),rfl,⟨rfl,rfl,rfl,rfl,rfl,trivial⟩,_,((hB.st i0).st j0).st h0,e0.st h0,((d0.st i0).st j0).st h0,((f0.st i0).st j0).st h0⟩
   replace b0:=iT b0
   refine o_z ?_
   refine Ah rfl (Aj (Am rfl rfl (AE rfl rfl ?_)))
   replace g0:=g0.st h0
   refine AC (hc:=Blk.cell (i:=1) (g0.1) rfl) rfl rfl ?_
   refine AE rfl rfl (AC (hc:=Blk.cell (i:=2) (g0.1) rfl) rfl rfl ?_)
   obtain ⟨y4,c3,b0⟩:=bs b0
   obtain ⟨d3,l1⟩:=AS c3
   replace d0:=((d0.st i0).st j0).st h0
   obtain ⟨z4,a5,o3,w0,m1,p3,rfl,b5⟩:=d0.elem l1
   refine Bl (hA:=w0) (hj:=(Int.toNat_of_nonneg d3).symm) (hlt:=m1) rfl rfl rfl ?_
   refine Do rfl d0 (a:=p0.val) (vInt v2) w0 rfl rfl (Bn l1) fun c5 a1 d0=>?_
   refine o_z ?_
   obtain rfl:=sm b0
   refine (?_:Exists _)
   exact ⟨_,(),rfl,⟨rfl,rfl,rfl,rfl,rfl,trivial⟩,_,(((hB.st i0).st j0).st h0).st a1,(e0.st h0).st a1,d0,(((f0.st i0).st j0).st h0).st a1⟩
  replace hB:=(hB.st c1).st d1
  rintro d5 e3 ⟨e5,f5,rfl,n1,g5,hB,d0⟩
  replace hm:=AX hm
  refine AN _ n1 ?_
  refine Al (Aj (Am rfl rfl (Ar rfl rfl (Ar rfl rfl (o_z ?_)))))
  refine AF ?_
  obtain ⟨f3,g3,d0⟩:=d0.freeze
  obtain rfl:=sm hm
  replace hB:=hB.st g3
  exact ret2 rfl (AA rfl) (AA rfl) ⟨hB.ext,_,_,rfl,(Vb.mono (F:=Fr 0 e3 f3) d0 hB.out),vBool⟩
end
section
section
variable {α σ ρ : Type}
theorem EI {s:σ} {f:σ→Option ρ}:fin (.done s) f=f s:=rfl
theorem Ha {x y:α}:(if true=true then x else y)=x:=rfl
theorem EP {x y:α}:(if false=true then x else y)=y:=rfl
theorem It {f:Nat→α→σ→Option (Ctl σ ρ)} {I:Nat→σ→Prop} {R:ρ→Prop}:∀ (ys:List α) (j:Nat) (s:σ),I j s →
    (∀ k x s,ys[k]?=some x→I (j + k) s→(∃ s',f (j + k) x s=some (.next s')∧I (j + k + 1) s')∨(∃ r,f (j + k) x s=some (.ret r)∧R r)) →
    (∃ s',rng f ys j s=some (.done s')∧I (j + ys.length) s')∨∃ r,rng f ys j s=some (.ret r)∧R r
  | [],j,s,h0,_=>.inl ⟨s,rfl,h0⟩
  | y :: ys,j,s,h0,h=>by
    rcases h 0 y s rfl h0 with ⟨s',h1,h2⟩|⟨r,h1,h2⟩
    · have h1':f j y s=some (.next s'):=h1
      simp only [rng,h1']
      rcases It (I:=I) (R:=R) ys (j + 1) s' h2 (fun k x s hk hI=>by
        have:=h (k + 1) x s (by simpa using hk) (by rwa [show j + (k + 1)=j + 1 + k from by omega])
        rwa [show j + (k + 1)=j + 1 + k from by omega] at this) with ⟨s2,h3,h4⟩|h3
      · exact .inl ⟨s2,h3,by rw [List.length_cons,show j + (ys.length + 1)=j + 1 + ys.length from by omega];exact h4⟩
      · exact .inr h3
    · have h1':f j y s=some (.ret r):=h1
      simp only [rng,h1']
      exact .inr ⟨r,rfl,h2⟩
theorem Nz {f:Nat→α→σ→Option (Ctl σ ρ)} {xs:List α} {s₀:σ} (I:Nat→σ→Prop) (R:ρ→Prop) (h0:I 0 s₀)
    (h:∀ k x s,xs[k]?=some x→I k s→(∃ s',f k x s=some (.next s')∧I (k + 1) s')∨(∃ r,f k x s=some (.ret r)∧R r)) :
    (∃ s',rng f xs 0 s₀=some (.done s')∧I xs.length s')∨∃ r,rng f xs 0 s₀=some (.ret r)∧R r:=by
  have:=It (f:=f) (I:=I) (R:=R) xs 0 s₀ h0 (fun k x s hk hI=>by rw [Nat.zero_add] at hI ⊢;exact h k x s hk hI)
  rwa [Nat.zero_add] at this
theorem NA {f:Nat→α→σ→Option (Ctl σ ρ)} {xs:List α} {s₀:σ} (I:Nat→σ→Prop) (h0:I 0 s₀) (h:∀ k x s,xs[k]?=some x→I k s→∃ s',f k x s=some (.next s')∧I (k + 1) s') :
    ∃ s',rng f xs 0 s₀=some (.done s')∧I xs.length s':=by
  rcases Nz I (fun _=>False) h0 (fun k x s hk hI=>.inl (h k x s hk hI)) with h|⟨_,_,h⟩
  · exact h
  · exact h.elim
theorem NB {f:Nat→α→σ→Option (Ctl σ ρ)} {xs:List α} (g:Nat→σ) (h:∀ k x,xs[k]?=some x→f k x (g k)=some (.next (g (k + 1)))):rng f xs 0 (g 0)=some (.done (g xs.length)):=by
  obtain ⟨s',h1,h2⟩:=NA (f:=f) (xs:=xs) (s₀:=g 0) (fun k s=>s=g k) rfl (fun k x s hk hI=>⟨_,by rw [hI];exact h k x hk,rfl⟩)
  rw [h1,h2]
theorem Ld {f:Nat→α→σ→Option (Ctl σ ρ)} {xs:List α} {s₀:σ} (g:Nat→σ) (h0:s₀=g 0) (h:∀ k x,xs[k]?=some x→f k x (g k)=some (.next (g (k + 1)))):rng f xs 0 s₀=some (.done (g xs.length)):=by
  rw [h0];exact NB g h
end
end
section
open Go Go.RowKit
theorem Jj (f:List Fct) (s:List Int):EN f s=some (holdsB f s):=rfl
theorem Lf {ρ:Type} {s:List Int} {effs:List Eff} (he:EffsIn s effs) (m:List Fct→List Int→Option Bool) (hm:∀ f s,m f s=some (holdsB f s)) (u:List Int) (hu:u.length=s.length) :
    rng (ρ:=ρ) (fun (_:Nat) (e:Eff) (out:List Int)=>bnd (m e.cond s) fun q=>if q=true then bnd (atI out e.var) fun _=>some (.next (out.set (e.var).toNat e.val)) else some (.next out)) effs 0 u=some (.done (effsOn s effs u)):=by
  rw [Ld (fun k=>effsOn s (effs.take k) u) ?_ ?_,List.take_length]
  · rfl
  intro k e hk
  rw [hm,AG,Ln s hk]
  have hin:=he k e hk
  have hl:=HO s (effs.take k) u
  by_cases hb:holdsB e.cond s=true
  · rw [if_pos hb,if_pos hb]
    obtain ⟨j,hj⟩:=Int.eq_ofNat_of_zero_le hin.1
    rw [hj,Jy,List.getElem?_eq_getElem (by omega),AG]
  · rw [if_neg hb,if_neg hb]
theorem MN {t:Tsk} {s:List Int} {j:Nat} {o:Opr} (ho:t.ops[j]?=some o) (hp:holdsB o.pre s=true) (hl:s.length≤1000000) (he:EffsIn s o.effs):BT t s (j:Int)=some (succ o s,true):=by
  have hj:=Bn ho
  unfold BT
  rw [if_neg (by omega),if_neg (by omega),Jy,ho,AG,Jj,AG,hp,Ha,AG,EP,JV (by simp;omega) (by simp;omega),AG,AG,List.nil_append,Lf he EN Jj s rfl,AG,EI]
  rfl
theorem Ks {vars s:List Int}:∀ (l:List Eff),(∀ e∈l,EffOk vars e)→∀ (u:List Int),StateOk vars u→StateOk vars (effsOn s l u)
  | [],_,_,hu=>hu
  | e :: l,he,u,hu=>by
    refine Ks l (fun e' h'=>he e' (List.mem_cons_of_mem _ h')) _ ?_
    split
    · obtain ⟨_,h1,h2,y,hy,h3⟩:=he e List.mem_cons_self
      refine ⟨by rw [List.length_set];exact hu.1,fun i x n hx hn=>?_⟩
      rw [List.getElem?_set] at hx
      by_cases hi:e.var.toNat=i
      · subst hi
        rw [if_pos rfl] at hx
        split at hx
        · obtain rfl:=Option.some.inj hx
          simp only at hy h2 h3
          rw [hy] at hn
          obtain rfl:=Option.some.inj hn
          exact ⟨h2,h3⟩
        · cases hx
      · rw [if_neg hi] at hx
        exact hu.2 i x n hx hn
    · exact hu
theorem LK {t:Tsk} (h:TaskOk t) {s:List Int} (hs:StateOk t.vars s) {k:Nat} {o:Opr} (ho:t.ops[k]?=some o):StateOk t.vars (succ o s) :=
  Ks o.effs (fun e he=>by obtain ⟨j,hj⟩:=List.getElem?_of_mem he;exact (h.2.2.2.2.2 k o ho).2.2.2.2.2 j e hj) s hs
theorem Kt {t:Tsk} (h:TaskOk t) {s:List Int} (hs:StateOk t.vars s) {k:Nat} {o:Opr} (ho:t.ops[k]?=some o):BT t s (k:Int)=some (if holdsB o.pre s=true then (succ o s,true) else ([],false)):=by
  have hk:=Bn ho
  by_cases hp:holdsB o.pre s=true
  · rw [MN ho hp (by have:=hs.1;have:=h.1;omega) (h.effs hs k o ho),if_pos hp]
  · unfold BT
    rw [if_neg (by omega),if_neg (by omega),Jy,ho,AG,Jj,AG,if_neg hp,if_neg hp,AG,Ha]
end
section
open Go Go.RowKit
section
attribute [local irreducible] ewp owp hwp hwq hws Ev Evg Fn retPost loud loudS Res1
noncomputable def BM (x0:Option Gnr) (x1:List Int):Option (List Suc) :=
  bnd (Cj x0 x1) fun q7=>bnd (rng (ρ:=(List Suc)) (fun (k23:Nat) (a24:Int) (s21:(List Suc))=>bnd (Bx x1) fun q46=>bnd (x0) fun o56=>bnd (atI o56.t.ops a24) fun a88=>bnd (rng (ρ:=Ctl (List Suc) (List Suc)) (fun (k115:Nat) (a116:Eff) (s113:(List Int))=>bnd (Cv a116.cond x1) fun q150=>if q150=true then bnd (atI s113 a116.var) fun a157=>some (.next (s113.set (a116.var:Int).toNat a116.val)) else some (.next s113)) a88.effs 0 q46) fun res111=>fin res111 fun (s175:(List Int))=>bnd (appI 32 s21 [(⟨a24,s175⟩:Suc)]) fun u179=>some (.next u179)) q7 0 ([]:List Suc)) fun res19=>fin res19 fun (s195:(List Suc))=>some s195
theorem FF {w:World} {A:Nat→Prop} (hA:∀ k,A k→k < w.heap.size) {vx0:Value} {x0:Option Gnr} (h0:Vb w A vx0 x0) {vx1:Value} {x1:List Int} (g0:Vb w A vx1 x1) {r:(List Suc)} (hm:BM x0 x1=some r) :
    Fn Tryz.prog 61 [vx0,vx1] w fun v w'=>Ext w w'∧Vb w' (upA A w w') v r:=by
 obtain ⟨O,hB,k3⟩:=enter hA
 replace h0:=h0.mono k3
 obtain ⟨p3,rfl,s3⟩:=h0.ptr
 replace g0:=g0.mono k3
 obtain ⟨A5,c6,rfl⟩:=g0.form
 refine AD Tryz.func61 rfl Tryz.ntmps61 rfl ?_
 unfold BM at hm
 refine Al (Aj (Ar rfl rfl (o_z ?_)))
 refine Al (Aj (Ar rfl rfl (o_z ?_)))
 refine Al (Al (Aj (Am rfl rfl (Am rfl rfl ?_))))
 obtain ⟨q7,e8,hm⟩:=bs hm
 refine CO 2 (by decide) (O:=O) (FE Fr.lt h0 g0 e8) rfl rfl fun e1 f1 w9 t3 b2 m0=>?_
 refine AP rfl rfl ?_
 have e2:q7.length≤9223372036854775807:=Nat.le_trans m0.len.2.1 m0.len.2.2
 have q5:inI64 (q7.length:Int):=rngNat e2
 refine Am rfl rfl (o_z ?_)
 obtain ⟨h1,f2,hm⟩:=bs hm
 refine AK (aft h1 (fun (n0:(List Suc)) (i0:(Option Addr×Nat))=>[(5,(.slice i0.1 n0.length i0.2))]) (fun n0 i0 w'=>∃ O':Lab,Bs w A w' O'∧Rw 5 w' O' 112 (.slice i0.1 n0.length i0.2) n0)) ?_ ?_
 ·
  refine AM ?_
  replace hB:=hB.st b2
  replace h0:=h0.st b2
  replace g0:=g0.st b2
  refine Bw (σ:=(List Suc)) (X:=(Option Addr×Nat)) (q7.length) f2 rfl e2 (fun (n0:(List Suc)) (i0:(Option Addr×Nat))=>[(0,(.pointer p3)),(1,(.slice A5 x1.length c6)),(5,(.slice i0.1 n0.length i0.2)),(13,(.slice e1 q7.length f1))]) _ (fun n0 i0 w'=>∃ O':Lab,Bs w A w' O'∧Vb w' (Fr 0 w' O') (.pointer p3) x0∧Vb w' (Fr 0 w' O') (.slice A5 x1.length c6) x1∧Rw 5 w' O' 112 (.slice i0.1 n0.length i0.2) n0∧Rw 2 w' O' 3 (.slice e1 q7.length f1) q7) _ (none,0) ⟨t3,hB,h0,g0,(Rw.nil 5 (by decide)),m0⟩ ⟨rfl,rfl,rfl,rfl,rfl,rfl,trivial⟩ (fun _ _=>⟨rfl,rfl⟩) (fun _ _=>⟨rfl,trivial⟩) (fun _ _ _ ⟨O',hB,h0,g0,j0,m0⟩=>⟨O',hB,j0⟩) ⟨rfl,rfl,rfl⟩ ⟨rfl,rfl⟩ ?_
  rintro g2 i1 n0 i0 r5 u3 j1 ⟨v3,hB,h0,g0,j0,m0⟩ e0 h2 i2
  have rk23:inI64 (g2:Int):=rngK j1 e2
  refine Al (Aj ?_)
  obtain ⟨s5,t5,w3,j2,k2,l2,rfl,x3⟩:=m0.elem j1
  refine Bl (hA:=j2) (hj:=rfl) (hlt:=k2) rfl rfl rfl ?_
  refine AC (hc:=cat0 l2) rfl rfl ?_
  refine Ar rfl rfl (o_z ?_)
  refine Al (Aj (Am rfl rfl ?_))
  obtain ⟨k1,y3,e0⟩:=bs e0
  refine CO 3 (by decide) (O:=v3) (CQ Fr.lt g0 y3) rfl rfl fun l1 m1 u5 z3 r0 a4=>?_
  refine Ar rfl rfl (o_z ?_)
  refine Al (Al (Aj (Am rfl rfl ?_)))
  obtain ⟨v5,l3,e0⟩:=bs e0
  obtain ⟨ad59,m2⟩:=JW (s3.trans (by rw [l3];rfl))
  refine OI (hA:=m2) rfl rfl ?_
  replace h0:=h0.st r0
  obtain ⟨w5,x5,y5,z5,a6,b6,n2,b4,o2,c4,d4,e4,m3⟩:=MM h0 l3
  obtain ⟨d6,e6,rfl⟩:=c4.form
  obtain ⟨f6,g6,rfl⟩:=d4.form
  obtain ⟨h6,i6,rfl⟩:=e4.form
  obtain ⟨j6,k6,rfl⟩:=m3.form
  refine OH (hA:=n2) rfl rfl ?_
  refine AE rfl rfl (AC (hc:=cat3 o2) rfl rfl ?_)
  refine Am rfl rfl ?_
  obtain ⟨g1,f4,e0⟩:=bs e0
  obtain ⟨g4,h4⟩:=AS f4
  obtain ⟨l6,m6,i4,p2,q2,r2,n6,j4,rfl,s2,k0,k4,l4⟩:=m3.elem' h4
  obtain ⟨m4,n4,rfl⟩:=s2.form
  obtain ⟨n1,o1,rfl⟩:=k0.form
  refine Bl (hA:=p2) (hj:=(Int.toNat_of_nonneg g4).symm) (hlt:=q2) rfl rfl rfl ?_
  refine AE rfl rfl (AC (hc:=cat3 r2) rfl rfl ?_)
  refine AP rfl rfl ?_
  have b1:g1.effs.length≤9223372036854775807:=Nat.le_trans k0.len.2.1 k0.len.2.2
  have o4:inI64 (g1.effs.length:Int):=rngNat b1
  refine Am rfl rfl (o_z ?_)
  obtain ⟨c1,p1,e0⟩:=bs e0
  refine AK (aft c1 (fun (o0:(List Int)) (s0:Unit)=>[(0,(.pointer p3)),(1,(.slice A5 x1.length c6)),(5,(.slice i0.1 n0.length i0.2)),(7,(.int .i64 i1)),(8,(.slice l1 k1.length m1)),(13,(.slice e1 q7.length f1)),(14,(.int .i64 (q7.length:Int))),(15,(.int .i64 (g2:Int)))]) (fun o0 s0 w'=>∃ O':Lab,Bs w A w' O'∧Vb w' (Fr 0 w' O') (.pointer p3) x0∧Vb w' (Fr 0 w' O') (.slice A5 x1.length c6) x1∧Rw 5 w' O' 112 (.slice i0.1 n0.length i0.2) n0∧Rw 3 w' O' 3 (.slice l1 k1.length m1) o0∧Rw 2 w' O' 3 (.slice e1 q7.length f1) q7)) ?_ ?_
  ·
   refine AM ?_
   replace hB:=hB.st r0
   replace g0:=g0.st r0
   replace m0:=m0.st r0
   replace j0:=j0.st r0
   refine Bw (σ:=(List Int)) (X:=Unit) (g1.effs.length) p1 rfl b1 (fun (o0:(List Int)) (s0:Unit)=>[(0,(.pointer p3)),(1,(.slice A5 x1.length c6)),(5,(.slice i0.1 n0.length i0.2)),(7,(.int .i64 i1)),(8,(.slice l1 k1.length m1)),(13,(.slice e1 q7.length f1)),(14,(.int .i64 (q7.length:Int))),(15,(.int .i64 (g2:Int))),(29,(.slice n1 g1.effs.length o1))]) _ (fun o0 s0 w'=>∃ O':Lab,Bs w A w' O'∧Vb w' (Fr 0 w' O') (.pointer p3) x0∧Vb w' (Fr 0 w' O') (.slice A5 x1.length c6) x1∧Rw 5 w' O' 112 (.slice i0.1 n0.length i0.2) n0∧Rw 3 w' O' 3 (.slice l1 k1.length m1) o0∧Rw 2 w' O' 3 (.slice e1 q7.length f1) q7∧Vb w' (Fr 0 w' O') (.slice n1 g1.effs.length o1) g1.effs) _ () ⟨z3,hB,h0,g0,j0,a4,m0,k0⟩ ⟨rfl,rfl,rfl,rfl,rfl,rfl,rfl,rfl,rfl,rfl,rfl,trivial⟩ (fun _ _=>⟨rfl,rfl⟩) (fun _ _=>⟨rfl,rfl,rfl,rfl,rfl,rfl,rfl,rfl,trivial⟩) (fun _ _ _ ⟨O',hB,h0,g0,j0,f0,m0,k0⟩=>⟨O',hB,h0,g0,j0,f0,m0⟩) ⟨rfl,rfl,rfl⟩ ⟨rfl,rfl⟩ ?_
   rintro t2 t0 o0 s0 p4 n3 z0 ⟨u2,hB,h0,g0,j0,f0,m0,k0⟩ a0 c2 d2
   have rk115:inI64 (t2:Int):=rngK z0 b1
   refine Al (Aj ?_)
   obtain ⟨q4,r4,o3,q1,r1,s1,s4,rfl,u0,t4,v2⟩:=k0.elem' z0
   obtain ⟨w2,x2,rfl⟩:=u0.form
   refine Bl (hA:=q1) (hj:=rfl) (hlt:=r1) rfl rfl rfl ?_
   refine Bk (hl:=rfl) (hc:=s1) rfl rfl ?_
   refine Bv 4 u2 rfl fun y2 u4 v0 c0 l0=>?_
   refine AO l0 rfl rfl rfl (Nat.le_of_ble_eq_true rfl) (by first|exact allOne rfl|simp [Value.cells,Value.oneCell',AH]) fun w0 d0 l0=>?_
   replace l0:Lc 4 w0 v0 y2 64 [(.slice w2 t0.cond.length x2),(.int .i64 t0.var),(.int .i64 t0.val)]:=l0
   refine o_z ?_
   refine Al (Aj (AE rfl rfl (AC (hc:=Blk.cell (i:=0) (l0.1) rfl) rfl rfl ?_)))
   refine Am rfl rfl ?_
   obtain ⟨t1,z2,a0⟩:=bs a0
   replace g0:=(g0.st c0).st d0
   replace u0:=(u0.st c0).st d0
   refine Bt (O:=v0) (A:=All w0) (R:=fun w' F v=>Vb w' F v t1) (EO (fun _ h=>h) (Vb.mono (F:=Fr 0 w0 v0) u0 Fr.lt) (Vb.mono (F:=Fr 0 w0 v0) g0 Fr.lt) z2) rfl rfl fun v4 w4 x4 b0 a3=>?_
   obtain rfl:=a3.bool
   cases t1
   case false =>
    replace a0:=iF a0
    refine o_z ?_
    refine Ae rfl (AJ ?_)
    obtain rfl:=sm a0
    refine (?_:Exists _)
    exact ⟨_,(),rfl,⟨rfl,rfl,rfl,rfl,rfl,rfl,rfl,rfl,rfl,rfl,rfl,trivial⟩,_,((hB.st c0).st d0).st b0,((h0.st c0).st d0).st b0,g0.st b0,((j0.st c0).st d0).st b0,((f0.st c0).st d0).st b0,((m0.st c0).st d0).st b0,((k0.st c0).st d0).st b0⟩
   replace a0:=iT a0
   refine o_z ?_
   refine Ah rfl (Aj (Am rfl rfl (AE rfl rfl ?_)))
   replace l0:=l0.st b0
   refine AC (hc:=Blk.cell (i:=1) (l0.1) rfl) rfl rfl ?_
   refine AE rfl rfl (AC (hc:=Blk.cell (i:=2) (l0.1) rfl) rfl rfl ?_)
   obtain ⟨y4,b3,a0⟩:=bs a0
   obtain ⟨c3,u1⟩:=AS b3
   replace f0:=((f0.st c0).st d0).st b0
   obtain ⟨z4,a5,q3,a1,v1,r3,rfl,b5⟩:=f0.elem u1
   refine Bl (hA:=a1) (hj:=(Int.toNat_of_nonneg c3).symm) (hlt:=v1) rfl rfl rfl ?_
   refine Do rfl f0 (a:=t0.val) (vInt v2) a1 rfl rfl (Bn u1) fun c5 p0 f0=>?_
   refine o_z ?_
   obtain rfl:=sm a0
   refine (?_:Exists _)
   exact ⟨_,(),rfl,⟨rfl,rfl,rfl,rfl,rfl,rfl,rfl,rfl,rfl,rfl,rfl,trivial⟩,_,(((hB.st c0).st d0).st b0).st p0,(((h0.st c0).st d0).st b0).st p0,(g0.st b0).st p0,(((j0.st c0).st d0).st b0).st p0,f0,(((m0.st c0).st d0).st b0).st p0,(((k0.st c0).st d0).st b0).st p0⟩
  replace hB:=hB.st r0
  replace g0:=g0.st r0
  replace m0:=m0.st r0
  replace j0:=j0.st r0
  rintro d5 e5 ⟨w1,f5,rfl,y1,g5,hB,h0,g0,j0,f0,m0⟩
  replace e0:=AX e0
  refine AN _ y1 ?_
  refine Aj (Am rfl rfl (Am rfl rfl (Am rfl rfl (Cr rfl rfl rfl ?_))))
  obtain ⟨h5,q0,f0⟩:=f0.freeze
  obtain ⟨i5,d1,e0⟩:=bs e0
  obtain ⟨d1,d3,e3⟩:=AZ d1
  replace j0:=j0.st q0
  refine CN rfl (a:=(⟨i1,w1⟩:Suc)) j0 (Vb.ofAgg (cs:=[(.int .i64 i1),(.slice l1 k1.length m1)]) (x:=(⟨i1,w1⟩:Suc)) rfl ⟨_,rfl,f0,x3⟩) (fun _=>rfl) rfl (by decide) (by decide) d3 e3 ⟨rfl,rfl⟩ fun j5 f3 g3 k5 l5 y0 z1=>?_
  rw [← d1] at z1 ⊢
  refine Ar rfl rfl (o_z ?_)
  obtain rfl:=sm e0
  refine (?_:Exists _)
  exact ⟨_,(f3,g3),rfl,⟨rfl,rfl,rfl,rfl,rfl,rfl,trivial⟩,_,(hB.st q0).st y0,(h0.st q0).st y0,(g0.st q0).st y0,z1,(m0.st q0).st y0⟩
 replace hB:=hB.st b2
 rintro m5 h3 ⟨n5,o5,rfl,a2,p5,hB,j0⟩
 replace hm:=AX hm
 refine AN _ a2 ?_
 refine Al (Aj (Am rfl rfl (Ar rfl rfl (o_z ?_))))
 refine AF ?_
 obtain ⟨i3,j3,j0⟩:=j0.freeze
 obtain rfl:=sm hm
 replace hB:=hB.st j3
 exact ret1v rfl (AA rfl) ⟨hB.ext,(Vb.mono (F:=Fr 0 h3 i3) j0 hB.out)⟩
end
theorem Ov {t:Tsk} (h:TaskOk t):Eu t=some (some ⟨t⟩,⟨0⟩):=by unfold Eu;rw [Bg h,Ha,EM.2 h]
end
section
open Go Go.RowKit
attribute [local irreducible] ewp owp hwp hwq hws Ev Evg Fn retPost loud loudS Res1
attribute [local irreducible] hwx loudX
structure Spc where
  t:Tsk
  reg:Reg
  gen:Option Gnr
instance:Ow Spc where
  R w F M v x:=∃ (g:Nat) (L:Lab) (c0 c1 c2 c3 c4 c5:Value),v=.pointer (some ⟨g,0,none⟩)∧Blk w g 106 [c0,c1,c2,c3,c4,c5]∧M g∧L g=0∧Vb w F c0 x.t.vars∧Vb w F c1 x.t.init∧Vb w F c2 x.t.goal∧Vb w F c3 x.t.ops∧Ow.R w F (fun k=>M k∧L k=1) c4 x.reg∧Vb w F c5 x.gen
  agree:=by rintro w w' F M v x ⟨g,L,c0,c1,c2,c3,c4,c5,rfl,hb,hM,hL,h0,h1,h2,h3,h4,h5⟩ a1 a2;exact ⟨g,L,c0,c1,c2,c3,c4,c5,rfl,hb.keep (a2 g hM),hM,hL,h0.agree a1,h1.agree a1,h2.agree a1,h3.agree a1,Ow.agree h4 a1 fun k hk=>a2 k hk.1,h5.agree a1⟩
  mono:=by rintro w F M F' M' v x ⟨g,L,c0,c1,c2,c3,c4,c5,rfl,hb,hM,hL,h0,h1,h2,h3,h4,h5⟩ a1 a2 a3;exact ⟨g,L,c0,c1,c2,c3,c4,c5,rfl,hb,a2 g hM,hL,h0.mono a1,h1.mono a1,h2.mono a1,h3.mono a1,Ow.mono h4 a1 (fun k hk=>⟨a2 k hk.1,hk.2⟩) fun k hf hm=>a3 k hf hm.1,h5.mono a1⟩
instance:OwP Spc:=⟨by rintro w F M v x ⟨g,L,c0,c1,c2,c3,c4,c5,rfl,_⟩;exact ⟨g,rfl⟩⟩
theorem Spc.opn {i:Nat} {w:World} {O:Lab} {p:Nat} {x:Spc} (h:Ob i w O (.pointer (some ⟨p,0,none⟩)) x) (l0 l1:Nat) (hl:l0≠0∧l1≠0):∃ (O':Lab) (c0 c1 c2 c3 c4 c5:Value),St (eT i) w O w O'∧(∀ k,Fr i w O k→∃ q,q∈[l0,l1]∧Fr q w O' k)∧Lc l0 w O' p 106 [c0,c1,c2,c3,c4,c5]∧Vb w (Fr 0 w O') c0 x.t.vars∧Vb w (Fr 0 w O') c1 x.t.init∧Vb w (Fr 0 w O') c2 x.t.goal∧Vb w (Fr 0 w O') c3 x.t.ops∧Ob l1 w O' c4 x.reg∧Vb w (Fr 0 w O') c5 x.gen:=by
  obtain ⟨⟨g,L,c0,c1,c2,c3,c4,c5,hv,hb,hM,hL,h0,h1,h2,h3,h4,h5⟩,hi⟩:=h
  obtain rfl:p=g:=by injection hv with hv;injection hv with hv;injection hv
  exact ⟨part O i L [l0,l1],c0,c1,c2,c3,c4,c5,IG hi,Hw (by simp),⟨hb,(EA (j:=0) rfl p ⟨hM,hL⟩).2⟩,h0.mono (Dy hi),h1.mono (Dy hi),h2.mono (Dy hi),h3.mono (Dy hi),⟨Ow.mono h4 (Dy hi) (EA (j:=1) rfl) (frNe0 hl.2),hl.2⟩,h5.mono (Dy hi)⟩
theorem Spc.shut {w:World} {O:Lab} {p:Nat} {x:Spc} {l0 l1:Nat} {c0 c1 c2 c3 c4 c5:Value} (hd:¬ 0∈[l0,l1]∧[l0,l1].idxOf l0=0∧[l0,l1].idxOf l1=1) (hb:Lc l0 w O p 106 [c0,c1,c2,c3,c4,c5]) (h0:Vb w (Fr 0 w O) c0 x.t.vars) (h1:Vb w (Fr 0 w O) c1 x.t.init) (h2:Vb w (Fr 0 w O) c2 x.t.goal) (h3:Vb w (Fr 0 w O) c3 x.t.ops) (h4:Ob l1 w O c4 x.reg) (h5:Vb w (Fr 0 w O) c5 x.gen):∃ O',St (·∈[l0,l1]) w O w O'∧(∀ k,Fr 0 w O k→Fr 0 w O' k)∧(∀ q,q∈[l0,l1]→∀ k,Fr q w O k→Fr l0 w O' k)∧Ob l0 w O' (.pointer (some ⟨p,0,none⟩)) x:=by
  have hb1:l0≠0:=fun e=>hd.1 (by simp [e])
  have hg:=DV (i:=l0) hd.2.1 (by simp) p ⟨hb.1.lt,hb.2⟩
  exact ⟨whole O l0 [l0,l1],Hx,Co hd.1,GQ,⟨p,fun k=>[l0,l1].idxOf (O k),c0,c1,c2,c3,c4,c5,rfl,hb.1,hg.1,hg.2,h0.mono (Co hd.1),h1.mono (Co hd.1),h2.mono (Co hd.1),h3.mono (Co hd.1),Ow.mono h4.1 (Co hd.1) (DV hd.2.2 (by simp)) (fun k a b=>frNe0 hb1 k a b.1),h5.mono (Co hd.1)⟩,hb1⟩
noncomputable def DR (x0:Tsk):Option ((Option Spc)×Err) :=
  bnd (Eu x0) fun q24=>if q24.2.n≠0 then (some (none,(⟨q24.2.n⟩:Err))) else (bnd (Ec x0.vars) fun q39=>if q39.2.n≠0 then (some (none,(⟨q39.2.n⟩:Err))) else (bnd q39.1 fun o52=>bnd (BY o52 x0.init) fun q55=>if q55.2.2.1.n≠0 then (some (none,(⟨q55.2.2.1.n⟩:Err))) else (some ((some (⟨(⟨x0.vars,x0.init,x0.goal,x0.ops⟩:Tsk),q55.2.2.2,q24.1⟩:Spc)),(⟨0⟩:Err)))))
theorem JK {w:World} {O:Lab} {vx0:Value} {x0:Tsk} (m0:Vb w (Fr 0 w O) vx0 x0) (j0:Nat) (hj0:j0≠0) {r:(Option Spc)×Err} (hm:DR x0=some r) :
    Fn Tryz.prog 55 [vx0] w fun v w'=>∃ O',St nT w O w' O'∧∃ v0 v1:Value,v=.tuple #[v0,v1]∧Obo j0 w' O' v0 r.1∧Vb w' (Fr 0 w' O') v1 r.2:=by
 obtain ⟨O0,hE,d1⟩:=ent0 (w:=w) (O:=O)
 have hB:Bm w O0 w O0:=Bm.refl
 replace m0:=m0.mono d1
 obtain ⟨l2,rfl,v3,v4,v5,v6,rfl,h7,b0,g0,h0⟩:=m0
 obtain ⟨A8,c9,rfl⟩:=h7.form
 obtain ⟨n0,o0,rfl⟩:=b0.form
 obtain ⟨p0,q0,rfl⟩:=g0.form
 obtain ⟨r0,s0,rfl⟩:=h0.form
 refine AD Tryz.func55 rfl Tryz.ntmps55 rfl ?_
 unfold DR at hm
 refine Al (Aj (CD 2 O0 rfl rfl fun e1 f1 b1 e0 a0=>?_))
 replace a0:Lc 2 f1 b1 e1 26 [(.slice A8 x0.vars.length c9),(.slice n0 x0.init.length o0),(.slice p0 x0.goal.length q0),(.slice r0 x0.ops.length s0)]:=a0
 refine Ar rfl rfl (Ar rfl rfl (o_z ?_))
 refine Al (Aj (Bk (hl:=rfl) (hc:=(a0.1).cellsAt) rfl rfl ?_))
 obtain ⟨c1,g1,hm⟩:=bs hm
 replace h7:=h7.st e0
 replace b0:=b0.st e0
 replace g0:=g0.st e0
 replace h0:=h0.st e0
 refine DQ (O:=b1) (R:=fun w' F v=>T2 w' F v c1) (Kw Fr.lt (Vb.ofAgg (cs:=[(.slice A8 x0.vars.length c9),(.slice n0 x0.init.length o0),(.slice p0 x0.goal.length q0),(.slice r0 x0.ops.length s0)]) (x:=x0) rfl ⟨_,_,_,_,rfl,h7,b0,g0,h0⟩) g1) rfl rfl fun m2 n2 h1 c0 i1=>?_
 obtain ⟨o2,p2,rfl,k0,j1⟩:=i1
 obtain ⟨k1,rfl,m1⟩:=k0.ptr
 obtain ⟨rfl,n1⟩:=j1.err
 refine Am rfl rfl (Bp rfl rfl rfl (Bp rfl rfl rfl (Ar rfl rfl (Ar rfl rfl (o_z ?_)))))
 refine Al (Al (Aj (Am rfl rfl (DJ rfl rfl (fun t0=>?_) fun t0=>?_))))
 ·
  replace hm:=ip hm t0
  refine o_z ?_
  refine Ah rfl (Al (Aj (Am rfl rfl (Ar rfl rfl (Ar rfl rfl (o_z ?_))))))
  refine AF ?_
  obtain rfl:=sm hm
  replace hB:=(hB.st e0).st c0
  obtain ⟨O',hS',hz,hl⟩:=hE.leave (fun _=>0) rfl hB
  exact ret2 rfl (AA rfl) (AA rfl) ⟨O',hS',_,_,rfl,rfl,(vErr n1)⟩
 ·
  replace hm:=im hm t0
  refine o_z ?_
  refine Ae rfl (AJ (Al (Aj (AE rfl rfl ?_))))
  replace a0:=a0.st c0
  refine AC (hc:=Blk.cell (i:=0) (a0.1) rfl) rfl rfl ?_
  obtain ⟨q2,o1,hm⟩:=bs hm
  replace h7:=h7.st c0
  refine BS (O:=h1) (Ka h7 3 (by decide) o1) rfl rfl fun r2 s2 p1 d0 q1=>?_
  obtain ⟨t2,u2,rfl,u0,r1⟩:=q1
  obtain ⟨rfl,s1⟩:=r1.err
  refine Am rfl rfl (Bp rfl rfl rfl (Bp rfl rfl rfl (Ar rfl rfl (Ar rfl rfl (o_z ?_)))))
  refine Al (Al (Aj (Am rfl rfl (DJ rfl rfl (fun w0=>?_) fun w0=>?_))))
  ·
   replace hm:=ip hm w0
   refine o_z ?_
   refine Ah rfl (Al (Aj (Am rfl rfl (Ar rfl rfl (Ar rfl rfl (o_z ?_))))))
   refine AF ?_
   obtain rfl:=sm hm
   replace hB:=((hB.st e0).st c0).st d0
   obtain ⟨O',hS',hz,hl⟩:=hE.leave (fun _=>0) rfl hB
   exact ret2 rfl (AA rfl) (AA rfl) ⟨O',hS',_,_,rfl,rfl,(vErr s1)⟩
  ·
   replace hm:=im hm w0
   refine o_z ?_
   refine Ae rfl (AJ (Al (Al (Aj (Am rfl rfl (AE rfl rfl ?_))))))
   replace a0:=a0.st d0
   refine AC (hc:=Blk.cell (i:=1) (a0.1) rfl) rfl rfl ?_
   obtain ⟨v2,t1,hm⟩:=bs hm
   rw [t1] at u0
   obtain ⟨u1,rfl⟩:=Ob.ptr u0
   obtain ⟨w1,x1,hm⟩:=bs hm
   replace b0:=(b0.st c0).st d0
   refine BS (O:=p1) (EZ u0 b0 x1) rfl rfl fun w2 x2 y1 f0 z1=>?_
   obtain ⟨y2,z2,a3,y0,rfl,a2,b2,c2⟩:=z1
   obtain ⟨rfl,b3⟩:=a2.int
   obtain rfl:=b2.bool
   obtain ⟨rfl,d2⟩:=c2.err
   refine Am rfl rfl (Bp rfl rfl rfl (Bp rfl rfl rfl (Bp rfl rfl rfl (Ar rfl rfl (Ar rfl rfl (Ar rfl rfl (o_z ?_)))))))
   refine Al (Aj (Am rfl rfl (DJ rfl rfl (fun z0=>?_) fun z0=>?_)))
   ·
    replace hm:=ip hm z0
    refine o_z ?_
    refine Ah rfl (Al (Aj (Am rfl rfl (Ar rfl rfl (Ar rfl rfl (o_z ?_))))))
    refine AF ?_
    obtain rfl:=sm hm
    replace hB:=(((hB.st e0).st c0).st d0).st f0
    obtain ⟨O',hS',hz,hl⟩:=hE.leave (fun _=>0) rfl hB
    exact ret2 rfl (AA rfl) (AA rfl) ⟨O',hS',_,_,rfl,rfl,(vErr d2)⟩
   ·
    replace hm:=im hm z0
    refine o_z ?_
    refine Ae rfl (AJ (Al (Aj ?_)))
    replace a0:=a0.st f0
    refine Bk (hl:=rfl) (hc:=(a0.1).cellsAt) rfl rfl ?_
    refine Am rfl rfl (Am rfl rfl (Cr rfl rfl rfl ?_))
    refine CD 4 y1 rfl rfl fun e2 f2 g2 i0 a1=>?_
    replace a1:Lc 4 f2 g2 e2 106 [(.slice A8 x0.vars.length c9),(.slice n0 x0.init.length o0),(.slice p0 x0.goal.length q0),(.slice r0 x0.ops.length s0),(.pointer (some ⟨u1,0,none⟩)),(.pointer k1)]:=a1
    refine Ar rfl rfl (Ar rfl rfl (o_z ?_))
    refine AF ?_
    replace h7:=((h7.st d0).st f0).st i0
    replace b0:=(b0.st f0).st i0
    replace g0:=(((g0.st c0).st d0).st f0).st i0
    replace h0:=(((h0.st c0).st d0).st f0).st i0
    replace k0:=((k0.st d0).st f0).st i0
    replace y0:=y0.st i0
    obtain ⟨c3,h2,i2,j2,k2⟩:=Spc.shut (x:=(⟨(⟨x0.vars,x0.init,x0.goal,x0.ops⟩:Tsk),w1.2.2.2,c1.1⟩:Spc)) (l0:=4) (l1:=3) (by decide) a1 h7 b0 g0 h0 y0 k0
    obtain rfl:=sm hm
    replace hB:=(((((hB.st e0).st c0).st d0).st f0).st i0).st h2
    obtain ⟨O',hS',hz,hl⟩:=hE.leave (fun q=>if q=4 then j0 else 0) rfl hB
    exact ret2 rfl (AA rfl) (AA rfl) ⟨O',hS',_,_,rfl,(Ob.leave k2 hz (hl 4 (by decide) (by decide)) hj0),(vErr (show inI64 0 from by decide))⟩
noncomputable def Cw (x0:Spc) (x1:Int) (x2:Int):Option (Rsl×Err) :=
  bnd (Cq x0.reg x1) fun q36=>if q36.2.n≠0 then (some ((⟨0,([]:List Int),0,0⟩:Rsl),(⟨q36.2.n⟩:Err))) else (bnd (rng (ρ:=Rsl×Err) (fun (k77:Nat) (a78:Int) (s75:Int)=>bnd (atI x0.t.ops a78) fun a125=>bnd (chkI (s75 + a125.cost)) fun n146=>some (.next n146)) q36.1 0 0) fun res73=>fin res73 fun (s160:Int)=>some ((⟨1,q36.1,s160,x2⟩:Rsl),(⟨0⟩:Err)))
theorem Hb {w:World} {O:Lab} {p0 i0:Nat} {x0:Spc} (z0:Ob i0 w O (.pointer (some ⟨p0,0,none⟩)) x0) {x1:Int} (rx1:inI64 x1) {x2:Int} (rx2:inI64 x2) {r:Rsl×Err} (hm:Cw x0 x1 x2=some r) :
    Fn Tryz.prog 59 [(.pointer (some ⟨p0,0,none⟩)),(.int .i64 x1),(.int .i64 x2)] w fun v w'=>∃ O',St (eT i0) w O w' O'∧∃ v0 v1:Value,Ob i0 w' O' (.pointer (some ⟨p0,0,none⟩)) x0∧v=.tuple #[v0,v1]∧Vb w' (Fr 0 w' O') v0 r.1∧Vb w' (Fr 0 w' O') v1 r.2:=by
 obtain ⟨O0,hE,e3,f3⟩:=ent1 (w:=w) (O:=O) z0.2
 have z0':=Ob.leave z0 e3 f3 (j:=2) (by decide)
 have hB:Bm w O0 w O0:=Bm.refl
 refine AD Tryz.func59 rfl Tryz.ntmps59 rfl ?_
 unfold Cw at hm
 refine Al (Aj (Bv 3 O0 rfl fun g4 w5 O6 S7 h8=>?_))
 refine Ar rfl rfl (o_z ?_)
 refine Al (Aj (Am rfl rfl (Ce rfl rfl ?_)))
 replace z0':=z0'.st S7
 obtain ⟨O9,e5,f5,g5,h5,i5,j5,k1,g3,d1,e1,f1,g1,h1,u2,i1⟩:=Spc.opn z0' 2 4 (by decide)
 obtain ⟨k5,l5,rfl⟩:=e1.form
 obtain ⟨m5,n5,rfl⟩:=f1.form
 obtain ⟨o5,p5,rfl⟩:=g1.form
 obtain ⟨q5,r5,rfl⟩:=h1.form
 obtain ⟨s5,rfl⟩:=u2.ptr
 obtain ⟨t5,rfl,h3⟩:=i1.ptr
 refine AE rfl rfl (AC (hc:=Blk.cell (i:=4) (d1.1) rfl) rfl rfl ?_)
 refine Am rfl rfl ?_
 obtain ⟨e0,i3,hm⟩:=bs hm
 refine BS (O:=O9) (GI u2 rx1 i3) rfl rfl fun u5 v5 v2 d0 j3=>?_
 obtain ⟨x5,y5,m1,rfl,c0,k3⟩:=j3
 obtain ⟨k0,m0,rfl⟩:=c0.form
 obtain ⟨rfl,l3⟩:=k3.err
 refine Am rfl rfl (Bp rfl rfl rfl (Bp rfl rfl rfl (Ar rfl rfl (Ar rfl rfl (o_z ?_)))))
 refine Al (Al (Aj (Am rfl rfl (DJ rfl rfl (fun b2=>?_) fun b2=>?_))))
 ·
  replace hm:=ip hm b2
  refine o_z ?_
  refine Ah rfl (Al (Aj (Cr rfl rfl rfl ?_)))
  refine Am rfl rfl ?_
  replace h8:=(h8.st k1).st d0
  refine AO h8 rfl rfl rfl (Nat.le_of_ble_eq_true rfl) (by first|exact allOne rfl|simp [Value.cells,Value.oneCell',AH]) fun m3 a1 h8=>?_
  replace h8:Lc 3 m3 v2 g4 32 [(.int .i64 0),(.slice none 0 0),(.int .i64 0),(.int .i64 0)]:=h8
  refine Ar rfl rfl (o_z ?_)
  refine AF ?_
  replace d1:=(d1.st d0).st a1
  replace e1:=(e1.st d0).st a1
  replace f1:=(f1.st d0).st a1
  replace g1:=(g1.st d0).st a1
  replace h1:=(h1.st d0).st a1
  replace i1:=(i1.st d0).st a1
  replace m1:=m1.st a1
  obtain ⟨z5,w2,n3,o3,p3⟩:=Spc.shut (x:=x0) (l0:=2) (l1:=4) (by decide) d1 e1 f1 g1 h1 m1 i1
  obtain rfl:=sm hm
  replace hB:=((((hB.st S7).st k1).st d0).st a1).st w2
  obtain ⟨O',hS',hz,hl⟩:=hE.leave (fun q=>if q=2 then i0 else 0) rfl hB
  replace h8:=h8.st w2
  exact ret2 rfl (BH (cs:=[(.int .i64 0),(.slice none 0 0),(.int .i64 0),(.int .i64 0)]) rfl rfl h8.1.cellsAt) (AA rfl) ⟨O',hS',_,_,(Ob.leave p3 hz (hl 2 (by decide) (by decide)) z0.2),rfl,(Vb.mono (Vb.ofAgg (cs:=[(.int .i64 0),(.slice none 0 0),(.int .i64 0),(.int .i64 0)]) (x:=(⟨0,([]:List Int),0,0⟩:Rsl)) rfl ⟨_,rfl,(Vb.nil _ _),(show inI64 0 from by decide),(show inI64 0 from by decide),(show inI64 0 from by decide)⟩) hz),(vErr l3)⟩
 ·
  replace hm:=im hm b2
  refine o_z ?_
  refine Ae rfl (AJ (Al (Aj (Am rfl rfl (Am rfl rfl (Cr rfl rfl rfl ?_))))))
  refine Bv 5 v2 rfl fun n1 a6 q3 f0 a0=>?_
  refine AO a0 rfl rfl rfl (Nat.le_of_ble_eq_true rfl) (by first|exact allOne rfl|simp [Value.cells,Value.oneCell',AH]) fun r3 g0 a0=>?_
  replace a0:Lc 5 r3 q3 n1 32 [(.int .i64 1),(.slice k0 e0.1.length m0),(.int .i64 0),(.int .i64 x2)]:=a0
  refine o_z ?_
  refine Al (Al (Aj (Am rfl rfl (AP rfl rfl ?_))))
  replace c0:=(c0.st f0).st g0
  have c2:e0.1.length≤9223372036854775807:=Nat.le_trans c0.len.2.1 c0.len.2.2
  have b6:inI64 (e0.1.length:Int):=rngNat c2
  refine Am rfl rfl (o_z ?_)
  replace d1:=((d1.st d0).st f0).st g0
  replace e1:=((e1.st d0).st f0).st g0
  replace f1:=((f1.st d0).st f0).st g0
  replace g1:=((g1.st d0).st f0).st g0
  replace h1:=((h1.st d0).st f0).st g0
  replace i1:=((i1.st d0).st f0).st g0
  replace m1:=(m1.st f0).st g0
  obtain ⟨s3,b1,t3,u3,n0⟩:=Spc.shut (x:=x0) (l0:=2) (l1:=4) (by decide) d1 e1 f1 g1 h1 m1 i1
  obtain ⟨o1,d2,hm⟩:=bs hm
  refine AK (aft o1 (fun (c1:Int) (y1:Unit)=>[(6,(.pointer (some ⟨g4,0,none⟩))),(10,(.pointer (some ⟨n1,0,none⟩)))]) (fun c1 y1 w'=>∃ O':Lab,Bm w O0 w' O'∧Lc 3 w' O' g4 32 [(.int .i64 0),(.slice none 0 0),(.int .i64 0),(.int .i64 0)]∧Lc 5 w' O' n1 32 [(.int .i64 1),(.slice k0 e0.1.length m0),(.int .i64 c1),(.int .i64 x2)]∧Vb w' (Fr 0 w' O') (.slice k0 e0.1.length m0) e0.1∧Ob 2 w' O' (.pointer (some ⟨p0,0,none⟩)) x0∧inI64 c1)) ?_ ?_
  ·
   refine AM ?_
   replace hB:=(((((hB.st S7).st k1).st d0).st f0).st g0).st b1
   replace h8:=((((h8.st k1).st d0).st f0).st g0).st b1
   replace c0:=c0.st b1
   replace a0:=a0.st b1
   refine Bw (σ:=Int) (X:=Unit) (e0.1.length) d2 rfl c2 (fun (c1:Int) (y1:Unit)=>[(0,(.pointer (some ⟨p0,0,none⟩))),(6,(.pointer (some ⟨g4,0,none⟩))),(10,(.pointer (some ⟨n1,0,none⟩))),(29,(.slice k0 e0.1.length m0))]) _ (fun c1 y1 w'=>∃ O':Lab,Bm w O0 w' O'∧Ob 2 w' O' (.pointer (some ⟨p0,0,none⟩)) x0∧Lc 3 w' O' g4 32 [(.int .i64 0),(.slice none 0 0),(.int .i64 0),(.int .i64 0)]∧Lc 5 w' O' n1 32 [(.int .i64 1),(.slice k0 e0.1.length m0),(.int .i64 c1),(.int .i64 x2)]∧Vb w' (Fr 0 w' O') (.slice k0 e0.1.length m0) e0.1∧inI64 c1) _ () ⟨s3,hB,n0,h8,a0,c0,(show inI64 0 from by decide)⟩ ⟨rfl,rfl,rfl,rfl,rfl,rfl,trivial⟩ (fun _ _=>⟨rfl,rfl⟩) (fun _ _=>⟨rfl,rfl,trivial⟩) (fun _ _ _ ⟨O',hB,n0,h8,a0,c0,z1⟩=>⟨O',hB,h8,a0,c0,n0,z1⟩) ⟨rfl,rfl,rfl⟩ ⟨rfl,rfl⟩ ?_
   rintro v3 c6 c1 y1 d6 w3 p1 ⟨e6,hB,n0,h8,a0,c0,z1⟩ h0 e2 f2
   have rk77:inI64 (v3:Int):=rngK p1 c2
   refine Al (Aj ?_)
   obtain ⟨f6,g6,x3,g2,h2,i2,rfl,h6⟩:=c0.elem' p1
   refine Bl (hA:=g2) (hj:=rfl) (hlt:=h2) rfl rfl rfl ?_
   refine AC (hc:=cat0 i2) rfl rfl ?_
   refine Ar rfl rfl (o_z ?_)
   obtain ⟨y2,y3,z3,a4,b4,c4,d4,a2,z2,o0,q0,r0,s0,j0,t0,u0⟩:=Spc.opn n0 2 4 (by decide)
   obtain ⟨e4,f4,rfl⟩:=q0.form
   obtain ⟨h4,i4,rfl⟩:=r0.form
   obtain ⟨j4,k4,rfl⟩:=s0.form
   obtain ⟨l4,m4,rfl⟩:=j0.form
   obtain ⟨n4,rfl⟩:=t0.ptr
   obtain ⟨o4,rfl,a3⟩:=u0.ptr
   refine BD [] y2 ?_
   refine Ba (fuel:=1) [] [(0,true),(1,true),(2,true),(3,true),(4,true),(5,true),(6,true),(7,true),(8,true),(9,true),(10,true),(11,true),(12,true)] (by kernel_rfl) rfl ?_
   refine AY rfl rfl rfl ?_
   replace a0:=a0.st a2
   refine Bc (hc:=fun w' ⟨O',hq⟩=>Blk.cell (i:=2) ((a0.st hq (by decide)).1) rfl) rfl rfl rfl ?_
   refine AI rfl rfl rfl (Dx rfl rfl rfl (AY rfl rfl rfl (AY rfl rfl rfl (Bc (hc:=fun w' ⟨O',hq⟩=>Blk.cell (i:=3) ((o0.st hq (by decide)).1) rfl) rfl rfl rfl ?_))))
   refine AI rfl rfl rfl ?_
   obtain ⟨p4,j2,h0⟩:=bs h0
   obtain ⟨k2,l2⟩:=AS j2
   obtain ⟨q4,r4,b3,q1,r1,s1,t1,s4,t4,rfl,m2,n2,u4,v4⟩:=j0.elem l2
   obtain ⟨w4,x4,rfl⟩:=m2.form
   obtain ⟨y4,z4,rfl⟩:=n2.form
   refine BU (hA:=q1) (hj:=(Int.toNat_of_nonneg k2).symm) (hlt:=s1) rfl rfl rfl rfl ?_
   refine AY rfl rfl rfl (Bc (hc:=fun w' ⟨O',hq⟩=>cat1 (Bo (hq.agree (i:=0) (by decide)) r1 t1)) rfl rfl rfl ?_)
   obtain ⟨o2,u1,h0⟩:=bs h0
   have p2:=(Bu u1)
   refine GS (he:=u1) rfl rfl rfl rfl ?_
   refine AY rfl rfl rfl (AL ?_)
   refine Bb (i:=13) (by kernel_rfl) rfl ?_
   refine AO a0 rfl rfl rfl (Nat.le_of_ble_eq_true rfl) (by first|exact allOne rfl|simp [Value.cells,Value.oneCell',AH]) fun q2 b0 a0=>?_
   replace a0:Lc 5 q2 y2 n1 32 [(.int .i64 1),(.slice k0 e0.1.length m0),(.int .i64 o2),(.int .i64 x2)]:=a0
   refine El (by kernel_rfl) ?_
   refine Cm (by kernel_rfl) ?_
   replace o0:=o0.st b0
   replace q0:=q0.st b0
   replace r0:=r0.st b0
   replace s0:=s0.st b0
   replace j0:=j0.st b0
   replace t0:=t0.st b0
   replace u0:=u0.st b0
   obtain ⟨a5,w0,c3,d3,r2⟩:=Spc.shut (x:=x0) (l0:=2) (l1:=4) (by decide) o0 q0 r0 s0 j0 t0 u0
   obtain rfl:=sm h0
   refine (?_:Exists _)
   exact ⟨_,(),rfl,⟨rfl,rfl,rfl,rfl,rfl,rfl,trivial⟩,_,((hB.st a2).st b0).st w0,r2,((h8.st a2).st b0).st w0,a0.st w0,((c0.st a2).st b0).st w0,p2⟩
  replace hB:=(((((hB.st S7).st k1).st d0).st f0).st g0).st b1
  replace h8:=((((h8.st k1).st d0).st f0).st g0).st b1
  replace c0:=c0.st b1
  replace a0:=a0.st b1
  rintro b5 c5 ⟨y0,d5,rfl,w1,s2,hB,h8,a0,c0,n0,z1⟩
  replace hm:=AX hm
  refine AN _ w1 ?_
  refine Al (Aj (Bk (hl:=rfl) (hc:=(a0.1).cellsAt) rfl rfl ?_))
  refine AO h8 rfl rfl rfl (Nat.le_of_ble_eq_true rfl) (by first|exact allOne rfl|simp [Value.cells,Value.oneCell',AH]) fun t2 j1 h8=>?_
  replace h8:Lc 3 t2 s2 g4 32 [(.int .i64 1),(.slice k0 e0.1.length m0),(.int .i64 y0),(.int .i64 x2)]:=h8
  refine Ar rfl rfl (o_z ?_)
  refine AF ?_
  obtain rfl:=sm hm
  replace hB:=hB.st j1
  obtain ⟨O',hS',hz,hl⟩:=hE.leave (fun q=>if q=2 then i0 else 0) rfl hB
  replace c0:=c0.st j1
  replace n0:=n0.st j1
  exact ret2 rfl (BH (cs:=[(.int .i64 1),(.slice k0 e0.1.length m0),(.int .i64 y0),(.int .i64 x2)]) rfl rfl h8.1.cellsAt) (AA rfl) ⟨O',hS',_,_,(Ob.leave n0 hz (hl 2 (by decide) (by decide)) z0.2),rfl,(Vb.mono (Vb.ofAgg (cs:=[(.int .i64 1),(.slice k0 e0.1.length m0),(.int .i64 y0),(.int .i64 x2)]) (x:=(⟨1,e0.1,y0,x2⟩:Rsl)) rfl ⟨_,rfl,c0,(show inI64 (1) from by decide),z1,rx2⟩) hz),(vErr (show inI64 0 from by decide))⟩
noncomputable def Cx (x0:Int) (x1:Int):Option (Rsl×Err) :=
  some ((⟨x0,([]:List Int),0,x1⟩:Rsl),(⟨0⟩:Err))
theorem Fj {w:World} {A:Nat→Prop} (hA:∀ k,A k→k < w.heap.size) {x0:Int} (rx0:inI64 x0) {x1:Int} (rx1:inI64 x1) {r:Rsl×Err} (hm:Cx x0 x1=some r) :
    Fn Tryz.prog 60 [(.int .i64 x0),(.int .i64 x1)] w fun v w'=>Ext w w'∧T2 w' (upA A w w') v r:=by
 obtain ⟨O,hB,a0⟩:=enter hA
 refine AD Tryz.func60 rfl Tryz.ntmps60 rfl ?_
 unfold Cx at hm
 refine Al (Aj (Bv 2 O rfl fun g3 w4 O5 S6 h7=>?_))
 refine Ar rfl rfl (o_z ?_)
 refine Al (Aj (Am rfl rfl (Am rfl rfl (Cr rfl rfl rfl ?_))))
 refine AO h7 rfl rfl rfl (Nat.le_of_ble_eq_true rfl) (by first|exact allOne rfl|simp [Value.cells,Value.oneCell',AH]) fun w8 S9 h7=>?_
 replace h7:Lc 2 w8 O5 g3 32 [(.int .i64 x0),(.slice none 0 0),(.int .i64 0),(.int .i64 x1)]:=h7
 refine Ar rfl rfl (o_z ?_)
 refine AF ?_
 obtain rfl:=sm hm
 replace hB:=(hB.st S6).st S9
 exact ret2 rfl (BH (cs:=[(.int .i64 x0),(.slice none 0 0),(.int .i64 0),(.int .i64 x1)]) rfl rfl h7.1.cellsAt) (AA rfl) ⟨hB.ext,_,_,rfl,(Vb.mono (F:=Fr 0 w8 O5) (Vb.ofAgg (cs:=[(.int .i64 x0),(.slice none 0 0),(.int .i64 0),(.int .i64 x1)]) (x:=(⟨x0,([]:List Int),0,x1⟩:Rsl)) rfl ⟨_,rfl,(Vb.nil _ _),rx0,(show inI64 0 from by decide),rx1⟩) hB.out),(vErr (show inI64 0 from by decide))⟩
noncomputable def Dp (x0:Tsk) (x1:Int):Option (Rsl×Err) :=
  bnd (DR x0) fun q30=>if q30.2.n≠0 then (some ((⟨0,([]:List Int),0,0⟩:Rsl),(⟨q30.2.n⟩:Err))) else (bnd q30.1 fun o68=>bnd (lop (ρ:=Rsl×Err) (fun (s78:(List Int)×(List Bool)×Int×Int×Spc×(BxR 99 97 Itm))=>bnd (Cf s78.2.2.2.2.2.l) fun q116=>if 0 < q116 then (bnd (CH s78.2.2.2.2.2) fun q130=>bnd (atI s78.2.1 q130.1.x.id) fun a152=>if a152=true then (some (.next (s78.1,s78.2.1,s78.2.2.1,s78.2.2.2.1,s78.2.2.2.2.1,q130.2))) else (bnd (Ch s78.2.2.2.2.1.reg q130.1.x.id) fun q191=>if q191.2.n≠0 then (some (.ret ((⟨0,([]:List Int),0,0⟩:Rsl),(⟨q191.2.n⟩:Err)))) else (bnd (Cv x0.goal q191.1) fun q209=>if q209=true then bnd (Cw s78.2.2.2.2.1 q130.1.x.id s78.2.2.2.1) fun q581=>some (.ret (q581.1,(⟨q581.2.n⟩:Err))) else if x1≤s78.2.2.2.1 then (bnd (Cx 3 s78.2.2.2.1) fun q217=>some (.ret (q217.1,(⟨q217.2.n⟩:Err)))) else (bnd (atI s78.2.1 q130.1.x.id) fun a239=>bnd (chkI (s78.2.2.2.1 + 1)) fun n252=>bnd (BM s78.2.2.2.2.1.gen q191.1) fun q255=>bnd (rng (ρ:=Ctl ((List Int)×(List Bool)×Int×Int×Spc×(BxR 99 97 Itm)) (Rsl×Err)) (fun (k275:Nat) (a276:Suc) (s273:(List Int)×(List Bool)×Int×Spc×(BxR 99 97 Itm))=>bnd (BY s273.2.2.2.1.reg a276.state) fun q346=>if q346.2.2.1.n≠0 then (bnd (Cx 3 n252) fun q363=>some (.ret (.ret (q363.1,(⟨q363.2.n⟩:Err))))) else (bnd (atI x0.ops a276.op) fun a385=>bnd (chkI (q130.1.x.cost + a385.cost)) fun n406=>bnd (if q346.2.1=true then (bnd (appI 8 s273.1 [n406]) fun u418=>bnd (appI 1 s273.2.1 [false]) fun u430=>some (.done (u418,u430))) else (bnd (bnd (atI s273.2.1 q346.1) fun a451=>if a451=true then (some true) else (bnd (atI s273.1 q346.1) fun a468=>if a468≤n406 then (some true) else (some false)):Option Bool) fun y447=>if y447=true then (some (.ret (.next (s273.1,s273.2.1,s273.2.2.1,(⟨(⟨s273.2.2.2.1.t.vars,s273.2.2.2.1.t.init,s273.2.2.2.1.t.goal,s273.2.2.2.1.t.ops⟩:Tsk),q346.2.2.2,s273.2.2.2.1.gen⟩:Spc),s273.2.2.2.2)))) else (some (.done (s273.1,s273.2.1)))):Option (Fin ((List Int)×(List Bool)) (Ctl ((List Int)×(List Bool)×Int×Spc×(BxR 99 97 Itm)) (Ctl ((List Int)×(List Bool)×Int×Int×Spc×(BxR 99 97 Itm)) (Rsl×Err))))) fun y409=>fin y409 fun (s411:(List Int)×(List Bool))=>bnd (atI s411.1 q346.1) fun a500=>bnd (BX ((⟨(⟨s273.2.2.2.1.t.vars,s273.2.2.2.1.t.init,s273.2.2.2.1.t.goal,s273.2.2.2.1.t.ops⟩:Tsk),q346.2.2.2,s273.2.2.2.1.gen⟩:Spc).reg) q346.1 q130.1.x.id a276.op n406) fun q541=>if q541.1.n≠0 then (some (.ret (.ret ((⟨0,([]:List Int),0,0⟩:Rsl),(⟨q541.1.n⟩:Err))))) else (bnd (Cz s273.2.2.2.2 (⟨(⟨n406,s273.2.2.1,q346.1⟩:Itm)⟩:An 97 Itm)) fun q554=>bnd (chkI (s273.2.2.1 + 1)) fun n562=>some (.next ((s411.1.set (q346.1:Int).toNat n406),s411.2,n562,(⟨(⟨(⟨(⟨s273.2.2.2.1.t.vars,s273.2.2.2.1.t.init,s273.2.2.2.1.t.goal,s273.2.2.2.1.t.ops⟩:Tsk),q346.2.2.2,s273.2.2.2.1.gen⟩:Spc).t.vars,(⟨(⟨s273.2.2.2.1.t.vars,s273.2.2.2.1.t.init,s273.2.2.2.1.t.goal,s273.2.2.2.1.t.ops⟩:Tsk),q346.2.2.2,s273.2.2.2.1.gen⟩:Spc).t.init,(⟨(⟨s273.2.2.2.1.t.vars,s273.2.2.2.1.t.init,s273.2.2.2.1.t.goal,s273.2.2.2.1.t.ops⟩:Tsk),q346.2.2.2,s273.2.2.2.1.gen⟩:Spc).t.goal,(⟨(⟨s273.2.2.2.1.t.vars,s273.2.2.2.1.t.init,s273.2.2.2.1.t.goal,s273.2.2.2.1.t.ops⟩:Tsk),q346.2.2.2,s273.2.2.2.1.gen⟩:Spc).t.ops⟩:Tsk),q541.2,(⟨(⟨s273.2.2.2.1.t.vars,s273.2.2.2.1.t.init,s273.2.2.2.1.t.goal,s273.2.2.2.1.t.ops⟩:Tsk),q346.2.2.2,s273.2.2.2.1.gen⟩:Spc).gen⟩:Spc),q554))))) q255 0 (s78.1,(s78.2.1.set (q130.1.x.id:Int).toNat true),s78.2.2.1,s78.2.2.2.2.1,q130.2)) fun res271=>fin res271 fun (s574:(List Int)×(List Bool)×Int×Spc×(BxR 99 97 Itm))=>some (.next (s574.1,s574.2.1,s574.2.2.1,n252,s574.2.2.2.1,s574.2.2.2.2)))))) else (some (.brk (s78.1,s78.2.1,s78.2.2.1,s78.2.2.2.1,s78.2.2.2.2.1,s78.2.2.2.2.2)))) (([0]:List Int),[false],1,0,o68,(⟨[(⟨0,0,0⟩:Itm)]⟩:BxR 99 97 Itm))) fun res76=>fin res76 fun (s613:(List Int)×(List Bool)×Int×Int×Spc×(BxR 99 97 Itm))=>bnd (Cx 2 s613.2.2.2.1) fun q615=>some (q615.1,(⟨q615.2.n⟩:Err)))
set_option maxHeartbeats 1000000 in
theorem IJ {w:World} {A:Nat→Prop} (hA:∀ k,A k→k < w.heap.size) {vx0:Value} {x0:Tsk} (v8:Vb w A vx0 x0) {x1:Int} (rx1:inI64 x1) {r:Rsl×Err} (hm:Dp x0 x1=some r) :
    Fn Tryz.prog 31 [vx0,(.int .i64 x1)] w fun v w'=>Ext w w'∧T2 w' (upA A w w') v r:=by
 obtain ⟨O,hB,fF⟩:=enter hA
 replace v8:=v8.mono fF
 obtain ⟨oM,rfl,v4,v5,v6,v7,rfl,h8,n1,j1,o1⟩:=v8
 obtain ⟨A9,n3,rfl⟩:=h8.form
 obtain ⟨o3,p3,rfl⟩:=n1.form
 obtain ⟨q3,r3,rfl⟩:=j1.form
 obtain ⟨s3,t3,rfl⟩:=o1.form
 refine AD Tryz.func31 rfl Tryz.ntmps31 rfl ?_
 unfold Dp at hm
 refine Al (Aj (CD 2 O rfl rfl fun w3 gF pD d5 k1=>?_))
 replace k1:Lc 2 gF pD w3 26 [(.slice A9 x0.vars.length n3),(.slice o3 x0.init.length p3),(.slice q3 x0.goal.length r3),(.slice s3 x0.ops.length t3)]:=k1
 refine Bv 3 pD rfl fun u2 pM hF z4 h0=>?_
 refine Ar rfl rfl (o_z ?_)
 refine Al (Aj ?_)
 replace k1:=k1.st z4
 refine Bk (hl:=rfl) (hc:=(k1.1).cellsAt) rfl rfl ?_
 obtain ⟨qM,jF,hm⟩:=bs hm
 replace h8:=(h8.st d5).st z4
 replace n1:=(n1.st d5).st z4
 replace j1:=(j1.st d5).st z4
 replace o1:=(o1.st d5).st z4
 refine BS (O:=hF) (JK (Vb.ofAgg (cs:=[(.slice A9 x0.vars.length n3),(.slice o3 x0.init.length p3),(.slice q3 x0.goal.length r3),(.slice s3 x0.ops.length t3)]) (x:=x0) rfl ⟨_,_,_,_,rfl,h8,n1,j1,o1⟩) 4 (by decide) jF) rfl rfl fun rM sM w8 x3 kF=>?_
 obtain ⟨tM,uM,rfl,e5,lF⟩:=kF
 obtain ⟨rfl,mF⟩:=lF.err
 refine Am rfl rfl (Bp rfl rfl rfl (Bp rfl rfl rfl (Ar rfl rfl (Ar rfl rfl (o_z ?_)))))
 refine Al (Al (Aj (Am rfl rfl (DJ rfl rfl (fun x8=>?_) fun x8=>?_))))
 ·
  replace hm:=ip hm x8
  refine o_z ?_
  refine Ah rfl (Al (Aj (Cr rfl rfl rfl ?_)))
  refine Am rfl rfl ?_
  replace h0:=h0.st x3
  refine AO h0 rfl rfl rfl (Nat.le_of_ble_eq_true rfl) (by first|exact allOne rfl|simp [Value.cells,Value.oneCell',AH]) fun qD nF h0=>?_
  replace h0:Lc 3 qD w8 u2 32 [(.int .i64 0),(.slice none 0 0),(.int .i64 0),(.int .i64 0)]:=h0
  refine Ar rfl rfl (o_z ?_)
  refine AF ?_
  obtain rfl:=sm hm
  replace hB:=(((hB.st d5).st z4).st x3).st nF
  exact ret2 rfl (BH (cs:=[(.int .i64 0),(.slice none 0 0),(.int .i64 0),(.int .i64 0)]) rfl rfl h0.1.cellsAt) (AA rfl) ⟨hB.ext,_,_,rfl,(Vb.mono (F:=Fr 0 qD w8) (Vb.ofAgg (cs:=[(.int .i64 0),(.slice none 0 0),(.int .i64 0),(.int .i64 0)]) (x:=(⟨0,([]:List Int),0,0⟩:Rsl)) rfl ⟨_,rfl,(Vb.nil _ _),(show inI64 0 from by decide),(show inI64 0 from by decide),(show inI64 0 from by decide)⟩) hB.out),(vErr mF)⟩
 ·
  replace hm:=im hm x8
  refine o_z ?_
  refine Ae rfl (AJ (Al (Aj (Br 5 (by decide) w8 (xs:=(([0]:List Int):List Int)) rfl rfl rfl rfl ⟨(vInt (show inI64 (0) from by decide)),trivial⟩ (by decide) (by decide) rfl fun oF vM pF f4 y8=>?_))))
  refine Br 6 (by decide) pF (xs:=([false]:List Bool)) rfl rfl rfl rfl ⟨vBool,trivial⟩ (by decide) (by decide) rfl fun qF wM rF y3 z8=>?_
  refine Ar rfl rfl (Ar rfl rfl (o_z ?_))
  refine Al (Aj (Cr rfl rfl rfl ?_))
  refine Br 7 (by decide) rF (xs:=([(⟨0,0,0⟩:Itm)]:List Itm)) rfl rfl rfl rfl ⟨(Vb.ofAgg (cs:=[(.int .i64 0),(.int .i64 0),(.int .i64 0)]) (x:=(⟨0,0,0⟩:Itm)) rfl ⟨rfl,(show inI64 0 from by decide),(show inI64 0 from by decide),(show inI64 0 from by decide)⟩),trivial⟩ (by decide) (by decide) rfl fun xM yM sF u3 a9=>?_
  refine CD 8 sF rfl rfl fun g4 zM aN f3 tF=>?_
  refine Ar rfl rfl (o_z ?_)
  refine Al (Aj (Ar rfl rfl (Ar rfl rfl (o_z ?_))))
  refine Al ?_
  obtain ⟨bN,uF,hm⟩:=bs hm
  replace e5:=(((e5.st f4).st y3).st u3).st f3
  rw [uF] at e5
  obtain ⟨h4,rfl⟩:=Ob.ptr e5
  replace a9:=a9.st f3
  obtain ⟨vF,v3,wF,xF,yF⟩:=BxR.shut (x:=(⟨[(⟨0,0,0⟩:Itm)]⟩:BxR 99 97 Itm)) (l0:=8) (l1:=7) (by decide) tF a9
  obtain ⟨i6,b9,hm⟩:=bs hm
  refine AK (aft i6 (fun (l2:(List Int)×(List Bool)×Int×Int×Spc×(BxR 99 97 Itm)) (o2:(Option Addr×Nat)×(Option Addr×Nat))=>[(4,(.pointer (some ⟨u2,0,none⟩))),(12,(.int .i64 l2.2.2.2.1))]) (fun l2 o2 w'=>∃ O':Lab,Bs w A w' O'∧Lc 3 w' O' u2 32 [(.int .i64 0),(.slice none 0 0),(.int .i64 0),(.int .i64 0)]∧inI64 l2.2.2.1∧inI64 l2.2.2.2.1)) ?_ ?_
  ·
   refine AM ?_
   replace hB:=(((((((hB.st d5).st z4).st x3).st f4).st y3).st u3).st f3).st v3
   replace h8:=(((((h8.st x3).st f4).st y3).st u3).st f3).st v3
   replace n1:=(((((n1.st x3).st f4).st y3).st u3).st f3).st v3
   replace j1:=(((((j1.st x3).st f4).st y3).st u3).st f3).st v3
   replace o1:=(((((o1.st x3).st f4).st y3).st u3).st f3).st v3
   replace k1:=(((((k1.st x3).st f4).st y3).st u3).st f3).st v3
   replace h0:=(((((h0.st x3).st f4).st y3).st u3).st f3).st v3
   replace e5:=e5.st v3
   replace y8:=(((y8.st y3).st u3).st f3).st v3
   replace z8:=((z8.st u3).st f3).st v3
   refine Gt (σ:=(List Int)×(List Bool)×Int×Int×Spc×(BxR 99 97 Itm)) (X:=(Option Addr×Nat)×(Option Addr×Nat)) b9 (fun (l2:(List Int)×(List Bool)×Int×Int×Spc×(BxR 99 97 Itm)) (o2:(Option Addr×Nat)×(Option Addr×Nat))=>[(1,(.int .i64 x1)),(2,(.pointer (some ⟨w3,0,none⟩))),(4,(.pointer (some ⟨u2,0,none⟩))),(6,(.pointer (some ⟨h4,0,none⟩))),(8,(.slice o2.1.1 l2.1.length o2.1.2)),(9,(.slice o2.2.1 l2.2.1.length o2.2.2)),(10,(.pointer (some ⟨g4,0,none⟩))),(11,(.int .i64 l2.2.2.1)),(12,(.int .i64 l2.2.2.2.1))]) _ (fun l2 o2 w'=>∃ O':Lab,Bs w A w' O'∧Lc 2 w' O' w3 26 [(.slice A9 x0.vars.length n3),(.slice o3 x0.init.length p3),(.slice q3 x0.goal.length r3),(.slice s3 x0.ops.length t3)]∧Vb w' (Fr 0 w' O') (.slice A9 x0.vars.length n3) x0.vars∧Vb w' (Fr 0 w' O') (.slice o3 x0.init.length p3) x0.init∧Vb w' (Fr 0 w' O') (.slice q3 x0.goal.length r3) x0.goal∧Vb w' (Fr 0 w' O') (.slice s3 x0.ops.length t3) x0.ops∧Lc 3 w' O' u2 32 [(.int .i64 0),(.slice none 0 0),(.int .i64 0),(.int .i64 0)]∧Ob 4 w' O' (.pointer (some ⟨h4,0,none⟩)) l2.2.2.2.2.1∧Rw 5 w' O' 3 (.slice o2.1.1 l2.1.length o2.1.2) l2.1∧Rw 6 w' O' 4 (.slice o2.2.1 l2.2.1.length o2.2.2) l2.2.1∧Ob 8 w' O' (.pointer (some ⟨g4,0,none⟩)) l2.2.2.2.2.2∧inI64 l2.2.2.1∧inI64 l2.2.2.2.1) _ (((some ⟨oF,0,none⟩),1),((some ⟨qF,0,none⟩),1)) ⟨vF,hB,k1,h8,n1,j1,o1,h0,e5,y8,z8,yF,(show inI64 (1) from by decide),(show inI64 (0) from by decide)⟩ ⟨rfl,rfl,rfl,rfl,rfl,rfl,rfl,rfl,rfl,trivial⟩ ?_
   rintro l2 o2 zF aG ⟨cN,hB,k1,h8,n1,j1,o1,h0,i4,t8,m2,c9,j4,g3⟩ f0 p2 f5
   refine Al (Al (Aj (Am rfl rfl (Ce rfl rfl ?_))))
   obtain ⟨d9,bG,o0,rD,w2,v2⟩:=BxR.opn c9 8 9 (by decide)
   obtain ⟨cG,dG,rfl⟩:=v2.form
   refine AC (hc:=Blk.cell (i:=0) (w2.1) rfl) rfl rfl ?_
   obtain ⟨e9,f9,f0⟩:=bs f0
   refine Bt (O:=d9) (A:=All zF) (R:=fun w' F v=>Vb w' F v e9) (ED (fun _ h=>h) (v2).all f9) rfl rfl fun eG fG gG j0 g9=>?_
   obtain ⟨rfl,hG⟩:=g9.int
   refine Cl rfl rfl rfl (fun g5=>?_) fun g5=>?_
   ·
    replace f0:=ip f0 g5
    refine o_z ?_
    refine Ah rfl (AJ (AM (Al (Aj (Am rfl rfl (KC rfl rfl ?_))))))
    replace w2:=w2.st j0
    replace v2:=v2.st j0
    obtain ⟨h9,r0,sD,tD,i9⟩:=BxR.shut (x:=l2.2.2.2.2.2) (l0:=8) (l1:=9) (by decide) w2 v2
    obtain ⟨c2,j9,f0⟩:=bs f0
    refine BS (O:=h9) (HE i9 j9) rfl rfl fun iG jG k9 s0 l9=>?_
    obtain ⟨k4,m9⟩:=l9
    obtain ⟨kG,rfl,n9⟩:=m9.any
    obtain ⟨uD,rfl,rfl,lG,mG,h5⟩:=n9
    refine Nj rfl rfl ?_
    refine Am rfl rfl (Bp rfl rfl rfl (Bp rfl rfl rfl (Bv 10 k9 rfl fun x2 nG o9 p0 n0=>?_)))
    refine AO n0 rfl rfl rfl (Nat.le_of_ble_eq_true rfl) (by first|exact allOne rfl|simp [Value.cells,Value.oneCell',AH]) fun p9 q0 n0=>?_
    replace n0:Lc 10 p9 o9 x2 97 [(.int .i64 c2.1.x.cost),(.int .i64 c2.1.x.order),(.int .i64 c2.1.x.id)]:=n0
    refine Ar rfl rfl (o_z ?_)
    refine Al (Al (Aj (Am rfl rfl (AE rfl rfl (AC (hc:=Blk.cell (i:=2) (n0.1) rfl) rfl rfl ?_)))))
    obtain ⟨oG,q9,f0⟩:=bs f0
    obtain ⟨r9,s9⟩:=AS q9
    replace m2:=(((((m2.st o0).st j0).st r0).st s0).st p0).st q0
    obtain ⟨pG,qG,vD,j6,k6,l6,rfl⟩:=m2.elem s9
    refine Bl (hA:=j6) (hj:=(Int.toNat_of_nonneg r9).symm) (hlt:=k6) rfl rfl rfl ?_
    refine AC (hc:=cat0 l6) rfl rfl ?_
    refine o_z ?_
    refine CC rfl (fun i5=>?_) (fun i5=>?_)
    ·
     replace f0:=ip f0 i5
     refine CZ ?_
     obtain rfl:=sm f0
     refine (?_:Exists _)
     exact ⟨_,((o2.1.1,o2.1.2),(o2.2.1,o2.2.2)),rfl,⟨rfl,rfl,rfl,rfl,rfl,rfl,rfl,rfl,rfl,trivial⟩,_,(((((hB.st o0).st j0).st r0).st s0).st p0).st q0,(((((k1.st o0).st j0).st r0).st s0).st p0).st q0,(((((h8.st o0).st j0).st r0).st s0).st p0).st q0,(((((n1.st o0).st j0).st r0).st s0).st p0).st q0,(((((j1.st o0).st j0).st r0).st s0).st p0).st q0,(((((o1.st o0).st j0).st r0).st s0).st p0).st q0,(((((h0.st o0).st j0).st r0).st s0).st p0).st q0,(((((i4.st o0).st j0).st r0).st s0).st p0).st q0,(((((t8.st o0).st j0).st r0).st s0).st p0).st q0,m2,(k4.st p0).st q0,j4,g3⟩
    ·
     replace f0:=im' f0 i5
     refine AJ (Al ?_)
     replace i4:=(((((i4.st o0).st j0).st r0).st s0).st p0).st q0
     obtain ⟨m6,rG,sG,tG,uG,vG,wG,y0,wD,q2,y2,z2,a3,b3,n6,r2⟩:=Spc.opn i4 4 11 (by decide)
     obtain ⟨xG,yG,rfl⟩:=y2.form
     obtain ⟨zG,aH,rfl⟩:=z2.form
     obtain ⟨bH,cH,rfl⟩:=a3.form
     obtain ⟨dH,eH,rfl⟩:=b3.form
     obtain ⟨fH,rfl⟩:=n6.ptr
     obtain ⟨gH,rfl,xD⟩:=r2.ptr
     refine BD [(6,[11])] m6 ?_
     refine Ba (fuel:=6) [] [(0,true),(1,true),(2,true),(3,true),(4,true),(5,true)] (by kernel_rfl) rfl ?_
     refine AI rfl rfl rfl (Dx rfl rfl rfl (AY rfl rfl rfl (Bc (hc:=fun w' ⟨O',hq⟩=>Blk.cell (i:=4) ((q2.st hq (by decide)).1) rfl) rfl rfl rfl ?_)))
     refine AY rfl rfl rfl ?_
     replace n0:=n0.st y0
     refine Bc (hc:=fun w' ⟨O',hq⟩=>Blk.cell (i:=2) ((n0.st hq (by decide)).1) rfl) rfl rfl rfl ?_
     refine AL ?_
     refine Bb (i:=6) (by kernel_rfl) rfl ?_
     obtain ⟨hH,t9,f0⟩:=bs f0
     refine BS (O:=m6) (Gn n6 h5 t9) rfl rfl fun iH j5 z3 k0 u9=>?_
     obtain ⟨jH,kH,h3,rfl,a4,v9⟩:=u9
     obtain ⟨lH,mH,rfl⟩:=a4.form
     obtain ⟨rfl,w9⟩:=v9.err
     have hZ:=k0.lst [11] (fun _ h=>by cases h;decide)
     refine By [] hZ (by kernel_rfl) ?_
     refine Ba (fuel:=0) [] [(7,true),(8,true),(9,true),(10,true),(11,true)] (by kernel_rfl) rfl ?_
     refine AI rfl rfl rfl (Jb rfl rfl rfl rfl (Jb rfl rfl rfl rfl (CB rfl rfl rfl (CB rfl rfl rfl (AL ?_)))))
     refine Cm (by kernel_rfl) ?_
     refine Al (Al (Aj (Am rfl rfl (DJ rfl rfl (fun k5=>?_) fun k5=>?_))))
     ·
      replace f0:=ip f0 k5
      refine o_z ?_
      refine Ah rfl (Al (Aj (Cr rfl rfl rfl ?_)))
      refine Am rfl rfl ?_
      replace h0:=(((((((h0.st o0).st j0).st r0).st s0).st p0).st q0).st y0).st k0
      refine AO h0 rfl rfl rfl (Nat.le_of_ble_eq_true rfl) (by first|exact allOne rfl|simp [Value.cells,Value.oneCell',AH]) fun o6 x9 h0=>?_
      replace h0:Lc 3 o6 z3 u2 32 [(.int .i64 0),(.slice none 0 0),(.int .i64 0),(.int .i64 0)]:=h0
      refine Ar rfl rfl (o_z ?_)
      refine AF ?_
      obtain rfl:=sm f0
      obtain rfl:=p2 _ rfl
      obtain rfl:=sm (Ct hm)
      replace hB:=((((((((hB.st o0).st j0).st r0).st s0).st p0).st q0).st y0).st k0).st x9
      exact ret2 rfl (BH (cs:=[(.int .i64 0),(.slice none 0 0),(.int .i64 0),(.int .i64 0)]) rfl rfl h0.1.cellsAt) (AA rfl) ⟨hB.ext,_,_,rfl,(Vb.mono (F:=Fr 0 o6 z3) (Vb.ofAgg (cs:=[(.int .i64 0),(.slice none 0 0),(.int .i64 0),(.int .i64 0)]) (x:=(⟨0,([]:List Int),0,0⟩:Rsl)) rfl ⟨_,rfl,(Vb.nil _ _),(show inI64 0 from by decide),(show inI64 0 from by decide),(show inI64 0 from by decide)⟩) hB.out),(vErr w9)⟩
     ·
      replace f0:=im f0 k5
      refine o_z ?_
      refine Ae rfl (AJ (Al (Al (Aj (AE rfl rfl ?_)))))
      replace k1:=(((((((k1.st o0).st j0).st r0).st s0).st p0).st q0).st y0).st k0
      refine AC (hc:=Blk.cell (i:=2) (k1.1) rfl) rfl rfl ?_
      refine Am rfl rfl ?_
      obtain ⟨p6,y9,f0⟩:=bs f0
      replace j1:=(((((((j1.st o0).st j0).st r0).st s0).st p0).st q0).st y0).st k0
      refine Bt (O:=z3) (A:=All j5) (R:=fun w' F v=>Vb w' F v p6) (EO (fun _ h=>h) (Vb.mono (F:=Fr 0 j5 z3) j1 Fr.lt) (Vb.mono (F:=Fr 0 j5 z3) a4 Fr.lt) y9) rfl rfl fun nH oH q6 i0 z9=>?_
      obtain rfl:=z9.bool
      cases p6
      case false =>
       replace f0:=iF f0
       refine o_z ?_
       refine Ae rfl (AJ (Al (Al (Aj (Am rfl rfl (Am rfl rfl (FP rfl rfl rfl (fun l5=>?_) fun l5=>?_)))))))
       ·
        replace f0:=ip f0 l5
        refine o_z ?_
        refine Ah rfl (Al (Aj (Am rfl rfl ?_)))
        obtain ⟨t1,aA,f0⟩:=bs f0
        refine DQ (O:=q6) (R:=fun w' F v=>T2 w' F v t1) (Fj Fr.lt (show inI64 (3) from by decide) g3 aA) rfl rfl fun pH qH r6 s6 bA=>?_
        obtain ⟨rH,sH,rfl,cA,dA⟩:=bA
        obtain ⟨yD,rfl,tH,rfl,l4,eA,fA,gA⟩:=cA
        obtain ⟨m5,n5,rfl⟩:=l4.form
        obtain ⟨rfl,iA⟩:=dA.err
        refine Bp rfl rfl rfl (Bp rfl rfl rfl ?_)
        replace h0:=(((((((((h0.st o0).st j0).st r0).st s0).st p0).st q0).st y0).st k0).st i0).st s6
        refine AO h0 rfl rfl rfl (Nat.le_of_ble_eq_true rfl) (by first|exact allOne rfl|simp [Value.cells,Value.oneCell',AH]) fun t6 u6 h0=>?_
        replace h0:Lc 3 t6 r6 u2 32 [(.int .i64 t1.1.verdict),(.slice m5 t1.1.plan.length n5),(.int .i64 t1.1.cost),(.int .i64 t1.1.expanded)]:=h0
        refine Ar rfl rfl (o_z ?_)
        refine AF ?_
        obtain rfl:=sm f0
        obtain rfl:=p2 _ rfl
        obtain rfl:=sm (Ct hm)
        replace hB:=((((((((((hB.st o0).st j0).st r0).st s0).st p0).st q0).st y0).st k0).st i0).st s6).st u6
        replace l4:=l4.st u6
        exact ret2 rfl (BH (cs:=[(.int .i64 t1.1.verdict),(.slice m5 t1.1.plan.length n5),(.int .i64 t1.1.cost),(.int .i64 t1.1.expanded)]) rfl rfl h0.1.cellsAt) (AA rfl) ⟨hB.ext,_,_,rfl,(Vb.mono (F:=Fr 0 t6 r6) (Vb.ofAgg (cs:=[(.int .i64 t1.1.verdict),(.slice m5 t1.1.plan.length n5),(.int .i64 t1.1.cost),(.int .i64 t1.1.expanded)]) (x:=t1.1) rfl ⟨_,rfl,l4,eA,fA,gA⟩) hB.out),(vErr iA)⟩
       ·
        replace f0:=im f0 l5
        refine o_z ?_
        refine Ae rfl (AJ (Al (Aj (Am rfl rfl (AE rfl rfl ?_)))))
        replace n0:=(n0.st k0).st i0
        refine AC (hc:=Blk.cell (i:=2) (n0.1) rfl) rfl rfl ?_
        obtain ⟨uH,jA,f0⟩:=bs f0
        obtain ⟨kA,w6⟩:=AS jA
        replace m2:=((m2.st y0).st k0).st i0
        obtain ⟨vH,wH,zD,a5,x6,aE,rfl⟩:=m2.elem w6
        refine Bl (hA:=a5) (hj:=(Int.toNat_of_nonneg kA).symm) (hlt:=x6) rfl rfl rfl ?_
        refine Do rfl m2 (a:=true) vBool a5 rfl rfl (Bn w6) fun xH u0 m2=>?_
        refine o_z ?_
        refine Al (Aj (Am rfl rfl ?_))
        obtain ⟨m4,y6,f0⟩:=bs f0
        have z6:=(Bu y6)
        refine EH (he:=y6) rfl rfl rfl ?_
        refine Ar rfl rfl (o_z ?_)
        refine Al (Aj (Am rfl rfl (Ce rfl rfl (AE rfl rfl ?_))))
        replace q2:=((q2.st k0).st i0).st u0
        refine AC (hc:=Blk.cell (i:=5) (q2.1) rfl) rfl rfl ?_
        refine Am rfl rfl ?_
        obtain ⟨p1,lA,f0⟩:=bs f0
        replace r2:=((r2.st k0).st i0).st u0
        replace a4:=(a4.st i0).st u0
        refine DQ (O:=q6) (R:=fun w' F v=>Vb w' F v p1) (FF Fr.lt r2 a4 lA) rfl rfl fun yH zH aI v0 z0=>?_
        obtain ⟨i3,j3,rfl⟩:=z0.form
        refine AP rfl rfl ?_
        have o5:p1.length≤9223372036854775807:=Nat.le_trans z0.len.2.1 z0.len.2.2
        have bI:inI64 (p1.length:Int):=rngNat o5
        refine Am rfl rfl (o_z ?_)
        replace q2:=q2.st v0
        replace y2:=(((y2.st k0).st i0).st u0).st v0
        replace z2:=(((z2.st k0).st i0).st u0).st v0
        replace a3:=(((a3.st k0).st i0).st u0).st v0
        replace b3:=(((b3.st k0).st i0).st u0).st v0
        replace r2:=r2.st v0
        replace h3:=((h3.st i0).st u0).st v0
        obtain ⟨mA,e1,bE,cE,nA⟩:=Spc.shut (x:=l2.2.2.2.2.1) (l0:=4) (l1:=11) (by decide) q2 y2 z2 a3 b3 h3 r2
        obtain ⟨p5,a7,f0⟩:=bs f0
        refine AK (aft p5 (fun (a0:(List Int)×(List Bool)×Int×Spc×(BxR 99 97 Itm)) (m0:(Option Addr×Nat)×(Option Addr×Nat))=>[(1,(.int .i64 x1)),(2,(.pointer (some ⟨w3,0,none⟩))),(4,(.pointer (some ⟨u2,0,none⟩))),(6,(.pointer (some ⟨h4,0,none⟩))),(8,(.slice m0.1.1 a0.1.length m0.1.2)),(9,(.slice m0.2.1 a0.2.1.length m0.2.2)),(10,(.pointer (some ⟨g4,0,none⟩))),(11,(.int .i64 a0.2.2.1)),(12,(.int .i64 m4))]) (fun a0 m0 w'=>∃ O':Lab,Bs w A w' O'∧Lc 2 w' O' w3 26 [(.slice A9 x0.vars.length n3),(.slice o3 x0.init.length p3),(.slice q3 x0.goal.length r3),(.slice s3 x0.ops.length t3)]∧Vb w' (Fr 0 w' O') (.slice A9 x0.vars.length n3) x0.vars∧Vb w' (Fr 0 w' O') (.slice o3 x0.init.length p3) x0.init∧Vb w' (Fr 0 w' O') (.slice q3 x0.goal.length r3) x0.goal∧Vb w' (Fr 0 w' O') (.slice s3 x0.ops.length t3) x0.ops∧Lc 3 w' O' u2 32 [(.int .i64 0),(.slice none 0 0),(.int .i64 0),(.int .i64 0)]∧Ob 4 w' O' (.pointer (some ⟨h4,0,none⟩)) a0.2.2.2.1∧Rw 5 w' O' 3 (.slice m0.1.1 a0.1.length m0.1.2) a0.1∧Rw 6 w' O' 4 (.slice m0.2.1 a0.2.1.length m0.2.2) a0.2.1∧Ob 8 w' O' (.pointer (some ⟨g4,0,none⟩)) a0.2.2.2.2∧inI64 a0.2.2.1)) ?_ ?_
        ·
         refine AM ?_
         replace hB:=(((((((((((hB.st o0).st j0).st r0).st s0).st p0).st q0).st y0).st k0).st i0).st u0).st v0).st e1
         replace h8:=(((((((((((h8.st o0).st j0).st r0).st s0).st p0).st q0).st y0).st k0).st i0).st u0).st v0).st e1
         replace n1:=(((((((((((n1.st o0).st j0).st r0).st s0).st p0).st q0).st y0).st k0).st i0).st u0).st v0).st e1
         replace j1:=(((j1.st i0).st u0).st v0).st e1
         replace o1:=(((((((((((o1.st o0).st j0).st r0).st s0).st p0).st q0).st y0).st k0).st i0).st u0).st v0).st e1
         replace k1:=(((k1.st i0).st u0).st v0).st e1
         replace h0:=(((((((((((h0.st o0).st j0).st r0).st s0).st p0).st q0).st y0).st k0).st i0).st u0).st v0).st e1
         replace t8:=(((((((((((t8.st o0).st j0).st r0).st s0).st p0).st q0).st y0).st k0).st i0).st u0).st v0).st e1
         replace m2:=(m2.st v0).st e1
         replace k4:=(((((((k4.st p0).st q0).st y0).st k0).st i0).st u0).st v0).st e1
         replace n0:=((n0.st u0).st v0).st e1
         replace z0:=z0.st e1
         refine Bw (σ:=(List Int)×(List Bool)×Int×Spc×(BxR 99 97 Itm)) (X:=(Option Addr×Nat)×(Option Addr×Nat)) (p1.length) a7 rfl o5 (fun (a0:(List Int)×(List Bool)×Int×Spc×(BxR 99 97 Itm)) (m0:(Option Addr×Nat)×(Option Addr×Nat))=>[(1,(.int .i64 x1)),(2,(.pointer (some ⟨w3,0,none⟩))),(4,(.pointer (some ⟨u2,0,none⟩))),(6,(.pointer (some ⟨h4,0,none⟩))),(8,(.slice m0.1.1 a0.1.length m0.1.2)),(9,(.slice m0.2.1 a0.2.1.length m0.2.2)),(10,(.pointer (some ⟨g4,0,none⟩))),(11,(.int .i64 a0.2.2.1)),(12,(.int .i64 m4)),(13,(.pointer (some ⟨x2,0,none⟩))),(98,(.slice i3 p1.length j3))]) _ (fun a0 m0 w'=>∃ O':Lab,Bs w A w' O'∧Lc 2 w' O' w3 26 [(.slice A9 x0.vars.length n3),(.slice o3 x0.init.length p3),(.slice q3 x0.goal.length r3),(.slice s3 x0.ops.length t3)]∧Vb w' (Fr 0 w' O') (.slice A9 x0.vars.length n3) x0.vars∧Vb w' (Fr 0 w' O') (.slice o3 x0.init.length p3) x0.init∧Vb w' (Fr 0 w' O') (.slice q3 x0.goal.length r3) x0.goal∧Vb w' (Fr 0 w' O') (.slice s3 x0.ops.length t3) x0.ops∧Lc 3 w' O' u2 32 [(.int .i64 0),(.slice none 0 0),(.int .i64 0),(.int .i64 0)]∧Ob 4 w' O' (.pointer (some ⟨h4,0,none⟩)) a0.2.2.2.1∧Rw 5 w' O' 3 (.slice m0.1.1 a0.1.length m0.1.2) a0.1∧Rw 6 w' O' 4 (.slice m0.2.1 a0.2.1.length m0.2.2) a0.2.1∧Ob 8 w' O' (.pointer (some ⟨g4,0,none⟩)) a0.2.2.2.2∧Lc 10 w' O' x2 97 [(.int .i64 c2.1.x.cost),(.int .i64 c2.1.x.order),(.int .i64 c2.1.x.id)]∧Vb w' (Fr 0 w' O') (.slice i3 p1.length j3) p1∧inI64 a0.2.2.1) _ ((o2.1.1,o2.1.2),(o2.2.1,o2.2.2)) ⟨mA,hB,k1,h8,n1,j1,o1,h0,nA,t8,m2.relen,k4,n0,z0,j4⟩ ⟨rfl,rfl,rfl,rfl,rfl,rfl,rfl,(congrArg (fun n=>some (Value.slice _ n _)) ((by simp:(l2.2.1.set (c2.1.x.id:Int).toNat true).length=l2.2.1.length).trans rfl).symm),rfl,rfl,rfl,rfl,rfl,trivial⟩ (fun _ _=>⟨rfl,rfl⟩) (fun _ _=>⟨rfl,rfl,rfl,rfl,rfl,rfl,rfl,rfl,rfl,trivial⟩) (fun _ _ _ ⟨O',hB,k1,h8,n1,j1,o1,h0,c3,g1,h1,f1,n0,z0,k3⟩=>⟨O',hB,k1,h8,n1,j1,o1,h0,c3,g1,h1,f1,k3⟩) ⟨rfl,rfl,rfl⟩ ⟨rfl,rfl⟩ ?_
         rintro q5 s2 a0 m0 cI dE b5 ⟨oA,hB,k1,h8,n1,j1,o1,h0,c3,g1,h1,f1,n0,z0,k3⟩ g0 e3 u8
         have rk275:inI64 (q5:Int):=rngK b5 o5
         refine Al (Aj ?_)
         obtain ⟨dI,eI,eE,b7,c7,d7,fI,rfl,q1,pA⟩:=z0.elem' b5
         obtain ⟨b4,c4,rfl⟩:=q1.form
         refine Bl (hA:=b7) (hj:=rfl) (hlt:=c7) rfl rfl rfl ?_
         refine Bk (hl:=rfl) (hc:=d7) rfl rfl ?_
         refine Bv 12 oA rfl fun d4 gI qA c0 b1=>?_
         refine AO b1 rfl rfl rfl (Nat.le_of_ble_eq_true rfl) (by first|exact allOne rfl|simp [Value.cells,Value.oneCell',AH]) fun rA d0 b1=>?_
         replace b1:Lc 12 rA qA d4 112 [(.int .i64 s2.op),(.slice b4 s2.state.length c4)]:=b1
         refine o_z ?_
         refine Al ?_
         replace c3:=(c3.st c0).st d0
         obtain ⟨e7,hI,iI,jI,kI,lI,mI,e0,fE,d2,e2,f2,g2,h2,f7,i2⟩:=Spc.opn c3 4 11 (by decide)
         obtain ⟨nI,oI,rfl⟩:=e2.form
         obtain ⟨pI,qI,rfl⟩:=f2.form
         obtain ⟨rI,sI,rfl⟩:=g2.form
         obtain ⟨tI,uI,rfl⟩:=h2.form
         obtain ⟨vI,rfl⟩:=f7.ptr
         obtain ⟨wI,rfl,gE⟩:=i2.ptr
         refine BD [(6,[11])] e7 ?_
         refine Ba (fuel:=8) [] [(0,true),(1,true),(2,true),(3,true),(4,true),(5,true)] (by kernel_rfl) rfl ?_
         refine AI rfl rfl rfl (Dx rfl rfl rfl (AY rfl rfl rfl (Bc (hc:=fun w' ⟨O',hq⟩=>Blk.cell (i:=4) ((d2.st hq (by decide)).1) rfl) rfl rfl rfl ?_)))
         refine AY rfl rfl rfl ?_
         replace b1:=b1.st e0
         refine Bc (hc:=fun w' ⟨O',hq⟩=>Blk.cell (i:=1) ((b1.st hq (by decide)).1) rfl) rfl rfl rfl ?_
         refine AL ?_
         refine Bb (i:=6) (by kernel_rfl) rfl ?_
         obtain ⟨m1,sA,g0⟩:=bs g0
         replace q1:=((q1.st c0).st d0).st e0
         refine BS (O:=e7) (EZ f7 q1 sA) rfl rfl fun xI tA uA b0 vA=>?_
         obtain ⟨yI,zI,aJ,l3,rfl,wA,xA,yA⟩:=vA
         obtain ⟨rfl,g7⟩:=wA.int
         obtain rfl:=xA.bool
         obtain ⟨rfl,bJ⟩:=yA.err
         have hZ:=b0.lst [11] (fun _ h=>by cases h;decide)
         refine By [] hZ (by kernel_rfl) ?_
         refine Ba (fuel:=0) [] [(7,true),(8,true),(9,true),(10,true),(11,true),(12,true),(13,true)] (by kernel_rfl) rfl ?_
         refine AI rfl rfl rfl (Jb rfl rfl rfl rfl (Jb rfl rfl rfl rfl (Jb rfl rfl rfl rfl (CB rfl rfl rfl (CB rfl rfl rfl (CB rfl rfl rfl (AL ?_)))))))
         refine Cm (by kernel_rfl) ?_
         refine Al (Al (Aj (Am rfl rfl (DJ rfl rfl (fun r5=>?_) fun r5=>?_))))
         ·
          replace g0:=ip g0 r5
          refine o_z ?_
          refine Ah rfl (Al (Aj (Am rfl rfl ?_)))
          obtain ⟨u1,zA,g0⟩:=bs g0
          refine DQ (O:=uA) (R:=fun w' F v=>T2 w' F v u1) (Fj Fr.lt (show inI64 (3) from by decide) z6 zA) rfl rfl fun cJ dJ h7 i7 aB=>?_
          obtain ⟨eJ,fJ,rfl,bB,cB⟩:=aB
          obtain ⟨hE,rfl,gJ,rfl,n4,dB,eB,fB⟩:=bB
          obtain ⟨s5,t5,rfl⟩:=n4.form
          obtain ⟨rfl,gB⟩:=cB.err
          refine Bp rfl rfl rfl (Bp rfl rfl rfl ?_)
          replace h0:=((((h0.st c0).st d0).st e0).st b0).st i7
          refine AO h0 rfl rfl rfl (Nat.le_of_ble_eq_true rfl) (by first|exact allOne rfl|simp [Value.cells,Value.oneCell',AH]) fun j7 k7 h0=>?_
          replace h0:Lc 3 j7 h7 u2 32 [(.int .i64 u1.1.verdict),(.slice s5 u1.1.plan.length t5),(.int .i64 u1.1.cost),(.int .i64 u1.1.expanded)]:=h0
          refine Ar rfl rfl (o_z ?_)
          refine AF ?_
          obtain rfl:=sm g0
          obtain rfl:=e3 _ rfl
          obtain rfl:=sm (Ct f0)
          obtain rfl:=p2 _ rfl
          obtain rfl:=sm (Ct hm)
          replace hB:=(((((hB.st c0).st d0).st e0).st b0).st i7).st k7
          replace n4:=n4.st k7
          exact ret2 rfl (BH (cs:=[(.int .i64 u1.1.verdict),(.slice s5 u1.1.plan.length t5),(.int .i64 u1.1.cost),(.int .i64 u1.1.expanded)]) rfl rfl h0.1.cellsAt) (AA rfl) ⟨hB.ext,_,_,rfl,(Vb.mono (F:=Fr 0 j7 h7) (Vb.ofAgg (cs:=[(.int .i64 u1.1.verdict),(.slice s5 u1.1.plan.length t5),(.int .i64 u1.1.cost),(.int .i64 u1.1.expanded)]) (x:=u1.1) rfl ⟨_,rfl,n4,dB,eB,fB⟩) hB.out),(vErr gB)⟩
         ·
          replace g0:=im g0 r5
          refine o_z ?_
          refine Ae rfl (AJ (Al (Ca (·=tA) [(0,true),(1,true),(2,true),(3,true),(4,true),(5,true),(6,true),(7,true),(8,true),(9,true),(10,true)] (by kernel_rfl) rfl (by kernel_rfl) rfl ?_)))
          refine AY rfl rfl rfl ?_
          replace n0:=(((n0.st c0).st d0).st e0).st b0
          refine Cb (hc:=Blk.cell (i:=0) (n0.1) rfl) rfl rfl rfl ?_
          refine AY rfl rfl rfl ?_
          replace k1:=(((k1.st c0).st d0).st e0).st b0
          refine Cb (hc:=Blk.cell (i:=3) (k1.1) rfl) rfl rfl rfl ?_
          refine AY rfl rfl rfl ?_
          replace b1:=b1.st b0
          refine Cb (hc:=Blk.cell (i:=0) (b1.1) rfl) rfl rfl rfl ?_
          obtain ⟨hJ,iB,g0⟩:=bs g0
          obtain ⟨jB,kB⟩:=AS iB
          replace o1:=(((o1.st c0).st d0).st e0).st b0
          obtain ⟨iJ,jJ,iE,l7,m7,n7,kJ,lJ,rfl,lB,mB,mJ,nJ⟩:=o1.elem' kB
          obtain ⟨oJ,pJ,rfl⟩:=lB.form
          obtain ⟨qJ,rJ,rfl⟩:=mB.form
          refine BU (hA:=l7) (hj:=(Int.toNat_of_nonneg jB).symm) (hlt:=m7) rfl rfl rfl rfl ?_
          refine AY rfl rfl rfl (Cb (hc:=cat1 n7) rfl rfl rfl ?_)
          obtain ⟨d3,o7,g0⟩:=bs g0
          have o4:=(Bu o7)
          refine GS (he:=o7) rfl rfl rfl rfl ?_
          refine CB rfl rfl rfl (h_z ?_)
          refine Al ?_
          obtain ⟨nB,t0,g0⟩:=bs g0
          refine AK (fun l' w'=>∃ (t2:(List Int)×(List Bool)) (j2:(Option Addr×Nat)×(Option Addr×Nat)) (O':Lab),nB=.done t2∧subs l' [(1,(.int .i64 x1)),(2,(.pointer (some ⟨w3,0,none⟩))),(4,(.pointer (some ⟨u2,0,none⟩))),(6,(.pointer (some ⟨h4,0,none⟩))),(8,(.slice j2.1.1 t2.1.length j2.1.2)),(9,(.slice j2.2.1 t2.2.length j2.2.2)),(10,(.pointer (some ⟨g4,0,none⟩))),(11,(.int .i64 a0.2.2.1)),(12,(.int .i64 m4)),(13,(.pointer (some ⟨x2,0,none⟩))),(18,(.pointer (some ⟨d4,0,none⟩))),(19,(.int .i64 m1.1)),(22,(.int .i64 d3)),(98,(.slice i3 p1.length j3)),(99,(.int .i64 (p1.length:Int))),(100,(.int .i64 (q5:Int)))]∧Bs w A w' O'∧Lc 2 w' O' w3 26 [(.slice A9 x0.vars.length n3),(.slice o3 x0.init.length p3),(.slice q3 x0.goal.length r3),(.slice s3 x0.ops.length t3)]∧Vb w' (Fr 0 w' O') (.slice A9 x0.vars.length n3) x0.vars∧Vb w' (Fr 0 w' O') (.slice o3 x0.init.length p3) x0.init∧Vb w' (Fr 0 w' O') (.slice q3 x0.goal.length r3) x0.goal∧Vb w' (Fr 0 w' O') (.slice s3 x0.ops.length t3) x0.ops∧Lc 3 w' O' u2 32 [(.int .i64 0),(.slice none 0 0),(.int .i64 0),(.int .i64 0)]∧Ob 4 w' O' (.pointer (some ⟨h4,0,none⟩)) (⟨(⟨a0.2.2.2.1.t.vars,a0.2.2.2.1.t.init,a0.2.2.2.1.t.goal,a0.2.2.2.1.t.ops⟩:Tsk),m1.2.2.2,a0.2.2.2.1.gen⟩:Spc)∧Rw 5 w' O' 3 (.slice j2.1.1 t2.1.length j2.1.2) t2.1∧Rw 6 w' O' 4 (.slice j2.2.1 t2.2.length j2.2.2) t2.2∧Ob 8 w' O' (.pointer (some ⟨g4,0,none⟩)) a0.2.2.2.2∧Lc 10 w' O' x2 97 [(.int .i64 c2.1.x.cost),(.int .i64 c2.1.x.order),(.int .i64 c2.1.x.id)]∧Lc 12 w' O' d4 112 [(.int .i64 s2.op),(.slice b4 s2.state.length c4)]∧Vb w' (Fr 0 w' O') (.slice b4 s2.state.length c4) s2.state∧Vb w' (Fr 0 w' O') (.slice i3 p1.length j3) p1) ?_ ?_
          ·
           refine Al (Aj (Am rfl rfl (o_z ?_)))
           refine CC rfl (fun u5=>?_) (fun u5=>?_)
           ·
            replace t0:=ip t0 u5
            refine Aj (Am rfl rfl (Am rfl rfl ?_))
            obtain ⟨sJ,w5,t0⟩:=bs t0
            obtain ⟨w5,oB,pB⟩:=AZ w5
            replace g1:=(((g1.st c0).st d0).st e0).st b0
            refine CN rfl (a:=d3) g1 (vInt o4) (fun _=>rfl) rfl (by decide) (by decide) oB pB ⟨rfl,rfl⟩ fun tJ qB rB uJ vJ c1 p7=>?_
            rw [← w5] at p7 ⊢
            refine Am rfl rfl ?_
            obtain ⟨wJ,x5,t0⟩:=bs t0
            obtain ⟨x5,sB,tB⟩:=AZ x5
            replace h1:=((((h1.st c0).st d0).st e0).st b0).st c1
            refine CN rfl (a:=false) h1 vBool (fun _=>rfl) rfl (by decide) (by decide) sB tB ⟨rfl,rfl⟩ fun xJ uB vB yJ zJ d1 q7=>?_
            rw [← x5] at q7 ⊢
            refine Ar rfl rfl (Ar rfl rfl (o_z ?_))
            replace d2:=((d2.st b0).st c1).st d1
            replace e2:=((e2.st b0).st c1).st d1
            replace f2:=((f2.st b0).st c1).st d1
            replace g2:=((g2.st b0).st c1).st d1
            replace h2:=((h2.st b0).st c1).st d1
            replace i2:=((i2.st b0).st c1).st d1
            replace l3:=(l3.st c1).st d1
            obtain ⟨aK,v1,jE,kE,wB⟩:=Spc.shut (x:=(⟨(⟨a0.2.2.2.1.t.vars,a0.2.2.2.1.t.init,a0.2.2.2.1.t.goal,a0.2.2.2.1.t.ops⟩:Tsk),m1.2.2.2,a0.2.2.2.1.gen⟩:Spc)) (l0:=4) (l1:=11) (by decide) d2 e2 f2 g2 h2 l3 i2
            obtain rfl:=sm t0
            exact ⟨_,((qB,rB),(uB,vB)),_,rfl,⟨rfl,rfl,rfl,rfl,rfl,rfl,rfl,rfl,rfl,rfl,rfl,rfl,rfl,rfl,rfl,rfl,trivial⟩,((((((hB.st c0).st d0).st e0).st b0).st c1).st d1).st v1,((k1.st c1).st d1).st v1,((((((h8.st c0).st d0).st e0).st b0).st c1).st d1).st v1,((((((n1.st c0).st d0).st e0).st b0).st c1).st d1).st v1,((((((j1.st c0).st d0).st e0).st b0).st c1).st d1).st v1,((o1.st c1).st d1).st v1,((((((h0.st c0).st d0).st e0).st b0).st c1).st d1).st v1,wB,(p7.st d1).st v1,q7.st v1,((((((f1.st c0).st d0).st e0).st b0).st c1).st d1).st v1,((n0.st c1).st d1).st v1,((b1.st c1).st d1).st v1,(((q1.st b0).st c1).st d1).st v1,((((((z0.st c0).st d0).st e0).st b0).st c1).st d1).st v1⟩
           ·
            replace t0:=im' t0 u5
            refine Al ?_
            obtain ⟨xB,w0,t0⟩:=bs t0
            refine AK (fun l' w'=>∃ (yB:Unit) (O':Lab),subs l' [(1,(.int .i64 x1)),(2,(.pointer (some ⟨w3,0,none⟩))),(4,(.pointer (some ⟨u2,0,none⟩))),(6,(.pointer (some ⟨h4,0,none⟩))),(8,(.slice m0.1.1 a0.1.length m0.1.2)),(9,(.slice m0.2.1 a0.2.1.length m0.2.2)),(10,(.pointer (some ⟨g4,0,none⟩))),(11,(.int .i64 a0.2.2.1)),(12,(.int .i64 m4)),(13,(.pointer (some ⟨x2,0,none⟩))),(18,(.pointer (some ⟨d4,0,none⟩))),(19,(.int .i64 m1.1)),(22,(.int .i64 d3)),(98,(.slice i3 p1.length j3)),(99,(.int .i64 (p1.length:Int))),(100,(.int .i64 (q5:Int))),(150,(.bool xB))]∧Bs w A w' O'∧Lc 2 w' O' w3 26 [(.slice A9 x0.vars.length n3),(.slice o3 x0.init.length p3),(.slice q3 x0.goal.length r3),(.slice s3 x0.ops.length t3)]∧Vb w' (Fr 0 w' O') (.slice A9 x0.vars.length n3) x0.vars∧Vb w' (Fr 0 w' O') (.slice o3 x0.init.length p3) x0.init∧Vb w' (Fr 0 w' O') (.slice q3 x0.goal.length r3) x0.goal∧Vb w' (Fr 0 w' O') (.slice s3 x0.ops.length t3) x0.ops∧Lc 3 w' O' u2 32 [(.int .i64 0),(.slice none 0 0),(.int .i64 0),(.int .i64 0)]∧Ob 4 w' O' (.pointer (some ⟨h4,0,none⟩)) (⟨(⟨a0.2.2.2.1.t.vars,a0.2.2.2.1.t.init,a0.2.2.2.1.t.goal,a0.2.2.2.1.t.ops⟩:Tsk),m1.2.2.2,a0.2.2.2.1.gen⟩:Spc)∧Rw 5 w' O' 3 (.slice m0.1.1 a0.1.length m0.1.2) a0.1∧Rw 6 w' O' 4 (.slice m0.2.1 a0.2.1.length m0.2.2) a0.2.1∧Ob 8 w' O' (.pointer (some ⟨g4,0,none⟩)) a0.2.2.2.2∧Lc 10 w' O' x2 97 [(.int .i64 c2.1.x.cost),(.int .i64 c2.1.x.order),(.int .i64 c2.1.x.id)]∧Lc 12 w' O' d4 112 [(.int .i64 s2.op),(.slice b4 s2.state.length c4)]∧Vb w' (Fr 0 w' O') (.slice b4 s2.state.length c4) s2.state∧Vb w' (Fr 0 w' O') (.slice i3 p1.length j3) p1) ?_ ?_
            ·
             refine Aj (Am rfl rfl (Am rfl rfl ?_))
             obtain ⟨zB,aC,w0⟩:=bs w0
             obtain ⟨bC,cC⟩:=AS aC
             replace h1:=(((h1.st c0).st d0).st e0).st b0
             obtain ⟨bK,cK,lE,r7,s7,t7,rfl⟩:=h1.elem cC
             refine Bl (hA:=r7) (hj:=(Int.toNat_of_nonneg bC).symm) (hlt:=s7) rfl rfl rfl ?_
             refine AC (hc:=cat0 t7) rfl rfl ?_
             refine Am rfl rfl ?_
             rcases Bool.eq_false_or_eq_true zB with e4|e4
             ·
              try rw [e4]
              replace w0:=ip w0 e4
              refine Au rfl rfl rfl rfl (Au rfl rfl rfl rfl (Au rfl rfl rfl rfl (Au rfl rfl rfl rfl (Au rfl rfl rfl rfl (Au rfl rfl rfl rfl (Be rfl rfl rfl (o_z ?_)))))))
              replace d2:=d2.st b0
              replace e2:=e2.st b0
              replace f2:=f2.st b0
              replace g2:=g2.st b0
              replace h2:=h2.st b0
              replace i2:=i2.st b0
              obtain ⟨dK,w1,mE,nE,dC⟩:=Spc.shut (x:=(⟨(⟨a0.2.2.2.1.t.vars,a0.2.2.2.1.t.init,a0.2.2.2.1.t.goal,a0.2.2.2.1.t.ops⟩:Tsk),m1.2.2.2,a0.2.2.2.1.gen⟩:Spc)) (l0:=4) (l1:=11) (by decide) d2 e2 f2 g2 h2 l3 i2
              obtain rfl:=sm w0
              exact ⟨(),_,⟨rfl,rfl,rfl,rfl,rfl,rfl,rfl,rfl,rfl,rfl,rfl,rfl,rfl,rfl,rfl,rfl,rfl,trivial⟩,((((hB.st c0).st d0).st e0).st b0).st w1,k1.st w1,((((h8.st c0).st d0).st e0).st b0).st w1,((((n1.st c0).st d0).st e0).st b0).st w1,((((j1.st c0).st d0).st e0).st b0).st w1,o1.st w1,((((h0.st c0).st d0).st e0).st b0).st w1,dC,((((g1.st c0).st d0).st e0).st b0).st w1,h1.st w1,((((f1.st c0).st d0).st e0).st b0).st w1,n0.st w1,b1.st w1,(q1.st b0).st w1,((((z0.st c0).st d0).st e0).st b0).st w1⟩
             ·
              try rw [e4]
              replace w0:=im' w0 e4
              refine Aw rfl rfl (Am rfl rfl (Aw rfl rfl (Am rfl rfl (Aw rfl rfl (Am rfl rfl (Aw rfl rfl ?_))))))
              obtain ⟨eK,eC,w0⟩:=bs w0
              obtain ⟨fC,gC⟩:=AS eC
              replace g1:=(((g1.st c0).st d0).st e0).st b0
              obtain ⟨fK,gK,oE,u7,w7,x7,rfl,hK⟩:=g1.elem gC
              refine Bl (hA:=u7) (hj:=(Int.toNat_of_nonneg fC).symm) (hlt:=w7) rfl rfl rfl ?_
              refine Aw rfl rfl (AC (hc:=cat0 x7) rfl rfl ?_)
              refine Aw rfl rfl (FP rfl rfl rfl (fun y5=>?_) fun y5=>?_)
              ·
               replace w0:=ip w0 y5
               refine AU rfl rfl rfl (o_z ?_)
               replace d2:=d2.st b0
               replace e2:=e2.st b0
               replace f2:=f2.st b0
               replace g2:=g2.st b0
               replace h2:=h2.st b0
               replace i2:=i2.st b0
               obtain ⟨iK,y1,pE,qE,hC⟩:=Spc.shut (x:=(⟨(⟨a0.2.2.2.1.t.vars,a0.2.2.2.1.t.init,a0.2.2.2.1.t.goal,a0.2.2.2.1.t.ops⟩:Tsk),m1.2.2.2,a0.2.2.2.1.gen⟩:Spc)) (l0:=4) (l1:=11) (by decide) d2 e2 f2 g2 h2 l3 i2
               obtain rfl:=sm w0
               exact ⟨(),_,⟨rfl,rfl,rfl,rfl,rfl,rfl,rfl,rfl,rfl,rfl,rfl,rfl,rfl,rfl,rfl,rfl,rfl,trivial⟩,((((hB.st c0).st d0).st e0).st b0).st y1,k1.st y1,((((h8.st c0).st d0).st e0).st b0).st y1,((((n1.st c0).st d0).st e0).st b0).st y1,((((j1.st c0).st d0).st e0).st b0).st y1,o1.st y1,((((h0.st c0).st d0).st e0).st b0).st y1,hC,g1.st y1,h1.st y1,((((f1.st c0).st d0).st e0).st b0).st y1,n0.st y1,b1.st y1,(q1.st b0).st y1,((((z0.st c0).st d0).st e0).st b0).st y1⟩
              ·
               replace w0:=im w0 y5
               refine AU rfl rfl rfl (o_z ?_)
               replace d2:=d2.st b0
               replace e2:=e2.st b0
               replace f2:=f2.st b0
               replace g2:=g2.st b0
               replace h2:=h2.st b0
               replace i2:=i2.st b0
               obtain ⟨jK,z1,rE,sE,iC⟩:=Spc.shut (x:=(⟨(⟨a0.2.2.2.1.t.vars,a0.2.2.2.1.t.init,a0.2.2.2.1.t.goal,a0.2.2.2.1.t.ops⟩:Tsk),m1.2.2.2,a0.2.2.2.1.gen⟩:Spc)) (l0:=4) (l1:=11) (by decide) d2 e2 f2 g2 h2 l3 i2
               obtain rfl:=sm w0
               exact ⟨(),_,⟨rfl,rfl,rfl,rfl,rfl,rfl,rfl,rfl,rfl,rfl,rfl,rfl,rfl,rfl,rfl,rfl,rfl,trivial⟩,((((hB.st c0).st d0).st e0).st b0).st z1,k1.st z1,((((h8.st c0).st d0).st e0).st b0).st z1,((((n1.st c0).st d0).st e0).st b0).st z1,((((j1.st c0).st d0).st e0).st b0).st z1,o1.st z1,((((h0.st c0).st d0).st e0).st b0).st z1,iC,g1.st z1,h1.st z1,((((f1.st c0).st d0).st e0).st b0).st z1,n0.st z1,b1.st z1,(q1.st b0).st z1,((((z0.st c0).st d0).st e0).st b0).st z1⟩
            replace hB:=(((hB.st c0).st d0).st e0).st b0
            replace h8:=(((h8.st c0).st d0).st e0).st b0
            replace n1:=(((n1.st c0).st d0).st e0).st b0
            replace j1:=(((j1.st c0).st d0).st e0).st b0
            replace h0:=(((h0.st c0).st d0).st e0).st b0
            replace z0:=(((z0.st c0).st d0).st e0).st b0
            replace g1:=(((g1.st c0).st d0).st e0).st b0
            replace h1:=(((h1.st c0).st d0).st e0).st b0
            replace f1:=(((f1.st c0).st d0).st e0).st b0
            replace q1:=q1.st b0
            rintro kK lK ⟨yB,mK,y7,hB,k1,h8,n1,j1,o1,h0,z7,g1,h1,f1,n0,b1,q1,z0⟩
            refine AN _ y7 ?_
            refine CC rfl (fun z5=>?_) (fun z5=>?_)
            ·
             replace t0:=ip t0 z5
             refine CZ ?_
             obtain rfl:=sm t0
             obtain rfl:=sm (Ct g0)
             refine (?_:Exists _)
             exact ⟨_,((m0.1.1,m0.1.2),(m0.2.1,m0.2.2)),rfl,⟨rfl,rfl,rfl,rfl,rfl,rfl,rfl,rfl,rfl,rfl,rfl,rfl,rfl,trivial⟩,_,hB,k1,h8,n1,j1,o1,h0,z7,g1,h1,f1,n0,z0,k3⟩
            ·
             replace t0:=im' t0 z5
             refine AJ ?_
             obtain rfl:=sm t0
             exact ⟨_,((m0.1.1,m0.1.2),(m0.2.1,m0.2.2)),_,rfl,⟨rfl,rfl,rfl,rfl,rfl,rfl,rfl,rfl,rfl,rfl,rfl,rfl,rfl,rfl,rfl,rfl,trivial⟩,hB,k1,h8,n1,j1,o1,h0,z7,g1,h1,f1,n0,b1,q1,z0⟩
          replace hB:=(((hB.st c0).st d0).st e0).st b0
          replace h8:=(((h8.st c0).st d0).st e0).st b0
          replace n1:=(((n1.st c0).st d0).st e0).st b0
          replace j1:=(((j1.st c0).st d0).st e0).st b0
          replace h0:=(((h0.st c0).st d0).st e0).st b0
          replace z0:=(((z0.st c0).st d0).st e0).st b0
          replace f1:=(((f1.st c0).st d0).st e0).st b0
          replace q1:=q1.st b0
          rintro nK oK ⟨t2,j2,pK,rfl,a8,hB,k1,h8,n1,j1,o1,h0,a6,m3,jC,f1,n0,b1,q1,z0⟩
          replace g0:=AX g0
          refine AN _ a8 ?_
          refine Al (Aj (Am rfl rfl (Am rfl rfl (Am rfl rfl ?_))))
          obtain ⟨qK,kC,g0⟩:=bs g0
          obtain ⟨lC,b8⟩:=AS kC
          obtain ⟨rK,sK,tE,c5,c8,uE,rfl,tK⟩:=m3.elem b8
          refine Bl (hA:=c5) (hj:=(Int.toNat_of_nonneg lC).symm) (hlt:=c8) rfl rfl rfl ?_
          refine Do rfl m3 (a:=d3) (vInt o4) c5 rfl rfl (Bn b8) fun uK r1 m3=>?_
          refine o_z ?_
          refine Al (Al ?_)
          replace a6:=a6.st r1
          obtain ⟨d8,vK,wK,xK,yK,zK,aL,s1,vE,p4,q4,r4,s4,t4,e8,u4⟩:=Spc.opn a6 4 11 (by decide)
          obtain ⟨bL,cL,rfl⟩:=q4.form
          obtain ⟨dL,eL,rfl⟩:=r4.form
          obtain ⟨fL,gL,rfl⟩:=s4.form
          obtain ⟨hL,iL,rfl⟩:=t4.form
          obtain ⟨jL,rfl⟩:=e8.ptr
          obtain ⟨kL,rfl,wE⟩:=u4.ptr
          refine BD [(10,[11])] d8 ?_
          refine Ba (fuel:=2) [] [(0,true),(1,true),(2,true),(3,true),(4,true),(5,true),(6,true),(7,true),(8,true),(9,true)] (by kernel_rfl) rfl ?_
          refine AI rfl rfl rfl (Dx rfl rfl rfl (AY rfl rfl rfl (Bc (hc:=fun w' ⟨O',hq⟩=>Blk.cell (i:=4) ((p4.st hq (by decide)).1) rfl) rfl rfl rfl ?_)))
          refine AI rfl rfl rfl (AY rfl rfl rfl ?_)
          replace n0:=(n0.st r1).st s1
          refine Bc (hc:=fun w' ⟨O',hq⟩=>Blk.cell (i:=2) ((n0.st hq (by decide)).1) rfl) rfl rfl rfl ?_
          refine AY rfl rfl rfl ?_
          replace b1:=(b1.st r1).st s1
          refine Bc (hc:=fun w' ⟨O',hq⟩=>Blk.cell (i:=0) ((b1.st hq (by decide)).1) rfl) rfl rfl rfl ?_
          refine AI rfl rfl rfl (AL ?_)
          refine Bb (i:=10) (by kernel_rfl) rfl ?_
          obtain ⟨mC,nC,g0⟩:=bs g0
          refine BS (O:=d8) (FY e8 g7 h5 pA o4 nC) rfl rfl fun lL mL b6 a1 oC=>?_
          obtain ⟨c6,pC⟩:=oC
          obtain ⟨rfl,qC⟩:=pC.err
          have hZ:=a1.lst [11] (fun _ h=>by cases h;decide)
          refine By [] hZ (by kernel_rfl) ?_
          refine Ba (fuel:=0) [] [(11,true)] (by kernel_rfl) rfl ?_
          refine CB rfl rfl rfl (AL ?_)
          refine Cm (by kernel_rfl) ?_
          refine Al (Aj (Am rfl rfl (DJ rfl rfl (fun d6=>?_) fun d6=>?_)))
          ·
           replace g0:=ip g0 d6
           refine o_z ?_
           refine Ah rfl (Al (Aj (Cr rfl rfl rfl ?_)))
           refine Am rfl rfl ?_
           replace h0:=((h0.st r1).st s1).st a1
           refine AO h0 rfl rfl rfl (Nat.le_of_ble_eq_true rfl) (by first|exact allOne rfl|simp [Value.cells,Value.oneCell',AH]) fun f8 rC h0=>?_
           replace h0:Lc 3 f8 b6 u2 32 [(.int .i64 0),(.slice none 0 0),(.int .i64 0),(.int .i64 0)]:=h0
           refine Ar rfl rfl (o_z ?_)
           refine AF ?_
           obtain rfl:=sm g0
           obtain rfl:=e3 _ rfl
           obtain rfl:=sm (Ct f0)
           obtain rfl:=p2 _ rfl
           obtain rfl:=sm (Ct hm)
           replace hB:=(((hB.st r1).st s1).st a1).st rC
           exact ret2 rfl (BH (cs:=[(.int .i64 0),(.slice none 0 0),(.int .i64 0),(.int .i64 0)]) rfl rfl h0.1.cellsAt) (AA rfl) ⟨hB.ext,_,_,rfl,(Vb.mono (F:=Fr 0 f8 b6) (Vb.ofAgg (cs:=[(.int .i64 0),(.slice none 0 0),(.int .i64 0),(.int .i64 0)]) (x:=(⟨0,([]:List Int),0,0⟩:Rsl)) rfl ⟨_,rfl,(Vb.nil _ _),(show inI64 0 from by decide),(show inI64 0 from by decide),(show inI64 0 from by decide)⟩) hB.out),(vErr qC)⟩
          ·
           replace g0:=im g0 d6
           refine o_z ?_
           refine Ae rfl (AJ (Al (Aj (Am rfl rfl (KC rfl rfl ?_)))))
           refine Am rfl rfl (Am rfl rfl (Am rfl rfl (Cr rfl rfl rfl ?_)))
           refine KC rfl rfl ?_
           obtain ⟨nL,sC,g0⟩:=bs g0
           replace f1:=((f1.st r1).st s1).st a1
           refine BS (O:=b6) (Hk f1 (vAny (Vb.ofAgg (cs:=[(.int .i64 d3),(.int .i64 a0.2.2.1),(.int .i64 m1.1)]) (x:=(⟨d3,a0.2.2.1,m1.1⟩:Itm)) rfl ⟨rfl,o4,k3,g7⟩)) sC) rfl rfl fun oL pL qL i1 tC=>?_
           refine o_z ?_
           refine Aj (Am rfl rfl ?_)
           obtain ⟨rL,g8,g0⟩:=bs g0
           have uC:=(Bu g8)
           refine EH (he:=g8) rfl rfl rfl ?_
           refine Ar rfl rfl (o_z ?_)
           replace p4:=(p4.st a1).st i1
           replace q4:=(q4.st a1).st i1
           replace r4:=(r4.st a1).st i1
           replace s4:=(s4.st a1).st i1
           replace t4:=(t4.st a1).st i1
           replace u4:=(u4.st a1).st i1
           replace c6:=c6.st i1
           obtain ⟨sL,n2,xE,yE,vC⟩:=Spc.shut (x:=(⟨(⟨(⟨(⟨a0.2.2.2.1.t.vars,a0.2.2.2.1.t.init,a0.2.2.2.1.t.goal,a0.2.2.2.1.t.ops⟩:Tsk),m1.2.2.2,a0.2.2.2.1.gen⟩:Spc).t.vars,(⟨(⟨a0.2.2.2.1.t.vars,a0.2.2.2.1.t.init,a0.2.2.2.1.t.goal,a0.2.2.2.1.t.ops⟩:Tsk),m1.2.2.2,a0.2.2.2.1.gen⟩:Spc).t.init,(⟨(⟨a0.2.2.2.1.t.vars,a0.2.2.2.1.t.init,a0.2.2.2.1.t.goal,a0.2.2.2.1.t.ops⟩:Tsk),m1.2.2.2,a0.2.2.2.1.gen⟩:Spc).t.goal,(⟨(⟨a0.2.2.2.1.t.vars,a0.2.2.2.1.t.init,a0.2.2.2.1.t.goal,a0.2.2.2.1.t.ops⟩:Tsk),m1.2.2.2,a0.2.2.2.1.gen⟩:Spc).t.ops⟩:Tsk),mC.2,(⟨(⟨a0.2.2.2.1.t.vars,a0.2.2.2.1.t.init,a0.2.2.2.1.t.goal,a0.2.2.2.1.t.ops⟩:Tsk),m1.2.2.2,a0.2.2.2.1.gen⟩:Spc).gen⟩:Spc)) (l0:=4) (l1:=11) (by decide) p4 q4 r4 s4 t4 c6 u4
           obtain rfl:=sm g0
           refine (?_:Exists _)
           replace m3:=(((m3.st s1).st a1).st i1).st n2
           exact ⟨_,((j2.1.1,j2.1.2),(j2.2.1,j2.2.2)),rfl,⟨rfl,rfl,rfl,rfl,rfl,rfl,(congrArg (fun n=>some (Value.slice _ n _)) ((by simp:(t2.1.set (m1.1:Int).toNat d3).length=t2.1.length).trans rfl).symm),rfl,rfl,rfl,rfl,rfl,rfl,trivial⟩,_,((((hB.st r1).st s1).st a1).st i1).st n2,((((k1.st r1).st s1).st a1).st i1).st n2,((((h8.st r1).st s1).st a1).st i1).st n2,((((n1.st r1).st s1).st a1).st i1).st n2,((((j1.st r1).st s1).st a1).st i1).st n2,((((o1.st r1).st s1).st a1).st i1).st n2,((((h0.st r1).st s1).st a1).st i1).st n2,vC,m3.relen,((((jC.st r1).st s1).st a1).st i1).st n2,tC.st n2,((n0.st a1).st i1).st n2,((((z0.st r1).st s1).st a1).st i1).st n2,uC⟩
        replace hB:=(((((((((((hB.st o0).st j0).st r0).st s0).st p0).st q0).st y0).st k0).st i0).st u0).st v0).st e1
        replace h8:=(((((((((((h8.st o0).st j0).st r0).st s0).st p0).st q0).st y0).st k0).st i0).st u0).st v0).st e1
        replace n1:=(((((((((((n1.st o0).st j0).st r0).st s0).st p0).st q0).st y0).st k0).st i0).st u0).st v0).st e1
        replace j1:=(((j1.st i0).st u0).st v0).st e1
        replace o1:=(((((((((((o1.st o0).st j0).st r0).st s0).st p0).st q0).st y0).st k0).st i0).st u0).st v0).st e1
        replace k1:=(((k1.st i0).st u0).st v0).st e1
        replace h0:=(((((((((((h0.st o0).st j0).st r0).st s0).st p0).st q0).st y0).st k0).st i0).st u0).st v0).st e1
        rintro tL uL ⟨vL,w4,rfl,a2,wL,hB,k1,h8,n1,j1,o1,h0,c3,g1,h1,f1,k3⟩
        replace f0:=AX f0
        obtain rfl:=sm f0
        refine (?_:Exists _)
        exact ⟨_,((w4.1.1,w4.1.2),(w4.2.1,w4.2.2)),rfl,⟨(BK a2 _ _ rfl),(BK a2 _ _ rfl),(BK a2 _ _ rfl),(BK a2 _ _ rfl),(BK a2 _ _ rfl),(BK a2 _ _ rfl),(BK a2 _ _ rfl),(BK a2 _ _ rfl),(BK a2 _ _ rfl),trivial⟩,_,hB,k1,h8,n1,j1,o1,h0,c3,g1,h1,f1,k3,z6⟩
      replace f0:=iT f0
      refine o_z ?_
      refine Ah rfl (Al (Aj (Am rfl rfl (AE rfl rfl ?_))))
      replace n0:=(n0.st k0).st i0
      refine AC (hc:=Blk.cell (i:=2) (n0.1) rfl) rfl rfl ?_
      refine Am rfl rfl ?_
      replace q2:=(q2.st k0).st i0
      replace y2:=(y2.st k0).st i0
      replace z2:=(z2.st k0).st i0
      replace a3:=(a3.st k0).st i0
      replace b3:=(b3.st k0).st i0
      replace r2:=(r2.st k0).st i0
      replace h3:=h3.st i0
      obtain ⟨wC,i8,zE,aF,xC⟩:=Spc.shut (x:=l2.2.2.2.2.1) (l0:=4) (l1:=11) (by decide) q2 y2 z2 a3 b3 h3 r2
      obtain ⟨k2,yC,f0⟩:=bs f0
      refine BS (O:=wC) (Hb xC h5 g3 yC) rfl rfl fun xL yL j8 k8 zC=>?_
      obtain ⟨zL,aM,bM,rfl,aD,bD⟩:=zC
      obtain ⟨bF,rfl,cM,rfl,x4,cD,dD,eD⟩:=aD
      obtain ⟨e6,f6,rfl⟩:=x4.form
      obtain ⟨rfl,fD⟩:=bD.err
      refine Bp rfl rfl rfl (Bp rfl rfl rfl ?_)
      replace h0:=((((((((((h0.st o0).st j0).st r0).st s0).st p0).st q0).st y0).st k0).st i0).st i8).st k8
      refine AO h0 rfl rfl rfl (Nat.le_of_ble_eq_true rfl) (by first|exact allOne rfl|simp [Value.cells,Value.oneCell',AH]) fun l8 m8 h0=>?_
      replace h0:Lc 3 l8 j8 u2 32 [(.int .i64 k2.1.verdict),(.slice e6 k2.1.plan.length f6),(.int .i64 k2.1.cost),(.int .i64 k2.1.expanded)]:=h0
      refine Ar rfl rfl (o_z ?_)
      refine AF ?_
      obtain rfl:=sm f0
      obtain rfl:=p2 _ rfl
      obtain rfl:=sm (Ct hm)
      replace hB:=(((((((((((hB.st o0).st j0).st r0).st s0).st p0).st q0).st y0).st k0).st i0).st i8).st k8).st m8
      replace x4:=x4.st m8
      exact ret2 rfl (BH (cs:=[(.int .i64 k2.1.verdict),(.slice e6 k2.1.plan.length f6),(.int .i64 k2.1.cost),(.int .i64 k2.1.expanded)]) rfl rfl h0.1.cellsAt) (AA rfl) ⟨hB.ext,_,_,rfl,(Vb.mono (F:=Fr 0 l8 j8) (Vb.ofAgg (cs:=[(.int .i64 k2.1.verdict),(.slice e6 k2.1.plan.length f6),(.int .i64 k2.1.cost),(.int .i64 k2.1.expanded)]) (x:=k2.1) rfl ⟨_,rfl,x4,cD,dD,eD⟩) hB.out),(vErr fD)⟩
   ·
    replace f0:=im f0 g5
    refine o_z ?_
    refine Ae rfl (CZ ?_)
    replace w2:=w2.st j0
    replace v2:=v2.st j0
    obtain ⟨dM,n8,cF,dF,eM⟩:=BxR.shut (x:=l2.2.2.2.2.2) (l0:=8) (l1:=9) (by decide) w2 v2
    obtain rfl:=sm f0
    refine (?_:Exists _)
    exact ⟨_,((o2.1.1,o2.1.2),(o2.2.1,o2.2.2)),f5 _ rfl,⟨rfl,rfl,trivial⟩,_,((hB.st o0).st j0).st n8,((h0.st o0).st j0).st n8,j4,g3⟩
  replace hB:=(((((((hB.st d5).st z4).st x3).st f4).st y3).st u3).st f3).st v3
  replace h0:=(((((h0.st x3).st f4).st y3).st u3).st f3).st v3
  rintro fM gM ⟨hM,iM,rfl,o8,gD,hB,h0,j4,g3⟩
  replace hm:=AX hm
  refine AN _ o8 ?_
  refine Al (Aj (Am rfl rfl ?_))
  obtain ⟨b2,hD,hm⟩:=bs hm
  refine DQ (O:=gD) (R:=fun w' F v=>T2 w' F v b2) (Fj Fr.lt (show inI64 (2) from by decide) g3 hD) rfl rfl fun jM kM p8 q8 iD=>?_
  obtain ⟨lM,mM,rfl,jD,kD⟩:=iD
  obtain ⟨eF,rfl,nM,rfl,y4,lD,mD,nD⟩:=jD
  obtain ⟨g6,h6,rfl⟩:=y4.form
  obtain ⟨rfl,oD⟩:=kD.err
  refine Bp rfl rfl rfl (Bp rfl rfl rfl ?_)
  replace h0:=h0.st q8
  refine AO h0 rfl rfl rfl (Nat.le_of_ble_eq_true rfl) (by first|exact allOne rfl|simp [Value.cells,Value.oneCell',AH]) fun r8 s8 h0=>?_
  replace h0:Lc 3 r8 p8 u2 32 [(.int .i64 b2.1.verdict),(.slice g6 b2.1.plan.length h6),(.int .i64 b2.1.cost),(.int .i64 b2.1.expanded)]:=h0
  refine Ar rfl rfl (o_z ?_)
  refine AF ?_
  obtain rfl:=sm hm
  replace hB:=(hB.st q8).st s8
  replace y4:=y4.st s8
  exact ret2 rfl (BH (cs:=[(.int .i64 b2.1.verdict),(.slice g6 b2.1.plan.length h6),(.int .i64 b2.1.cost),(.int .i64 b2.1.expanded)]) rfl rfl h0.1.cellsAt) (AA rfl) ⟨hB.ext,_,_,rfl,(Vb.mono (F:=Fr 0 r8 p8) (Vb.ofAgg (cs:=[(.int .i64 b2.1.verdict),(.slice g6 b2.1.plan.length h6),(.int .i64 b2.1.cost),(.int .i64 b2.1.expanded)]) (x:=b2.1) rfl ⟨_,rfl,y4,lD,mD,nD⟩) hB.out),(vErr oD)⟩
end
section
open Go Go.RowKit
attribute [local irreducible] ewp owp hwp hwq hws Ev Evg Fn retPost loud loudS Res1
noncomputable def Dq (x0:List ByteArray) (x1:List ByteArray):Option Int :=
  bnd (chkI ((x1.length:Int) + 1)) fun n9=>bnd (mkI 8 (0:Int) n9) fun u12=>bnd (rngN (ρ:=Int) (fun (k31:Nat) (s29:(List Int))=>bnd (s29[k31]?) fun a50=>some (.next (s29.set k31 (k31:Int)))) u12.length u12) fun res27=>fin res27 fun (s66:(List Int))=>bnd (rng (ρ:=Int) (fun (k74:Nat) (a75:ByteArray) (s72:(List Int))=>bnd (chkI ((x1.length:Int) + 1)) fun n99=>bnd (mkI 8 (0:Int) n99) fun u102=>bnd (chkI ((k74:Int) + 1)) fun n115=>bnd (atI u102 0) fun a118=>bnd (rng (ρ:=Ctl (List Int) Int) (fun (k138:Nat) (a139:ByteArray) (s136:(List Int))=>bnd (chkI ((k138:Int) + 1)) fun n161=>bnd (s136[k138]?) fun a164=>bnd (chkI ((k138:Int) + 1)) fun n174=>bnd (atI s72 n174) fun a177=>bnd (chkI ((min a164 a177) + 1)) fun n189=>bnd (atI s136 n161) fun a192=>if a75=a139 then (bnd (chkI ((k138:Int) + 1)) fun n207=>bnd (chkI ((k138:Int) + 1)) fun n210=>bnd (atI (s136.set (n161:Int).toNat n189) n210) fun a213=>bnd (s72[k138]?) fun a225=>bnd (atI (s136.set (n161:Int).toNat n189) n207) fun a235=>some (.next ((s136.set (n161:Int).toNat n189).set (n207:Int).toNat (min a213 a225)))) else (some (.next (s136.set (n161:Int).toNat n189)))) x1 0 (u102.set (0:Int).toNat n115)) fun res134=>fin res134 fun (s253:(List Int))=>some (.next s253)) x0 0 s66) fun res70=>fin res70 fun (s261:(List Int))=>bnd (s261[x1.length]?) fun a265=>some a265
theorem IK {w:World} {A:Nat→Prop} (hA:∀ k,A k→k < w.heap.size) {vx0:Value} {x0:List ByteArray} (d0:Vb w A vx0 x0) {vx1:Value} {x1:List ByteArray} (b0:Vb w A vx1 x1) {r:Int} (hm:Dq x0 x1=some r) :
    Fn Tryz.prog 32 [vx0,vx1] w fun v w'=>Ext w w'∧Vb w' (upA A w w') v r:=by
 obtain ⟨O,hB,d5⟩:=enter hA
 replace d0:=d0.mono d5
 obtain ⟨A3,c4,rfl⟩:=d0.form
 replace b0:=b0.mono d5
 obtain ⟨A5,c6,rfl⟩:=b0.form
 refine AD Tryz.func32 rfl Tryz.ntmps32 rfl ?_
 unfold Dq at hm
 refine Al (Aj (Ar rfl rfl (o_z ?_)))
 refine Al (Aj (Am rfl rfl (AP rfl rfl ?_)))
 have l8:x1.length≤9223372036854775807:=Nat.le_trans b0.len.2.1 b0.len.2.2
 have r7:inI64 (x1.length:Int):=rngNat l8
 obtain ⟨n9,e5,hm⟩:=bs hm
 have u8:=(Bu e5)
 refine EH (he:=e5) rfl rfl rfl ?_
 obtain ⟨y0,w5,hm⟩:=bs hm
 obtain ⟨h1,x5,y5,z5,a6⟩:=Hu w5
 refine Jx 2 (by decide) O (z0:=(0:Int)) rfl rfl rfl rfl rfl x5 (vInt (show inI64 0 from by decide)) y5 z5 rfl fun i1 v8 b6 f1 b3=>?_
 rw [← a6] at b3 ⊢
 refine Ar rfl rfl (o_z ?_)
 refine Al (Al (Aj (Am rfl rfl (AP rfl rfl ?_))))
 have f3:y0.length≤9223372036854775807:=Nat.le_trans b3.len.2.1 b3.len.2.2
 have w8:inI64 (y0.length:Int):=rngNat f3
 refine Am rfl rfl (o_z ?_)
 obtain ⟨j1,g3,hm⟩:=bs hm
 refine AK (aft j1 (fun (g1:(List Int)) (c3:Unit)=>[(0,(.slice A3 x0.length c4)),(1,(.slice A5 x1.length c6)),(5,(.slice (some ⟨i1,0,none⟩) y0.length h1))]) (fun g1 c3 w'=>∃ O':Lab,Bs w A w' O'∧Vb w' (Fr 0 w' O') (.slice A3 x0.length c4) x0∧Vb w' (Fr 0 w' O') (.slice A5 x1.length c6) x1∧Rw 2 w' O' 3 (.slice (some ⟨i1,0,none⟩) y0.length h1) g1)) ?_ ?_
 ·
  refine AM ?_
  replace d0:=d0.st f1
  replace hB:=hB.st f1
  replace b0:=b0.st f1
  refine Hv (σ:=(List Int)) (X:=Unit) (y0.length) g3 f3 (fun (g1:(List Int)) (c3:Unit)=>[(0,(.slice A3 x0.length c4)),(1,(.slice A5 x1.length c6)),(5,(.slice (some ⟨i1,0,none⟩) y0.length h1))]) _ (fun g1 c3 w'=>∃ O':Lab,Bs w A w' O'∧Vb w' (Fr 0 w' O') (.slice A3 x0.length c4) x0∧Vb w' (Fr 0 w' O') (.slice A5 x1.length c6) x1∧Rw 2 w' O' 3 (.slice (some ⟨i1,0,none⟩) y0.length h1) g1) _ () ⟨b6,hB,d0,b0,b3⟩ ⟨rfl,rfl,rfl,rfl,rfl,trivial⟩ (fun _ _=>⟨rfl,rfl⟩) (fun _ _=>⟨rfl,rfl,rfl,trivial⟩) (fun _ _ _ ⟨O',hB,d0,b0,m0⟩=>⟨O',hB,d0,b0,m0⟩) ⟨rfl,rfl,rfl⟩ ⟨rfl,rfl⟩ ?_
  rintro f5 g1 c3 x8 d6 h3 ⟨y8,hB,d0,b0,m0⟩ a1 i3 j3
  have rk31:inI64 (f5:Int):=rngKN h3 f3
  refine Al (Aj (Am rfl rfl (Ar rfl rfl (o_z ?_))))
  refine Aj (Am rfl rfl (Am rfl rfl (Am rfl rfl ?_)))
  obtain ⟨z8,g5,a1⟩:=bs a1
  obtain ⟨a9,b9,e6,k1,k3,f6,rfl,c9⟩:=m0.elem g5
  refine Bl (hA:=k1) (hj:=rfl) (hlt:=k3) rfl rfl rfl ?_
  refine Do rfl m0 (a:=(f5:Int)) (vInt rk31) k1 rfl rfl (Bn g5) fun d9 l3 m0=>?_
  refine o_z ?_
  obtain rfl:=sm a1
  refine (?_:Exists _)
  exact ⟨_,(),rfl,⟨rfl,rfl,rfl,rfl,rfl,trivial⟩,_,hB.st l3,d0.st l3,b0.st l3,m0⟩
 replace d0:=d0.st f1
 replace hB:=hB.st f1
 replace b0:=b0.st f1
 rintro e9 f9 ⟨g9,h9,rfl,m3,i9,hB,d0,b0,m0⟩
 replace hm:=AX hm
 refine AN _ m3 ?_
 refine Al (Al (Aj (Am rfl rfl (AP rfl rfl ?_))))
 have n3:x0.length≤9223372036854775807:=Nat.le_trans d0.len.2.1 d0.len.2.2
 have j9:inI64 (x0.length:Int):=rngNat n3
 refine Am rfl rfl (o_z ?_)
 obtain ⟨l1,o3,hm⟩:=bs hm
 refine AK (aft l1 (fun (i0:(List Int)) (g0:(Option Addr×Nat))=>[(1,(.slice A5 x1.length c6)),(5,(.slice g0.1 i0.length g0.2))]) (fun i0 g0 w'=>∃ O':Lab,Bs w A w' O'∧Vb w' (Fr 0 w' O') (.slice A5 x1.length c6) x1∧Vb w' (Fr 0 w' O') (.slice g0.1 i0.length g0.2) i0)) ?_ ?_
 ·
  refine AM ?_
  obtain ⟨g6,p3,m0⟩:=m0.freeze
  replace d0:=d0.st p3
  replace hB:=hB.st p3
  replace b0:=b0.st p3
  refine Bw (σ:=(List Int)) (X:=(Option Addr×Nat)) (x0.length) o3 rfl n3 (fun (i0:(List Int)) (g0:(Option Addr×Nat))=>[(1,(.slice A5 x1.length c6)),(5,(.slice g0.1 i0.length g0.2)),(26,(.slice A3 x0.length c4))]) _ (fun i0 g0 w'=>∃ O':Lab,Bs w A w' O'∧Vb w' (Fr 0 w' O') (.slice A5 x1.length c6) x1∧Vb w' (Fr 0 w' O') (.slice g0.1 i0.length g0.2) i0∧Vb w' (Fr 0 w' O') (.slice A3 x0.length c4) x0) _ ((some ⟨i1,0,none⟩),h1) ⟨g6,hB,b0,m0.relen,d0⟩ ⟨rfl,rfl,rfl,(congrArg (fun n=>some (Value.slice _ n _)) m0.len.1.symm.symm),rfl,trivial⟩ (fun _ _=>⟨rfl,rfl⟩) (fun _ _=>⟨rfl,rfl,trivial⟩) (fun _ _ _ ⟨O',hB,b0,h0,d0⟩=>⟨O',hB,b0,h0⟩) ⟨rfl,rfl,rfl⟩ ⟨rfl,rfl⟩ ?_
  rintro q3 h6 i0 g0 k9 i6 m1 ⟨j6,hB,b0,h0,d0⟩ e0 r3 s3
  have rk74:inI64 (q3:Int):=rngK m1 n3
  refine Al (Aj (Am rfl rfl ?_))
  obtain ⟨l9,m9,k6,t3,u3,v3,rfl,o9⟩:=d0.elem' m1
  refine Bl (hA:=t3) (hj:=rfl) (hlt:=u3) rfl rfl rfl ?_
  refine AC (hc:=cat0 v3) rfl rfl ?_
  refine Ar rfl rfl (Ar rfl rfl (o_z ?_))
  refine Al (Aj (Am rfl rfl (AP rfl rfl ?_)))
  have l6:x1.length≤9223372036854775807:=Nat.le_trans b0.len.2.1 b0.len.2.2
  have p9:inI64 (x1.length:Int):=rngNat l6
  obtain ⟨q9,n1,e0⟩:=bs e0
  have m6:=(Bu n1)
  refine EH (he:=n1) rfl rfl rfl ?_
  obtain ⟨q0,w3,e0⟩:=bs e0
  obtain ⟨n0,x3,y3,z3,a4⟩:=Hu w3
  refine Jx 3 (by decide) j6 (z0:=(0:Int)) rfl rfl rfl rfl rfl x3 (vInt (show inI64 0 from by decide)) y3 z3 rfl fun o0 n6 b4 j0 p0=>?_
  rw [← a4] at p0 ⊢
  refine Ar rfl rfl (o_z ?_)
  refine Al (Aj (Am rfl rfl (Am rfl rfl ?_)))
  obtain ⟨d4,o1,e0⟩:=bs e0
  have e4:=(Bu o1)
  refine EH (he:=o1) rfl rfl rfl ?_
  obtain ⟨o6,f4,e0⟩:=bs e0
  obtain ⟨g4,p1⟩:=AS f4
  obtain ⟨p6,q6,h5,t0,q1,i5,rfl,r6⟩:=p0.elem p1
  refine Bl (hA:=t0) (hj:=(Int.toNat_of_nonneg g4).symm) (hlt:=q1) rfl rfl rfl ?_
  refine Do rfl p0 (a:=d4) (vInt e4) t0 rfl rfl (Bn p1) fun s6 k0 p0=>?_
  refine o_z ?_
  refine Al (Al (Aj (Am rfl rfl (AP rfl rfl ?_))))
  replace b0:=(b0.st j0).st k0
  have b1:x1.length≤9223372036854775807:=Nat.le_trans b0.len.2.1 b0.len.2.2
  have t6:inI64 (x1.length:Int):=rngNat b1
  refine Am rfl rfl (o_z ?_)
  obtain ⟨c1,r1,e0⟩:=bs e0
  refine AK (aft c1 (fun (l0:(List Int)) (r0:Unit)=>[(1,(.slice A5 x1.length c6)),(9,(.slice (some ⟨o0,0,none⟩) q0.length n0)),(26,(.slice A3 x0.length c4)),(27,(.int .i64 (x0.length:Int))),(28,(.int .i64 (q3:Int)))]) (fun l0 r0 w'=>∃ O':Lab,Bs w A w' O'∧Vb w' (Fr 0 w' O') (.slice A5 x1.length c6) x1∧Rw 3 w' O' 3 (.slice (some ⟨o0,0,none⟩) q0.length n0) l0∧Vb w' (Fr 0 w' O') (.slice A3 x0.length c4) x0)) ?_ ?_
  ·
   refine AM ?_
   replace d0:=(d0.st j0).st k0
   replace hB:=(hB.st j0).st k0
   replace h0:=(h0.st j0).st k0
   refine Bw (σ:=(List Int)) (X:=Unit) (x1.length) r1 rfl b1 (fun (l0:(List Int)) (r0:Unit)=>[(1,(.slice A5 x1.length c6)),(5,(.slice g0.1 i0.length g0.2)),(8,(.string h6)),(9,(.slice (some ⟨o0,0,none⟩) q0.length n0)),(26,(.slice A3 x0.length c4)),(27,(.int .i64 (x0.length:Int))),(28,(.int .i64 (q3:Int))),(41,(.slice A5 x1.length c6))]) _ (fun l0 r0 w'=>∃ O':Lab,Bs w A w' O'∧Vb w' (Fr 0 w' O') (.slice A5 x1.length c6) x1∧Vb w' (Fr 0 w' O') (.slice g0.1 i0.length g0.2) i0∧Rw 3 w' O' 3 (.slice (some ⟨o0,0,none⟩) q0.length n0) l0∧Vb w' (Fr 0 w' O') (.slice A3 x0.length c4) x0) _ () ⟨b4,hB,b0,h0,p0,d0⟩ ⟨rfl,rfl,rfl,rfl,rfl,rfl,rfl,rfl,rfl,rfl,trivial⟩ (fun _ _=>⟨rfl,rfl⟩) (fun _ _=>⟨rfl,rfl,rfl,rfl,rfl,trivial⟩) (fun _ _ _ ⟨O',hB,b0,h0,c0,d0⟩=>⟨O',hB,b0,c0,d0⟩) ⟨rfl,rfl,rfl⟩ ⟨rfl,rfl⟩ ?_
   rintro h4 u6 l0 r0 v6 j5 u0 ⟨s1,hB,b0,h0,c0,d0⟩ a0 d3 e3
   have rk138:inI64 (h4:Int):=rngK u0 b1
   refine Al (Aj (Am rfl rfl ?_))
   obtain ⟨w6,x6,k5,t1,u1,v1,rfl,y6⟩:=b0.elem' u0
   refine Bl (hA:=t1) (hj:=rfl) (hlt:=u1) rfl rfl rfl ?_
   refine AC (hc:=cat0 v1) rfl rfl ?_
   refine Ar rfl rfl (Ar rfl rfl (o_z ?_))
   refine Al (BD [] s1 ?_)
   refine Ba (fuel:=1) [] [(0,true),(1,true),(2,true),(3,true),(4,true),(5,true),(6,true),(7,true),(8,true),(9,true),(10,true),(11,true),(12,true),(13,true),(14,true)] (by kernel_rfl) rfl ?_
   refine AI rfl rfl rfl (AI rfl rfl rfl ?_)
   obtain ⟨z6,w1,a0⟩:=bs a0
   have a7:=(Bu w1)
   refine GS (he:=w1) rfl rfl rfl rfl ?_
   refine AI rfl rfl rfl (AI rfl rfl rfl ?_)
   obtain ⟨b7,i4,a0⟩:=bs a0
   obtain ⟨c7,d7,l5,y1,z1,a2,b2,rfl,e7⟩:=c0.elemF i4
   refine BU (hA:=y1) (hj:=rfl) (hlt:=a2) rfl rfl rfl rfl ?_
   refine Bc (hc:=fun w' ⟨O',hq⟩=>cat0 (Bo (hq.agree (i:=3) (by decide)) z1 b2)) rfl rfl rfl ?_
   refine AI rfl rfl rfl (AI rfl rfl rfl ?_)
   obtain ⟨f7,c2,a0⟩:=bs a0
   have g7:=(Bu c2)
   refine GS (he:=c2) rfl rfl rfl rfl ?_
   obtain ⟨h7,j4,a0⟩:=bs a0
   obtain ⟨k4,l4⟩:=AS j4
   obtain ⟨i7,j7,m5,d2,e2,f2,g2,rfl,k7⟩:=h0.elem l4
   refine BU (hA:=d2) (hj:=(Int.toNat_of_nonneg k4).symm) (hlt:=f2) rfl rfl rfl rfl ?_
   refine Bc (hc:=fun w' ⟨O',hq⟩=>cat0 (Bo (hq.agree (i:=0) (by decide)) e2 g2)) rfl rfl rfl ?_
   refine MT rfl rfl rfl rfl ?_
   obtain ⟨m4,h2,a0⟩:=bs a0
   have n4:=(Bu h2)
   refine GS (he:=h2) rfl rfl rfl rfl ?_
   obtain ⟨l7,o4,a0⟩:=bs a0
   obtain ⟨p4,i2⟩:=AS o4
   obtain ⟨m7,n7,n5,v0,o5,j2,p5,rfl,o7⟩:=c0.elemF i2
   refine BU (hA:=v0) (hj:=(Int.toNat_of_nonneg p4).symm) (hlt:=j2) rfl rfl rfl rfl ?_
   refine AL ?_
   refine Bb (i:=15) (by kernel_rfl) rfl ?_
   refine Do rfl c0 (a:=m4) (vInt n4) v0 rfl rfl (Bn i2) fun p7 f0 c0=>?_
   refine El (by kernel_rfl) ?_
   refine Cm (by kernel_rfl) ?_
   refine Al (Aj (Am rfl rfl (Am rfl rfl (KA rfl rfl rfl (fun d1=>?_) fun d1=>?_))))
   ·
    replace a0:=ip a0 d1
    refine o_z ?_
    refine Ah rfl (BD [] s1 ?_)
    refine Ba (fuel:=1) [] [(0,true),(1,true),(2,true),(3,true),(4,true),(5,true),(6,true),(7,true),(8,true),(9,true),(10,true),(11,true),(12,true),(13,true)] (by kernel_rfl) rfl ?_
    refine AI rfl rfl rfl (AI rfl rfl rfl ?_)
    obtain ⟨q7,k2,a0⟩:=bs a0
    have s7:=(Bu k2)
    refine GS (he:=k2) rfl rfl rfl rfl ?_
    refine AI rfl rfl rfl (AI rfl rfl rfl ?_)
    obtain ⟨t7,l2,a0⟩:=bs a0
    have u7:=(Bu l2)
    refine GS (he:=l2) rfl rfl rfl rfl ?_
    obtain ⟨q4,r4,a0⟩:=bs a0
    obtain ⟨s4,t4⟩:=AS r4
    obtain ⟨v7,w7,q5,m2,n2,o2,p2,rfl,u4⟩:=c0.elemF t4
    refine BU (hA:=m2) (hj:=(Int.toNat_of_nonneg s4).symm) (hlt:=o2) rfl rfl rfl rfl ?_
    refine Bc (hc:=fun w' ⟨O',hq⟩=>cat0 (Bo (hq.agree (i:=3) (by decide)) n2 p2)) rfl rfl rfl ?_
    refine AI rfl rfl rfl (AI rfl rfl rfl ?_)
    obtain ⟨v4,w4,a0⟩:=bs a0
    replace h0:=h0.st f0
    obtain ⟨x7,y7,r5,q2,r2,s2,t2,rfl,x4⟩:=h0.elem w4
    refine BU (hA:=q2) (hj:=rfl) (hlt:=s2) rfl rfl rfl rfl ?_
    refine Bc (hc:=fun w' ⟨O',hq⟩=>cat0 (Bo (hq.agree (i:=0) (by decide)) r2 t2)) rfl rfl rfl ?_
    refine MT rfl rfl rfl rfl ?_
    obtain ⟨z7,y4,a0⟩:=bs a0
    obtain ⟨z4,u2⟩:=AS y4
    obtain ⟨a8,b8,s5,w0,t5,v2,u5,rfl,c8⟩:=c0.elemF u2
    refine BU (hA:=w0) (hj:=(Int.toNat_of_nonneg z4).symm) (hlt:=v2) rfl rfl rfl rfl ?_
    refine AL ?_
    refine Bb (i:=14) (by kernel_rfl) rfl ?_
    refine Do rfl c0 (a:=(min q4 v4)) (vInt (rngMin u4 x4)) w0 rfl rfl (Bn u2) fun d8 s0 c0=>?_
    refine El (by kernel_rfl) ?_
    refine Cm (by kernel_rfl) ?_
    obtain rfl:=sm a0
    refine (?_:Exists _)
    exact ⟨_,(),rfl,⟨rfl,rfl,rfl,rfl,rfl,rfl,rfl,rfl,rfl,rfl,trivial⟩,_,(hB.st f0).st s0,(b0.st f0).st s0,h0.st s0,c0,(d0.st f0).st s0⟩
   ·
    replace a0:=im a0 d1
    refine o_z ?_
    refine Ae rfl (AJ ?_)
    obtain rfl:=sm a0
    refine (?_:Exists _)
    exact ⟨_,(),rfl,⟨rfl,rfl,rfl,rfl,rfl,rfl,rfl,rfl,rfl,rfl,trivial⟩,_,hB.st f0,b0.st f0,h0.st f0,c0,d0.st f0⟩
  replace d0:=(d0.st j0).st k0
  replace hB:=(hB.st j0).st k0
  rintro e8 f8 ⟨g8,h8,rfl,w2,i8,hB,b0,c0,d0⟩
  replace e0:=AX e0
  refine AN _ w2 ?_
  refine Aj (Am rfl rfl (Ar rfl rfl (o_z ?_)))
  obtain ⟨j8,e1,c0⟩:=c0.freeze
  obtain rfl:=sm e0
  refine (?_:Exists _)
  exact ⟨_,((some ⟨o0,0,none⟩),n0),rfl,⟨rfl,rfl,rfl,(congrArg (fun n=>some (Value.slice _ n _)) c0.len.1.symm.symm),rfl,trivial⟩,_,hB.st e1,b0.st e1,c0.relen,d0.st e1⟩
 rintro k8 m8 ⟨n8,o8,rfl,x2,p8,hB,b0,h0⟩
 replace hm:=AX hm
 refine AN _ x2 ?_
 refine Al (Aj (Am rfl rfl (Am rfl rfl (AP rfl rfl ?_))))
 have a5:x1.length≤9223372036854775807:=Nat.le_trans b0.len.2.1 b0.len.2.2
 have q8:inI64 (x1.length:Int):=rngNat a5
 obtain ⟨r8,b5,hm⟩:=bs hm
 obtain ⟨s8,t8,v5,y2,z2,a3,rfl,c5⟩:=h0.elem' b5
 refine Bl (hA:=y2) (hj:=rfl) (hlt:=z2) rfl rfl rfl ?_
 refine AC (hc:=cat0 a3) rfl rfl ?_
 refine Ar rfl rfl (o_z ?_)
 refine AF ?_
 obtain rfl:=sm hm
 exact ret1v rfl (AA rfl) ⟨hB.ext,(vInt c5)⟩
noncomputable def EQ (x0:List ByteArray):Option Bool :=
  bnd (rng (ρ:=Bool) (fun (k12:Nat) (a13:ByteArray) (s10:Int)=>some (.next (wr (s10 + (a13.size:Int))))) x0 0 (x0.length:Int)) fun res8=>fin res8 fun (s38:Int)=>bnd (if 600 < s38 then (some true) else (some false):Option Bool) fun y40=>some y40
theorem Lg {w:World} {A:Nat→Prop} (hA:∀ k,A k→k < w.heap.size) {vx0:Value} {x0:List ByteArray} (b0:Vb w A vx0 x0) {r:Bool} (hm:EQ x0=some r) :
    Fn Tryz.prog 9 [vx0] w fun v w'=>Ext w w'∧Vb w' (upA A w w') v r:=by
 obtain ⟨O,hB,q0⟩:=enter hA
 replace b0:=b0.mono q0
 obtain ⟨A2,c3,rfl⟩:=b0.form
 refine AD Tryz.func9 rfl Tryz.ntmps9 rfl ?_
 unfold EQ at hm
 refine Al (Aj (Ar rfl rfl (o_z ?_)))
 refine Al (Aj (Am rfl rfl (AP rfl rfl ?_)))
 have l5:x0.length≤9223372036854775807:=Nat.le_trans b0.len.2.1 b0.len.2.2
 have r4:inI64 (x0.length:Int):=rngNat l5
 refine Ar rfl rfl (o_z ?_)
 refine Al (Al (Aj (Am rfl rfl (AP rfl rfl ?_))))
 have l7:x0.length≤9223372036854775807:=Nat.le_trans b0.len.2.1 b0.len.2.2
 have r6:inI64 (x0.length:Int):=rngNat l7
 refine Am rfl rfl (o_z ?_)
 obtain ⟨f0,r0,hm⟩:=bs hm
 refine AK (aft f0 (fun (c0:Int) (e0:Unit)=>[(3,(.int .i64 c0))]) (fun c0 e0 w'=>∃ O':Lab,Bs w A w' O'∧inI64 c0)) ?_ ?_
 ·
  refine AM (Bw (σ:=Int) (X:=Unit) (x0.length) r0 rfl l7 (fun (c0:Int) (e0:Unit)=>[(3,(.int .i64 c0)),(8,(.slice A2 x0.length c3))]) _ (fun c0 e0 w'=>∃ O':Lab,Bs w A w' O'∧Vb w' (Fr 0 w' O') (.slice A2 x0.length c3) x0∧inI64 c0) _ () ⟨O,hB,b0,r4⟩ ⟨rfl,rfl,rfl,rfl,trivial⟩ (fun _ _=>⟨rfl,rfl⟩) (fun _ _=>⟨rfl,trivial⟩) (fun _ _ _ ⟨O',hB,b0,g0⟩=>⟨O',hB,g0⟩) ⟨rfl,rfl,rfl⟩ ⟨rfl,rfl⟩ ?_)
  rintro s0 t0 c0 e0 a1 u0 d0 ⟨b1,hB,b0,g0⟩ h0 i0 j0
  have rk12:inI64 (s0:Int):=rngK d0 l7
  refine Al (Aj ?_)
  obtain ⟨c1,d1,v0,k0,l0,m0,rfl,w0⟩:=b0.elem' d0
  refine Bl (hA:=k0) (hj:=rfl) (hlt:=l0) rfl rfl rfl ?_
  refine AC (hc:=cat0 m0) rfl rfl ?_
  refine Ar rfl rfl (o_z ?_)
  refine Aj (Am rfl rfl (Am rfl rfl (JS rfl rfl ?_)))
  have e1:inI64 (t0.size:Int):=rngNat w0
  refine OG rfl rfl rfl ?_
  refine Ar rfl rfl (o_z ?_)
  obtain rfl:=sm h0
  refine (?_:Exists _)
  exact ⟨_,(),rfl,⟨rfl,rfl,rfl,rfl,trivial⟩,_,hB,b0,(Mk _)⟩
 rintro f1 g1 ⟨h1,i1,rfl,n0,j1,hB,g0⟩
 replace hm:=AX hm
 refine AN _ n0 ?_
 refine Al ?_
 obtain ⟨y0,a0,hm⟩:=bs hm
 refine AK (fun l' w'=>∃ (z0:Unit) (O':Lab),subs l' [(2,(.bool y0))]∧Bs w A w' O') ?_ ?_
 ·
  refine Aj (Am rfl rfl (Cl rfl rfl rfl (fun o0=>?_) fun o0=>?_))
  ·
   replace a0:=ip a0 o0
   refine Ar rfl rfl (o_z ?_)
   obtain rfl:=sm a0
   exact ⟨(),_,⟨rfl,trivial⟩,hB⟩
  ·
   replace a0:=im a0 o0
   refine Ar rfl rfl (o_z ?_)
   obtain rfl:=sm a0
   exact ⟨(),_,⟨rfl,trivial⟩,hB⟩
 rintro k1 l1 ⟨z0,m1,p0,hB⟩
 refine AN _ p0 ?_
 refine AF ?_
 obtain rfl:=sm hm
 exact ret1v rfl (AA rfl) ⟨hB.ext,vBool⟩
end
section
open Go Go.RowKit
attribute [local irreducible] ewp owp hwp hwq hws Ev Evg Fn retPost loud loudS Res1
noncomputable def Ew (x0:Tsk):Option Bool :=
  bnd (if 64 < (x0.vars.length:Int) then (some true) else (if 4096 < (x0.ops.length:Int) then (some true) else (if 64 < (x0.goal.length:Int) then (some true) else (some false))):Option Bool) fun y24=>bnd (rng (ρ:=Bool) (fun (k47:Nat) (a48:Opr) (s45:Bool)=>bnd (if s45=true then (some true) else (if 64 < (a48.pre.length:Int) then (some true) else (if 64 < (a48.effs.length:Int) then (some true) else (some false))):Option Bool) fun y82=>bnd (rng (ρ:=Ctl Bool Bool) (fun (k103:Nat) (a104:Eff) (s101:Bool)=>if s101=true then (some (.next true)) else (if 64 < (a104.cond.length:Int) then (some (.next true)) else (some (.next false)))) a48.effs 0 y82) fun res99=>fin res99 fun (s142:Bool)=>some (.next s142)) x0.ops 0 y24) fun res43=>fin res43 fun (s148:Bool)=>some s148
theorem Kx {w:World} {A:Nat→Prop} (hA:∀ k,A k→k < w.heap.size) {vx0:Value} {x0:Tsk} (t1:Vb w A vx0 x0) {r:Bool} (hm:Ew x0=some r) :
    Fn Tryz.prog 45 [vx0] w fun v w'=>Ext w w'∧Vb w' (upA A w w') v r:=by
 obtain ⟨O,hB,b3⟩:=enter hA
 replace t1:=t1.mono b3
 obtain ⟨n4,rfl,v3,v4,v5,v6,rfl,h7,a1,o0,b0⟩:=t1
 obtain ⟨A8,c9,rfl⟩:=h7.form
 obtain ⟨u1,v1,rfl⟩:=a1.form
 obtain ⟨w1,x1,rfl⟩:=o0.form
 obtain ⟨r0,s0,rfl⟩:=b0.form
 refine AD Tryz.func45 rfl Tryz.ntmps45 rfl ?_
 unfold Ew at hm
 refine Al (Aj (CD 2 O rfl rfl fun y1 c3 d3 i0 t0=>?_))
 replace t0:Lc 2 c3 d3 y1 26 [(.slice A8 x0.vars.length c9),(.slice u1 x0.init.length v1),(.slice w1 x0.goal.length x1),(.slice r0 x0.ops.length s0)]:=t0
 refine Ar rfl rfl (o_z ?_)
 refine Al ?_
 obtain ⟨e3,c0,hm⟩:=bs hm
 refine AK (fun l' w'=>∃ (f3:Unit) (O':Lab),subs l' [(1,(.pointer (some ⟨y1,0,none⟩))),(3,(.bool e3))]∧Bs w A w' O'∧Lc 2 w' O' y1 26 [(.slice A8 x0.vars.length c9),(.slice u1 x0.init.length v1),(.slice w1 x0.goal.length x1),(.slice r0 x0.ops.length s0)]∧Vb w' (Fr 0 w' O') (.slice A8 x0.vars.length c9) x0.vars∧Vb w' (Fr 0 w' O') (.slice u1 x0.init.length v1) x0.init∧Vb w' (Fr 0 w' O') (.slice w1 x0.goal.length x1) x0.goal∧Vb w' (Fr 0 w' O') (.slice r0 x0.ops.length s0) x0.ops) ?_ ?_
 ·
  refine Aj (AE rfl rfl (AC (hc:=Blk.cell (i:=0) (t0.1) rfl) rfl rfl ?_))
  refine AP rfl rfl ?_
  replace h7:=h7.st i0
  have g3:x0.vars.length≤9223372036854775807:=Nat.le_trans h7.len.2.1 h7.len.2.2
  have o4:inI64 (x0.vars.length:Int):=rngNat g3
  refine Cl rfl rfl rfl (fun z1=>?_) fun z1=>?_
  ·
   replace c0:=ip c0 z1
   refine Am rfl rfl (Au rfl rfl rfl rfl (Au rfl rfl rfl rfl (Au rfl rfl rfl rfl (Au rfl rfl rfl rfl (Be rfl rfl rfl (Am rfl rfl (Au rfl rfl rfl rfl (Au rfl rfl rfl rfl (Au rfl rfl rfl rfl (Au rfl rfl rfl rfl (Be rfl rfl rfl (Ar rfl rfl (o_z ?_)))))))))))))
   obtain rfl:=sm c0
   exact ⟨(),_,⟨rfl,rfl,trivial⟩,hB.st i0,t0,h7,a1.st i0,o0.st i0,b0.st i0⟩
  ·
   replace c0:=im c0 z1
   refine Am rfl rfl (Aw rfl rfl (AE rfl rfl (Aw rfl rfl (AC (hc:=Blk.cell (i:=3) (t0.1) rfl) rfl rfl ?_))))
   refine Aw rfl rfl (AP rfl rfl ?_)
   replace b0:=b0.st i0
   have h3:x0.ops.length≤9223372036854775807:=Nat.le_trans b0.len.2.1 b0.len.2.2
   have p4:inI64 (x0.ops.length:Int):=rngNat h3
   refine Aw rfl rfl (Cl rfl rfl rfl (fun a2=>?_) fun a2=>?_)
   ·
    replace c0:=ip c0 a2
    refine AU rfl rfl rfl (Am rfl rfl (Au rfl rfl rfl rfl (Au rfl rfl rfl rfl (Au rfl rfl rfl rfl (Au rfl rfl rfl rfl (Be rfl rfl rfl (Ar rfl rfl (o_z ?_))))))))
    obtain rfl:=sm c0
    exact ⟨(),_,⟨rfl,rfl,trivial⟩,hB.st i0,t0,h7,a1.st i0,o0.st i0,b0⟩
   ·
    replace c0:=im c0 a2
    refine AU rfl rfl rfl (Am rfl rfl (Aw rfl rfl (AE rfl rfl (Aw rfl rfl (AC (hc:=Blk.cell (i:=2) (t0.1) rfl) rfl rfl ?_)))))
    refine Aw rfl rfl (AP rfl rfl ?_)
    replace o0:=o0.st i0
    have i3:x0.goal.length≤9223372036854775807:=Nat.le_trans o0.len.2.1 o0.len.2.2
    have q4:inI64 (x0.goal.length:Int):=rngNat i3
    refine Aw rfl rfl (Cl rfl rfl rfl (fun b2=>?_) fun b2=>?_)
    ·
     replace c0:=ip c0 b2
     refine AU rfl rfl rfl (Ar rfl rfl (o_z ?_))
     obtain rfl:=sm c0
     exact ⟨(),_,⟨rfl,rfl,trivial⟩,hB.st i0,t0,h7,a1.st i0,o0,b0⟩
    ·
     replace c0:=im c0 b2
     refine AU rfl rfl rfl (Ar rfl rfl (o_z ?_))
     obtain rfl:=sm c0
     exact ⟨(),_,⟨rfl,rfl,trivial⟩,hB.st i0,t0,h7,a1.st i0,o0,b0⟩
 replace hB:=hB.st i0
 replace h7:=h7.st i0
 replace a1:=a1.st i0
 replace o0:=o0.st i0
 replace b0:=b0.st i0
 rintro r4 s4 ⟨f3,j3,c2,hB,t0,h7,a1,o0,b0⟩
 refine AN _ c2 ?_
 refine Al (Al (Aj (AE rfl rfl (AC (hc:=Blk.cell (i:=3) (t0.1) rfl) rfl rfl ?_))))
 refine AP rfl rfl ?_
 have d2:x0.ops.length≤9223372036854775807:=Nat.le_trans b0.len.2.1 b0.len.2.2
 have t4:inI64 (x0.ops.length:Int):=rngNat d2
 refine Am rfl rfl (o_z ?_)
 obtain ⟨e1,e2,hm⟩:=bs hm
 refine AK (aft e1 (fun (c1:Bool) (p1:Unit)=>[(3,(.bool c1))]) (fun c1 p1 w'=>∃ O':Lab,Bs w A w' O')) ?_ ?_
 ·
  refine AM (Bw (σ:=Bool) (X:=Unit) (x0.ops.length) e2 rfl d2 (fun (c1:Bool) (p1:Unit)=>[(3,(.bool c1)),(25,(.slice r0 x0.ops.length s0))]) _ (fun c1 p1 w'=>∃ O':Lab,Bs w A w' O'∧Vb w' (Fr 0 w' O') (.slice r0 x0.ops.length s0) x0.ops) _ () ⟨j3,hB,b0⟩ ⟨rfl,rfl,rfl,rfl,trivial⟩ (fun _ _=>⟨rfl,rfl⟩) (fun _ _=>⟨rfl,trivial⟩) (fun _ _ _ ⟨O',hB,b0⟩=>⟨O',hB⟩) ⟨rfl,rfl,rfl⟩ ⟨rfl,rfl⟩ ?_)
  rintro q1 e0 c1 p1 u4 k3 f1 ⟨l3,hB,b0⟩ l0 f2 g2
  have rk47:inI64 (q1:Int):=rngK f1 d2
  refine Al (Aj ?_)
  obtain ⟨w4,x4,m3,h2,i2,j2,y4,z4,rfl,p0,f0,a5,b5⟩:=b0.elem' f1
  obtain ⟨k2,l2,rfl⟩:=p0.form
  obtain ⟨g1,h1,rfl⟩:=f0.form
  refine Bl (hA:=h2) (hj:=rfl) (hlt:=i2) rfl rfl rfl ?_
  refine Bk (hl:=rfl) (hc:=j2) rfl rfl ?_
  refine Bv 3 l3 rfl fun m2 c5 n3 j0 q0=>?_
  refine AO q0 rfl rfl rfl (Nat.le_of_ble_eq_true rfl) (by first|exact allOne rfl|simp [Value.cells,Value.oneCell',AH]) fun o3 k0 q0=>?_
  replace q0:Lc 3 o3 n3 m2 67 [(.string e0.name),(.int .i64 e0.cost),(.slice k2 e0.pre.length l2),(.slice g1 e0.effs.length h1)]:=q0
  refine o_z ?_
  refine Al ?_
  obtain ⟨p3,d0,l0⟩:=bs l0
  refine AK (fun l' w'=>∃ (q3:Unit) (O':Lab),subs l' [(3,(.bool p3)),(5,(.pointer (some ⟨m2,0,none⟩))),(25,(.slice r0 x0.ops.length s0)),(26,(.int .i64 (x0.ops.length:Int))),(27,(.int .i64 (q1:Int)))]∧Bs w A w' O'∧Lc 3 w' O' m2 67 [(.string e0.name),(.int .i64 e0.cost),(.slice k2 e0.pre.length l2),(.slice g1 e0.effs.length h1)]∧Vb w' (Fr 0 w' O') (.slice k2 e0.pre.length l2) e0.pre∧Vb w' (Fr 0 w' O') (.slice g1 e0.effs.length h1) e0.effs∧Vb w' (Fr 0 w' O') (.slice r0 x0.ops.length s0) x0.ops) ?_ ?_
  ·
   refine Aj (Am rfl rfl (Am rfl rfl ?_))
   rcases Bool.eq_false_or_eq_true c1 with i1|i1
   ·
    try rw [i1]
    replace d0:=ip d0 i1
    refine Au rfl rfl rfl rfl (Au rfl rfl rfl rfl (Au rfl rfl rfl rfl (Au rfl rfl rfl rfl (Be rfl rfl rfl (Am rfl rfl (Au rfl rfl rfl rfl (Au rfl rfl rfl rfl (Au rfl rfl rfl rfl (Au rfl rfl rfl rfl (Be rfl rfl rfl (Ar rfl rfl (o_z ?_))))))))))))
    obtain rfl:=sm d0
    exact ⟨(),_,⟨rfl,rfl,rfl,rfl,rfl,trivial⟩,(hB.st j0).st k0,q0,(p0.st j0).st k0,(f0.st j0).st k0,(b0.st j0).st k0⟩
   ·
    try rw [i1]
    replace d0:=im' d0 i1
    refine Aw rfl rfl (AE rfl rfl (Aw rfl rfl (AC (hc:=Blk.cell (i:=2) (q0.1) rfl) rfl rfl ?_)))
    refine Aw rfl rfl (AP rfl rfl ?_)
    replace p0:=(p0.st j0).st k0
    have r3:e0.pre.length≤9223372036854775807:=Nat.le_trans p0.len.2.1 p0.len.2.2
    have d5:inI64 (e0.pre.length:Int):=rngNat r3
    refine Aw rfl rfl (Cl rfl rfl rfl (fun n2=>?_) fun n2=>?_)
    ·
     replace d0:=ip d0 n2
     refine AU rfl rfl rfl (Am rfl rfl (Au rfl rfl rfl rfl (Au rfl rfl rfl rfl (Au rfl rfl rfl rfl (Au rfl rfl rfl rfl (Be rfl rfl rfl (Ar rfl rfl (o_z ?_))))))))
     obtain rfl:=sm d0
     exact ⟨(),_,⟨rfl,rfl,rfl,rfl,rfl,trivial⟩,(hB.st j0).st k0,q0,p0,(f0.st j0).st k0,(b0.st j0).st k0⟩
    ·
     replace d0:=im d0 n2
     refine AU rfl rfl rfl (Am rfl rfl (Aw rfl rfl (AE rfl rfl (Aw rfl rfl (AC (hc:=Blk.cell (i:=3) (q0.1) rfl) rfl rfl ?_)))))
     refine Aw rfl rfl (AP rfl rfl ?_)
     replace f0:=(f0.st j0).st k0
     have s3:e0.effs.length≤9223372036854775807:=Nat.le_trans f0.len.2.1 f0.len.2.2
     have e5:inI64 (e0.effs.length:Int):=rngNat s3
     refine Aw rfl rfl (Cl rfl rfl rfl (fun o2=>?_) fun o2=>?_)
     ·
      replace d0:=ip d0 o2
      refine AU rfl rfl rfl (Ar rfl rfl (o_z ?_))
      obtain rfl:=sm d0
      exact ⟨(),_,⟨rfl,rfl,rfl,rfl,rfl,trivial⟩,(hB.st j0).st k0,q0,p0,f0,(b0.st j0).st k0⟩
     ·
      replace d0:=im d0 o2
      refine AU rfl rfl rfl (Ar rfl rfl (o_z ?_))
      obtain rfl:=sm d0
      exact ⟨(),_,⟨rfl,rfl,rfl,rfl,rfl,trivial⟩,(hB.st j0).st k0,q0,p0,f0,(b0.st j0).st k0⟩
  replace hB:=(hB.st j0).st k0
  replace b0:=(b0.st j0).st k0
  replace p0:=(p0.st j0).st k0
  replace f0:=(f0.st j0).st k0
  rintro f5 g5 ⟨q3,t3,p2,hB,q0,p0,f0,b0⟩
  refine AN _ p2 ?_
  refine Al (Aj (AE rfl rfl (AC (hc:=Blk.cell (i:=3) (q0.1) rfl) rfl rfl ?_)))
  refine AP rfl rfl ?_
  have q2:e0.effs.length≤9223372036854775807:=Nat.le_trans f0.len.2.1 f0.len.2.2
  have h5:inI64 (e0.effs.length:Int):=rngNat q2
  refine Am rfl rfl (o_z ?_)
  obtain ⟨j1,k1,l0⟩:=bs l0
  refine AK (aft j1 (fun (m0:Bool) (z0:Unit)=>[(3,(.bool m0)),(25,(.slice r0 x0.ops.length s0)),(26,(.int .i64 (x0.ops.length:Int))),(27,(.int .i64 (q1:Int)))]) (fun m0 z0 w'=>∃ O':Lab,Bs w A w' O'∧Vb w' (Fr 0 w' O') (.slice r0 x0.ops.length s0) x0.ops)) ?_ ?_
  ·
   refine AM (Bw (σ:=Bool) (X:=Unit) (e0.effs.length) k1 rfl q2 (fun (m0:Bool) (z0:Unit)=>[(3,(.bool m0)),(25,(.slice r0 x0.ops.length s0)),(26,(.int .i64 (x0.ops.length:Int))),(27,(.int .i64 (q1:Int))),(45,(.slice g1 e0.effs.length h1))]) _ (fun m0 z0 w'=>∃ O':Lab,Bs w A w' O'∧Vb w' (Fr 0 w' O') (.slice r0 x0.ops.length s0) x0.ops∧Vb w' (Fr 0 w' O') (.slice g1 e0.effs.length h1) e0.effs) _ () ⟨t3,hB,b0,f0⟩ ⟨rfl,rfl,rfl,rfl,rfl,rfl,rfl,trivial⟩ (fun _ _=>⟨rfl,rfl⟩) (fun _ _=>⟨rfl,rfl,rfl,rfl,trivial⟩) (fun _ _ _ ⟨O',hB,b0,f0⟩=>⟨O',hB,b0⟩) ⟨rfl,rfl,rfl⟩ ⟨rfl,rfl⟩ ?_)
   rintro r2 u0 m0 z0 u3 z2 b1 ⟨s2,hB,b0,f0⟩ a0 r1 s1
   have rk103:inI64 (r2:Int):=rngK b1 q2
   refine Al (Aj ?_)
   obtain ⟨w3,x3,a3,l1,m1,n1,y3,rfl,v0,z3,a4⟩:=f0.elem' b1
   obtain ⟨t2,u2,rfl⟩:=v0.form
   refine Bl (hA:=l1) (hj:=rfl) (hlt:=m1) rfl rfl rfl ?_
   refine Bk (hl:=rfl) (hc:=n1) rfl rfl ?_
   refine Bv 4 s2 rfl fun v2 b4 w2 g0 w0=>?_
   refine AO w0 rfl rfl rfl (Nat.le_of_ble_eq_true rfl) (by first|exact allOne rfl|simp [Value.cells,Value.oneCell',AH]) fun x2 h0 w0=>?_
   replace w0:Lc 4 x2 w2 v2 64 [(.slice t2 u0.cond.length u2),(.int .i64 u0.var),(.int .i64 u0.val)]:=w0
   refine o_z ?_
   refine Aj (Am rfl rfl (Am rfl rfl ?_))
   rcases Bool.eq_false_or_eq_true m0 with y0|y0
   ·
    try rw [y0]
    replace a0:=ip a0 y0
    refine Au rfl rfl rfl rfl (Au rfl rfl rfl rfl (Au rfl rfl rfl rfl (Au rfl rfl rfl rfl (Be rfl rfl rfl (Ar rfl rfl (o_z ?_))))))
    obtain rfl:=sm a0
    refine (?_:Exists _)
    exact ⟨_,(),rfl,⟨rfl,rfl,rfl,rfl,rfl,rfl,rfl,trivial⟩,_,(hB.st g0).st h0,(b0.st g0).st h0,(f0.st g0).st h0⟩
   ·
    try rw [y0]
    replace a0:=im' a0 y0
    refine Aw rfl rfl (AE rfl rfl (Aw rfl rfl (AC (hc:=Blk.cell (i:=0) (w0.1) rfl) rfl rfl ?_)))
    refine Aw rfl rfl (AP rfl rfl ?_)
    replace v0:=(v0.st g0).st h0
    have y2:u0.cond.length≤9223372036854775807:=Nat.le_trans v0.len.2.1 v0.len.2.2
    have c4:inI64 (u0.cond.length:Int):=rngNat y2
    refine Aw rfl rfl (Cl rfl rfl rfl (fun d1=>?_) fun d1=>?_)
    ·
     replace a0:=ip a0 d1
     refine AU rfl rfl rfl (Ar rfl rfl (o_z ?_))
     obtain rfl:=sm a0
     refine (?_:Exists _)
     exact ⟨_,(),rfl,⟨rfl,rfl,rfl,rfl,rfl,rfl,rfl,trivial⟩,_,(hB.st g0).st h0,(b0.st g0).st h0,(f0.st g0).st h0⟩
    ·
     replace a0:=im a0 d1
     refine AU rfl rfl rfl (Ar rfl rfl (o_z ?_))
     obtain rfl:=sm a0
     refine (?_:Exists _)
     exact ⟨_,(),rfl,⟨rfl,rfl,rfl,rfl,rfl,rfl,rfl,trivial⟩,_,(hB.st g0).st h0,(b0.st g0).st h0,(f0.st g0).st h0⟩
  rintro d4 e4 ⟨f4,g4,rfl,n0,h4,hB,b0⟩
  replace l0:=AX l0
  obtain rfl:=sm l0
  refine (?_:Exists _)
  exact ⟨_,(),rfl,⟨(BK n0 _ _ rfl),(BK n0 _ _ rfl),(BK n0 _ _ rfl),(BK n0 _ _ rfl),trivial⟩,_,hB,b0⟩
 rintro i4 j4 ⟨k4,l4,rfl,o1,m4,hB⟩
 replace hm:=AX hm
 refine AN _ o1 ?_
 refine Al (Aj (Am rfl rfl (Ar rfl rfl (o_z ?_))))
 refine AF ?_
 obtain rfl:=sm hm
 exact ret1v rfl (AA rfl) ⟨hB.ext,vBool⟩
noncomputable def DS (x0:Tsk):Option Bool :=
  bnd (rng (ρ:=Bool) (fun (k30:Nat) (a31:Int) (s28:Bool)=>if s28=true then (some (.next true)) else (if a31 < 1 then (some (.next true)) else (if 64 < a31 then (some (.next true)) else (some (.next false))))) x0.vars 0 false) fun res26=>fin res26 fun (s56:Bool)=>bnd (rng (ρ:=Bool) (fun (k64:Nat) (a65:Opr) (s62:Bool)=>if s62=true then (some (.next true)) else (if a65.cost < 0 then (some (.next true)) else (if 1048576 < a65.cost then (some (.next true)) else (some (.next false))))) x0.ops 0 s56) fun res60=>fin res60 fun (s106:Bool)=>some s106
theorem JL {w:World} {A:Nat→Prop} (hA:∀ k,A k→k < w.heap.size) {vx0:Value} {x0:Tsk} (g1:Vb w A vx0 x0) {r:Bool} (hm:DS x0=some r) :
    Fn Tryz.prog 46 [vx0] w fun v w'=>Ext w w'∧Vb w' (upA A w w') v r:=by
 obtain ⟨O,hB,z1⟩:=enter hA
 replace g1:=g1.mono z1
 obtain ⟨x2,rfl,v3,v4,v5,v6,rfl,h7,d0,e0,c0⟩:=g1
 obtain ⟨A8,c9,rfl⟩:=h7.form
 obtain ⟨q0,r0,rfl⟩:=d0.form
 obtain ⟨s0,t0,rfl⟩:=e0.form
 obtain ⟨j0,k0,rfl⟩:=c0.form
 refine AD Tryz.func46 rfl Tryz.ntmps46 rfl ?_
 unfold DS at hm
 refine Al (Aj (CD 2 O rfl rfl fun u0 a2 y1 g0 f0=>?_))
 replace f0:Lc 2 a2 y1 u0 26 [(.slice A8 x0.vars.length c9),(.slice q0 x0.init.length r0),(.slice s0 x0.goal.length t0),(.slice j0 x0.ops.length k0)]:=f0
 refine Ar rfl rfl (o_z ?_)
 refine Al (Aj (Ar rfl rfl (o_z ?_)))
 refine Al (Al (Aj (AE rfl rfl (AC (hc:=Blk.cell (i:=0) (f0.1) rfl) rfl rfl ?_))))
 refine AP rfl rfl ?_
 replace h7:=h7.st g0
 have h1:x0.vars.length≤9223372036854775807:=Nat.le_trans h7.len.2.1 h7.len.2.2
 have y2:inI64 (x0.vars.length:Int):=rngNat h1
 refine Am rfl rfl (o_z ?_)
 obtain ⟨v0,i1,hm⟩:=bs hm
 refine AK (aft v0 (fun (l0:Bool) (d1:Unit)=>[(1,(.pointer (some ⟨u0,0,none⟩))),(3,(.bool l0))]) (fun l0 d1 w'=>∃ O':Lab,Bs w A w' O'∧Lc 2 w' O' u0 26 [(.slice A8 x0.vars.length c9),(.slice q0 x0.init.length r0),(.slice s0 x0.goal.length t0),(.slice j0 x0.ops.length k0)]∧Vb w' (Fr 0 w' O') (.slice A8 x0.vars.length c9) x0.vars∧Vb w' (Fr 0 w' O') (.slice q0 x0.init.length r0) x0.init∧Vb w' (Fr 0 w' O') (.slice s0 x0.goal.length t0) x0.goal∧Vb w' (Fr 0 w' O') (.slice j0 x0.ops.length k0) x0.ops)) ?_ ?_
 ·
  refine AM ?_
  replace hB:=hB.st g0
  replace d0:=d0.st g0
  replace e0:=e0.st g0
  replace c0:=c0.st g0
  refine Bw (σ:=Bool) (X:=Unit) (x0.vars.length) i1 rfl h1 (fun (l0:Bool) (d1:Unit)=>[(1,(.pointer (some ⟨u0,0,none⟩))),(3,(.bool l0)),(9,(.slice A8 x0.vars.length c9))]) _ (fun l0 d1 w'=>∃ O':Lab,Bs w A w' O'∧Lc 2 w' O' u0 26 [(.slice A8 x0.vars.length c9),(.slice q0 x0.init.length r0),(.slice s0 x0.goal.length t0),(.slice j0 x0.ops.length k0)]∧Vb w' (Fr 0 w' O') (.slice A8 x0.vars.length c9) x0.vars∧Vb w' (Fr 0 w' O') (.slice q0 x0.init.length r0) x0.init∧Vb w' (Fr 0 w' O') (.slice s0 x0.goal.length t0) x0.goal∧Vb w' (Fr 0 w' O') (.slice j0 x0.ops.length k0) x0.ops) _ () ⟨y1,hB,f0,h7,d0,e0,c0⟩ ⟨rfl,rfl,rfl,rfl,rfl,trivial⟩ (fun _ _=>⟨rfl,rfl⟩) (fun _ _=>⟨rfl,rfl,trivial⟩) (fun _ _ _ ⟨O',hB,f0,h7,d0,e0,c0⟩=>⟨O',hB,f0,h7,d0,e0,c0⟩) ⟨rfl,rfl,rfl⟩ ⟨rfl,rfl⟩ ?_
  rintro b2 z2 l0 d1 a3 c2 w0 ⟨b3,hB,f0,h7,d0,e0,c0⟩ a0 j1 k1
  have rk30:inI64 (b2:Int):=rngK w0 h1
  refine Al (Aj ?_)
  obtain ⟨c3,d3,d2,l1,m1,n1,rfl,e3⟩:=h7.elem' w0
  refine Bl (hA:=l1) (hj:=rfl) (hlt:=m1) rfl rfl rfl ?_
  refine AC (hc:=cat0 n1) rfl rfl ?_
  refine Ar rfl rfl (o_z ?_)
  refine Aj (Am rfl rfl (Am rfl rfl ?_))
  rcases Bool.eq_false_or_eq_true l0 with y0|y0
  ·
   try rw [y0]
   replace a0:=ip a0 y0
   refine Au rfl rfl rfl rfl (Au rfl rfl rfl rfl (Be rfl rfl rfl (Am rfl rfl (Au rfl rfl rfl rfl (Au rfl rfl rfl rfl (Be rfl rfl rfl (Ar rfl rfl (o_z ?_))))))))
   obtain rfl:=sm a0
   refine (?_:Exists _)
   exact ⟨_,(),rfl,⟨rfl,rfl,rfl,rfl,rfl,trivial⟩,_,hB,f0,h7,d0,e0,c0⟩
  ·
   try rw [y0]
   replace a0:=im' a0 y0
   refine Aw rfl rfl (Am rfl rfl (Aw rfl rfl (Dl rfl rfl rfl (fun o1=>?_) fun o1=>?_)))
   ·
    replace a0:=ip a0 o1
    refine AU rfl rfl rfl (Am rfl rfl (Au rfl rfl rfl rfl (Au rfl rfl rfl rfl (Be rfl rfl rfl (Ar rfl rfl (o_z ?_))))))
    obtain rfl:=sm a0
    refine (?_:Exists _)
    exact ⟨_,(),rfl,⟨rfl,rfl,rfl,rfl,rfl,trivial⟩,_,hB,f0,h7,d0,e0,c0⟩
   ·
    replace a0:=im a0 o1
    refine AU rfl rfl rfl (Am rfl rfl (Aw rfl rfl (Am rfl rfl (Aw rfl rfl (Cl rfl rfl rfl (fun p1=>?_) fun p1=>?_)))))
    ·
     replace a0:=ip a0 p1
     refine AU rfl rfl rfl (Ar rfl rfl (o_z ?_))
     obtain rfl:=sm a0
     refine (?_:Exists _)
     exact ⟨_,(),rfl,⟨rfl,rfl,rfl,rfl,rfl,trivial⟩,_,hB,f0,h7,d0,e0,c0⟩
    ·
     replace a0:=im a0 p1
     refine AU rfl rfl rfl (Ar rfl rfl (o_z ?_))
     obtain rfl:=sm a0
     refine (?_:Exists _)
     exact ⟨_,(),rfl,⟨rfl,rfl,rfl,rfl,rfl,trivial⟩,_,hB,f0,h7,d0,e0,c0⟩
 replace hB:=hB.st g0
 replace d0:=d0.st g0
 replace e0:=e0.st g0
 replace c0:=c0.st g0
 rintro f3 g3 ⟨h3,i3,rfl,q1,e2,hB,f0,h7,d0,e0,c0⟩
 replace hm:=AX hm
 refine AN _ q1 ?_
 refine Al (Al (Aj (AE rfl rfl (AC (hc:=Blk.cell (i:=3) (f0.1) rfl) rfl rfl ?_))))
 refine AP rfl rfl ?_
 have r1:x0.ops.length≤9223372036854775807:=Nat.le_trans c0.len.2.1 c0.len.2.2
 have j3:inI64 (x0.ops.length:Int):=rngNat r1
 refine Am rfl rfl (o_z ?_)
 obtain ⟨z0,s1,hm⟩:=bs hm
 refine AK (aft z0 (fun (m0:Bool) (e1:Unit)=>[(3,(.bool m0))]) (fun m0 e1 w'=>∃ O':Lab,Bs w A w' O')) ?_ ?_
 ·
  refine AM (Bw (σ:=Bool) (X:=Unit) (x0.ops.length) s1 rfl r1 (fun (m0:Bool) (e1:Unit)=>[(3,(.bool m0)),(26,(.slice j0 x0.ops.length k0))]) _ (fun m0 e1 w'=>∃ O':Lab,Bs w A w' O'∧Vb w' (Fr 0 w' O') (.slice j0 x0.ops.length k0) x0.ops) _ () ⟨e2,hB,c0⟩ ⟨rfl,rfl,rfl,rfl,trivial⟩ (fun _ _=>⟨rfl,rfl⟩) (fun _ _=>⟨rfl,trivial⟩) (fun _ _ _ ⟨O',hB,c0⟩=>⟨O',hB⟩) ⟨rfl,rfl,rfl⟩ ⟨rfl,rfl⟩ ?_)
  rintro f2 f1 m0 e1 k3 g2 a1 ⟨h2,hB,c0⟩ b0 t1 u1
  have rk64:inI64 (f2:Int):=rngK a1 r1
  refine Al (Aj ?_)
  obtain ⟨l3,m3,i2,v1,w1,x1,n3,o3,rfl,j2,k2,p3,q3⟩:=c0.elem' a1
  obtain ⟨l2,m2,rfl⟩:=j2.form
  obtain ⟨n2,o2,rfl⟩:=k2.form
  refine Bl (hA:=v1) (hj:=rfl) (hlt:=w1) rfl rfl rfl ?_
  refine Bk (hl:=rfl) (hc:=x1) rfl rfl ?_
  refine Bv 3 h2 rfl fun p2 r3 q2 h0 p0=>?_
  refine AO p0 rfl rfl rfl (Nat.le_of_ble_eq_true rfl) (by first|exact allOne rfl|simp [Value.cells,Value.oneCell',AH]) fun r2 i0 p0=>?_
  replace p0:Lc 3 r2 q2 p2 67 [(.string f1.name),(.int .i64 f1.cost),(.slice l2 f1.pre.length m2),(.slice n2 f1.effs.length o2)]:=p0
  refine o_z ?_
  refine Aj (Am rfl rfl (Am rfl rfl ?_))
  rcases Bool.eq_false_or_eq_true m0 with b1|b1
  ·
   try rw [b1]
   replace b0:=ip b0 b1
   refine Au rfl rfl rfl rfl (Au rfl rfl rfl rfl (Au rfl rfl rfl rfl (Be rfl rfl rfl (Am rfl rfl (Au rfl rfl rfl rfl (Au rfl rfl rfl rfl (Au rfl rfl rfl rfl (Be rfl rfl rfl (Ar rfl rfl (o_z ?_))))))))))
   obtain rfl:=sm b0
   refine (?_:Exists _)
   exact ⟨_,(),rfl,⟨rfl,rfl,rfl,rfl,trivial⟩,_,(hB.st h0).st i0,(c0.st h0).st i0⟩
  ·
   try rw [b1]
   replace b0:=im' b0 b1
   refine Aw rfl rfl (AE rfl rfl (Aw rfl rfl (AC (hc:=Blk.cell (i:=1) (p0.1) rfl) rfl rfl ?_)))
   refine Aw rfl rfl (Dl rfl rfl rfl (fun n0=>?_) fun n0=>?_)
   ·
    replace b0:=ip b0 n0
    refine AU rfl rfl rfl (Am rfl rfl (Au rfl rfl rfl rfl (Au rfl rfl rfl rfl (Au rfl rfl rfl rfl (Be rfl rfl rfl (Ar rfl rfl (o_z ?_)))))))
    obtain rfl:=sm b0
    refine (?_:Exists _)
    exact ⟨_,(),rfl,⟨rfl,rfl,rfl,rfl,trivial⟩,_,(hB.st h0).st i0,(c0.st h0).st i0⟩
   ·
    replace b0:=im b0 n0
    refine AU rfl rfl rfl (Am rfl rfl (Aw rfl rfl (AE rfl rfl (Aw rfl rfl (AC (hc:=Blk.cell (i:=1) (p0.1) rfl) rfl rfl ?_)))))
    refine Aw rfl rfl (Cl rfl rfl rfl (fun o0=>?_) fun o0=>?_)
    ·
     replace b0:=ip b0 o0
     refine AU rfl rfl rfl (Ar rfl rfl (o_z ?_))
     obtain rfl:=sm b0
     refine (?_:Exists _)
     exact ⟨_,(),rfl,⟨rfl,rfl,rfl,rfl,trivial⟩,_,(hB.st h0).st i0,(c0.st h0).st i0⟩
    ·
     replace b0:=im b0 o0
     refine AU rfl rfl rfl (Ar rfl rfl (o_z ?_))
     obtain rfl:=sm b0
     refine (?_:Exists _)
     exact ⟨_,(),rfl,⟨rfl,rfl,rfl,rfl,trivial⟩,_,(hB.st h0).st i0,(c0.st h0).st i0⟩
 rintro s2 t2 ⟨u2,v2,rfl,c1,w2,hB⟩
 replace hm:=AX hm
 refine AN _ c1 ?_
 refine Al (Aj (Am rfl rfl (Ar rfl rfl (o_z ?_))))
 refine AF ?_
 obtain rfl:=sm hm
 exact ret1v rfl (AA rfl) ⟨hB.ext,vBool⟩
noncomputable def Dr (x0:Tsk):Option Bool :=
  bnd (bnd (GG x0.vars x0.init) fun q28=>if q28=true then bnd (DM x0.vars x0.goal) fun q35=>if q35=true then some false else some true else some true:Option Bool) fun y24=>bnd (rng (ρ:=Bool) (fun (k52:Nat) (a53:Opr) (s50:Bool)=>bnd (if s50=true then (some true) else (bnd (DM x0.vars a53.pre) fun q92=>if q92=true then some false else some true):Option Bool) fun y87=>bnd (rng (ρ:=Ctl Bool Bool) (fun (k109:Nat) (a110:Eff) (s107:Bool)=>if s107=true then (some (.next true)) else (bnd (DM x0.vars a110.cond) fun q141=>if q141=true then bnd (DM x0.vars [(⟨a110.var,a110.val⟩:Fct)]) fun q154=>if q154=true then some (.next false) else some (.next true) else some (.next true))) a53.effs 0 y87) fun res105=>fin res105 fun (s165:Bool)=>some (.next s165)) x0.ops 0 y24) fun res48=>fin res48 fun (s171:Bool)=>some s171
theorem IL {w:World} {A:Nat→Prop} (hA:∀ k,A k→k < w.heap.size) {vx0:Value} {x0:Tsk} (p2:Vb w A vx0 x0) {r:Bool} (hm:Dr x0=some r) :
    Fn Tryz.prog 47 [vx0] w fun v w'=>Ext w w'∧Vb w' (upA A w w') v r:=by
 obtain ⟨O,hB,x3⟩:=enter hA
 replace p2:=p2.mono x3
 obtain ⟨k5,rfl,v3,v4,v5,v6,rfl,h7,g0,h0,i0⟩:=p2
 obtain ⟨A8,c9,rfl⟩:=h7.form
 obtain ⟨c1,d1,rfl⟩:=g0.form
 obtain ⟨e1,f1,rfl⟩:=h0.form
 obtain ⟨u0,v0,rfl⟩:=i0.form
 refine AD Tryz.func47 rfl Tryz.ntmps47 rfl ?_
 unfold Dr at hm
 refine Al (Aj (CD 2 O rfl rfl fun g1 h2 i2 w0 d0=>?_))
 replace d0:Lc 2 h2 i2 g1 26 [(.slice A8 x0.vars.length c9),(.slice c1 x0.init.length d1),(.slice e1 x0.goal.length f1),(.slice u0 x0.ops.length v0)]:=d0
 refine Ar rfl rfl (o_z ?_)
 refine Al ?_
 obtain ⟨y3,f0,hm⟩:=bs hm
 refine AK (fun l' w'=>∃ (z3:Unit) (O':Lab),subs l' [(1,(.pointer (some ⟨g1,0,none⟩))),(3,(.bool y3))]∧Bs w A w' O'∧Lc 2 w' O' g1 26 [(.slice A8 x0.vars.length c9),(.slice c1 x0.init.length d1),(.slice e1 x0.goal.length f1),(.slice u0 x0.ops.length v0)]∧Vb w' (Fr 0 w' O') (.slice A8 x0.vars.length c9) x0.vars∧Vb w' (Fr 0 w' O') (.slice c1 x0.init.length d1) x0.init∧Vb w' (Fr 0 w' O') (.slice e1 x0.goal.length f1) x0.goal∧Vb w' (Fr 0 w' O') (.slice u0 x0.ops.length v0) x0.ops) ?_ ?_
 ·
  refine Aj (AE rfl rfl (AC (hc:=Blk.cell (i:=0) (d0.1) rfl) rfl rfl ?_))
  refine AE rfl rfl (AC (hc:=Blk.cell (i:=1) (d0.1) rfl) rfl rfl ?_)
  obtain ⟨r3,a4,f0⟩:=bs f0
  replace h7:=h7.st w0
  replace g0:=g0.st w0
  refine Bt (O:=i2) (A:=All h2) (R:=fun w' F v=>Vb w' F v r3) (KX (fun _ h=>h) (Vb.mono (F:=Fr 0 h2 i2) h7 Fr.lt) (Vb.mono (F:=Fr 0 h2 i2) g0 Fr.lt) a4) rfl rfl fun l5 q2 r2 y0 b4=>?_
  obtain rfl:=b4.bool
  cases r3
  case false =>
   replace f0:=iF f0
   refine De rfl rfl (Am rfl rfl (Au rfl rfl rfl rfl (Au rfl rfl rfl rfl (Au rfl rfl rfl rfl (Au rfl rfl rfl rfl (Au rfl rfl rfl rfl (Au rfl rfl rfl rfl (Be rfl rfl rfl (Ar rfl rfl (o_z ?_))))))))))
   obtain rfl:=sm f0
   exact ⟨(),_,⟨rfl,rfl,trivial⟩,(hB.st w0).st y0,d0.st y0,h7.st y0,g0.st y0,(h0.st w0).st y0,(i0.st w0).st y0⟩
  replace f0:=iT f0
  refine Dd rfl rfl (Am rfl rfl (Aw rfl rfl (AE rfl rfl (Aw rfl rfl ?_))))
  replace d0:=d0.st y0
  refine AC (hc:=Blk.cell (i:=0) (d0.1) rfl) rfl rfl ?_
  refine Aw rfl rfl (AE rfl rfl (Aw rfl rfl (AC (hc:=Blk.cell (i:=2) (d0.1) rfl) rfl rfl ?_)))
  refine Aw rfl rfl ?_
  obtain ⟨s3,c4,f0⟩:=bs f0
  replace h7:=h7.st y0
  replace h0:=(h0.st w0).st y0
  refine Bt (O:=r2) (A:=All q2) (R:=fun w' F v=>Vb w' F v s3) (Fh (fun _ h=>h) (Vb.mono (F:=Fr 0 q2 r2) h7 Fr.lt) (Vb.mono (F:=Fr 0 q2 r2) h0 Fr.lt) c4) rfl rfl fun m5 n5 o5 b1 d4=>?_
  obtain rfl:=d4.bool
  cases s3
  case false =>
   replace f0:=iF f0
   refine Aw rfl rfl (De rfl rfl (AU rfl rfl rfl (Ar rfl rfl (o_z ?_))))
   obtain rfl:=sm f0
   exact ⟨(),_,⟨rfl,rfl,trivial⟩,((hB.st w0).st y0).st b1,d0.st b1,h7.st b1,(g0.st y0).st b1,h0.st b1,((i0.st w0).st y0).st b1⟩
  replace f0:=iT f0
  refine Aw rfl rfl (Dd rfl rfl (AU rfl rfl rfl (Ar rfl rfl (o_z ?_))))
  obtain rfl:=sm f0
  exact ⟨(),_,⟨rfl,rfl,trivial⟩,((hB.st w0).st y0).st b1,d0.st b1,h7.st b1,(g0.st y0).st b1,h0.st b1,((i0.st w0).st y0).st b1⟩
 replace hB:=hB.st w0
 replace h7:=h7.st w0
 replace g0:=g0.st w0
 replace h0:=h0.st w0
 replace i0:=i0.st w0
 rintro p5 q5 ⟨z3,e4,s2,hB,d0,h7,g0,h0,i0⟩
 refine AN _ s2 ?_
 refine Al (Al (Aj (AE rfl rfl (AC (hc:=Blk.cell (i:=3) (d0.1) rfl) rfl rfl ?_))))
 refine AP rfl rfl ?_
 have t2:x0.ops.length≤9223372036854775807:=Nat.le_trans i0.len.2.1 i0.len.2.2
 have r5:inI64 (x0.ops.length:Int):=rngNat t2
 refine Am rfl rfl (o_z ?_)
 obtain ⟨s1,u2,hm⟩:=bs hm
 refine AK (aft s1 (fun (p1:Bool) (j2:Unit)=>[(3,(.bool p1))]) (fun p1 j2 w'=>∃ O':Lab,Bs w A w' O')) ?_ ?_
 ·
  refine AM (Bw (σ:=Bool) (X:=Unit) (x0.ops.length) u2 rfl t2 (fun (p1:Bool) (j2:Unit)=>[(1,(.pointer (some ⟨g1,0,none⟩))),(3,(.bool p1)),(23,(.slice u0 x0.ops.length v0))]) _ (fun p1 j2 w'=>∃ O':Lab,Bs w A w' O'∧Lc 2 w' O' g1 26 [(.slice A8 x0.vars.length c9),(.slice c1 x0.init.length d1),(.slice e1 x0.goal.length f1),(.slice u0 x0.ops.length v0)]∧Vb w' (Fr 0 w' O') (.slice A8 x0.vars.length c9) x0.vars∧Vb w' (Fr 0 w' O') (.slice c1 x0.init.length d1) x0.init∧Vb w' (Fr 0 w' O') (.slice e1 x0.goal.length f1) x0.goal∧Vb w' (Fr 0 w' O') (.slice u0 x0.ops.length v0) x0.ops) _ () ⟨e4,hB,d0,h7,g0,h0,i0⟩ ⟨rfl,rfl,rfl,rfl,rfl,trivial⟩ (fun _ _=>⟨rfl,rfl⟩) (fun _ _=>⟨rfl,trivial⟩) (fun _ _ _ ⟨O',hB,d0,h7,g0,h0,i0⟩=>⟨O',hB⟩) ⟨rfl,rfl,rfl⟩ ⟨rfl,rfl⟩ ?_)
  rintro k2 q0 p1 j2 s5 f4 t1 ⟨g4,hB,d0,h7,g0,h0,i0⟩ z0 v2 w2
  have rk52:inI64 (k2:Int):=rngK t1 t2
  refine Al (Aj ?_)
  obtain ⟨t5,u5,h4,x2,y2,z2,w5,x5,rfl,i1,s0,y5,z5⟩:=i0.elem' t1
  obtain ⟨a3,b3,rfl⟩:=i1.form
  obtain ⟨u1,v1,rfl⟩:=s0.form
  refine Bl (hA:=x2) (hj:=rfl) (hlt:=y2) rfl rfl rfl ?_
  refine Bk (hl:=rfl) (hc:=z2) rfl rfl ?_
  refine Bv 3 g4 rfl fun c3 a6 l2 j0 j1=>?_
  refine AO j1 rfl rfl rfl (Nat.le_of_ble_eq_true rfl) (by first|exact allOne rfl|simp [Value.cells,Value.oneCell',AH]) fun m2 k0 j1=>?_
  replace j1:Lc 3 m2 l2 c3 67 [(.string q0.name),(.int .i64 q0.cost),(.slice a3 q0.pre.length b3),(.slice u1 q0.effs.length v1)]:=j1
  refine o_z ?_
  refine Al ?_
  obtain ⟨i4,m0,z0⟩:=bs z0
  refine AK (fun l' w'=>∃ (j4:Unit) (O':Lab),subs l' [(1,(.pointer (some ⟨g1,0,none⟩))),(3,(.bool i4)),(5,(.pointer (some ⟨c3,0,none⟩))),(23,(.slice u0 x0.ops.length v0)),(24,(.int .i64 (x0.ops.length:Int))),(25,(.int .i64 (k2:Int)))]∧Bs w A w' O'∧Lc 2 w' O' g1 26 [(.slice A8 x0.vars.length c9),(.slice c1 x0.init.length d1),(.slice e1 x0.goal.length f1),(.slice u0 x0.ops.length v0)]∧Vb w' (Fr 0 w' O') (.slice A8 x0.vars.length c9) x0.vars∧Vb w' (Fr 0 w' O') (.slice c1 x0.init.length d1) x0.init∧Vb w' (Fr 0 w' O') (.slice e1 x0.goal.length f1) x0.goal∧Vb w' (Fr 0 w' O') (.slice u0 x0.ops.length v0) x0.ops∧Lc 3 w' O' c3 67 [(.string q0.name),(.int .i64 q0.cost),(.slice a3 q0.pre.length b3),(.slice u1 q0.effs.length v1)]∧Vb w' (Fr 0 w' O') (.slice a3 q0.pre.length b3) q0.pre∧Vb w' (Fr 0 w' O') (.slice u1 q0.effs.length v1) q0.effs) ?_ ?_
  ·
   refine Aj (Am rfl rfl (Am rfl rfl ?_))
   rcases Bool.eq_false_or_eq_true p1 with w1|w1
   ·
    try rw [w1]
    replace m0:=ip m0 w1
    refine Au rfl rfl rfl rfl (Au rfl rfl rfl rfl (Au rfl rfl rfl rfl (Au rfl rfl rfl rfl (Au rfl rfl rfl rfl (Au rfl rfl rfl rfl (Be rfl rfl rfl (Ar rfl rfl (o_z ?_))))))))
    obtain rfl:=sm m0
    exact ⟨(),_,⟨rfl,rfl,rfl,rfl,rfl,rfl,trivial⟩,(hB.st j0).st k0,(d0.st j0).st k0,(h7.st j0).st k0,(g0.st j0).st k0,(h0.st j0).st k0,(i0.st j0).st k0,j1,(i1.st j0).st k0,(s0.st j0).st k0⟩
   ·
    try rw [w1]
    replace m0:=im' m0 w1
    refine Aw rfl rfl (AE rfl rfl (Aw rfl rfl ?_))
    replace d0:=(d0.st j0).st k0
    refine AC (hc:=Blk.cell (i:=0) (d0.1) rfl) rfl rfl ?_
    refine Aw rfl rfl (AE rfl rfl (Aw rfl rfl (AC (hc:=Blk.cell (i:=2) (j1.1) rfl) rfl rfl ?_)))
    refine Aw rfl rfl ?_
    obtain ⟨t3,k4,m0⟩:=bs m0
    replace h7:=(h7.st j0).st k0
    replace i1:=(i1.st j0).st k0
    refine Bt (O:=l2) (A:=All m2) (R:=fun w' F v=>Vb w' F v t3) (Fh (fun _ h=>h) (Vb.mono (F:=Fr 0 m2 l2) h7 Fr.lt) (Vb.mono (F:=Fr 0 m2 l2) i1 Fr.lt) k4) rfl rfl fun b6 c6 d6 r0 l4=>?_
    obtain rfl:=l4.bool
    cases t3
    case false =>
     replace m0:=iF m0
     refine Aw rfl rfl (De rfl rfl (AU rfl rfl rfl (Ar rfl rfl (o_z ?_))))
     obtain rfl:=sm m0
     exact ⟨(),_,⟨rfl,rfl,rfl,rfl,rfl,rfl,trivial⟩,((hB.st j0).st k0).st r0,d0.st r0,h7.st r0,((g0.st j0).st k0).st r0,((h0.st j0).st k0).st r0,((i0.st j0).st k0).st r0,j1.st r0,i1.st r0,((s0.st j0).st k0).st r0⟩
    replace m0:=iT m0
    refine Aw rfl rfl (Dd rfl rfl (AU rfl rfl rfl (Ar rfl rfl (o_z ?_))))
    obtain rfl:=sm m0
    exact ⟨(),_,⟨rfl,rfl,rfl,rfl,rfl,rfl,trivial⟩,((hB.st j0).st k0).st r0,d0.st r0,h7.st r0,((g0.st j0).st k0).st r0,((h0.st j0).st k0).st r0,((i0.st j0).st k0).st r0,j1.st r0,i1.st r0,((s0.st j0).st k0).st r0⟩
  replace hB:=(hB.st j0).st k0
  replace h7:=(h7.st j0).st k0
  replace g0:=(g0.st j0).st k0
  replace h0:=(h0.st j0).st k0
  replace i0:=(i0.st j0).st k0
  replace d0:=(d0.st j0).st k0
  replace i1:=(i1.st j0).st k0
  replace s0:=(s0.st j0).st k0
  rintro e6 m4 ⟨j4,d3,x1,hB,d0,h7,g0,h0,i0,j1,i1,s0⟩
  refine AN _ x1 ?_
  refine Al (Aj (AE rfl rfl (AC (hc:=Blk.cell (i:=3) (j1.1) rfl) rfl rfl ?_)))
  refine AP rfl rfl ?_
  have q1:q0.effs.length≤9223372036854775807:=Nat.le_trans s0.len.2.1 s0.len.2.2
  have n4:inI64 (q0.effs.length:Int):=rngNat q1
  refine Am rfl rfl (o_z ?_)
  obtain ⟨r1,y1,z0⟩:=bs z0
  refine AK (aft r1 (fun (a1:Bool) (k1:Unit)=>[(1,(.pointer (some ⟨g1,0,none⟩))),(3,(.bool a1)),(23,(.slice u0 x0.ops.length v0)),(24,(.int .i64 (x0.ops.length:Int))),(25,(.int .i64 (k2:Int)))]) (fun a1 k1 w'=>∃ O':Lab,Bs w A w' O'∧Lc 2 w' O' g1 26 [(.slice A8 x0.vars.length c9),(.slice c1 x0.init.length d1),(.slice e1 x0.goal.length f1),(.slice u0 x0.ops.length v0)]∧Vb w' (Fr 0 w' O') (.slice A8 x0.vars.length c9) x0.vars∧Vb w' (Fr 0 w' O') (.slice c1 x0.init.length d1) x0.init∧Vb w' (Fr 0 w' O') (.slice e1 x0.goal.length f1) x0.goal∧Vb w' (Fr 0 w' O') (.slice u0 x0.ops.length v0) x0.ops)) ?_ ?_
  ·
   refine AM (Bw (σ:=Bool) (X:=Unit) (q0.effs.length) y1 rfl q1 (fun (a1:Bool) (k1:Unit)=>[(1,(.pointer (some ⟨g1,0,none⟩))),(3,(.bool a1)),(23,(.slice u0 x0.ops.length v0)),(24,(.int .i64 (x0.ops.length:Int))),(25,(.int .i64 (k2:Int))),(39,(.slice u1 q0.effs.length v1))]) _ (fun a1 k1 w'=>∃ O':Lab,Bs w A w' O'∧Lc 2 w' O' g1 26 [(.slice A8 x0.vars.length c9),(.slice c1 x0.init.length d1),(.slice e1 x0.goal.length f1),(.slice u0 x0.ops.length v0)]∧Vb w' (Fr 0 w' O') (.slice A8 x0.vars.length c9) x0.vars∧Vb w' (Fr 0 w' O') (.slice c1 x0.init.length d1) x0.init∧Vb w' (Fr 0 w' O') (.slice e1 x0.goal.length f1) x0.goal∧Vb w' (Fr 0 w' O') (.slice u0 x0.ops.length v0) x0.ops∧Vb w' (Fr 0 w' O') (.slice u1 q0.effs.length v1) q0.effs) _ () ⟨d3,hB,d0,h7,g0,h0,i0,s0⟩ ⟨rfl,rfl,rfl,rfl,rfl,rfl,rfl,rfl,trivial⟩ (fun _ _=>⟨rfl,rfl⟩) (fun _ _=>⟨rfl,rfl,rfl,rfl,rfl,trivial⟩) (fun _ _ _ ⟨O',hB,d0,h7,g0,h0,i0,s0⟩=>⟨O',hB,d0,h7,g0,h0,i0⟩) ⟨rfl,rfl,rfl⟩ ⟨rfl,rfl⟩ ?_)
   rintro e3 o0 a1 k1 o4 u3 o1 ⟨f3,hB,d0,h7,g0,h0,i0,s0⟩ a0 n2 o2
   have rk109:inI64 (e3:Int):=rngK o1 q1
   refine Al (Aj ?_)
   obtain ⟨p4,q4,w3,z1,a2,b2,r4,rfl,l1,g3,h3⟩:=s0.elem' o1
   obtain ⟨i3,j3,rfl⟩:=l1.form
   refine Bl (hA:=z1) (hj:=rfl) (hlt:=a2) rfl rfl rfl ?_
   refine Bk (hl:=rfl) (hc:=b2) rfl rfl ?_
   refine Bv 4 f3 rfl fun k3 s4 m1 b0 p0=>?_
   refine AO p0 rfl rfl rfl (Nat.le_of_ble_eq_true rfl) (by first|exact allOne rfl|simp [Value.cells,Value.oneCell',AH]) fun n1 c0 p0=>?_
   replace p0:Lc 4 n1 m1 k3 64 [(.slice i3 o0.cond.length j3),(.int .i64 o0.var),(.int .i64 o0.val)]:=p0
   refine o_z ?_
   refine Aj (Am rfl rfl (Am rfl rfl ?_))
   rcases Bool.eq_false_or_eq_true a1 with h1|h1
   ·
    try rw [h1]
    replace a0:=ip a0 h1
    refine Au rfl rfl rfl rfl (Au rfl rfl rfl rfl (Au rfl rfl rfl rfl (Au rfl rfl rfl rfl (Au rfl rfl rfl rfl (Au rfl rfl rfl rfl (Be rfl rfl rfl (Am rfl rfl (Au rfl rfl rfl rfl (Au rfl rfl rfl rfl (Au rfl rfl rfl rfl (Au rfl rfl rfl rfl (Au rfl rfl rfl rfl (Au rfl rfl rfl rfl (Au rfl rfl rfl rfl ?_))))))))))))))
    refine Au rfl rfl rfl rfl (Au rfl rfl rfl rfl (Au rfl rfl rfl rfl (Be rfl rfl rfl (Ar rfl rfl (o_z ?_)))))
    obtain rfl:=sm a0
    refine (?_:Exists _)
    exact ⟨_,(),rfl,⟨rfl,rfl,rfl,rfl,rfl,rfl,rfl,rfl,trivial⟩,_,(hB.st b0).st c0,(d0.st b0).st c0,(h7.st b0).st c0,(g0.st b0).st c0,(h0.st b0).st c0,(i0.st b0).st c0,(s0.st b0).st c0⟩
   ·
    try rw [h1]
    replace a0:=im' a0 h1
    refine Aw rfl rfl (AE rfl rfl (Aw rfl rfl ?_))
    replace d0:=(d0.st b0).st c0
    refine AC (hc:=Blk.cell (i:=0) (d0.1) rfl) rfl rfl ?_
    refine Aw rfl rfl (AE rfl rfl (Aw rfl rfl (AC (hc:=Blk.cell (i:=0) (p0.1) rfl) rfl rfl ?_)))
    refine Aw rfl rfl ?_
    obtain ⟨c2,l3,a0⟩:=bs a0
    replace h7:=(h7.st b0).st c0
    replace l1:=(l1.st b0).st c0
    refine Bt (O:=m1) (A:=All n1) (R:=fun w' F v=>Vb w' F v c2) (Fh (fun _ h=>h) (Vb.mono (F:=Fr 0 n1 m1) h7 Fr.lt) (Vb.mono (F:=Fr 0 n1 m1) l1 Fr.lt) l3) rfl rfl fun t4 u4 m3 e0 n3=>?_
    obtain rfl:=n3.bool
    cases c2
    case false =>
     replace a0:=iF a0
     refine Aw rfl rfl (De rfl rfl (AU rfl rfl rfl (Am rfl rfl (Au rfl rfl rfl rfl (Au rfl rfl rfl rfl (Au rfl rfl rfl rfl (Au rfl rfl rfl rfl (Au rfl rfl rfl rfl (Au rfl rfl rfl rfl (Au rfl rfl rfl rfl (Au rfl rfl rfl rfl (Au rfl rfl rfl rfl (Au rfl rfl rfl rfl (Be rfl rfl rfl ?_))))))))))))))
     refine Ar rfl rfl (o_z ?_)
     obtain rfl:=sm a0
     refine (?_:Exists _)
     exact ⟨_,(),rfl,⟨rfl,rfl,rfl,rfl,rfl,rfl,rfl,rfl,trivial⟩,_,((hB.st b0).st c0).st e0,d0.st e0,h7.st e0,((g0.st b0).st c0).st e0,((h0.st b0).st c0).st e0,((i0.st b0).st c0).st e0,((s0.st b0).st c0).st e0⟩
    replace a0:=iT a0
    refine Aw rfl rfl (Dd rfl rfl (AU rfl rfl rfl (Am rfl rfl (Aw rfl rfl (AE rfl rfl (Aw rfl rfl ?_))))))
    replace d0:=d0.st e0
    refine AC (hc:=Blk.cell (i:=0) (d0.1) rfl) rfl rfl ?_
    refine Aw rfl rfl (AE rfl rfl (Aw rfl rfl ?_))
    replace p0:=p0.st e0
    refine AC (hc:=Blk.cell (i:=1) (p0.1) rfl) rfl rfl ?_
    refine Aw rfl rfl (AE rfl rfl (Aw rfl rfl (AC (hc:=Blk.cell (i:=2) (p0.1) rfl) rfl rfl ?_)))
    refine Aw rfl rfl (Cr rfl rfl rfl ?_)
    refine Aw rfl rfl (Br 5 (by decide) m3 (xs:=([(⟨o0.var,o0.val⟩:Fct)]:List Fct)) rfl rfl rfl rfl ⟨(Vb.ofAgg (cs:=[(.int .i64 o0.var),(.int .i64 o0.val)]) (x:=(⟨o0.var,o0.val⟩:Fct)) rfl ⟨rfl,g3,h3⟩),trivial⟩ (by decide) (by decide) rfl fun w4 d2 e2 n0 o3=>?_)
    refine Aw rfl rfl ?_
    obtain ⟨f2,p3,a0⟩:=bs a0
    replace h7:=(h7.st e0).st n0
    refine Bt (O:=e2) (A:=All d2) (R:=fun w' F v=>Vb w' F v f2) (Fh (fun _ h=>h) (Vb.mono (F:=Fr 0 d2 e2) h7 Fr.lt) (o3).all p3) rfl rfl fun x4 y4 z4 l0 q3=>?_
    obtain rfl:=q3.bool
    cases f2
    case false =>
     replace a0:=iF a0
     refine Aw rfl rfl (De rfl rfl (AU rfl rfl rfl (Ar rfl rfl (o_z ?_))))
     obtain rfl:=sm a0
     refine (?_:Exists _)
     exact ⟨_,(),rfl,⟨rfl,rfl,rfl,rfl,rfl,rfl,rfl,rfl,trivial⟩,_,((((hB.st b0).st c0).st e0).st n0).st l0,(d0.st n0).st l0,h7.st l0,((((g0.st b0).st c0).st e0).st n0).st l0,((((h0.st b0).st c0).st e0).st n0).st l0,((((i0.st b0).st c0).st e0).st n0).st l0,((((s0.st b0).st c0).st e0).st n0).st l0⟩
    replace a0:=iT a0
    refine Aw rfl rfl (Dd rfl rfl (AU rfl rfl rfl (Ar rfl rfl (o_z ?_))))
    obtain rfl:=sm a0
    refine (?_:Exists _)
    exact ⟨_,(),rfl,⟨rfl,rfl,rfl,rfl,rfl,rfl,rfl,rfl,trivial⟩,_,((((hB.st b0).st c0).st e0).st n0).st l0,(d0.st n0).st l0,h7.st l0,((((g0.st b0).st c0).st e0).st n0).st l0,((((h0.st b0).st c0).st e0).st n0).st l0,((((i0.st b0).st c0).st e0).st n0).st l0,((((s0.st b0).st c0).st e0).st n0).st l0⟩
  rintro a5 b5 ⟨c5,d5,rfl,t0,e5,hB,d0,h7,g0,h0,i0⟩
  replace z0:=AX z0
  obtain rfl:=sm z0
  refine (?_:Exists _)
  exact ⟨_,(),rfl,⟨(BK t0 _ _ rfl),(BK t0 _ _ rfl),(BK t0 _ _ rfl),(BK t0 _ _ rfl),(BK t0 _ _ rfl),trivial⟩,_,hB,d0,h7,g0,h0,i0⟩
 rintro f5 g5 ⟨h5,i5,rfl,g2,j5,hB⟩
 replace hm:=AX hm
 refine AN _ g2 ?_
 refine Al (Aj (Am rfl rfl (Ar rfl rfl (o_z ?_))))
 refine AF ?_
 obtain rfl:=sm hm
 exact ret1v rfl (AA rfl) ⟨hB.ext,vBool⟩
noncomputable def DC (x0:Tsk):Option Bool :=
  bnd (rng (ρ:=Bool) (fun (k30:Nat) (a31:Opr) (s28:Bool)=>bnd (if s28=true then (some true) else (if 256 < (a31.name.size:Int) then (some true) else (some false)):Option Bool) fun y65=>bnd (rngN (ρ:=Ctl Bool Bool) (fun (k81:Nat) (s79:Bool)=>if s79=true then (some (.next true)) else (bnd (bytI a31.name (k81:Int)) fun n93=>if n93 < 32 then (some (.next true)) else (bnd (bytI a31.name (k81:Int)) fun n97=>if 126 < n97 then (some (.next true)) else (some (.next false))))) a31.name.size y65) fun res77=>fin res77 fun (s105:Bool)=>some (.next s105)) x0.ops 0 false) fun res26=>fin res26 fun (s111:Bool)=>some s111
theorem Jk {w:World} {A:Nat→Prop} (hA:∀ k,A k→k < w.heap.size) {vx0:Value} {x0:Tsk} (f1:Vb w A vx0 x0) {r:Bool} (hm:DC x0=some r) :
    Fn Tryz.prog 48 [vx0] w fun v w'=>Ext w w'∧Vb w' (upA A w w') v r:=by
 obtain ⟨O,hB,b2⟩:=enter hA
 replace f1:=f1.mono b2
 obtain ⟨e3,rfl,v3,v4,v5,v6,rfl,h7,c2,d2,b0⟩:=f1
 obtain ⟨A8,c9,rfl⟩:=h7.form
 obtain ⟨e2,f2,rfl⟩:=c2.form
 obtain ⟨g2,h2,rfl⟩:=d2.form
 obtain ⟨l0,m0,rfl⟩:=b0.form
 refine AD Tryz.func48 rfl Tryz.ntmps48 rfl ?_
 unfold DC at hm
 refine Al (Aj (CD 2 O rfl rfl fun i2 j2 w1 g1 h1=>?_))
 replace h1:Lc 2 j2 w1 i2 26 [(.slice A8 x0.vars.length c9),(.slice e2 x0.init.length f2),(.slice g2 x0.goal.length h2),(.slice l0 x0.ops.length m0)]:=h1
 refine Ar rfl rfl (o_z ?_)
 refine Al (Aj (Ar rfl rfl (o_z ?_)))
 refine Al (Al (Aj (AE rfl rfl (AC (hc:=Blk.cell (i:=3) (h1.1) rfl) rfl rfl ?_))))
 refine AP rfl rfl ?_
 replace b0:=b0.st g1
 have i1:x0.ops.length≤9223372036854775807:=Nat.le_trans b0.len.2.1 b0.len.2.2
 have f3:inI64 (x0.ops.length:Int):=rngNat i1
 refine Am rfl rfl (o_z ?_)
 obtain ⟨q0,j1,hm⟩:=bs hm
 refine AK (aft q0 (fun (n0:Bool) (c1:Unit)=>[(3,(.bool n0))]) (fun n0 c1 w'=>∃ O':Lab,Bs w A w' O')) ?_ ?_
 ·
  refine AM ?_
  replace hB:=hB.st g1
  refine Bw (σ:=Bool) (X:=Unit) (x0.ops.length) j1 rfl i1 (fun (n0:Bool) (c1:Unit)=>[(3,(.bool n0)),(8,(.slice l0 x0.ops.length m0))]) _ (fun n0 c1 w'=>∃ O':Lab,Bs w A w' O'∧Vb w' (Fr 0 w' O') (.slice l0 x0.ops.length m0) x0.ops) _ () ⟨w1,hB,b0⟩ ⟨rfl,rfl,rfl,rfl,trivial⟩ (fun _ _=>⟨rfl,rfl⟩) (fun _ _=>⟨rfl,trivial⟩) (fun _ _ _ ⟨O',hB,b0⟩=>⟨O',hB⟩) ⟨rfl,rfl,rfl⟩ ⟨rfl,rfl⟩ ?_
  rintro d1 c0 n0 c1 g3 k2 r0 ⟨l2,hB,b0⟩ h0 k1 l1
  have rk30:inI64 (d1:Int):=rngK r0 i1
  refine Al (Aj ?_)
  obtain ⟨h3,i3,m2,m1,n1,o1,j3,k3,rfl,i0,j0,l3,x1⟩:=b0.elem' r0
  obtain ⟨s0,t0,rfl⟩:=i0.form
  obtain ⟨u0,v0,rfl⟩:=j0.form
  refine Bl (hA:=m1) (hj:=rfl) (hlt:=n1) rfl rfl rfl ?_
  refine Bk (hl:=rfl) (hc:=o1) rfl rfl ?_
  refine Bv 3 l2 rfl fun w0 m3 n2 f0 e0=>?_
  refine AO e0 rfl rfl rfl (Nat.le_of_ble_eq_true rfl) (by first|exact allOne rfl|simp [Value.cells,Value.oneCell',AH]) fun o2 g0 e0=>?_
  replace e0:Lc 3 o2 n2 w0 67 [(.string c0.name),(.int .i64 c0.cost),(.slice s0 c0.pre.length t0),(.slice u0 c0.effs.length v0)]:=e0
  refine o_z ?_
  refine Al ?_
  obtain ⟨p2,d0,h0⟩:=bs h0
  refine AK (fun l' w'=>∃ (q2:Unit) (O':Lab),subs l' [(3,(.bool p2)),(5,(.pointer (some ⟨w0,0,none⟩))),(8,(.slice l0 x0.ops.length m0)),(9,(.int .i64 (x0.ops.length:Int))),(10,(.int .i64 (d1:Int)))]∧Bs w A w' O'∧Lc 3 w' O' w0 67 [(.string c0.name),(.int .i64 c0.cost),(.slice s0 c0.pre.length t0),(.slice u0 c0.effs.length v0)]∧Vb w' (Fr 0 w' O') (.slice s0 c0.pre.length t0) c0.pre∧Vb w' (Fr 0 w' O') (.slice u0 c0.effs.length v0) c0.effs∧Vb w' (Fr 0 w' O') (.slice l0 x0.ops.length m0) x0.ops) ?_ ?_
  ·
   refine Aj (Am rfl rfl (Am rfl rfl ?_))
   rcases Bool.eq_false_or_eq_true n0 with y0|y0
   ·
    try rw [y0]
    replace d0:=ip d0 y0
    refine Au rfl rfl rfl rfl (Au rfl rfl rfl rfl (Au rfl rfl rfl rfl (Au rfl rfl rfl rfl (Be rfl rfl rfl (Ar rfl rfl (o_z ?_))))))
    obtain rfl:=sm d0
    exact ⟨(),_,⟨rfl,rfl,rfl,rfl,rfl,trivial⟩,(hB.st f0).st g0,e0,(i0.st f0).st g0,(j0.st f0).st g0,(b0.st f0).st g0⟩
   ·
    try rw [y0]
    replace d0:=im' d0 y0
    refine Aw rfl rfl (AE rfl rfl (Aw rfl rfl (AC (hc:=Blk.cell (i:=0) (e0.1) rfl) rfl rfl ?_)))
    refine Aw rfl rfl (JS rfl rfl ?_)
    have n3:inI64 (c0.name.size:Int):=rngNat x1
    refine Aw rfl rfl (Cl rfl rfl rfl (fun p1=>?_) fun p1=>?_)
    ·
     replace d0:=ip d0 p1
     refine AU rfl rfl rfl (Ar rfl rfl (o_z ?_))
     obtain rfl:=sm d0
     exact ⟨(),_,⟨rfl,rfl,rfl,rfl,rfl,trivial⟩,(hB.st f0).st g0,e0,(i0.st f0).st g0,(j0.st f0).st g0,(b0.st f0).st g0⟩
    ·
     replace d0:=im d0 p1
     refine AU rfl rfl rfl (Ar rfl rfl (o_z ?_))
     obtain rfl:=sm d0
     exact ⟨(),_,⟨rfl,rfl,rfl,rfl,rfl,trivial⟩,(hB.st f0).st g0,e0,(i0.st f0).st g0,(j0.st f0).st g0,(b0.st f0).st g0⟩
  replace hB:=(hB.st f0).st g0
  replace b0:=(b0.st f0).st g0
  replace i0:=(i0.st f0).st g0
  replace j0:=(j0.st f0).st g0
  rintro o3 p3 ⟨q2,r2,q1,hB,e0,i0,j0,b0⟩
  refine AN _ q1 ?_
  refine Al (Aj (AE rfl rfl (AC (hc:=Blk.cell (i:=0) (e0.1) rfl) rfl rfl ?_)))
  refine JS rfl rfl ?_
  have y1:inI64 (c0.name.size:Int):=rngNat x1
  refine Am rfl rfl (o_z ?_)
  obtain ⟨z0,r1,h0⟩:=bs h0
  refine AK (aft z0 (fun (o0:Bool) (e1:Unit)=>[(3,(.bool o0)),(8,(.slice l0 x0.ops.length m0)),(9,(.int .i64 (x0.ops.length:Int))),(10,(.int .i64 (d1:Int)))]) (fun o0 e1 w'=>∃ O':Lab,Bs w A w' O'∧Vb w' (Fr 0 w' O') (.slice l0 x0.ops.length m0) x0.ops)) ?_ ?_
  ·
   refine AM (Hv (σ:=Bool) (X:=Unit) (c0.name.size) r1 (rngNat' y1) (fun (o0:Bool) (e1:Unit)=>[(3,(.bool o0)),(5,(.pointer (some ⟨w0,0,none⟩))),(8,(.slice l0 x0.ops.length m0)),(9,(.int .i64 (x0.ops.length:Int))),(10,(.int .i64 (d1:Int)))]) _ (fun o0 e1 w'=>∃ O':Lab,Bs w A w' O'∧Lc 3 w' O' w0 67 [(.string c0.name),(.int .i64 c0.cost),(.slice s0 c0.pre.length t0),(.slice u0 c0.effs.length v0)]∧Vb w' (Fr 0 w' O') (.slice s0 c0.pre.length t0) c0.pre∧Vb w' (Fr 0 w' O') (.slice u0 c0.effs.length v0) c0.effs∧Vb w' (Fr 0 w' O') (.slice l0 x0.ops.length m0) x0.ops) _ () ⟨r2,hB,e0,i0,j0,b0⟩ ⟨rfl,rfl,rfl,rfl,rfl,rfl,rfl,trivial⟩ (fun _ _=>⟨rfl,rfl⟩) (fun _ _=>⟨rfl,rfl,rfl,rfl,trivial⟩) (fun _ _ _ ⟨O',hB,e0,i0,j0,b0⟩=>⟨O',hB,b0⟩) ⟨rfl,rfl,rfl⟩ ⟨rfl,rfl⟩ ?_)
   rintro s2 o0 e1 q3 t2 s1 ⟨r3,hB,e0,i0,j0,b0⟩ a0 t1 u1
   have rk81:inI64 (s2:Int):=rngKN s1 (rngNat' y1)
   refine Al (Aj (Am rfl rfl (Ar rfl rfl (o_z ?_))))
   refine Aj (Am rfl rfl (Am rfl rfl ?_))
   rcases Bool.eq_false_or_eq_true o0 with a1|a1
   ·
    try rw [a1]
    replace a0:=ip a0 a1
    refine Au rfl rfl rfl rfl (Au rfl rfl rfl rfl (Au rfl rfl rfl rfl (Au rfl rfl rfl rfl (Au rfl rfl rfl rfl (Be rfl rfl rfl (Am rfl rfl (Au rfl rfl rfl rfl (Au rfl rfl rfl rfl (Au rfl rfl rfl rfl (Au rfl rfl rfl rfl (Au rfl rfl rfl rfl (Be rfl rfl rfl (Ar rfl rfl (o_z ?_))))))))))))))
    obtain rfl:=sm a0
    refine (?_:Exists _)
    exact ⟨_,(),rfl,⟨rfl,rfl,rfl,rfl,rfl,rfl,rfl,trivial⟩,_,hB,e0,i0,j0,b0⟩
   ·
    try rw [a1]
    replace a0:=im' a0 a1
    refine Aw rfl rfl (AE rfl rfl (Aw rfl rfl (AC (hc:=Blk.cell (i:=0) (e0.1) rfl) rfl rfl ?_)))
    refine Aw rfl rfl (Am rfl rfl (Aw rfl rfl ?_))
    obtain ⟨s3,z1,a0⟩:=bs a0
    have t3:=KQ z1
    refine Nf (he:=z1) rfl rfl rfl ?_
    refine Aw rfl rfl (Dl rfl rfl rfl (fun v1=>?_) fun v1=>?_)
    ·
     replace a0:=ip a0 v1
     refine AU rfl rfl rfl (Am rfl rfl (Au rfl rfl rfl rfl (Au rfl rfl rfl rfl (Au rfl rfl rfl rfl (Au rfl rfl rfl rfl (Au rfl rfl rfl rfl (Be rfl rfl rfl (Ar rfl rfl (o_z ?_)))))))))
     obtain rfl:=sm a0
     refine (?_:Exists _)
     exact ⟨_,(),rfl,⟨rfl,rfl,rfl,rfl,rfl,rfl,rfl,trivial⟩,_,hB,e0,i0,j0,b0⟩
    ·
     replace a0:=im a0 v1
     refine AU rfl rfl rfl (Am rfl rfl (Aw rfl rfl (AE rfl rfl (Aw rfl rfl (AC (hc:=Blk.cell (i:=0) (e0.1) rfl) rfl rfl ?_)))))
     refine Aw rfl rfl (Am rfl rfl (Aw rfl rfl ?_))
     obtain ⟨u3,a2,a0⟩:=bs a0
     have w3:=KQ a2
     refine Nf (he:=a2) rfl rfl rfl ?_
     refine Aw rfl rfl (Cl rfl rfl rfl (fun p0=>?_) fun p0=>?_)
     ·
      replace a0:=ip a0 p0
      refine AU rfl rfl rfl (Ar rfl rfl (o_z ?_))
      obtain rfl:=sm a0
      refine (?_:Exists _)
      exact ⟨_,(),rfl,⟨rfl,rfl,rfl,rfl,rfl,rfl,rfl,trivial⟩,_,hB,e0,i0,j0,b0⟩
     ·
      replace a0:=im a0 p0
      refine AU rfl rfl rfl (Ar rfl rfl (o_z ?_))
      obtain rfl:=sm a0
      refine (?_:Exists _)
      exact ⟨_,(),rfl,⟨rfl,rfl,rfl,rfl,rfl,rfl,rfl,trivial⟩,_,hB,e0,i0,j0,b0⟩
  rintro u2 v2 ⟨w2,x2,rfl,k0,y2,hB,b0⟩
  replace h0:=AX h0
  obtain rfl:=sm h0
  refine (?_:Exists _)
  exact ⟨_,(),rfl,⟨(BK k0 _ _ rfl),(BK k0 _ _ rfl),(BK k0 _ _ rfl),(BK k0 _ _ rfl),trivial⟩,_,hB,b0⟩
 replace hB:=hB.st g1
 rintro z2 a3 ⟨b3,c3,rfl,b1,d3,hB⟩
 replace hm:=AX hm
 refine AN _ b1 ?_
 refine Al (Aj (Am rfl rfl (Ar rfl rfl (o_z ?_))))
 refine AF ?_
 obtain rfl:=sm hm
 exact ret1v rfl (AA rfl) ⟨hB.ext,vBool⟩
noncomputable def Ex (x0:Tsk):Option Int :=
  bnd (Ew x0) fun q24=>if q24=true then some 5 else bnd (DS x0) fun q31=>if q31=true then some 1 else bnd (Dr x0) fun q38=>if q38=true then some 2 else bnd (DC x0) fun q45=>if q45=true then some 8 else some 0
theorem Ky {w:World} {A:Nat→Prop} (hA:∀ k,A k→k < w.heap.size) {vx0:Value} {x0:Tsk} (o0:Vb w A vx0 x0) {r:Int} (hm:Ex x0=some r) :
    Fn Tryz.prog 25 [vx0] w fun v w'=>Ext w w'∧Vb w' (upA A w w') v r:=by
 obtain ⟨O,hB,d1⟩:=enter hA
 replace o0:=o0.mono d1
 obtain ⟨n1,rfl,v3,v4,v5,v6,rfl,h7,a0,b0,c0⟩:=o0
 obtain ⟨A8,c9,rfl⟩:=h7.form
 obtain ⟨i0,j0,rfl⟩:=a0.form
 obtain ⟨k0,l0,rfl⟩:=b0.form
 obtain ⟨m0,n0,rfl⟩:=c0.form
 refine AD Tryz.func25 rfl Tryz.ntmps25 rfl ?_
 unfold Ex at hm
 refine Al (Aj (CD 2 O rfl rfl fun e1 p0 q0 f0 d0=>?_))
 replace d0:Lc 2 p0 q0 e1 26 [(.slice A8 x0.vars.length c9),(.slice i0 x0.init.length j0),(.slice k0 x0.goal.length l0),(.slice m0 x0.ops.length n0)]:=d0
 refine Ar rfl rfl (o_z ?_)
 refine Al (AM (Al (Aj (Bk (hl:=rfl) (hc:=(d0.1).cellsAt) rfl rfl ?_))))
 obtain ⟨r0,f1,hm⟩:=bs hm
 replace h7:=h7.st f0
 replace a0:=a0.st f0
 replace b0:=b0.st f0
 replace c0:=c0.st f0
 refine Bt (O:=q0) (A:=All p0) (R:=fun w' F v=>Vb w' F v r0) (Kx (fun _ h=>h) (Vb.mono (F:=Fr 0 p0 q0) (Vb.ofAgg (cs:=[(.slice A8 x0.vars.length c9),(.slice i0 x0.init.length j0),(.slice k0 x0.goal.length l0),(.slice m0 x0.ops.length n0)]) (x:=x0) rfl ⟨_,_,_,_,rfl,h7,a0,b0,c0⟩) Fr.lt) f1) rfl rfl fun o1 s0 t0 e0 g1=>?_
 obtain rfl:=g1.bool
 cases r0
 case false =>
  replace hm:=iF hm
  refine Ar rfl rfl (o_z ?_)
  refine Ae rfl (Al (Aj ?_))
  replace d0:=d0.st e0
  refine Bk (hl:=rfl) (hc:=(d0.1).cellsAt) rfl rfl ?_
  obtain ⟨u0,h1,hm⟩:=bs hm
  replace h7:=h7.st e0
  replace a0:=a0.st e0
  replace b0:=b0.st e0
  replace c0:=c0.st e0
  refine Bt (O:=t0) (A:=All s0) (R:=fun w' F v=>Vb w' F v u0) (JL (fun _ h=>h) (Vb.mono (F:=Fr 0 s0 t0) (Vb.ofAgg (cs:=[(.slice A8 x0.vars.length c9),(.slice i0 x0.init.length j0),(.slice k0 x0.goal.length l0),(.slice m0 x0.ops.length n0)]) (x:=x0) rfl ⟨_,_,_,_,rfl,h7,a0,b0,c0⟩) Fr.lt) h1) rfl rfl fun p1 v0 w0 g0 i1=>?_
  obtain rfl:=i1.bool
  cases u0
  case false =>
   replace hm:=iF hm
   refine Ar rfl rfl (o_z ?_)
   refine Ae rfl (Al (Aj ?_))
   replace d0:=d0.st g0
   refine Bk (hl:=rfl) (hc:=(d0.1).cellsAt) rfl rfl ?_
   obtain ⟨y0,j1,hm⟩:=bs hm
   replace h7:=h7.st g0
   replace a0:=a0.st g0
   replace b0:=b0.st g0
   replace c0:=c0.st g0
   refine Bt (O:=w0) (A:=All v0) (R:=fun w' F v=>Vb w' F v y0) (IL (fun _ h=>h) (Vb.mono (F:=Fr 0 v0 w0) (Vb.ofAgg (cs:=[(.slice A8 x0.vars.length c9),(.slice i0 x0.init.length j0),(.slice k0 x0.goal.length l0),(.slice m0 x0.ops.length n0)]) (x:=x0) rfl ⟨_,_,_,_,rfl,h7,a0,b0,c0⟩) Fr.lt) j1) rfl rfl fun q1 z0 a1 h0 k1=>?_
   obtain rfl:=k1.bool
   cases y0
   case false =>
    replace hm:=iF hm
    refine Ar rfl rfl (o_z ?_)
    refine Ae rfl (Al (Aj ?_))
    replace d0:=d0.st h0
    refine Bk (hl:=rfl) (hc:=(d0.1).cellsAt) rfl rfl ?_
    obtain ⟨b1,l1,hm⟩:=bs hm
    replace h7:=h7.st h0
    replace a0:=a0.st h0
    replace b0:=b0.st h0
    replace c0:=c0.st h0
    refine Bt (O:=a1) (A:=All z0) (R:=fun w' F v=>Vb w' F v b1) (Jk (fun _ h=>h) (Vb.mono (F:=Fr 0 z0 a1) (Vb.ofAgg (cs:=[(.slice A8 x0.vars.length c9),(.slice i0 x0.init.length j0),(.slice k0 x0.goal.length l0),(.slice m0 x0.ops.length n0)]) (x:=x0) rfl ⟨_,_,_,_,rfl,h7,a0,b0,c0⟩) Fr.lt) l1) rfl rfl fun r1 s1 t1 c1 m1=>?_
    obtain rfl:=m1.bool
    cases b1
    case false =>
     replace hm:=iF hm
     refine Ar rfl rfl (o_z ?_)
     refine Ae rfl (AJ (Al (Aj (Ar rfl rfl (o_z ?_)))))
     refine AF ?_
     obtain rfl:=sm hm
     replace hB:=((((hB.st f0).st e0).st g0).st h0).st c1
     exact ret1v rfl (AA rfl) ⟨hB.ext,(vInt (show inI64 (0) from by decide))⟩
    replace hm:=iT hm
    refine Ar rfl rfl (o_z ?_)
    refine Ah rfl (Al (Aj (Ar rfl rfl (o_z ?_))))
    refine AF ?_
    obtain rfl:=sm hm
    replace hB:=((((hB.st f0).st e0).st g0).st h0).st c1
    exact ret1v rfl (AA rfl) ⟨hB.ext,(vInt (show inI64 (8) from by decide))⟩
   replace hm:=iT hm
   refine Ar rfl rfl (o_z ?_)
   refine Ah rfl (Al (Aj (Ar rfl rfl (o_z ?_))))
   refine AF ?_
   obtain rfl:=sm hm
   replace hB:=(((hB.st f0).st e0).st g0).st h0
   exact ret1v rfl (AA rfl) ⟨hB.ext,(vInt (show inI64 (2) from by decide))⟩
  replace hm:=iT hm
  refine Ar rfl rfl (o_z ?_)
  refine Ah rfl (Al (Aj (Ar rfl rfl (o_z ?_))))
  refine AF ?_
  obtain rfl:=sm hm
  replace hB:=((hB.st f0).st e0).st g0
  exact ret1v rfl (AA rfl) ⟨hB.ext,(vInt (show inI64 (1) from by decide))⟩
 replace hm:=iT hm
 refine Ar rfl rfl (o_z ?_)
 refine Ah rfl (Al (Aj (Ar rfl rfl (o_z ?_))))
 refine AF ?_
 obtain rfl:=sm hm
 replace hB:=(hB.st f0).st e0
 exact ret1v rfl (AA rfl) ⟨hB.ext,(vInt (show inI64 (5) from by decide))⟩
end
end Go.Proofs.YtafdmfhdjfkooaaGreat

/- Own text: what the proof of breadthShortest_holds uses, part 4: rules, models and their proofs, plain laws. -/
import Derived.Test.YthomfnkaicjmbaaPShoC
set_option linter.unusedVariables false
set_option linter.unusedSimpArgs false
namespace Go.Proofs.Ythomfnkaicjmbaa
open Go Go.RowKit
section
open Go Go.RowKit
attribute [local irreducible] ewp owp hwp hwq hws Ev Evg Fn retPost loud loudS Res1
def preOf (t:Tsk) (op:Int):List Fct:=match t.ops[op.toNat]? with|some o=>o.pre|none=>[]
def tests (t:Tsk) (ops:List Int) (v:Nat):Bool:=ops.any fun op=>(factOn (preOf t op) (v:Int)).isSome
def nextF (t:Tsk) (ops:List Int):Nat→Nat→Nat
  | 0,v=>v
  | k + 1,v=>if tests t ops v=true then v else nextF t ops k (v + 1)
def nextV (t:Tsk) (ops:List Int) (v:Nat):Nat:=nextF t ops (t.vars.length - v) v
def valB (t:Tsk) (u:Nat) (x:Nat) (op:Int):Bool:=match factOn (preOf t op) (u:Int) with|some f=>decide (f.val=(x:Int))|none=>false
def restB (t:Tsk) (u:Nat) (op:Int):Bool:=(factOn (preOf t op) (u:Int)).isNone
def mkT (t:Tsk):Nat→List Int→Nat→Tr
  | 0,_,_=>.nil
  | fuel + 1,ops,v =>
    if ops.isEmpty then .nil
    else if nextV t ops v=t.vars.length then .leaf ops
    else .node (nextV t ops v) (t.vars[nextV t ops v]?.getD 0).toNat (fun x=>mkT t fuel (ops.filter (valB t (nextV t ops v) x)) (nextV t ops v + 1)) (mkT t fuel (ops.filter (restB t (nextV t ops v))) (nextV t ops v + 1))
theorem GA (t:Tsk) (ops:List Int):∀ (k v:Nat),v≤nextF t ops k v∧nextF t ops k v≤v + k∧(∀ u,v≤u→u < nextF t ops k v→tests t ops u=false)∧(nextF t ops k v < v + k→tests t ops (nextF t ops k v)=true)
  | 0,v=>by simp [nextF];intro u h1 h2;omega
  | k + 1,v=>by
    by_cases h:tests t ops v=true
    · simp only [nextF,h,if_true]
      exact ⟨Nat.le_refl _,by omega,fun u h1 h2=>by omega,fun _=>trivial⟩
    · obtain ⟨h1,h2,h3,h4⟩:=GA t ops k (v + 1)
      simp only [nextF,h]
      refine ⟨by simp;omega,by simp;omega,fun u hu1 hu2=>?_,fun hlt=>h4 (by simp at hlt;omega)⟩
      by_cases he:u=v
      · subst he;simpa using h
      · exact h3 u (by omega) (by simpa using hu2)
theorem Lu (t:Tsk) (ops:List Int) {v u:Nat} (h1:v≤u) (h2:u≤t.vars.length) (h3:∀ x,v≤x→x < u→tests t ops x=false) (h4:u < t.vars.length→tests t ops u=true):nextV t ops v=u:=by
  obtain ⟨g1,g2,g3,g4⟩:=GA t ops (t.vars.length - v) v
  unfold nextV
  rcases Nat.lt_trichotomy (nextF t ops (t.vars.length - v) v) u with h|h|h
  · have:=h3 _ g1 h
    rw [g4 (by omega)] at this;cases this
  · exact h
  · have:=g3 u h1 h
    rw [h4 (by omega)] at this;cases this
def OpsIn (t:Tsk) (ops:List Int):Prop:=∀ op∈ops,0≤op∧op < t.ops.length
def FitsVals (t:Tsk):Prop:=∀ (i:Nat) o,t.ops[i]?=some o→∀ (v:Nat) f,factOn o.pre (v:Int)=some f→v < t.vars.length→0≤f.val∧∃ n,t.vars[v]?=some n∧f.val < n
structure ByInv (w:World) (base gby:Nat) (vals:List Value) (rv:Value) (L:Nat→List Int) (R:List Int) (m:Nat):Prop where
  len:vals.length=m
  blk:Blk w gby 22 vals
  own:∀ (i:Nat) (u:Value),vals[i]?=some u→Own w base (fun _=>False) 3 u (L i)
  rest:Own w base (fun _=>False) 3 rv R
  apart:∀ (i j:Nat) (u u':Value),i≠j→vals[i]?=some u→vals[j]?=some u'→∀ g,u.ownBlock=some g→u'.ownBlock≠some g
  apartR:∀ (i:Nat) (u:Value),vals[i]?=some u→∀ g,u.ownBlock=some g→rv.ownBlock≠some g
theorem ByInv.ext {w w':World} {base gby:Nat} {vals:List Value} {rv:Value} {L:Nat→List Int} {R:List Int} {m:Nat} (h:ByInv w base gby vals rv L R m) (hE:Ext w w'):ByInv w' base gby vals rv L R m :=
  ⟨h.len,h.blk.ext hE,fun i u hu=>(h.own i u hu).ext hE fun _ hk=>hk.elim,h.rest.ext hE fun _ hk=>hk.elim,h.apart,h.apartR⟩
theorem ByInv.putRest {w w':World} {base gby:Nat} {vals:List Value} {rv rv':Value} {L:Nat→List Int} {R R':List Int} {m:Nat} (h:ByInv w base gby vals rv L R m) (hK:Kept w w' rv) (ho:Own w' base (fun _=>False) 3 rv' R')
    (hat:rv'.ownBlock=rv.ownBlock∨∃ g,rv'.ownBlock=some g∧w.heap.size≤g):ByInv w' base gby vals rv' L R' m:=by
  refine ⟨h.len,hK.blk h.blk (h.rest.blk_ne h.blk (by decide)),fun i u hu=>(h.own i u hu).kept hK (fun _ hk=>hk.elim) (h.apartR i u hu),ho,h.apart,fun i u hu g hg he=>?_⟩
  rcases hat with hat|⟨g',hat,hge⟩
  · exact h.apartR i u hu g hg (hat ▸ he)
  · have:=((h.own i u hu).lt g hg).2
    rw [hat] at he;injection he with he;omega
theorem ByInv.putVal {w w' w'':World} {base gby:Nat} {vals:List Value} {rv u v':Value} {L:Nat→List Int} {R:List Int} {m i:Nat} {xs:List Int} (h:ByInv w base gby vals rv L R m) (hu:vals[i]?=some u) (hK:Kept w w' u) (ho:Own w' base (fun _=>False) 3 v' xs)
    (hat:v'.ownBlock=u.ownBlock∨∃ g,v'.ownBlock=some g∧w.heap.size≤g) (hU:Upd w' w'' gby 22 (vals.set i v')):ByInv w'' base gby (vals.set i v') rv (fun j=>if j=i then xs else L j) R m:=by
  have hi:i < vals.length:=(List.getElem?_eq_some_iff.1 hu).1
  have key:∀ {v:Value} {ys:List Int},Own w' base (fun _=>False) 3 v ys→Own w'' base (fun _=>False) 3 v ys:=fun hv=>by
    have hne:=hv.blk_ne (hK.blk h.blk ((h.own i u hu).blk_ne h.blk (by decide))) (by decide)
    exact hv.agree (fun _ hk=>hk.elim) fun g hg=>hU.other g fun he=>hne (he ▸ hg)
  have sep:∀ {y:Value} {ys:List Int},Own w base (fun _=>False) 3 y ys→(∀ g,u.ownBlock=some g→y.ownBlock≠some g)→∀ g,v'.ownBlock=some g→y.ownBlock≠some g:=fun hy hsep g hg he=>by
    rcases hat with hat|⟨g',hat,hge⟩
    · exact hsep g (hat ▸ hg) he
    · have:=(hy.lt g he).2
      rw [hat] at hg;injection hg with hg;omega
  refine ⟨by rw [List.length_set];exact h.len,hU.blk,fun j y hy=>?_,key (h.rest.kept hK (fun _ hk=>hk.elim) fun g hg he=>h.apartR i u hu g he hg),fun j k y y' hjk hy hy' g hg=>?_,fun j y hy g hg=>?_⟩
  · by_cases hj:j=i
    · subst hj
      rw [List.getElem?_set_self hi] at hy
      injection hy with hy;subst hy
      rw [if_pos rfl];exact key ho
    · rw [List.getElem?_set_ne (Ne.symm hj)] at hy
      rw [if_neg hj]
      exact key ((h.own j y hy).kept hK (fun _ hk=>hk.elim) (h.apart j i y u hj hy hu))
  · by_cases hj:j=i
    · subst hj
      rw [List.getElem?_set_self hi] at hy
      injection hy with hy;subst hy
      rw [List.getElem?_set_ne hjk] at hy'
      exact sep (h.own k y' hy') (h.apart j k u y' hjk hu hy') g hg
    · rw [List.getElem?_set_ne (Ne.symm hj)] at hy
      by_cases hk:k=i
      · subst hk
        rw [List.getElem?_set_self hi] at hy'
        injection hy' with hy';subst hy'
        intro he
        exact sep (h.own j y hy) (h.apart k j u y (Ne.symm hj) hu hy) g he hg
      · rw [List.getElem?_set_ne (Ne.symm hk)] at hy'
        exact h.apart j k y y' hjk hy hy' g hg
  · by_cases hj:j=i
    · subst hj
      rw [List.getElem?_set_self hi] at hy
      injection hy with hy;subst hy
      exact sep h.rest (h.apartR j u hu) g hg
    · rw [List.getElem?_set_ne (Ne.symm hj)] at hy
      exact h.apartR j y hy g hg
instance:Rp Tr where
  isAgg:=false
  size:=1
  R w F cs T:=∃ q,cs=[.pointer q]∧TrR w F T (.pointer q)
  len:=by rintro w F cs x ⟨v,rfl,_⟩;rfl
  one:=by rintro w F cs x ⟨v,rfl,h⟩ u hu;simp at hu;subst hu;rfl
  agree:=by rintro w w' F cs x ⟨v,rfl,h⟩ ha;exact ⟨v,rfl,TrR.agree ha h⟩
  mono:=by rintro w F G cs x ⟨v,rfl,h⟩ ha;exact ⟨v,rfl,TrR.mono ha h⟩
def more (F:Nat→Prop) (w w':World):Nat→Prop:=fun k=>F k∨w.heap.size≤k∧k < w'.heap.size
theorem EV {p:Int→Bool} {l:List Int} {k:Nat} {x:Int} (h:l[k]?=some x):(l.take (k + 1)).filter p=(l.take k).filter p ++ if p x=true then [x] else []:=by
  rw [List.take_add_one,h,List.filter_append]
  cases hp:p x<;>simp [hp]
theorem KX (n:Nat):(madeCells (Value.slice none 0 0).cells (n * 1)).toList=List.replicate n (.slice none 0 0):=Jq _ n rfl
theorem genBuild (t:Tsk) (hdom:VarsOk t) (hfv:FitsVals t) (hvl:t.vars.length≤64):∀ (fuel:Nat) (w:World) (gv opsv:Value) (ops:List Int) (v:Nat) (F:Nat→Prop),GenB w (All w) gv t→Vb w F opsv ops→(∀ k,F k→k < w.heap.size)→OpsIn t ops→ops.length≤4096 →
    v≤t.vars.length→t.vars.length < fuel + v→Fn Try.prog 73 [gv,opsv,.int .i64 (v:Int)] w fun p w'=>TrR w' (more F w w') (mkT t fuel ops v) p∧Ext w w':=by
  intro fuel
  induction fuel with
  | zero=>intro w gv opsv ops v F _ _ _ _ _ h1 h2;omega
  | succ fuel ih =>
    intro w gv opsv ops v F hg0 hops hF hin hlen hvn hfuel
    obtain ⟨gb,a,b,c,d,rp,rfl,hgb,hbg,hvars,hinit,hgoal,hopsv⟩:=id hg0
    obtain ⟨Av,cv,rfl⟩:=hvars.form
    obtain ⟨Ax,cx,rfl⟩:=hops.form
    refine AK Try.func73 rfl Try.ntmps73 rfl ?_
    repeat (first|refine Ah ?_|refine Al ?_|refine Ae ?_|refine Am ?_|refine At ?_|refine Au ?_|refine Ar rfl ?_|refine Aj rfl ?_)
    refine CR rfl rfl fun w1 hN1=>?_
    refine CR rfl rfl fun w2 hN2=>?_
    have hE2:Ext w w2:=hN1.ext.trans' hN2.ext
    have hb1:Blk w2 w.heap.size 72 [.pointer (some ⟨gb,0,none⟩)]:=hN1.blk.ext hN2.ext
    have hb2:Blk w2 w1.heap.size 3 [.int .i64 (v:Int)]:=hN2.blk
    have hg12:w1.heap.size≠w.heap.size:=by rw [hN1.size];omega
    have hg2w:w.heap.size≤w1.heap.size:=hN1.ext.size
    have hz1:w1.heap.size=w.heap.size + 1:=hN1.size
    have hz2:w2.heap.size=w1.heap.size + 1:=hN2.size
    (refine o_as rfl rfl ?_<;>(first|refine Ay ?_|refine Az ?_|refine Aw ?_|refine AA ?_))
    repeat (first|refine Ah ?_|refine Al ?_|refine Ae ?_|refine Am ?_|refine At ?_|refine Au ?_|refine Ar rfl ?_|refine Aj rfl ?_)
    by_cases hemp:ops.length=0
    · have:ops=[]:=List.eq_nil_of_length_eq_zero hemp
      subst this
      ((repeat (first|refine Ah ?_|refine Al ?_|refine Ae ?_|refine Am ?_|refine At ?_|refine Au ?_|refine Ar rfl ?_|refine Aj rfl ?_))<;>(refine o_mv rfl rfl ?_<;>refine o_ln rfl rfl ?_<;>(first|refine o_eeT rfl rfl rfl ?_|refine o_eeF rfl rfl rfl ?_)<;>(first|refine Ay ?_|refine Az ?_|refine Aw ?_|refine AA ?_))<;>(repeat (first|refine Ah ?_|refine Al ?_|refine Ae ?_|refine Am ?_|refine At ?_|refine Au ?_|refine Ar rfl ?_|refine Aj rfl ?_))<;>(refine o_as rfl rfl ?_<;>(first|refine Ay ?_|refine Az ?_|refine Aw ?_|refine AA ?_))<;>(repeat (first|refine Ah ?_|refine Al ?_|refine Ae ?_|refine Am ?_|refine At ?_|refine Au ?_|refine Ar rfl ?_|refine Aj rfl ?_)))
      exact ret1 rfl rfl ⟨rfl,hE2⟩
    have hemp':ops.isEmpty=false:=by cases ops<;>simp at *
    (refine o_mv rfl rfl ?_<;>refine o_ln rfl rfl ?_<;>(first|refine o_eeT rfl rfl rfl ?_|refine o_eeF rfl rfl rfl ?_)<;>(first|refine Ay ?_|refine Az ?_|refine Aw ?_|refine AA ?_))
    refine Aj rfl (Am ?_)
    refine JM (fun l' w'=>∃ u:Nat,subs l' [(1,.slice Ax ops.length cx),(3,.pointer (some ⟨w.heap.size,0,none⟩)),(5,.pointer (some ⟨w1.heap.size,0,none⟩))]∧Ext w w'∧Blk w' w.heap.size 72 [.pointer (some ⟨gb,0,none⟩)]∧Blk w' w1.heap.size 3 [.int .i64 (u:Int)] ∧
      v≤u∧u≤t.vars.length∧(∀ x,v≤x→x < u→tests t ops x=false)∧(u < t.vars.length→tests t ops u=true)) ?_ ?_
    · repeat (first|refine Ah ?_|refine Al ?_|refine Ae ?_|refine Am ?_|refine At ?_|refine Au ?_|refine Ar rfl ?_|refine Aj rfl ?_)
      refine Dq (fun _:Nat=>[(1,.slice Ax ops.length cx),(3,.pointer (some ⟨w.heap.size,0,none⟩)),(5,.pointer (some ⟨w1.heap.size,0,none⟩))]) (fun u w'=>Ext w w'∧Blk w' w.heap.size 72 [.pointer (some ⟨gb,0,none⟩)]∧Blk w' w1.heap.size 3 [.int .i64 (u:Int)] ∧
        v≤u∧u≤t.vars.length∧∀ x,v≤x→x < u→tests t ops x=false) (fun u=>t.vars.length - u) v ⟨hE2,hb1,hb2,Nat.le_refl _,hvn,fun x h1 h2=>by omega⟩ ⟨rfl,rfl,rfl,trivial⟩ ?_
      rintro u w3 ⟨hE3,hb1,hb2,hvu,hun,hno⟩
      have hb3:=hbg.ext hE3
      repeat (first|refine Ah ?_|refine Al ?_|refine Ae ?_|refine Am ?_|refine At ?_|refine Au ?_|refine Ar rfl ?_|refine Aj rfl ?_)
      refine BE (Ext w3) [(0,true),(1,true),(2,true),(3,true),(4,true),(5,true),(6,true),(7,true),(8,true),(9,true),(10,true),(11,false),(12,true),(13,true)] (by kernel_rfl) rfl (by kernel_rfl) (Below.refl _ _) ?_
      by_cases hlt:u < t.vars.length
      · (refine h_ldE rfl rfl rfl ?_<;>refine h_ldE rfl rfl rfl ?_<;>refine h_nc rfl rfl rfl ?_<;>refine h_fa rfl rfl rfl ?_<;>refine h_fa rfl rfl rfl ?_<;>refine h_ldE rfl rfl rfl ?_<;>refine h_ln rfl rfl rfl ?_<;>(first|refine h_ltT rfl rfl rfl rfl ?_|refine h_ltF rfl rfl rfl rfl ?_|refine h_ltS rfl rfl rfl rfl (fun _=>?_) fun _=>?_)<;>refine h_mv rfl rfl rfl ?_<;>(refine hwp_o rfl ?_;(first|(refine AB rfl rfl ?_;refine g_mv rfl rfl ?_)|refine AF rfl rfl rfl rfl ?_))<;>(refine hwp_o rfl ?_;(first|(refine AB rfl rfl ?_;refine g_mf rfl rfl rfl ?_)|refine AF rfl rfl rfl rfl ?_)))
        refine Bu rfl ?_
        refine AE rfl rfl ?_
        have hV3:V w3 (.slice Ax ops.length cx) ops:=Vb.mono (Vb.agree hops (hE3.agree hF)) fun k hk=>Nat.lt_of_lt_of_le (hF k hk) hE3.size
        have hex:(∃ x∈ops,(factOn (preOf t x) (u:Int)).isSome=true)↔tests t ops u=true:=by unfold tests;rw [List.any_eq_true]
        refine Cn rfl rfl (containsFuncInts (g:=86) (caps:=[.pointer (some ⟨w.heap.size,0,none⟩),.pointer (some ⟨w1.heap.size,0,none⟩)]) (p:=fun op=>(factOn (preOf t op) (u:Int)).isSome=true) hV3 ?_) ?_ ?_
        · intro vx x w' hx hE' hvx
          obtain ⟨hvx,_⟩:=hvx
          obtain rfl:vx=.int .i64 x:=by simpa using hvx
          obtain ⟨hx0,hx1⟩:=hin x hx
          obtain ⟨j,rfl⟩:=Int.eq_ofNat_of_zero_le hx0
          obtain ⟨o,ho⟩:=AH (l:=t.ops) (k:=j) (by omega)
          refine (genBuild1 (hg0.ext (hE3.trans' hE')) ho (hb1.ext hE') (hb2.ext hE')).mono fun r w'' ⟨hr,hE''⟩=>⟨?_,hE''⟩
          rw [hr,bof_b]
          simp [preOf,ho]
        · intro w4 hp hE4
          refine BP hE4 ?_
          ((refine hwp_o rfl ?_;(first|(refine AB rfl rfl ?_;(first|refine g_nt rfl rfl ?_|refine g_nf rfl rfl ?_|refine g_nn rfl rfl ?_))|refine AF rfl rfl rfl rfl ?_))<;>(first|refine h_pt rfl rfl rfl rfl ?_|refine h_pf rfl rfl rfl rfl ?_)<;>(first|refine AI ?_|refine BF ?_|refine BK ?_))
          repeat (first|refine Ah ?_|refine Al ?_|refine Ae ?_|refine Am ?_|refine At ?_|refine Au ?_|refine Ar rfl ?_|refine Aj rfl ?_)
          exact ⟨u,⟨rfl,rfl,rfl,trivial⟩,hE3.trans' hE4,hb1.ext hE4,hb2.ext hE4,hvu,hun,hno,fun _=>hex.1 hp⟩
        · intro w4 hp hE4
          refine BP hE4 ?_
          ((refine hwp_o rfl ?_;(first|(refine AB rfl rfl ?_;(first|refine g_nt rfl rfl ?_|refine g_nf rfl rfl ?_|refine g_nn rfl rfl ?_))|refine AF rfl rfl rfl rfl ?_))<;>(first|refine h_pt rfl rfl rfl rfl ?_|refine h_pf rfl rfl rfl rfl ?_)<;>(first|refine AI ?_|refine BF ?_|refine BK ?_))
          repeat (first|refine Ah ?_|refine Al ?_|refine Ae ?_|refine Am ?_|refine At ?_|refine Au ?_|refine Ar rfl ?_|refine Aj rfl ?_)
          replace hb1:=hb1.ext hE4
          replace hb2:=hb2.ext hE4
          (refine o_ld rfl rfl ?_<;>(first|refine o_ic rfl rfl ?_|refine o_ad rfl rfl rfl ?_))
          refine By rfl rfl hb2 rfl (Nat.le_refl _) (by simp [Value.cells,Value.oneCell']) fun w5 hU=>?_
          ((first|refine Ay ?_|refine Az ?_|refine Aw ?_|refine AA ?_))
          refine ⟨u + 1,⟨rfl,rfl,rfl,trivial⟩,⟨(hE3.trans' hE4).trans (hU.below hg2w),hb1.keep (hU.other _ (fun h=>hg12 h.symm)),hU.blk,by omega,by omega,fun x h1 h2=>?_⟩,by omega⟩
          by_cases he:x=u
          · subst he
            cases hq:tests t ops x
            · rfl
            · exact absurd (hex.2 hq) hp
          · exact hno x h1 (by omega)
      · (refine h_ldE rfl rfl rfl ?_<;>refine h_ldE rfl rfl rfl ?_<;>refine h_nc rfl rfl rfl ?_<;>refine h_fa rfl rfl rfl ?_<;>refine h_fa rfl rfl rfl ?_<;>refine h_ldE rfl rfl rfl ?_<;>refine h_ln rfl rfl rfl ?_<;>(first|refine h_ltT rfl rfl rfl rfl ?_|refine h_ltF rfl rfl rfl rfl ?_|refine h_ltS rfl rfl rfl rfl (fun _=>?_) fun _=>?_)<;>refine h_mv rfl rfl rfl ?_<;>(refine hwp_o rfl ?_;(first|(refine AB rfl rfl ?_;refine g_mv rfl rfl ?_)|refine AF rfl rfl rfl rfl ?_))<;>(refine hwp_o rfl ?_;(first|(refine AB rfl rfl ?_;refine g_mf rfl rfl rfl ?_)|refine AF rfl rfl rfl rfl ?_)))
        refine Bu rfl ?_
        refine AD rfl rfl rfl rfl ?_
        refine BP (Below.refl _ _) ?_
        ((refine hwp_o rfl ?_;(first|(refine AB rfl rfl ?_;(first|refine g_nt rfl rfl ?_|refine g_nf rfl rfl ?_|refine g_nn rfl rfl ?_))|refine AF rfl rfl rfl rfl ?_))<;>(first|refine h_pt rfl rfl rfl rfl ?_|refine h_pf rfl rfl rfl rfl ?_)<;>(first|refine AI ?_|refine BF ?_|refine BK ?_))
        repeat (first|refine Ah ?_|refine Al ?_|refine Ae ?_|refine Am ?_|refine At ?_|refine Au ?_|refine Ar rfl ?_|refine Aj rfl ?_)
        exact ⟨u,⟨rfl,rfl,rfl,trivial⟩,hE3,hb1,hb2,hvu,hun,hno,fun h=>absurd h hlt⟩
    rintro l' w3 ⟨u,hsub,hE3,hb1,hb2,hvu,hun,hno,hyes⟩
    refine AP _ hsub ?_
    clear hsub
    have hnx:nextV t ops v=u:=Lu t ops hvu hun hno hyes
    have hb3:=hbg.ext hE3
    have hV3:Vb w3 F (.slice Ax ops.length cx) ops:=Vb.agree hops (hE3.agree hF)
    repeat (first|refine Ah ?_|refine Al ?_|refine Ae ?_|refine Am ?_|refine At ?_|refine Au ?_|refine Ar rfl ?_|refine Aj rfl ?_)
    refine BE (·=w3) [(0,true),(1,true),(2,true),(3,true),(4,true),(5,true),(6,true),(7,true)] (by kernel_rfl) rfl (by kernel_rfl) rfl ?_
    by_cases hlast:u=t.vars.length
    · (refine h_ldA rfl rfl rfl ?_<;>refine h_ldA rfl rfl rfl ?_<;>refine h_nc rfl rfl rfl ?_<;>refine h_fa rfl rfl rfl ?_<;>refine h_fa rfl rfl rfl ?_<;>refine h_ldA rfl rfl rfl ?_<;>refine h_ln rfl rfl rfl ?_<;>(first|refine h_eeT rfl rfl rfl rfl ?_|refine h_eeF rfl rfl rfl rfl ?_|refine h_eeS rfl rfl rfl rfl (fun _=>?_) fun _=>?_)<;>(first|refine AI ?_|refine BF ?_|refine BK ?_))<;>(repeat (first|refine Ah ?_|refine Al ?_|refine Ae ?_|refine Am ?_|refine At ?_|refine Au ?_|refine Ar rfl ?_|refine Aj rfl ?_))
      (refine o_mv rfl rfl ?_<;>refine o_bd rfl rfl rfl ?_)
      refine CR rfl rfl fun w4 hN4=>?_
      (refine o_as rfl rfl ?_<;>(first|refine Ay ?_|refine Az ?_|refine Aw ?_|refine AA ?_))
      repeat (first|refine Ah ?_|refine Al ?_|refine Ae ?_|refine Am ?_|refine At ?_|refine Au ?_|refine Ar rfl ?_|refine Aj rfl ?_)
      have hE4:Ext w w4:=hE3.trans' hN4.ext
      have hT:mkT t (fuel + 1) ops v=.leaf ops:=by simp only [mkT,hemp',hnx,hlast];simp
      rw [hT]
      refine ret1 rfl rfl ⟨⟨w3.heap.size,.slice Ax ops.length cx,rfl,.inr ⟨hE3.size,hN4.blk.lt⟩,hN4.blk,?_⟩,hE4⟩
      exact Vb.mono (Vb.agree hV3 (hN4.ext.agree fun k hk=>Nat.lt_of_lt_of_le (hF k hk) hE3.size)) fun k hk=>.inl hk
    have hun':u < t.vars.length:=by omega
    obtain ⟨n,hn⟩:=AH hun'
    have hn1:=hdom u n hn
    obtain ⟨m,rfl⟩:=Int.eq_ofNat_of_zero_le (show 0≤n by omega)
    have hT:mkT t (fuel + 1) ops v=.node u m (fun x=>mkT t fuel (ops.filter (valB t u x)) (u + 1)) (mkT t fuel (ops.filter (restB t u)) (u + 1)):=by
      simp only [mkT,hemp',hnx,hlast,hn];simp
    rw [hT]
    clear hT hnx
    (refine h_ldA rfl rfl rfl ?_<;>refine h_ldA rfl rfl rfl ?_<;>refine h_nc rfl rfl rfl ?_<;>refine h_fa rfl rfl rfl ?_<;>refine h_fa rfl rfl rfl ?_<;>refine h_ldA rfl rfl rfl ?_<;>refine h_ln rfl rfl rfl ?_<;>(first|refine h_eeT rfl rfl rfl rfl ?_|refine h_eeF rfl rfl rfl rfl ?_|refine h_eeS rfl rfl rfl rfl (fun _=>?_) fun _=>?_)<;>(first|refine AI ?_|refine BF ?_|refine BK ?_))<;>(repeat (first|refine Ah ?_|refine Al ?_|refine Ae ?_|refine Am ?_|refine At ?_|refine Au ?_|refine Ar rfl ?_|refine Aj rfl ?_))
    obtain ⟨bv,ov,ce,rfl,hbv,_,hdv,rfl,_⟩:=hvars.elem hn
    refine BE (Ext w3) [(0,true),(1,true),(2,true),(3,true),(4,true),(5,true),(6,true),(7,true),(8,false),(9,true)] (by kernel_rfl) rfl (by kernel_rfl) (Below.refl _ _) ?_
    have hb1s:=hb1
    have hb2s:=hb2
    replace hb1:∀ w',Ext w3 w'→Blk w' w.heap.size 72 [.pointer (some ⟨gb,0,none⟩)]:=fun w' h=>hb1s.ext h
    replace hb2:∀ w',Ext w3 w'→Blk w' w1.heap.size 3 [.int .i64 (u:Int)]:=fun w' h=>hb2s.ext h
    have hb3s:=hb3
    replace hb3:∀ w',Ext w3 w'→Blk w' gb 129 [.slice (some ⟨bv,ov,none⟩) t.vars.length cv,b,c,d,.pointer rp]:=fun w' h=>hb3s.ext h
    have hd1:∀ w',Ext w3 w'→cellsAt w' bv (ov + u * 1) [.int .i64 (m:Int)]:=fun w' h=>GZ hdv hbv (hE3.trans' h)
    ((first|refine h_ldB rfl rfl rfl ?_|refine h_ldC rfl rfl rfl ?_)<;>refine h_nc rfl rfl rfl ?_<;>refine h_fa rfl rfl rfl ?_<;>refine h_fa rfl rfl rfl ?_<;>(first|refine h_ldB rfl rfl rfl ?_|refine h_ldC rfl rfl rfl ?_)<;>(first|refine h_ldB rfl rfl rfl ?_|refine h_ldC rfl rfl rfl ?_)<;>refine h_ia rfl rfl rfl rfl ?_<;>(first|refine h_ldB rfl rfl rfl ?_|refine h_ldC rfl rfl rfl ?_))
    refine Bu rfl ?_
    refine HN rfl rfl (by omega) (by omega) rfl fun w4 hN4=>?_
    refine BP hN4.ext ?_
    (refine h_as rfl rfl rfl ?_<;>(first|refine AI ?_|refine BF ?_|refine BK ?_))
    have hE4:Ext w w4:=hE3.trans' hN4.ext
    have hw23:w2.heap.size≤w3.heap.size:=by have:=hb2s.lt;omega
    replace hb1:=hb1s.ext hN4.ext
    replace hb2:=hb2s.ext hN4.ext
    clear hb3 hd1
    repeat (first|refine Ah ?_|refine Al ?_|refine Ae ?_|refine Am ?_|refine At ?_|refine Au ?_|refine Ar rfl ?_|refine Aj rfl ?_)
    ((repeat (first|refine Ah ?_|refine Al ?_|refine Ae ?_|refine Am ?_|refine At ?_|refine Au ?_|refine Ar rfl ?_|refine Aj rfl ?_))<;>(refine o_as rfl rfl ?_<;>(first|refine Ay ?_|refine Az ?_|refine Aw ?_|refine AA ?_))<;>(repeat (first|refine Ah ?_|refine Al ?_|refine Ae ?_|refine Am ?_|refine At ?_|refine Au ?_|refine Ar rfl ?_|refine Aj rfl ?_))<;>(refine o_mv rfl rfl ?_<;>refine o_ln rfl rfl ?_<;>refine o_mv rfl rfl ?_<;>(first|refine Ay ?_|refine Az ?_|refine Aw ?_|refine AA ?_))<;>(repeat (first|refine Ah ?_|refine Al ?_|refine Ae ?_|refine Am ?_|refine At ?_|refine Au ?_|refine Ar rfl ?_|refine Aj rfl ?_)))
    have hby0:ByInv w4 w2.heap.size w3.heap.size (List.replicate m (.slice none 0 0)) (.slice none 0 0) (fun i=>((ops.take 0).filter (valB t u i))) ((ops.take 0).filter (restB t u)) m:=by
      have hget:∀ (i:Nat) (x:Value),(List.replicate m (Value.slice none 0 0))[i]?=some x→x=.slice none 0 0:=fun i x h=>by
        rw [List.getElem?_replicate] at h;split at h<;>simp at h;exact h.symm
      refine ⟨by simp,by have:=hN4.blk;rwa [KX] at this,fun i x h=>?_,by simpa using Own.nil _ _ _ _,fun i j x y _ hx _ g hg=>?_,fun i x hx g hg=>?_⟩
      · rw [hget i x h];simpa using Own.nil _ _ _ _
      · rw [hget i x hx] at hg;simp [Value.ownBlock] at hg
      · rw [hget i x hx] at hg;simp [Value.ownBlock] at hg
    refine Bi ops.length (by omega) (fun x:List Value×Value=>[(1,.slice Ax ops.length cx),(3,.pointer (some ⟨w.heap.size,0,none⟩)),(5,.pointer (some ⟨w1.heap.size,0,none⟩)),(7,.slice (some ⟨w3.heap.size,0,none⟩) m m),(8,x.2),(55,.slice Ax ops.length cx)])
      (fun k x w'=>Ext w w'∧Blk w' w.heap.size 72 [.pointer (some ⟨gb,0,none⟩)]∧Blk w' w1.heap.size 3 [.int .i64 (u:Int)]∧ByInv w' w2.heap.size w3.heap.size x.1 x.2 (fun i=>((ops.take k).filter (valB t u i))) ((ops.take k).filter (restB t u)) m) (List.replicate m (.slice none 0 0),.slice none 0 0)
      ⟨hE4,hb1,hb2,hby0⟩ ⟨rfl,rfl,rfl,rfl,rfl,rfl,rfl,rfl,trivial⟩ (fun _=>⟨rfl,rfl⟩) ⟨rfl,rfl,rfl⟩ ⟨rfl,rfl⟩ ?_ ?_
    · rintro k ⟨vals,rv⟩ w5 hk ⟨hE5,hb1,hb2,hby⟩
      dsimp only at hby
      obtain ⟨x,hx⟩:=AH hk
      obtain ⟨hx0,hx1⟩:=hin x (List.mem_of_getElem? hx)
      obtain ⟨j,rfl⟩:=Int.eq_ofNat_of_zero_le hx0
      obtain ⟨o,ho⟩:=AH (l:=t.ops) (k:=j) (by omega)
      have hpre:preOf t (j:Int)=o.pre:=by simp [preOf,ho]
      obtain ⟨b2,o2,ce,rfl,hbF,_,hd0,rfl,hxin⟩:=hops.elem hx
      have hd1:=GZ hd0 (hF _ hbF) hE5
      ((repeat (first|refine Ah ?_|refine Al ?_|refine Ae ?_|refine Am ?_|refine At ?_|refine Au ?_|refine Ar rfl ?_|refine Aj rfl ?_))<;>(refine o_ia rfl rfl rfl ?_<;>refine o_ld rfl rfl ?_<;>refine o_as rfl rfl ?_<;>(first|refine Ay ?_|refine Az ?_|refine Aw ?_|refine AA ?_))<;>(repeat (first|refine Ah ?_|refine Al ?_|refine Ae ?_|refine Am ?_|refine At ?_|refine Au ?_|refine Ar rfl ?_|refine Aj rfl ?_))<;>(refine o_ld rfl rfl ?_<;>refine o_mv rfl rfl ?_<;>refine o_ld rfl rfl ?_)<;>(repeat (first|refine Ah ?_|refine Al ?_|refine Ae ?_|refine Am ?_|refine At ?_|refine Au ?_|refine Ar rfl ?_|refine Aj rfl ?_)))
      refine AZ rfl rfl (genFact (hg0.ext hE5) ho) ?_
      rintro _ w6 ⟨rfl,hE6⟩
      replace hb1:=hb1.ext hE6
      replace hb2:=hb2.ext hE6
      replace hby:=hby.ext hE6
      have hE06:Ext w w6:=hE5.trans' hE6
      have hkl:((ops.take k).filter (restB t u)).length≤4096:=Nat.le_trans (List.length_filter_le _ _) (by rw [List.length_take];omega)
      cases hf:factOn o.pre (u:Int) with
      | none =>
        simp only [factV]
        (refine o_mv rfl rfl ?_<;>refine o_ex rfl rfl rfl ?_<;>refine o_ex rfl rfl rfl ?_)
        refine Bz rfl rfl rfl (by simp [Value.cells,Value.oneCell']) fun w7 hN7=>?_
        replace hb1:=hb1.ext hN7.ext
        replace hb2:=hb2.ext hN7.ext
        replace hby:=hby.ext hN7.ext
        have hE7:Ext w w7:=hE06.trans' hN7.ext
        (refine o_as rfl rfl ?_<;>(first|refine Ay ?_|refine Az ?_|refine Aw ?_|refine AA ?_))
        repeat (first|refine Ah ?_|refine Al ?_|refine Ae ?_|refine Am ?_|refine At ?_|refine Au ?_|refine Ar rfl ?_|refine Aj rfl ?_)
        ((repeat (first|refine Ah ?_|refine Al ?_|refine Ae ?_|refine Am ?_|refine At ?_|refine Au ?_|refine Ar rfl ?_|refine Aj rfl ?_))<;>(refine o_mv rfl rfl ?_<;>(first|refine Ay ?_|refine Az ?_|refine Aw ?_|refine AA ?_))<;>(repeat (first|refine Ah ?_|refine Al ?_|refine Ae ?_|refine Am ?_|refine At ?_|refine Au ?_|refine Ar rfl ?_|refine Aj rfl ?_)))
        (refine o_mv rfl rfl ?_<;>refine o_mv rfl rfl ?_)
        have hl2:=hb2.lt
        refine Jf (a:=(j:Int)) rfl rfl rfl hby.rest (fun _ h=>h.elim) (by omega) ⟨rfl,hxin⟩ (by decide) (by decide) (by omega) (by omega) ⟨rfl,rfl⟩ fun rv' w8 ho8 hK8 hat=>?_
        have hB8:Below w2.heap.size w7 w8:=hby.rest.fits (Nat.le_refl _) (by omega) hK8
        have hby8:=hby.putRest hK8 ho8 hat
        (refine o_as rfl rfl ?_<;>(first|refine Ay ?_|refine Az ?_|refine Aw ?_|refine AA ?_))
        repeat (first|refine Ah ?_|refine Al ?_|refine Ae ?_|refine Am ?_|refine At ?_|refine Au ?_|refine Ar rfl ?_|refine Aj rfl ?_)
        refine ⟨(vals,rv'),⟨rfl,rfl,rfl,rfl,rfl,rfl,rfl,rfl,trivial⟩,hE7.trans (hB8.mono (by omega)),hb1.keep (hB8.block _ (by omega)),hb2.keep (hB8.block _ (by omega)),?_⟩
        have e1:∀ i,(ops.take (k + 1)).filter (valB t u i)=(ops.take k).filter (valB t u i):=fun i=>by rw [EV hx];simp [valB,hpre,hf]
        have e2:(ops.take (k + 1)).filter (restB t u)=(ops.take k).filter (restB t u) ++ [(j:Int)]:=by rw [EV hx];simp [restB,hpre,hf]
        dsimp only
        rw [e2]
        simp only [e1]
        exact hby8
      | some f =>
        obtain ⟨hf0,n',hn',hf1⟩:=hfv j o ho u f hf hun'
        rw [hn] at hn';injection hn' with hn';subst hn'
        obtain ⟨x0,hj1⟩:=Int.eq_ofNat_of_zero_le hf0
        have hx0m:x0 < m:=by omega
        obtain ⟨u0,hu0⟩:=AH (l:=vals) (k:=x0) (by rw [hby.len];exact hx0m)
        simp only [factV]
        (refine o_mv rfl rfl ?_<;>refine o_ex rfl rfl rfl ?_<;>refine o_ex rfl rfl rfl ?_)
        refine Bz rfl rfl rfl (by simp [Value.cells,Value.oneCell']) fun w7 hN7=>?_
        replace hb1:=hb1.ext hN7.ext
        replace hb2:=hb2.ext hN7.ext
        replace hby:=hby.ext hN7.ext
        have hE7:Ext w w7:=hE06.trans' hN7.ext
        have hbf:=hN7.blk
        (refine o_as rfl rfl ?_<;>(first|refine Ay ?_|refine Az ?_|refine Aw ?_|refine AA ?_))
        repeat (first|refine Ah ?_|refine Al ?_|refine Ae ?_|refine Am ?_|refine At ?_|refine Au ?_|refine Ar rfl ?_|refine Aj rfl ?_)
        ((repeat (first|refine Ah ?_|refine Al ?_|refine Ae ?_|refine Am ?_|refine At ?_|refine Au ?_|refine Ar rfl ?_|refine Aj rfl ?_))<;>(refine o_mv rfl rfl ?_<;>(first|refine Ay ?_|refine Az ?_|refine Aw ?_|refine AA ?_))<;>(repeat (first|refine Ah ?_|refine Al ?_|refine Ae ?_|refine Am ?_|refine At ?_|refine Au ?_|refine Ar rfl ?_|refine Aj rfl ?_)))
        have hl2:=hb2.lt
        have hown0:=hby.own x0 u0 hu0
        have hkl0:((ops.take k).filter (valB t u x0)).length≤4096:=Nat.le_trans (List.length_filter_le _ _) (by rw [List.length_take];omega)
        refine BE (fun w'=>Blk w' w6.heap.size 57 [.int .i64 f.var,.int .i64 f.val]∧Blk w' w3.heap.size 22 vals) [(0,true),(1,true),(2,true),(3,true),(4,true),(5,true),(6,true),(7,true),(8,true),(9,false),(10,false),(11,true),(12,false)] (by kernel_rfl) rfl (by kernel_rfl) ⟨hbf,hby.blk⟩ ?_
        have hb1s:=hb1
        have hb2s:=hb2
        clear hb2
        replace hb1:∀ w',(Blk w' w6.heap.size 57 [.int .i64 f.var,.int .i64 f.val]∧Blk w' w3.heap.size 22 vals)→Blk w' w6.heap.size 57 [.int .i64 f.var,.int .i64 f.val]:=fun _ h=>h.1
        have hc1:∀ w',(Blk w' w6.heap.size 57 [.int .i64 f.var,.int .i64 f.val]∧Blk w' w3.heap.size 22 vals)→w'.cell? ⟨w3.heap.size,0 + x0 * 1,none⟩=some u0:=fun _ h=>h.2.cell (by rw [Nat.zero_add,Nat.mul_one];exact hu0)
        (refine h_mv rfl rfl rfl ?_<;>refine h_fa rfl rfl rfl ?_<;>(first|refine h_ldB rfl rfl rfl ?_|refine h_ldC rfl rfl rfl ?_)<;>refine h_mv rfl rfl rfl ?_<;>refine h_fa rfl rfl rfl ?_<;>(first|refine h_ldB rfl rfl rfl ?_|refine h_ldC rfl rfl rfl ?_)<;>refine h_ia rfl rfl rfl rfl ?_<;>(first|refine h_ldB rfl rfl rfl ?_|refine h_ldC rfl rfl rfl ?_)<;>refine h_mv rfl rfl rfl ?_)
        refine Bu rfl ?_
        refine CX rfl rfl rfl (by simp [Value.cells]) (by decide) rfl fun w8 hN8=>?_
        refine BP ⟨hbf.ext hN8.ext,hby.blk.ext hN8.ext⟩ ?_
        refine Bu rfl ?_
        refine DX (α:=Int) (A:=some ⟨w7.heap.size,0,none⟩) (c:=1) (ys:=[(j:Int)]) (cells:=[.int .i64 (j:Int)]) rfl rfl (hown0.ext hN8.ext fun _ h=>h.elim) (fun _ h=>h.elim) (by have:=hN8.size;omega) (.single ⟨rfl,hxin⟩) (fun _=>⟨_,_,rfl,hN8.blk.cellsAt⟩) (by decide) (by rw [List.length_singleton];omega) (by rw [List.length_singleton];omega) rfl fun v' w9 ho9 hg9 hat=>?_
        have hK9:Kept w7 w9 u0:=⟨hg9.os.trans hN8.ext.os,hg9.tape.trans hN8.ext.tape,hg9.output.trans hN8.ext.output,Nat.le_trans hN8.ext.size hg9.size,fun k hk hne=>by rw [hg9.block k (Nat.lt_of_lt_of_le hk hN8.ext.size) (fun he=>hne he.symm),hN8.ext.block k hk]⟩
        have hbf9:=hK9.blk hbf (hown0.blk_ne hbf (by decide))
        have hby9:=hK9.blk hby.blk (hown0.blk_ne hby.blk (by decide))
        have hB9:Below w2.heap.size w7 w9:=hown0.fits (Nat.le_refl _) (by omega) hK9
        refine BP ⟨hbf9,hby9⟩ ?_
        (refine h_ia rfl rfl rfl rfl ?_)
        refine Bu rfl ?_
        obtain ⟨A9,c9,rfl⟩:=ho9.form
        refine By (g:=w3.heap.size) (o:=0 + x0 * 1) rfl rfl hby9 rfl (by rw [hby.len];show 0 + x0 * 1 + 1≤m;omega) (by simp [Value.cells,Value.oneCell']) fun w10 hU=>?_
        have hset:setFrom vals (0 + x0 * 1) [.slice A9 (List.filter (valB t u x0) (List.take k ops) ++ [(j:Int)]).length c9]=vals.set x0 (.slice A9 (List.filter (valB t u x0) (List.take k ops) ++ [(j:Int)]).length c9):=by rw [Nat.zero_add,Nat.mul_one];rfl
        have hU':Upd w9 w10 w3.heap.size 22 (vals.set x0 (.slice A9 (List.filter (valB t u x0) (List.take k ops) ++ [(j:Int)]).length c9)):=hset ▸ hU
        have hby10:=hby.putVal hu0 hK9 ho9 (by
          rcases hat with hat|hat
          · exact .inl hat
          · exact .inr ⟨_,hat,hN8.ext.size⟩) hU'
        have hB10:Below w2.heap.size w9 w10:=hU.below hw23
        refine Ep ?_
        ((first|refine AI ?_|refine BF ?_|refine BK ?_))
        repeat (first|refine Ah ?_|refine Al ?_|refine Ae ?_|refine Am ?_|refine At ?_|refine Au ?_|refine Ar rfl ?_|refine Aj rfl ?_)
        refine ⟨(vals.set x0 (.slice A9 (List.filter (valB t u x0) (List.take k ops) ++ [(j:Int)]).length c9),rv),⟨rfl,rfl,rfl,rfl,rfl,rfl,rfl,rfl,trivial⟩,hE7.trans ((hB9.trans hB10).mono (by omega)),hb1s.keep ((hB9.trans hB10).block _ (by omega)),hb2s.keep ((hB9.trans hB10).block _ (by omega)),?_⟩
        have e1:∀ i,(ops.take (k + 1)).filter (valB t u i)=if i=x0 then (ops.take k).filter (valB t u x0) ++ [(j:Int)] else (ops.take k).filter (valB t u i):=fun i=>by
          rw [EV hx]
          by_cases hi:i=x0
          · subst hi;simp [valB,hpre,hf,hj1]
          · have:¬ (f.val=(i:Int)):=by omega
            simp [valB,hpre,hf,hi,this]
        have e2:(ops.take (k + 1)).filter (restB t u)=(ops.take k).filter (restB t u):=by rw [EV hx];simp [restB,hpre,hf]
        dsimp only
        rw [e2]
        simp only [e1]
        exact hby10
    rintro ⟨vals,rv⟩ w5 ⟨hE5,hb1,hb2,hby⟩
    dsimp only at hby
    rw [List.take_length] at hby
    have hl2:=hb2.lt
    have hb1s:=hb1
    have hb2s:=hb2
    have hflt:∀ p:Int→Bool,OpsIn t (ops.filter p)∧(ops.filter p).length≤4096:=fun p=>⟨fun x hx=>hin x (List.mem_filter.1 hx).1,Nat.le_trans (List.length_filter_le _ _) hlen⟩
    have hrv:Vb w5 (fun k=>rv.ownBlock=some k) rv (ops.filter (restB t u)):=hby.rest.vb.mono fun k hk=>hk.resolve_left id
    repeat (first|refine Ah ?_|refine Al ?_|refine Ae ?_|refine Am ?_|refine At ?_|refine Au ?_|refine Ar rfl ?_|refine Aj rfl ?_)
    refine BE (Ext w5) [(0,true),(1,true),(2,true),(3,true),(4,true),(5,false),(6,true),(7,false),(8,true)] (by kernel_rfl) rfl (by kernel_rfl) (Below.refl _ _) ?_
    (refine h_ldE rfl rfl rfl ?_<;>refine h_ldE rfl rfl rfl ?_<;>refine h_mv rfl rfl rfl ?_<;>refine h_ldE rfl rfl rfl ?_<;>(first|refine h_ic rfl rfl rfl ?_|refine h_ad rfl rfl rfl rfl ?_))
    refine Bu rfl ?_
    refine AZ rfl rfl (ih w5 _ rv _ (u + 1) (fun k=>rv.ownBlock=some k) (hg0.ext hE5) hrv (fun k hk=>(hby.rest.lt k hk).2) (hflt _).1 (hflt _).2 (by omega) (by omega)) ?_
    rintro p6 w6 ⟨hT6,hE6⟩
    obtain ⟨q6,rfl⟩:=hT6.form
    refine BP hE6 ?_
    (refine h_bd rfl rfl rfl rfl ?_)
    refine Bu rfl ?_
    refine CR rfl rfl fun w7 hN7=>?_
    refine BP (hE6.trans' hN7.ext) ?_
    (refine h_as rfl rfl rfl ?_<;>(first|refine AI ?_|refine BF ?_|refine BK ?_))
    have hnode:Blk w7 w6.heap.size 169 [.slice none 0 0,.bool false,.int .i64 (u:Int),.slice none 0 0,.pointer q6]:=hN7.blk
    have hby6:=hby.ext hE6
    repeat (first|refine Ah ?_|refine Al ?_|refine Ae ?_|refine Am ?_|refine At ?_|refine Au ?_|refine Ar rfl ?_|refine Aj rfl ?_)
    ((repeat (first|refine Ah ?_|refine Al ?_|refine Ae ?_|refine Am ?_|refine At ?_|refine Au ?_|refine Ar rfl ?_|refine Aj rfl ?_))<;>(refine o_mv rfl rfl ?_<;>refine o_ln rfl rfl ?_<;>refine o_mv rfl rfl ?_<;>(first|refine Ay ?_|refine Az ?_|refine Aw ?_|refine AA ?_))<;>(repeat (first|refine Ah ?_|refine Al ?_|refine Ae ?_|refine Am ?_|refine At ?_|refine Au ?_|refine Ar rfl ?_|refine Aj rfl ?_)))
    refine Bi m (by omega) (fun x:Value=>[(3,.pointer (some ⟨w.heap.size,0,none⟩)),(5,.pointer (some ⟨w1.heap.size,0,none⟩)),(13,.pointer (some ⟨w6.heap.size,0,none⟩)),(94,.slice (some ⟨w3.heap.size,0,none⟩) m m)])
      (fun k x w'=>Ext w6 w'∧Blk w' w6.heap.size 169 [.slice none 0 0,.bool false,.int .i64 (u:Int),x,.pointer q6]∧∃ G:Nat→Prop,(∀ k,G k→k < w'.heap.size∧w2.heap.size≤k)∧¬ G w6.heap.size∧Own w' w7.heap.size G 127 x ((List.range k).map fun i=>mkT t fuel (ops.filter (valB t u i)) (u + 1))) (.slice none 0 0)
      ⟨hN7.ext,hnode,fun _=>False,fun _ h=>h.elim,id,Own.nil _ _ _ _⟩ ⟨rfl,rfl,rfl,rfl,rfl,rfl,trivial⟩ (fun _=>⟨rfl,rfl⟩) ⟨rfl,rfl,rfl⟩ ⟨rfl,rfl⟩ ?_ ?_
    · rintro k xv w8 hk ⟨hE8,hnd,G,hG,hGn,hown⟩
      obtain ⟨u0,hu0⟩:=AH (l:=vals) (k:=k) (by rw [hby.len];exact hk)
      have hby8:=hby6.ext hE8
      have hE58:Ext w5 w8:=hE6.trans' hE8
      have hE08:Ext w w8:=hE5.trans' hE58
      have hc1:w8.cell? ⟨w3.heap.size,0 + k * 1,none⟩=some u0:=hby8.blk.cell (by rw [Nat.zero_add,Nat.mul_one];exact hu0)
      have hown0:=hby8.own k u0 hu0
      obtain ⟨Ak,ck,rfl⟩:=hown0.form
      obtain ⟨Ax',cx',rfl⟩:=hown.form
      have hz78:w7.heap.size≤w8.heap.size:=by have:=hnd.lt;have:=hN7.size;omega
      ((repeat (first|refine Ah ?_|refine Al ?_|refine Ae ?_|refine Am ?_|refine At ?_|refine Au ?_|refine Ar rfl ?_|refine Aj rfl ?_))<;>(refine o_ia rfl rfl rfl ?_<;>refine o_ld rfl rfl ?_<;>refine o_as rfl rfl ?_<;>(first|refine Ay ?_|refine Az ?_|refine Aw ?_|refine AA ?_))<;>(repeat (first|refine Ah ?_|refine Al ?_|refine Ae ?_|refine Am ?_|refine At ?_|refine Au ?_|refine Ar rfl ?_|refine Aj rfl ?_)))
      refine BE (fun w'=>Blk w' w6.heap.size 169 [.slice none 0 0,.bool false,.int .i64 (u:Int),.slice Ax' ((List.range k).map fun i=>mkT t fuel (ops.filter (valB t u i)) (u + 1)).length cx',.pointer q6]∧Blk w' w.heap.size 72 [.pointer (some ⟨gb,0,none⟩)]∧Blk w' w1.heap.size 3 [.int .i64 (u:Int)]) [(0,true),(1,true),(2,true),(3,true),(4,true),(5,true),(6,true),(7,true),(8,true),(9,false),(10,false),(11,false),(12,true),(13,true),(14,false)] (by kernel_rfl) rfl (by kernel_rfl) ⟨hnd,hb1s.ext hE58,hb2s.ext hE58⟩ ?_
      have hS8:∀ w',Ext w8 w'→Blk w' w6.heap.size 169 [.slice none 0 0,.bool false,.int .i64 (u:Int),.slice Ax' ((List.range k).map fun i=>mkT t fuel (ops.filter (valB t u i)) (u + 1)).length cx',.pointer q6]∧Blk w' w.heap.size 72 [.pointer (some ⟨gb,0,none⟩)]∧Blk w' w1.heap.size 3 [.int .i64 (u:Int)]:=fun w' h=>⟨hnd.ext h,(hb1s.ext hE58).ext h,(hb2s.ext hE58).ext h⟩
      clear hb1 hb2 hc1
      have hb1:∀ w',(Blk w' w6.heap.size 169 [.slice none 0 0,.bool false,.int .i64 (u:Int),.slice Ax' ((List.range k).map fun i=>mkT t fuel (ops.filter (valB t u i)) (u + 1)).length cx',.pointer q6]∧Blk w' w.heap.size 72 [.pointer (some ⟨gb,0,none⟩)]∧Blk w' w1.heap.size 3 [.int .i64 (u:Int)])→Blk w' w6.heap.size 169 [.slice none 0 0,.bool false,.int .i64 (u:Int),.slice Ax' ((List.range k).map fun i=>mkT t fuel (ops.filter (valB t u i)) (u + 1)).length cx',.pointer q6]:=fun _ h=>h.1
      have hb2:∀ w',(Blk w' w6.heap.size 169 [.slice none 0 0,.bool false,.int .i64 (u:Int),.slice Ax' ((List.range k).map fun i=>mkT t fuel (ops.filter (valB t u i)) (u + 1)).length cx',.pointer q6]∧Blk w' w.heap.size 72 [.pointer (some ⟨gb,0,none⟩)]∧Blk w' w1.heap.size 3 [.int .i64 (u:Int)])→Blk w' w.heap.size 72 [.pointer (some ⟨gb,0,none⟩)]:=fun _ h=>h.2.1
      have hb3:∀ w',(Blk w' w6.heap.size 169 [.slice none 0 0,.bool false,.int .i64 (u:Int),.slice Ax' ((List.range k).map fun i=>mkT t fuel (ops.filter (valB t u i)) (u + 1)).length cx',.pointer q6]∧Blk w' w.heap.size 72 [.pointer (some ⟨gb,0,none⟩)]∧Blk w' w1.heap.size 3 [.int .i64 (u:Int)])→Blk w' w1.heap.size 3 [.int .i64 (u:Int)]:=fun _ h=>h.2.2
      (refine h_mv rfl rfl rfl ?_<;>refine h_mv rfl rfl rfl ?_<;>refine h_nc rfl rfl rfl ?_<;>refine h_fa rfl rfl rfl ?_<;>(first|refine h_ldB rfl rfl rfl ?_|refine h_ldC rfl rfl rfl ?_)<;>(first|refine h_ldB rfl rfl rfl ?_|refine h_ldC rfl rfl rfl ?_)<;>refine h_mv rfl rfl rfl ?_<;>(first|refine h_ldB rfl rfl rfl ?_|refine h_ldC rfl rfl rfl ?_)<;>(first|refine h_ic rfl rfl rfl ?_|refine h_ad rfl rfl rfl rfl ?_))
      refine Bu rfl ?_
      have hu0v:Vb w8 (fun q=>(Value.slice Ak (ops.filter (valB t u k)).length ck).ownBlock=some q) (.slice Ak (ops.filter (valB t u k)).length ck) (ops.filter (valB t u k)):=hown0.vb.mono fun q hq=>hq.resolve_left id
      refine AZ rfl rfl (ih w8 _ _ _ (u + 1) _ (hg0.ext hE08) hu0v (fun q hq=>(hown0.lt q hq).2) (hflt _).1 (hflt _).2 (by omega) (by omega)) ?_
      rintro p9 w9 ⟨hT9,hE9⟩
      obtain ⟨q9,rfl⟩:=hT9.form
      refine BP (hS8 w9 hE9) ?_
      refine Bu rfl ?_
      refine CX rfl rfl rfl (by simp [Value.cells]) (by decide) rfl fun w10 hN10=>?_
      have hE10:Ext w8 w10:=hE9.trans' hN10.ext
      refine BP (hS8 w10 hE10) ?_
      have hG':∀ q,(G q∨(Value.slice Ak (ops.filter (valB t u k)).length ck).ownBlock=some q∨w8.heap.size≤q∧q < w9.heap.size)→q < w9.heap.size∧w2.heap.size≤q:=fun q hq=>by
        have h9:=hE9.size
        have h6:=hE6.size
        have h7:=hN7.size
        rcases hq with hq|hq|hq
        · have:=hG q hq;exact ⟨by omega,this.2⟩
        · have:=hown0.lt q hq;exact ⟨by omega,this.1⟩
        · exact ⟨hq.2,by omega⟩
      have hGx:∀ g,(Value.slice Ax' ((List.range k).map fun i=>mkT t fuel (ops.filter (valB t u i)) (u + 1)).length cx').ownBlock=some g→¬ (G g∨(Value.slice Ak (ops.filter (valB t u k)).length ck).ownBlock=some g∨w8.heap.size≤g∧g < w9.heap.size):=fun g hg h=>by
        rcases h with h|h|h
        · obtain ⟨_,_,_,h3⟩:=hown;exact h3 g hg h
        · exact hown.own_ne hown0 (by decide) g hg h
        · have:=(hown.lt g hg).2;omega
      have hownG:Own w9 w7.heap.size (fun q=>G q∨(Value.slice Ak (ops.filter (valB t u k)).length ck).ownBlock=some q∨w8.heap.size≤q∧q < w9.heap.size) 127 _ _:=(hown.ext hE9 fun q hq=>(hG q hq).1).mono (fun q hq=>.inl hq) hGx
      have hch:Chunks w10 (fun q=>G q∨(Value.slice Ak (ops.filter (valB t u k)).length ck).ownBlock=some q∨w8.heap.size≤q∧q < w9.heap.size) [.pointer q9] [mkT t fuel (ops.filter (valB t u k)) (u + 1)] :=
        .single (show Rp.R w10 _ [.pointer q9] _ from ⟨q9,rfl,TrR.agree (hN10.ext.agree fun q hq=>(hG' q hq).1) (TrR.mono (fun q hq=>by
          rcases hq with hq|hq
          · exact .inr (.inl hq)
          · exact .inr (.inr hq)) hT9)⟩)
      refine Bu rfl ?_
      have hmk:((List.range k).map fun i=>mkT t fuel (ops.filter (valB t u i)) (u + 1)).length≤64:=by simp;omega
      refine DX (α:=Tr) (A:=some ⟨w9.heap.size,0,none⟩) (c:=1) (ys:=[mkT t fuel (ops.filter (valB t u k)) (u + 1)]) (cells:=[.pointer q9]) rfl rfl (hownG.ext hN10.ext fun q hq=>(hG' q hq).1) (fun q hq=>Nat.lt_of_lt_of_le (hG' q hq).1 hN10.ext.size) (by have:=hE10.size;omega) hch (fun _=>⟨_,_,rfl,hN10.blk.cellsAt⟩) (by decide) (by rw [List.length_singleton];omega) (by rw [List.length_singleton];omega) rfl fun v' w11 ho11 hg11 hat=>?_
      have hown10:=hown.ext hE10 fun q hq=>(hG q hq).1
      have hK11:Kept w8 w11 (.slice Ax' ((List.range k).map fun i=>mkT t fuel (ops.filter (valB t u i)) (u + 1)).length cx'):=⟨hg11.os.trans hE10.os,hg11.tape.trans hE10.tape,hg11.output.trans hE10.output,Nat.le_trans hE10.size hg11.size,fun q hq hne=>by rw [hg11.block q (Nat.lt_of_lt_of_le hq hE10.size) (fun he=>hne he.symm),hE10.block q hq]⟩
      have hB11:Below w7.heap.size w8 w11:=hown.fits (Nat.le_refl _) hz78 hK11
      have hnd11:=hK11.blk hnd (hown.blk_ne hnd (by decide))
      have hz67:=hN7.size
      refine BP ⟨hnd11,(hb1s.ext hE58).keep (hB11.block _ (by have:=hE6.size;omega)),(hb2s.ext hE58).keep (hB11.block _ (by have:=hE6.size;omega))⟩ ?_
      (refine h_nc rfl rfl rfl ?_<;>refine h_fa rfl rfl rfl ?_)
      refine Bu rfl ?_
      obtain ⟨A11,c11,rfl⟩:=ho11.form
      refine By (g:=w6.heap.size) rfl rfl hnd11 rfl (show 0 + 3 + 1≤5 by decide) (by simp [Value.cells,Value.oneCell']) fun w12 hU=>?_
      refine Ep ?_
      ((first|refine AI ?_|refine BF ?_|refine BK ?_))
      repeat (first|refine Ah ?_|refine Al ?_|refine Ae ?_|refine Am ?_|refine At ?_|refine Au ?_|refine Ar rfl ?_|refine Aj rfl ?_)
      refine ⟨_,⟨rfl,rfl,rfl,rfl,rfl,rfl,trivial⟩,?_,hU.blk,(fun q=>G q∨(Value.slice Ak (ops.filter (valB t u k)).length ck).ownBlock=some q∨w8.heap.size≤q∧q < w9.heap.size),?_,?_,?_⟩
      · exact hE8.trans ((hB11.mono (by omega)).trans (hU.below (Nat.le_refl _)))
      · intro q hq
        have:=hG' q hq
        have h1:=hN10.ext.size
        have h2:=hg11.size
        exact ⟨by rw [hU.size];omega,this.2⟩
      · rintro (h|h|h)
        · exact hGn h
        · exact hown0.blk_ne hnd (by decide) h
        · have:=hnd.lt;omega
      · rw [List.range_succ,List.map_append]
        have hne:(Value.slice A11 (((List.range k).map fun i=>mkT t fuel (ops.filter (valB t u i)) (u + 1)) ++ [mkT t fuel (ops.filter (valB t u k)) (u + 1)]).length c11).ownBlock≠some w6.heap.size:=ho11.blk_ne hnd11 (by decide)
        exact ho11.agree (hU.agree (by
          rintro (h|h|h)
          · exact hGn h
          · exact hown0.blk_ne hnd (by decide) h
          · have:=hnd.lt;omega)) fun g hg=>hU.other g fun he=>hne (he ▸ hg)
    rintro xv w8 ⟨hE8,hnd,G,hG,hGn,hown⟩
    repeat (first|refine Ah ?_|refine Al ?_|refine Ae ?_|refine Am ?_|refine At ?_|refine Au ?_|refine Ar rfl ?_|refine Aj rfl ?_)
    ((repeat (first|refine Ah ?_|refine Al ?_|refine Ae ?_|refine Am ?_|refine At ?_|refine Au ?_|refine Ar rfl ?_|refine Aj rfl ?_))<;>(refine o_mv rfl rfl ?_<;>refine o_as rfl rfl ?_<;>(first|refine Ay ?_|refine Az ?_|refine Aw ?_|refine AA ?_))<;>(repeat (first|refine Ah ?_|refine Al ?_|refine Ae ?_|refine Am ?_|refine At ?_|refine Au ?_|refine Ar rfl ?_|refine Aj rfl ?_)))
    have hE08:Ext w w8:=hE5.trans' (hE6.trans' hE8)
    obtain ⟨Ax',cx',rfl⟩:=hown.form
    have hxl:((List.range m).map fun i=>mkT t fuel (ops.filter (valB t u i)) (u + 1)).length=m:=by simp
    rw [hxl] at hnd
    refine ret1 rfl rfl ⟨⟨w6.heap.size,Ax',cx',q6,rfl,.inr ⟨by have:=hE5.size;have:=hE6.size;omega,hnd.lt⟩,hnd,?_,fun i hi=>?_⟩,hE08⟩
    · refine TrR.mono (fun q hq=>?_) (TrR.agree (hE8.agree fun q hq=>?_) hT6)
      · rcases hq with hq|hq
        · have:=hby.rest.lt q hq;have:=hE6.size;have:=hE8.size;exact .inr ⟨by omega,by omega⟩
        · have:=hE8.size;have:=hE5.size;exact .inr ⟨by omega,by omega⟩
      · rcases hq with hq|hq
        · have:=hby.rest.lt q hq;have:=hE6.size;omega
        · exact hq.2
    · have hvb:=hown.vb
      obtain ⟨b9,o9,cs9,hA,hF9,_,hc9,q9,rfl,hT9⟩:=hvb.elem (k:=i) (x:=mkT t fuel (ops.filter (valB t u i)) (u + 1)) (by rw [List.getElem?_map,List.getElem?_range hi];rfl)
      have hsub:∀ q,(G q∨(Value.slice Ax' ((List.range m).map fun i=>mkT t fuel (ops.filter (valB t u i)) (u + 1)).length cx').ownBlock=some q)→more F w w8 q:=fun q hq=>by
        rcases hq with hq|hq
        · have:=hG q hq;exact .inr ⟨by omega,this.1⟩
        · have h1:=hown.lt q hq;have:=hN7.size;have:=hE6.size;exact .inr ⟨by omega,h1.2⟩
      exact ⟨b9,o9,q9,hA,hsub _ hF9,by have:=hc9.1;rwa [show i * Rp.size Tr=i from Nat.mul_one i] at this,TrR.mono hsub hT9⟩
end
section
open Go Go.RowKit
attribute [local irreducible] ewp owp hwp hwq hws Ev Evg Fn retPost loud loudS Res1
def nw (w w':World):Nat→Prop:=fun k=>w.heap.size≤k∧k < w'.heap.size
theorem Ij {w:World} {F G:Nat→Prop}:∀ {xs:List Fct} {cells:List Value},Chunks w F cells xs→Chunks w G cells xs
  | [],_,h=>h
  | _ :: _,_,⟨cs,rest,he,hr,hc⟩=>⟨cs,rest,he,hr,Ij hc⟩
theorem FR {w:World} {F G:Nat→Prop}:∀ {xs:List Int} {cells:List Value},Chunks w F cells xs→Chunks w G cells xs
  | [],_,h=>h
  | _ :: _,_,⟨cs,rest,he,hr,hc⟩=>⟨cs,rest,he,hr,FR hc⟩
theorem cloneIntsN {w:World} {sv:Value} {xs:List Int} (hs:V w sv xs) (hl:xs.length≤1000000):Fn Try.prog 65 [sv] w fun v w'=>Vb w' (nw w w') v xs∧Ext w w' :=
  (cloneInts hs (by omega)).mono fun v w' ⟨ho,hE⟩=>⟨by
    obtain ⟨cells,q1,q2,q3⟩:=id ho
    have ho':Own w' w.heap.size (fun _=>False) 3 v xs:=⟨cells,q1,FR q2,fun _ _ h=>h⟩
    exact ho'.vb.mono fun k hk=>ho.lt k (hk.resolve_left id),hE⟩
theorem cloneFactsN {w:World} {sv:Value} {xs:List Fct} (hs:V w sv xs) (hl:xs.length≤1000000):Fn Try.prog 84 [sv] w fun v w'=>Vb w' (nw w w') v xs∧Ext w w' :=
  (cloneFacts hs (by omega)).mono fun v w' ⟨ho,hE⟩=>⟨by
    obtain ⟨cells,q1,q2,q3⟩:=id ho
    have ho':Own w' w.heap.size (fun _=>False) 57 v xs:=⟨cells,q1,Ij q2,fun _ _ h=>h⟩
    exact ho'.vb.mono fun k hk=>ho.lt k (hk.resolve_left id),hE⟩
theorem Vb.nwext {α:Type} [Rp α] {w w' w'':World} {v:Value} {x:α} (h:Vb w' (nw w w') v x) (hE:Ext w' w''):Vb w'' (nw w w') v x:=h.agree (hE.agree fun _ hk=>hk.2)
theorem genCopied {w:World} {tv:Value} {t:Tsk} (ht:V w tv t) (hl1:t.vars.length≤1000000) (hl2:t.init.length≤1000000) (hl3:t.goal.length≤1000000) (hl4:t.ops.length≤1000000)
    (hl5:∀ (i:Nat) o,t.ops[i]?=some o→o.pre.length≤1000000∧o.effs.length≤1000000∧∀ (j:Nat) e,o.effs[j]?=some e→e.cond.length≤1000000) :
    Fn Try.prog 72 [tv] w fun v w'=>Vb w' (nw w w') v t∧Ext w w':=by
  obtain ⟨cs,rfl,a,b,c,d,rfl,hvars,hinit,hgoal,hops⟩:=ht
  obtain ⟨Av,cv,rfl⟩:=hvars.form
  obtain ⟨Ai,ci,rfl⟩:=hinit.form
  obtain ⟨Ag,cg,rfl⟩:=hgoal.form
  obtain ⟨Ao,co,rfl⟩:=hops.form
  refine AK Try.func72 rfl Try.ntmps72 rfl ?_
  repeat (first|refine Ah ?_|refine Al ?_|refine Ae ?_|refine Am ?_|refine At ?_|refine Au ?_|refine Ar rfl ?_|refine Aj rfl ?_)
  refine CR rfl rfl fun w1 hN1=>?_
  refine Dh rfl fun w2 hN2=>?_
  have hE2:Ext w w2:=hN1.ext.trans' hN2.ext
  have hz1:w1.heap.size=w.heap.size + 1:=hN1.size
  have hz2:w2.heap.size=w1.heap.size + 1:=hN2.size
  have hb1:Blk w2 w.heap.size 26 [.slice Av t.vars.length cv,.slice Ai t.init.length ci,.slice Ag t.goal.length cg,.slice Ao t.ops.length co]:=hN1.blk.ext hN2.ext
  have hres:Blk w2 w1.heap.size 26 [.slice none 0 0,.slice none 0 0,.slice none 0 0,.slice none 0 0]:=hN2.blk
  ((first|refine Ay ?_|refine Az ?_|refine Aw ?_|refine AA ?_))
  refine JM (fun l' w'=>∃ g3 av bv cv',subs l' [(1,.pointer (some ⟨w.heap.size,0,none⟩)),(2,.pointer (some ⟨w1.heap.size,0,none⟩)),(3,.pointer (some ⟨g3,0,none⟩))]∧Ext w2 w'∧w2.heap.size≤g3∧Blk w' g3 26 [av,bv,cv',.slice none 0 0] ∧
    Vb w' (fun k=>nw w2 w' k∧k≠g3) av t.vars∧Vb w' (fun k=>nw w2 w' k∧k≠g3) bv t.init∧Vb w' (fun k=>nw w2 w' k∧k≠g3) cv' t.goal) ?_ ?_
  · have q0:∀ w',Ext w2 w'→Blk w' w.heap.size 26 [.slice Av t.vars.length cv,.slice Ai t.init.length ci,.slice Ag t.goal.length cg,.slice Ao t.ops.length co]:=fun w' h=>hb1.ext h
    refine KF (Ext w2) ?_
    refine hws_q (i:=0) rfl (by kernel_rfl) (by kernel_rfl) (by kernel_rfl) rfl rfl (evg fun _ _=>Da rfl) (Below.refl _ _) ?_
    refine hws_q (i:=1) rfl (by kernel_rfl) (by kernel_rfl) (by kernel_rfl) rfl rfl (evg fun _ hS=>Dk rfl ((hb1.ext hS).cell rfl)) (Below.refl _ _) ?_
    refine hws_q (i:=3) rfl (by kernel_rfl) (by kernel_rfl) (by kernel_rfl) rfl rfl (evg fun _ _=>Da rfl) (Below.refl _ _) ?_
    refine hws_q (i:=4) rfl (by kernel_rfl) (by kernel_rfl) (by kernel_rfl) rfl rfl (evg fun _ hS=>Dk rfl ((hb1.ext hS).cell rfl)) (Below.refl _ _) ?_
    refine hws_q (i:=6) rfl (by kernel_rfl) (by kernel_rfl) (by kernel_rfl) rfl rfl (evg fun _ _=>Da rfl) (Below.refl _ _) ?_
    refine hws_q (i:=7) rfl (by kernel_rfl) (by kernel_rfl) (by kernel_rfl) rfl rfl (evg fun _ hS=>Dk rfl ((hb1.ext hS).cell rfl)) (Below.refl _ _) ?_
    refine Iq (i:=2) (j:=10) (by kernel_rfl) rfl rfl ?_ ?_
    · refine AZ rfl rfl (cloneIntsN (hvars.ext hE2) hl1) ?_
      rintro av w3 ⟨hav,hE3⟩
      refine Eq hE3 ?_
      refine Iq (i:=5) (j:=10) (by kernel_rfl) rfl rfl ?_ ?_
      · refine AZ rfl rfl (cloneIntsN (hinit.ext (hE2.trans' hE3)) hl2) ?_
        rintro bv w4 ⟨hbv,hE4⟩
        refine Eq (hE3.trans' hE4) ?_
        refine Iq (i:=8) (j:=10) (by kernel_rfl) rfl rfl ?_ ?_
        · refine AZ rfl rfl (cloneFactsN (hgoal.ext (hE2.trans' (hE3.trans' hE4))) hl3) ?_
          rintro cv' w5 ⟨hcv,hE5⟩
          refine Eq (hE3.trans' (hE4.trans' hE5)) ?_
          refine Hv [(9,true),(10,false),(11,false)] (by kernel_rfl) rfl (by kernel_rfl) (hE3.trans' (hE4.trans' hE5)) ?_
          obtain ⟨Aa,ca,rfl⟩:=hav.form
          obtain ⟨Ab,cb,rfl⟩:=hbv.form
          obtain ⟨Ac,cc,rfl⟩:=hcv.form
          refine hwp_o rfl ?_
          refine AU (fun _ _=>EL rfl rfl) rfl ?_
          refine Bu rfl ?_
          refine Dh rfl fun w6 hN6=>?_
          refine BP (hE3.trans' (hE4.trans' (hE5.trans' hN6.ext))) ?_
          refine Bu rfl ?_
          refine By rfl rfl hN6.blk rfl (Nat.le_refl _) (by simp [Value.cells,Value.oneCell',setParts,setFrom]) fun w7 hU=>?_
          refine Ep (AI ?_)
          have hE7:Ext w5 w7:=(hN6.upd hU).ext
          have s3:=hE3.size;have s4:=hE4.size;have s5:=hE5.size;have s7:=hE7.size
          refine ⟨w5.heap.size,_,_,_,⟨rfl,rfl,rfl,trivial⟩,hE3.trans' (hE4.trans' (hE5.trans' hE7)),by omega,hU.blk,?_,?_,?_⟩
          · exact ((((hav.nwext hE4).agree (hE5.agree fun k hk=>by have:=hk.2;omega)).agree (hE7.agree fun k hk=>by have:=hk.2;omega)).mono fun k hk=>⟨⟨by have:=hk.1;omega,by have:=hk.2;omega⟩,by have:=hk.2;omega⟩)
          · exact ((hbv.nwext hE5).agree (hE7.agree fun k hk=>by have:=hk.2;omega)).mono fun k hk=>⟨⟨by have:=hk.1;omega,by have:=hk.2;omega⟩,by have:=hk.2;omega⟩
          · exact (hcv.nwext hE7).mono fun k hk=>⟨⟨by have:=hk.1;omega,by have:=hk.2;omega⟩,by have:=hk.2;omega⟩
        · refine Dh rfl fun w5 hN=>?_
          have hE5:=hN.ext
          refine Eq (hE3.trans' (hE4.trans' hE5)) ?_
          refine Hv [(8,false),(9,true),(11,false)] (by kernel_rfl) rfl (by kernel_rfl) (hE3.trans' (hE4.trans' hE5)) ?_
          refine Bu rfl ?_
          refine AZ rfl rfl (cloneFactsN (hgoal.ext (hE2.trans' (hE3.trans' (hE4.trans' hE5)))) hl3) ?_
          rintro cv' w6 ⟨hcv,hE6⟩
          refine BP (hE3.trans' (hE4.trans' (hE5.trans' hE6))) ?_
          have hg3:=hN.blk.ext hE6
          obtain ⟨Aa,ca,rfl⟩:=hav.form
          obtain ⟨Ab,cb,rfl⟩:=hbv.form
          obtain ⟨Ac,cc,rfl⟩:=hcv.form
          refine hwp_o rfl ?_
          refine AU (fun _ _=>EL rfl rfl) rfl ?_
          refine Bu rfl ?_
          refine By rfl rfl hg3 rfl (Nat.le_refl _) (by simp [Value.cells,Value.oneCell',setParts,setFrom]) fun w7 hU=>?_
          refine Ep (AI ?_)
          have s3:=hE3.size;have s4:=hE4.size;have s5:=hE5.size;have s6:=hE6.size;have s7:=hU.size;have sN:=hN.size
          refine ⟨_,_,_,_,⟨rfl,rfl,rfl,trivial⟩,(hE3.trans' (hE4.trans' (hE5.trans' hE6))).trans (hU.below (by omega)),by omega,hU.blk,?_,?_,?_⟩
          · exact (hav.agree fun k hk=>(hU.other k (by have:=hk.2;omega)).trans ((hE4.trans' (hE5.trans' hE6)).block k hk.2)).mono fun k hk=>⟨⟨by have:=hk.1;omega,by have:=hk.2;omega⟩,by have:=hk.2;omega⟩
          · exact (hbv.agree fun k hk=>(hU.other k (by have:=hk.2;omega)).trans ((hE5.trans' hE6).block k hk.2)).mono fun k hk=>⟨⟨by have:=hk.1;omega,by have:=hk.2;omega⟩,by have:=hk.2;omega⟩
          · exact (hcv.agree fun k hk=>hU.other k (by have:=hk.1;omega)).mono fun k hk=>⟨⟨by have:=hk.1;omega,by have:=hk.2;omega⟩,by have:=hk.1;omega⟩
      · refine Dh rfl fun w4 hN=>?_
        have hE4:=hN.ext
        refine Eq (hE3.trans' hE4) ?_
        refine Hv [(5,false),(8,false),(9,true),(11,false)] (by kernel_rfl) rfl (by kernel_rfl) (hE3.trans' hE4) ?_
        refine Bu rfl ?_
        refine AZ rfl rfl (cloneIntsN (hinit.ext (hE2.trans' (hE3.trans' hE4))) hl2) ?_
        rintro bv w5 ⟨hbv,hE5⟩
        refine BP (hE3.trans' (hE4.trans' hE5)) ?_
        refine Bu rfl ?_
        refine AZ rfl rfl (cloneFactsN (hgoal.ext (hE2.trans' (hE3.trans' (hE4.trans' hE5)))) hl3) ?_
        rintro cv' w6 ⟨hcv,hE6⟩
        refine BP (hE3.trans' (hE4.trans' (hE5.trans' hE6))) ?_
        have hg3:=(hN.blk.ext hE5).ext hE6
        obtain ⟨Aa,ca,rfl⟩:=hav.form
        obtain ⟨Ab,cb,rfl⟩:=hbv.form
        obtain ⟨Ac,cc,rfl⟩:=hcv.form
        refine hwp_o rfl ?_
        refine AU (fun _ _=>EL rfl rfl) rfl ?_
        refine Bu rfl ?_
        refine By rfl rfl hg3 rfl (Nat.le_refl _) (by simp [Value.cells,Value.oneCell',setParts,setFrom]) fun w7 hU=>?_
        refine Ep (AI ?_)
        have s3:=hE3.size;have s4:=hE4.size;have s5:=hE5.size;have s6:=hE6.size;have s7:=hU.size;have sN:=hN.size
        refine ⟨_,_,_,_,⟨rfl,rfl,rfl,trivial⟩,(hE3.trans' (hE4.trans' (hE5.trans' hE6))).trans (hU.below (by omega)),by omega,hU.blk,?_,?_,?_⟩
        · exact (hav.agree fun k hk=>(hU.other k (by have:=hk.2;omega)).trans ((hE4.trans' (hE5.trans' hE6)).block k hk.2)).mono fun k hk=>⟨⟨by have:=hk.1;omega,by have:=hk.2;omega⟩,by have:=hk.2;omega⟩
        · exact (hbv.agree fun k hk=>(hU.other k (by have:=hk.1;omega)).trans (hE6.block k hk.2)).mono fun k hk=>⟨⟨by have:=hk.1;omega,by have:=hk.2;omega⟩,by have:=hk.1;omega⟩
        · exact (hcv.agree fun k hk=>hU.other k (by have:=hk.1;omega)).mono fun k hk=>⟨⟨by have:=hk.1;omega,by have:=hk.2;omega⟩,by have:=hk.1;omega⟩
    · refine Dh rfl fun w3 hN=>?_
      have hE3:=hN.ext
      refine Eq hE3 ?_
      refine Hv [(2,false),(5,false),(8,false),(9,true),(11,false)] (by kernel_rfl) rfl (by kernel_rfl) hE3 ?_
      refine Bu rfl ?_
      refine AZ rfl rfl (cloneIntsN (hvars.ext (hE2.trans' hE3)) hl1) ?_
      rintro av w4 ⟨hav,hE4⟩
      refine BP (hE3.trans' hE4) ?_
      refine Bu rfl ?_
      refine AZ rfl rfl (cloneIntsN (hinit.ext (hE2.trans' (hE3.trans' hE4))) hl2) ?_
      rintro bv w5 ⟨hbv,hE5⟩
      refine BP (hE3.trans' (hE4.trans' hE5)) ?_
      refine Bu rfl ?_
      refine AZ rfl rfl (cloneFactsN (hgoal.ext (hE2.trans' (hE3.trans' (hE4.trans' hE5)))) hl3) ?_
      rintro cv' w6 ⟨hcv,hE6⟩
      refine BP (hE3.trans' (hE4.trans' (hE5.trans' hE6))) ?_
      have hg3:=((hN.blk.ext hE4).ext hE5).ext hE6
      obtain ⟨Aa,ca,rfl⟩:=hav.form
      obtain ⟨Ab,cb,rfl⟩:=hbv.form
      obtain ⟨Ac,cc,rfl⟩:=hcv.form
      refine hwp_o rfl ?_
      refine AU (fun _ _=>EL rfl rfl) rfl ?_
      refine Bu rfl ?_
      refine By rfl rfl hg3 rfl (Nat.le_refl _) (by simp [Value.cells,Value.oneCell',setParts,setFrom]) fun w7 hU=>?_
      refine Ep (AI ?_)
      have s3:=hE3.size;have s4:=hE4.size;have s5:=hE5.size;have s6:=hE6.size;have s7:=hU.size;have sN:=hN.size
      refine ⟨_,_,_,_,⟨rfl,rfl,rfl,trivial⟩,(hE3.trans' (hE4.trans' (hE5.trans' hE6))).trans (hU.below (by omega)),by omega,hU.blk,?_,?_,?_⟩
      · exact (hav.agree fun k hk=>(hU.other k (by have:=hk.1;omega)).trans ((hE5.trans' hE6).block k hk.2)).mono fun k hk=>⟨⟨by have:=hk.1;omega,by have:=hk.2;omega⟩,by have:=hk.1;omega⟩
      · exact (hbv.agree fun k hk=>(hU.other k (by have:=hk.1;omega)).trans (hE6.block k hk.2)).mono fun k hk=>⟨⟨by have:=hk.1;omega,by have:=hk.2;omega⟩,by have:=hk.1;omega⟩
      · exact (hcv.agree fun k hk=>hU.other k (by have:=hk.1;omega)).mono fun k hk=>⟨⟨by have:=hk.1;omega,by have:=hk.2;omega⟩,by have:=hk.1;omega⟩
  · rintro l' w3 ⟨g3,av,bv,cv',hsub,hE3,hg3,hb3,hav,hbv,hcv⟩
    refine AP _ hsub ?_
    clear hsub
    replace hb1:=hb1.ext hE3
    replace hres:=hres.ext hE3
    have hE03:Ext w w3:=hE2.trans' hE3
    have hg3z:g3 < w3.heap.size:=hb3.lt
    repeat (first|refine Ah ?_|refine Al ?_|refine Ae ?_|refine Am ?_|refine At ?_|refine Au ?_|refine Ar rfl ?_|refine Aj rfl ?_)
    ((repeat (first|refine Ah ?_|refine Al ?_|refine Ae ?_|refine Am ?_|refine At ?_|refine Au ?_|refine Ar rfl ?_|refine Aj rfl ?_))<;>(refine o_fa rfl rfl ?_<;>refine o_ld rfl rfl ?_<;>refine o_ln rfl rfl ?_<;>refine o_mv rfl rfl ?_<;>(first|refine Ay ?_|refine Az ?_|refine Aw ?_|refine AA ?_))<;>(repeat (first|refine Ah ?_|refine Al ?_|refine Ae ?_|refine Am ?_|refine At ?_|refine Au ?_|refine Ar rfl ?_|refine Aj rfl ?_)))
    refine Bi t.ops.length (by omega) (fun _:Unit=>[(2,.pointer (some ⟨w1.heap.size,0,none⟩)),(3,.pointer (some ⟨g3,0,none⟩)),(20,.slice Ao t.ops.length co)])
      (fun k _ w'=>Below w2.heap.size w2 w'∧w3.heap.size≤w'.heap.size∧(∀ q,q < w3.heap.size→q≠g3→w'.heap[q]?=w3.heap[q]?)∧∃ (ov:Value) (G:Nat→Prop),Blk w' g3 26 [av,bv,cv',ov]∧(∀ q,G q→w3.heap.size≤q∧q < w'.heap.size)∧Own w' w3.heap.size G 55 ov (t.ops.take k)) ()
      ⟨hE3,Nat.le_refl _,fun _ _ _=>rfl,.slice none 0 0,fun _=>False,hb3,fun _ h=>h.elim,Own.nil _ _ _ _⟩ ⟨rfl,rfl,rfl,rfl,rfl,trivial⟩ (fun _=>⟨rfl,rfl⟩) ⟨rfl,rfl,rfl⟩ ⟨rfl,rfl⟩ ?_ ?_
    · rintro k _ w4 hk ⟨hB4,hz34,hkeep,ov,G,hb3,hG,hown⟩
      have hE04:Ext w w4:=hE2.trans (hB4.mono (by omega))
      obtain ⟨o,ho⟩:=AH hk
      obtain ⟨hp5,hq5,hc5⟩:=hl5 k o ho
      obtain ⟨b2,o2,ce,rfl,_,_,hd1,p,q,rfl,hp,hq,hc,hn⟩:=(hops.ext hE04).elem ho
      obtain ⟨Ap,cp,rfl⟩:=hp.form
      obtain ⟨Aq,cq,rfl⟩:=hq.form
      obtain ⟨Aov,cov,rfl⟩:=hown.form
      ((repeat (first|refine Ah ?_|refine Al ?_|refine Ae ?_|refine Am ?_|refine At ?_|refine Au ?_|refine Ar rfl ?_|refine Aj rfl ?_))<;>(refine o_ia rfl rfl rfl ?_<;>refine o_la rfl rfl ?_)<;>(repeat (first|refine Ah ?_|refine Al ?_|refine Ae ?_|refine Am ?_|refine At ?_|refine Au ?_|refine Ar rfl ?_|refine Aj rfl ?_)))
      refine Bz rfl rfl rfl (by simp [Value.cells,Value.oneCell']) fun w5 hN5=>?_
      have hb2:Blk w5 w4.heap.size 55 [.string o.name,.int .i64 o.cost,.slice Ap o.pre.length cp,.slice Aq o.effs.length cq]:=hN5.blk
      have hz5:=hN5.size
      ((first|refine Ay ?_|refine Az ?_|refine Aw ?_|refine AA ?_))
      repeat (first|refine Ah ?_|refine Al ?_|refine Ae ?_|refine Am ?_|refine At ?_|refine Au ?_|refine Ar rfl ?_|refine Aj rfl ?_)
      clear hd1
      (refine o_fa rfl rfl ?_<;>refine o_ld rfl rfl ?_)
      refine AZ rfl rfl (cloneFactsN (hp.ext hN5.ext) hp5) ?_
      rintro pv w6 ⟨hpv,hE6⟩
      obtain ⟨Ap',cp',rfl⟩:=hpv.form
      replace hb2:=hb2.ext hE6
      (refine o_fa rfl rfl ?_)
      refine By rfl rfl hb2 rfl (show 0 + 2 + 1≤4 by decide) (by simp [Value.cells,Value.oneCell']) fun w7 hU7=>?_
      have hE47:Ext w4 w7:=(hN5.ext.trans' hE6).trans (hU7.below (Nat.le_refl _))
      replace hb2:Blk w7 w4.heap.size 55 [.string o.name,.int .i64 o.cost,.slice Ap' o.pre.length cp',.slice Aq o.effs.length cq]:=hU7.blk
      have hpv7:Vb w7 (nw w5 w6) (.slice Ap' o.pre.length cp') o.pre:=hpv.agree fun q hq=>hU7.other q (by have:=hq.1;omega)
      ((first|refine Ay ?_|refine Az ?_|refine Aw ?_|refine AA ?_))
      repeat (first|refine Ah ?_|refine Al ?_|refine Ae ?_|refine Am ?_|refine At ?_|refine Au ?_|refine Ar rfl ?_|refine Aj rfl ?_)
      ((repeat (first|refine Ah ?_|refine Al ?_|refine Ae ?_|refine Am ?_|refine At ?_|refine Au ?_|refine Ar rfl ?_|refine Aj rfl ?_))<;>(refine o_as rfl rfl ?_<;>(first|refine Ay ?_|refine Az ?_|refine Aw ?_|refine AA ?_))<;>(repeat (first|refine Ah ?_|refine Al ?_|refine Ae ?_|refine Am ?_|refine At ?_|refine Au ?_|refine Ar rfl ?_|refine Aj rfl ?_))<;>(refine o_fa rfl rfl ?_<;>refine o_ld rfl rfl ?_<;>refine o_ln rfl rfl ?_<;>refine o_mv rfl rfl ?_<;>(first|refine Ay ?_|refine Az ?_|refine Aw ?_|refine AA ?_))<;>(repeat (first|refine Ah ?_|refine Al ?_|refine Ae ?_|refine Am ?_|refine At ?_|refine Au ?_|refine Ar rfl ?_|refine Aj rfl ?_)))
      refine Bi o.effs.length (by omega) (fun ev:Value=>[(2,.pointer (some ⟨w1.heap.size,0,none⟩)),(3,.pointer (some ⟨g3,0,none⟩)),(5,.pointer (some ⟨w4.heap.size,0,none⟩)),(6,ev),(20,.slice (some ⟨b2,o2,none⟩) t.ops.length co),(21,.int .i64 (t.ops.length:Int)),(22,.int .i64 (k:Int)),(31,.slice Aq o.effs.length cq)])
        (fun i ev w'=>Ext w7 w'∧∃ H:Nat→Prop,(∀ q,H q→w7.heap.size≤q∧q < w'.heap.size)∧Own w' w7.heap.size H 59 ev (o.effs.take i)) (.slice none 0 0)
        ⟨Below.refl _ _,fun _=>False,fun _ h=>h.elim,Own.nil _ _ _ _⟩ ⟨rfl,rfl,rfl,rfl,rfl,rfl,rfl,rfl,rfl,rfl,trivial⟩ (fun _=>⟨rfl,rfl⟩) ⟨rfl,rfl,rfl⟩ ⟨rfl,rfl⟩ ?_ ?_
      · rintro i ev w8 hi ⟨hE8,H,hH,hev⟩
        obtain ⟨e,he⟩:=AH hi
        have hce:=hc5 i e he
        obtain ⟨b3,o3,ce,rfl,_,_,hd1,cv8,rfl,hcn,hr1,hr2⟩:=(hq.ext (hE47.trans' hE8)).elem he
        obtain ⟨Acn,ccn,rfl⟩:=hcn.form
        ((repeat (first|refine Ah ?_|refine Al ?_|refine Ae ?_|refine Am ?_|refine At ?_|refine Au ?_|refine Ar rfl ?_|refine Aj rfl ?_))<;>(refine o_ia rfl rfl rfl ?_<;>refine o_la rfl rfl ?_)<;>(repeat (first|refine Ah ?_|refine Al ?_|refine Ae ?_|refine Am ?_|refine At ?_|refine Au ?_|refine Ar rfl ?_|refine Aj rfl ?_)))
        refine Bz rfl rfl rfl (by simp [Value.cells,Value.oneCell']) fun w9 hN9=>?_
        have hb4:Blk w9 w8.heap.size 59 [.slice Acn e.cond.length ccn,.int .i64 e.var,.int .i64 e.val]:=hN9.blk
        have hz9:=hN9.size
        ((first|refine Ay ?_|refine Az ?_|refine Aw ?_|refine AA ?_))
        repeat (first|refine Ah ?_|refine Al ?_|refine Ae ?_|refine Am ?_|refine At ?_|refine Au ?_|refine Ar rfl ?_|refine Aj rfl ?_)
        clear hd1
        (refine o_fa rfl rfl ?_<;>refine o_ld rfl rfl ?_)
        refine AZ rfl rfl (cloneFactsN (hcn.ext hN9.ext) hce) ?_
        rintro cw w10 ⟨hcw,hE10⟩
        obtain ⟨Acw,ccw,rfl⟩:=hcw.form
        replace hb4:=hb4.ext hE10
        (refine o_fa rfl rfl ?_)
        refine By rfl rfl hb4 rfl (show 0 + 0 + 1≤3 by decide) (by simp [Value.cells,Value.oneCell']) fun w11 hU11=>?_
        replace hb4:Blk w11 w8.heap.size 59 [.slice Acw e.cond.length ccw,.int .i64 e.var,.int .i64 e.val]:=hU11.blk
        have hE811:Ext w8 w11:=(hN9.ext.trans' hE10).trans (hU11.below (Nat.le_refl _))
        have hE711:Ext w7 w11:=hE8.trans' hE811
        have hcw11:Vb w11 (nw w9 w10) (.slice Acw e.cond.length ccw) e.cond:=hcw.agree fun q hq=>hU11.other q (by have:=hq.1;omega)
        have s10:=hE10.size
        have s11:=hU11.size
        have hne:∀ g,ev.ownBlock=some g→¬ (H g∨nw w9 w10 g):=fun g hg h=>by
          have hlt:=(hev.lt g hg).2
          rcases h with h|h
          · obtain ⟨_,_,_,h3⟩:=hev;exact h3 g hg h
          · have:=h.1;omega
        have hev11:Own w11 w7.heap.size (fun q=>H q∨nw w9 w10 q) 59 ev _:=(hev.ext hE811 fun q hq=>(hH q hq).2).mono (fun q hq=>.inl hq) hne
        have hH11:∀ q,(H q∨nw w9 w10 q)→w7.heap.size≤q∧q < w11.heap.size:=fun q hq=>by
          rcases hq with hq|hq
          · have:=hH q hq;omega
          · have h1:=hq.1;have h2:=hq.2;have:=hE8.size;omega
        have hil:(o.effs.take i).length≤1000000:=by rw [List.length_take];omega
        ((first|refine Ay ?_|refine Az ?_|refine Aw ?_|refine AA ?_))
        repeat (first|refine Ah ?_|refine Al ?_|refine Ae ?_|refine Am ?_|refine At ?_|refine Au ?_|refine Ar rfl ?_|refine Aj rfl ?_)
        (refine o_mv rfl rfl ?_<;>refine o_la rfl rfl ?_)
        refine Ei (a:=e) rfl rfl rfl hev11 (fun q hq=>(hH11 q hq).2) hE711.size ⟨_,rfl,_,rfl,hcw11.mono fun q hq=>.inr hq,hr1,hr2⟩ (by decide) (by decide) (by omega) (by omega) ⟨rfl,rfl⟩ fun ev' w12 hev12 hK12=>?_
        (refine o_as rfl rfl ?_<;>(first|refine Ay ?_|refine Az ?_|refine Aw ?_|refine AA ?_))
        repeat (first|refine Ah ?_|refine Al ?_|refine Ae ?_|refine Am ?_|refine At ?_|refine Au ?_|refine Ar rfl ?_|refine Aj rfl ?_)
        exact ⟨ev',⟨rfl,rfl,rfl,rfl,rfl,rfl,rfl,rfl,rfl,rfl,trivial⟩,hE711.trans (hev11.fits (Nat.le_refl _) hE711.size hK12),_,fun q hq=>⟨(hH11 q hq).1,Nat.lt_of_lt_of_le (hH11 q hq).2 hK12.size⟩,by rw [List.take_add_one,he];simpa using hev12⟩
      rintro ev w12 ⟨hE12,H,hH,hev⟩
      rw [List.take_length] at hev
      obtain ⟨Aev,cev,rfl⟩:=hev.form
      replace hb2:=hb2.ext hE12
      repeat (first|refine Ah ?_|refine Al ?_|refine Ae ?_|refine Am ?_|refine At ?_|refine Au ?_|refine Ar rfl ?_|refine Aj rfl ?_)
      (refine o_mv rfl rfl ?_<;>refine o_fa rfl rfl ?_)
      refine By rfl rfl hb2 rfl (show 0 + 3 + 1≤4 by decide) (by simp [Value.cells,Value.oneCell']) fun w13 hU13=>?_
      replace hb2:Blk w13 w4.heap.size 55 [.string o.name,.int .i64 o.cost,.slice Ap' o.pre.length cp',.slice Aev o.effs.length cev]:=hU13.blk
      have hE413:Ext w4 w13:=(hE47.trans' hE12).trans (hU13.below (Nat.le_refl _))
      have s6:=hE6.size
      have s7:=hU7.size
      have s12:=hE12.size
      have s13:=hU13.size
      have hb3':=hb3.ext hE413
      have hg3lt:=hb3.lt
      have hpv13:Vb w13 (nw w5 w6) (.slice Ap' o.pre.length cp') o.pre:=hpv7.agree fun q hq=>(hU13.other q (by have:=hq.1;omega)).trans (hE12.block q (by have:=hq.2;omega))
      have hev13:Vb w13 (fun q=>H q∨(Value.slice Aev o.effs.length cev).ownBlock=some q) (.slice Aev o.effs.length cev) o.effs:=hev.vb.agree fun q hq=>hU13.other q (by
        rcases hq with hq|hq
        · have:=(hH q hq).1;omega
        · have:=(hev.lt q hq).1;omega)
      have hne:∀ g,(Value.slice Aov (t.ops.take k).length cov).ownBlock=some g→¬ (G g∨w4.heap.size≤g∧g < w13.heap.size):=fun g hg h=>by
        have hlt:=(hown.lt g hg).2
        rcases h with h|h
        · obtain ⟨_,_,_,h3⟩:=hown;exact h3 g hg h
        · omega
      have hown13:Own w13 w3.heap.size (fun q=>G q∨w4.heap.size≤q∧q < w13.heap.size) 55 _ _:=(hown.ext hE413 fun q hq=>(hG q hq).2).mono (fun q hq=>.inl hq) hne
      have hG13:∀ q,(G q∨w4.heap.size≤q∧q < w13.heap.size)→w3.heap.size≤q∧q < w13.heap.size:=fun q hq=>by
        have:=hE413.size
        rcases hq with hq|hq
        · have:=hG q hq;omega
        · omega
      have hopr:Vb w13 (fun q=>G q∨w4.heap.size≤q∧q < w13.heap.size) (.agg #[.string o.name,.int .i64 o.cost,.slice Ap' o.pre.length cp',.slice Aev o.effs.length cev]) o :=
        ⟨[.string o.name,.int .i64 o.cost,.slice Ap' o.pre.length cp',.slice Aev o.effs.length cev],rfl,_,_,rfl,hpv13.mono fun q hq=>.inr (by have h1:=hq.1;have h2:=hq.2;omega),hev13.mono fun q hq=>.inr (by
          rcases hq with hq|hq
          · have:=hH q hq;omega
          · have:=hev.lt q hq;omega),hc,hn⟩
      have hkl:(t.ops.take k).length≤1000000:=by rw [List.length_take];omega
      ((first|refine Ay ?_|refine Az ?_|refine Aw ?_|refine AA ?_))
      repeat (first|refine Ah ?_|refine Al ?_|refine Ae ?_|refine Am ?_|refine At ?_|refine Au ?_|refine Ar rfl ?_|refine Aj rfl ?_)
      have hbx:=hb2
      clear hb1
      have hb1:=hb3'
      (refine o_fa rfl rfl ?_<;>refine o_ld rfl rfl ?_<;>refine o_la rfl rfl ?_)
      refine Ei (a:=o) rfl rfl rfl hown13 (fun q hq=>(hG13 q hq).2) (by have:=hE413.size;omega) hopr (by decide) (by decide) (by omega) (by omega) ⟨rfl,rfl⟩ fun ov' w14 hov14 hK14=>?_
      obtain ⟨Aov',cov',rfl⟩:=hov14.form
      have hb3k:=hK14.blk hb3' (hown13.blk_ne hb3' (by decide))
      (refine o_fa rfl rfl ?_)
      refine By rfl rfl hb3k rfl (show 0 + 3 + 1≤4 by decide) (by simp [Value.cells,Value.oneCell']) fun w15 hU15=>?_
      ((first|refine Ay ?_|refine Az ?_|refine Aw ?_|refine AA ?_))
      repeat (first|refine Ah ?_|refine Al ?_|refine Ae ?_|refine Am ?_|refine At ?_|refine Au ?_|refine Ar rfl ?_|refine Aj rfl ?_)
      have hB14:Below w3.heap.size w13 w14:=hown13.fits (Nat.le_refl _) (by have:=hE413.size;omega) hK14
      have sz14:=hK14.size
      have sz15:=hU15.size
      refine ⟨(),⟨rfl,rfl,rfl,rfl,rfl,trivial⟩,?_,?_,?_,_,(fun q=>G q∨w4.heap.size≤q∧q < w13.heap.size),hU15.blk,fun q hq=>?_,?_⟩
      · exact hB4.trans (((hE413.mono (by omega)).trans (hB14.mono (by omega))).trans (hU15.below (by omega)))
      · have:=hE413.size;omega
      · intro q hq hne'
        rw [hU15.other q hne',hB14.block q hq,hE413.block q (by omega),hkeep q hq hne']
      · have:=hG13 q hq;omega
      · have hne15:=hov14.blk_ne hb3k (by decide)
        rw [List.take_add_one,ho]
        refine hov14.agree (hU15.agree ?_) fun g hg=>hU15.other g fun he=>hne15 (he ▸ hg)
        rintro (h|h)
        · have:=(hG g3 h).1;omega
        · omega
    rintro _ w4 ⟨hB4,hz34,hkeep,ov,G,hb3,hG,hown⟩
    rw [List.take_length] at hown
    obtain ⟨Aov,cov,rfl⟩:=hown.form
    have hresz:=hres.lt
    replace hres:=hres.keep (hkeep _ hresz (by omega))
    clear hb1
    have hb1:=hb3
    repeat (first|refine Ah ?_|refine Al ?_|refine Ae ?_|refine Am ?_|refine At ?_|refine Au ?_|refine Ar rfl ?_|refine Aj rfl ?_)
    obtain ⟨Aa,ca,rfl⟩:=hav.form
    obtain ⟨Ab,cb,rfl⟩:=hbv.form
    obtain ⟨Ac,cc,rfl⟩:=hcv.form
    (refine o_la rfl rfl ?_)
    refine By rfl rfl hres rfl (Nat.le_refl _) (by simp [Value.cells,Value.oneCell']) fun w5 hU=>?_
    ((first|refine Ay ?_|refine Az ?_|refine Aw ?_|refine AA ?_))
    repeat (first|refine Ah ?_|refine Al ?_|refine Ae ?_|refine Am ?_|refine At ?_|refine Au ?_|refine Ar rfl ?_|refine Aj rfl ?_)
    have hE4:Ext w w4:=hE2.trans (hB4.mono (by omega))
    have s5:=hU.size
    have s04:=hE4.size
    have hcl:∀ {α:Type} [Rp α] {v:Value} {x:α},Vb w3 (fun k=>nw w2 w3 k∧k≠g3) v x→Vb w5 (nw w w5) v x:=fun h=>(h.agree fun q hq=>(hU.other q (by have:=hq.1.1;omega)).trans (hkeep q hq.1.2 hq.2)).mono fun q hq=>⟨by have:=hq.1.1;omega,by have:=hq.1.2;omega⟩
    have hovv:Vb w5 (nw w w5) (.slice Aov t.ops.length cov) t.ops:=(hown.vb.agree fun q hq=>hU.other q (by
      rcases hq with hq|hq
      · have:=(hG q hq).1;omega
      · have:=(hown.lt q hq).1;omega)).mono fun q hq=>by
        rcases hq with hq|hq
        · have:=hG q hq;exact ⟨by omega,by omega⟩
        · have:=hown.lt q hq;exact ⟨by omega,by omega⟩
    refine ret1v rfl (BD rfl rfl hU.blk.cellsAt) ⟨⟨_,rfl,_,_,_,_,rfl,hcl hav,hcl hbv,hcl hcv,hovv⟩,hE4.trans (hU.below (by omega))⟩
end
section
def PreOk (t:Tsk):Prop:=∀ (i:Nat) o,t.ops[i]?=some o→FactsOk t.vars o.pre
theorem TaskOk.pre {t:Tsk} (h:TaskOk t):PreOk t:=fun i o ho=>(h.2.2.2.2.2 i o ho).2.2.2.2.1
theorem Jr {t:Tsk} (h:PreOk t) (op:Int):FactsOk t.vars (preOf t op):=by
  unfold preOf
  cases ho:t.ops[op.toNat]? with
  | none=>exact ⟨fun i x hx=>by simp at hx,fun i x y hx=>by simp at hx⟩
  | some o=>exact h _ o ho
theorem FS {l:List Fct} {v:Int} {f:Fct} (h:factOn l v=some f):f∈l∧f.var=v:=by
  unfold factOn at h
  exact ⟨List.mem_of_find?_eq_some h,by simpa using List.find?_some h⟩
theorem JG {l:List Fct} {v:Int} (h:factOn l v=none):∀ f∈l,f.var≠v:=by
  unfold factOn at h
  rw [List.find?_eq_none] at h
  intro f hf
  simpa using h f hf
theorem JH {vars:List Int} {l:List Fct} (hl:FactsOk vars l) {f g:Fct} (hf:f∈l) (hg:g∈l) (he:f.var=g.var):f=g:=by
  obtain ⟨i,hi⟩:=List.getElem?_of_mem hf
  obtain ⟨j,hj⟩:=List.getElem?_of_mem hg
  rcases Nat.lt_trichotomy i j with h|h|h
  · have:=Gt hl j i f g h hi hj;omega
  · subst h;rw [hi] at hj;injection hj
  · have:=Gt hl i j g f h hj hi;omega
theorem TaskOk.fits {t:Tsk} (h:TaskOk t):FitsVals t:=by
  intro i o ho v f hf hv
  obtain ⟨h1,h2⟩:=FS hf
  obtain ⟨j,hj⟩:=List.getElem?_of_mem h1
  obtain ⟨g1,g2,n,g3,g4⟩:=(h.pre i o ho).1 j f hj
  rw [h2] at g3
  exact ⟨g2,n,by simpa using g3,g4⟩
def hf (t:Tsk) (s:List Int) (v:Nat) (op:Int):Bool:=(preOf t op).all fun f=>decide (f.var < (v:Int)) || hasB s f
theorem Hn {t:Tsk} {s:List Int} {v:Nat} {op:Int}:hf t s v op=true↔∀ f∈preOf t op,f.var < (v:Int)∨hasB s f=true:=by
  unfold hf
  simp [List.all_eq_true]
theorem JW {t:Tsk} {s:List Int} {v:Nat} {op:Int} (h:factOn (preOf t op) (v:Int)=none):hf t s v op=hf t s (v + 1) op:=by
  rw [Bool.eq_iff_iff,Hn,Hn]
  constructor
  · intro hh f hm
    rcases hh f hm with h1|h1
    · exact .inl (by omega)
    · exact .inr h1
  · intro hh f hm
    have:=JG h f hm
    rcases hh f hm with h1|h1
    · exact .inl (by omega)
    · exact .inr h1
theorem Ma {t:Tsk} {s:List Int} {v:Nat} {op:Int} {f:Fct} (hp:PreOk t) (h:factOn (preOf t op) (v:Int)=some f):hf t s v op=(hasB s f && hf t s (v + 1) op):=by
  obtain ⟨h1,h2⟩:=FS h
  rw [Bool.eq_iff_iff,Bool.and_eq_true,Hn,Hn]
  constructor
  · intro hh
    refine ⟨(hh f h1).resolve_left (by omega),fun g hg=>?_⟩
    rcases hh g hg with h3|h3
    · exact .inl (by omega)
    · exact .inr h3
  · rintro ⟨h3,hh⟩ g hg
    rcases hh g hg with h4|h4
    · by_cases he:g.var=(v:Int)
      · have:g=f:=JH (Jr hp op) hg h1 (by omega)
        subst this;exact .inr h3
      · exact .inl (by omega)
    · exact .inr h4
theorem JX {t:Tsk} {s:List Int} {ops:List Int}:∀ (k v:Nat),(∀ x,v≤x→x < v + k→tests t ops x=false)→∀ op∈ops,hf t s v op=hf t s (v + k) op
  | 0,_,_,_,_=>rfl
  | k + 1,v,h,op,ho=>by
    have h0:=h v (Nat.le_refl _) (by omega)
    unfold tests at h0
    rw [List.any_eq_false] at h0
    have h1:=h0 op ho
    have h2:factOn (preOf t op) (v:Int)=none:=by simpa using h1
    rw [JW h2,JX k (v + 1) (fun x hx1 hx2=>h x (by omega) (by omega)) op ho]
    congr 1;omega
theorem Ik {a b c:Int→Bool} {p:Int→Bool} (h:∀ x,p x=if a x=true then b x else if c x=true then b x else false) (hac:∀ x,a x=true→c x=false) :
    ∀ l:List Int,(l.filter p).Perm ((l.filter a).filter b ++ (l.filter c).filter b)
  | []=>by simp
  | x :: l=>by
    have ih:=Ik h hac l
    have hx:=h x
    cases ha:a x
    · cases hc:c x
      · simp only [ha,hc] at hx
        simpa [List.filter_cons,ha,hc,hx] using ih
      · simp only [ha,hc] at hx
        cases hb:b x
        · rw [hb] at hx
          simpa [List.filter_cons,ha,hc,hb,hx] using ih
        · rw [hb] at hx
          simp only [List.filter_cons,ha,hc,hb,hx,if_true,Bool.false_eq_true,if_false]
          exact (ih.cons x).trans (List.perm_middle.symm)
    · have hc:=hac x ha
      simp only [ha] at hx
      cases hb:b x
      · rw [hb] at hx
        simpa [List.filter_cons,ha,hc,hb,hx] using ih
      · rw [hb] at hx
        simp only [List.filter_cons,ha,hc,hb,hx,if_true,Bool.false_eq_true,if_false,List.cons_append]
        exact ih.cons x
theorem MN {t:Tsk} {s:List Int} (hp:PreOk t) (op:Int):hf t s t.vars.length op=true:=by
  rw [Hn]
  intro f hfm
  obtain ⟨i,hi⟩:=List.getElem?_of_mem hfm
  obtain ⟨h1,h2,n,h3,_⟩:=(Jr hp op).1 i f hi
  have:=Bd h3
  exact .inl (by omega)
theorem Kq (t:Tsk) (ops:List Int) {v:Nat} (h:v≤t.vars.length):v≤nextV t ops v∧nextV t ops v≤t.vars.length∧(∀ u,v≤u→u < nextV t ops v→tests t ops u=false)∧(nextV t ops v < t.vars.length→tests t ops (nextV t ops v)=true):=by
  obtain ⟨h1,h2,h3,h4⟩:=GA t ops (t.vars.length - v) v
  exact ⟨h1,by unfold nextV;omega,h3,fun h=>h4 (by unfold nextV at h;omega)⟩
theorem StateOk.at {vars s:List Int} (h:StateOk vars s) {u:Nat} (hu:u < vars.length):∃ (x:Nat) (n:Int),s[u]?=some (x:Int)∧vars[u]?=some n∧(x:Int) < n∧atN s u=x:=by
  obtain ⟨y,hy⟩:=AH (l:=s) (k:=u) (by rw [h.1];exact hu)
  obtain ⟨n,hn⟩:=AH hu
  obtain ⟨h1,h2⟩:=h.2 u y n hy hn
  obtain ⟨x,rfl⟩:=Int.eq_ofNat_of_zero_le h1
  exact ⟨x,n,hy,hn,h2,by simp [atN,hy]⟩
theorem Js {t:Tsk} {s:List Int} (hp:PreOk t) (hs:StateOk t.vars s):∀ (fuel:Nat) (ops:List Int) (v:Nat),v≤t.vars.length→t.vars.length < fuel + v →
    (coll s (mkT t fuel ops v)).Perm (ops.filter (hf t s v))∧Fits s (mkT t fuel ops v):=by
  intro fuel
  induction fuel with
  | zero=>intro ops v h1 h2;omega
  | succ fuel ih =>
    intro ops v h1 h2
    obtain ⟨g1,g2,g3,g4⟩:=Kq t ops h1
    have hsame:=JX (t:=t) (s:=s) (ops:=ops) (nextV t ops v - v) v (fun x hx1 hx2=>g3 x hx1 (by omega))
    rw [show v + (nextV t ops v - v)=nextV t ops v from by omega] at hsame
    have hfil:ops.filter (hf t s v)=ops.filter (hf t s (nextV t ops v)):=List.filter_congr hsame
    rw [hfil]
    unfold mkT
    by_cases he:ops.isEmpty=true
    · rw [if_pos he]
      have:ops=[]:=by simpa using he
      subst this
      exact ⟨by simp [coll],trivial⟩
    rw [if_neg he]
    by_cases hn:nextV t ops v=t.vars.length
    · rw [if_pos hn,hn]
      have:ops.filter (hf t s t.vars.length)=ops:=List.filter_eq_self.2 fun x _=>MN hp x
      rw [this]
      exact ⟨List.Perm.refl _,trivial⟩
    rw [if_neg hn]
    obtain ⟨x,n,q1,q2,q3,q4⟩:=hs.at (u:=nextV t ops v) (by omega)
    have i1:=ih (ops.filter (valB t (nextV t ops v) x)) (nextV t ops v + 1) (by omega) (by omega)
    have i2:=ih (ops.filter (restB t (nextV t ops v))) (nextV t ops v + 1) (by omega) (by omega)
    refine ⟨?_,⟨x,q1,by rw [q2];simp;omega⟩,by rw [q4];exact i1.2,i2.2⟩
    rw [coll,q4]
    refine (i1.1.append i2.1).trans (Ik (a:=valB t (nextV t ops v) x) (c:=restB t (nextV t ops v)) (fun op=>?_) (fun op h=>?_) ops).symm
    · unfold valB restB
      cases ho:factOn (preOf t op) (nextV t ops v:Int) with
      | none=>rw [JW ho];simp
      | some f =>
        rw [Ma hp ho]
        obtain ⟨_,hv⟩:=FS ho
        rw [Is (s:=s) hv q1]
        by_cases hx:f.val=(x:Int)
        · simp [hx]
        · simp [hx,Ne.symm hx]
    · unfold valB at h
      unfold restB
      cases ho:factOn (preOf t op) (nextV t ops v:Int) with
      | none=>rw [ho] at h;simp at h
      | some f=>rfl
def allOps (t:Tsk):List Int:=(List.range t.ops.length).map fun i:Nat=>(i:Int)
def treeOf (t:Tsk):Tr:=mkT t (t.vars.length + 1) (allOps t) 0
theorem IP {α:Type} {p q:α→Bool}:∀ {l:List α},(∀ x∈l,p x=q x)→l.all p=l.all q
  | [],_=>rfl
  | x :: l,h=>by rw [List.all_cons,List.all_cons,h x List.mem_cons_self,IP fun y hy=>h y (List.mem_cons_of_mem _ hy)]
theorem Mb {t:Tsk} (hp:PreOk t) (s:List Int):appl t s=(allOps t).filter (hf t s 0):=by
  unfold appl applK allOps
  rw [List.filter_map]
  congr 1
  refine List.filter_congr fun i hi=>?_
  obtain ⟨o,ho⟩:=AH (l:=t.ops) (k:=i) (List.mem_range.1 hi)
  simp only [Function.comp,hf,preOf,holdsB,Int.toNat_natCast,ho]
  refine IP fun f hfm=>?_
  obtain ⟨j,hj⟩:=List.getElem?_of_mem hfm
  have:=((hp i o ho).1 j f hj).1
  have:decide (f.var < ((0:Nat):Int))=false:=decide_eq_false (by omega)
  rw [this,Bool.false_or]
theorem JI (t:Tsk) (s:List Int):(appl t s).Pairwise fun x y=>decide (x≤y)=true:=by
  unfold appl applK
  refine List.Pairwise.map _ (fun a b h=>?_) (List.Pairwise.filter _ List.pairwise_lt_range)
  exact decide_eq_true (by omega)
theorem Kr {l m:List Int} (h:l.Perm m) (hm:m.Pairwise fun x y=>decide (x≤y)=true):sortL l=m:=by
  refine List.Perm.eq_of_pairwise (le:=fun x y:Int=>decide (x≤y)=true) (fun a b _ _ h1 h2=>?_) (List.pairwise_mergeSort (fun a b c h1 h2=>?_) (fun a b=>?_) l) hm ((List.mergeSort_perm _ _).trans h)
  · have:=of_decide_eq_true h1;have:=of_decide_eq_true h2;omega
  · have:=of_decide_eq_true h1;have:=of_decide_eq_true h2;exact decide_eq_true (by omega)
  · simp;omega
theorem Ks {t:Tsk} {s:List Int} (hp:PreOk t) (hs:StateOk t.vars s):findL t (treeOf t) s=appl t s:=by
  unfold findL
  rw [if_pos (bof_t hs)]
  refine Kr ?_ (JI t s)
  rw [Mb hp]
  exact (Js hp hs _ _ 0 (Nat.zero_le _) (by omega)).1
theorem KY {t:Tsk} {s:List Int} (hp:PreOk t) (hs:StateOk t.vars s):Fits s (treeOf t):=(Js hp hs _ _ 0 (Nat.zero_le _) (by omega)).2
theorem Lv (t:Tsk) (s:List Int):∀ (fuel:Nat) (ops:List Int) (v:Nat),(coll s (mkT t fuel ops v)).length≤ops.length:=by
  intro fuel
  induction fuel with
  | zero=>intro ops v;exact Nat.zero_le _
  | succ fuel ih =>
    intro ops v
    unfold mkT
    by_cases he:ops.isEmpty=true
    · rw [if_pos he];exact Nat.zero_le _
    rw [if_neg he]
    by_cases hn:nextV t ops v=t.vars.length
    · rw [if_pos hn];exact Nat.le_refl _
    rw [if_neg hn,coll,List.length_append]
    refine Nat.le_trans (Nat.add_le_add (ih _ _) (ih _ _)) ?_
    generalize nextV t ops v=u
    generalize atN s u=x
    clear he hn ih
    induction ops with
    | nil=>simp
    | cons op ops ih2 =>
      have hac:valB t u x op=true→restB t u op=false:=by
        unfold valB restB
        cases factOn (preOf t op) (u:Int)<;>simp
      rw [List.filter_cons,List.filter_cons]
      cases ha:valB t u x op
      · cases hc:restB t u op<;>simp<;>omega
      · rw [hac ha];simp;omega
theorem Il (t:Tsk):(allOps t).length=t.ops.length:=by simp [allOps]
theorem Lw (t:Tsk) (s:List Int):(coll s (treeOf t)).length≤t.ops.length:=by
  have:=Lv t s (t.vars.length + 1) (allOps t) 0
  rwa [Il] at this
end
section
open Go Go.RowKit
attribute [local irreducible] ewp owp hwp hwq hws Ev Evg Fn retPost loud loudS Res1
theorem JJ:∀ k,((List.range (k + 1)).map fun i:Nat=>(i:Int))=((List.range k).map fun i:Nat=>(i:Int)) ++ [(k:Int)]:=fun k=>by
  rw [List.range_succ,List.map_append];rfl
theorem genNew {w:World} {tv:Value} {t:Tsk} (ht:V w tv t):Fn Try.prog 59 [tv] w fun v w'=>Ext w w' ∧
    ((TaskOk t∧∃ gv,v=.tuple #[gv,.nilIface]∧GenR w' (nw w w') gv t (treeOf t))∨(¬ TaskOk t∧v=.tuple #[.pointer none,errV (checkN t)])):=by
  have ht0:=ht
  obtain ⟨cs,rfl,a,b,c,d,rfl,hvars,hinit,hgoal,hops⟩:=ht
  refine AK Try.func59 rfl Try.ntmps59 rfl ?_
  repeat (first|refine Ah ?_|refine Al ?_|refine Ae ?_|refine Am ?_|refine At ?_|refine Au ?_|refine Ar rfl ?_|refine Aj rfl ?_)
  refine CR rfl rfl fun w1 hN1=>?_
  have hE1:Ext w w1:=hN1.ext
  have hb1:Blk w1 w.heap.size 26 [a,b,c,d]:=hN1.blk
  have ht1:=ht0.ext hE1
  (refine o_as rfl rfl ?_<;>refine o_as rfl rfl ?_<;>(first|refine Ay ?_|refine Az ?_|refine Aw ?_|refine AA ?_))
  repeat (first|refine Ah ?_|refine Al ?_|refine Ae ?_|refine Am ?_|refine At ?_|refine Au ?_|refine Ar rfl ?_|refine Aj rfl ?_)
  (refine o_la rfl rfl ?_)
  refine AZ rfl rfl (taskCheck ht1) ?_
  rintro _ w2 ⟨rfl,hE2⟩
  have hE02:Ext w w2:=hE1.trans' hE2
  have hb1:=hb1.ext hE2
  by_cases hok:TaskOk t
  case neg =>
    have hne:checkN t≠0:=fun h=>hok (Gu.1 h)
    rw [Gs hne]
    (refine o_as rfl rfl ?_<;>(first|refine Ay ?_|refine Az ?_|refine Aw ?_|refine AA ?_))
    repeat (first|refine Ah ?_|refine Al ?_|refine Ae ?_|refine Am ?_|refine At ?_|refine Au ?_|refine Ar rfl ?_|refine Aj rfl ?_)
    ((repeat (first|refine Ah ?_|refine Al ?_|refine Ae ?_|refine Am ?_|refine At ?_|refine Au ?_|refine Ar rfl ?_|refine Aj rfl ?_))<;>(refine o_mv rfl rfl ?_<;>(first|refine o_ep rfl rfl ?_|refine o_eq rfl rfl ?_)<;>(first|refine Ay ?_|refine Az ?_|refine Aw ?_|refine AA ?_))<;>(repeat (first|refine Ah ?_|refine Al ?_|refine Ae ?_|refine Am ?_|refine At ?_|refine Au ?_|refine Ar rfl ?_|refine Aj rfl ?_)))
    ((repeat (first|refine Ah ?_|refine Al ?_|refine Ae ?_|refine Am ?_|refine At ?_|refine Au ?_|refine Ar rfl ?_|refine Aj rfl ?_))<;>(refine o_mv rfl rfl ?_<;>refine o_as rfl rfl ?_<;>refine o_as rfl rfl ?_<;>(first|refine Ay ?_|refine Az ?_|refine Aw ?_|refine AA ?_))<;>(repeat (first|refine Ah ?_|refine Al ?_|refine Ae ?_|refine Am ?_|refine At ?_|refine Au ?_|refine Ar rfl ?_|refine Aj rfl ?_)))
    exact ret2 rfl (AG rfl) (AG rfl) ⟨hE02,.inr ⟨hok,rfl⟩⟩
  rw [Gu.2 hok,FH]
  (refine o_as rfl rfl ?_<;>(first|refine Ay ?_|refine Az ?_|refine Aw ?_|refine AA ?_))
  repeat (first|refine Ah ?_|refine Al ?_|refine Ae ?_|refine Am ?_|refine At ?_|refine Au ?_|refine Ar rfl ?_|refine Aj rfl ?_)
  ((repeat (first|refine Ah ?_|refine Al ?_|refine Ae ?_|refine Am ?_|refine At ?_|refine Au ?_|refine Ar rfl ?_|refine Aj rfl ?_))<;>(refine o_mv rfl rfl ?_<;>(first|refine o_ep rfl rfl ?_|refine o_eq rfl rfl ?_)<;>(first|refine Ay ?_|refine Az ?_|refine Aw ?_|refine AA ?_))<;>(repeat (first|refine Ah ?_|refine Al ?_|refine Ae ?_|refine Am ?_|refine At ?_|refine Au ?_|refine Ar rfl ?_|refine Aj rfl ?_)))
  have hpre:=hok.pre
  have hl1:t.vars.length≤64:=hok.1
  have hl4:t.ops.length≤4096:=hok.2.1
  have hcp:=genCopied (ht1.ext hE2) (by omega) (by rw [hok.2.2.2.1.1];omega) (by have:=EQ hok.2.2.2.2.1;omega) (by omega) (fun i o ho=>by
    obtain ⟨_,_,h3,_,h5,h6⟩:=hok.2.2.2.2.2 i o ho
    exact ⟨by have:=EQ h5;omega,by omega,fun j e he=>by have:=EQ (h6 j e he).1;omega⟩)
  (refine o_la rfl rfl ?_)
  refine AZ rfl rfl hcp ?_
  rintro cvv w3 ⟨hcv,hE3⟩
  obtain ⟨cs',rfl,a',b',c',d',rfl,hvars',hinit',hgoal',hops'⟩:=hcv
  (refine o_bd rfl rfl rfl ?_)
  refine CR rfl rfl fun w4 hN4=>?_
  have hbg:Blk w4 w3.heap.size 129 [a',b',c',d',.pointer none]:=hN4.blk
  have hE34:Ext w3 w4:=hN4.ext
  have s2:=hE02.size
  have s3:=hE3.size
  have s4:w4.heap.size=w3.heap.size + 1:=hN4.size
  obtain ⟨Ao,co,rfl⟩:=hops'.form
  (refine o_as rfl rfl ?_<;>(first|refine Ay ?_|refine Az ?_|refine Aw ?_|refine AA ?_))
  repeat (first|refine Ah ?_|refine Al ?_|refine Ae ?_|refine Am ?_|refine At ?_|refine Au ?_|refine Ar rfl ?_|refine Aj rfl ?_)
  ((repeat (first|refine Ah ?_|refine Al ?_|refine Ae ?_|refine Am ?_|refine At ?_|refine Au ?_|refine Ar rfl ?_|refine Aj rfl ?_))<;>(refine o_as rfl rfl ?_<;>(first|refine Ay ?_|refine Az ?_|refine Aw ?_|refine AA ?_))<;>(repeat (first|refine Ah ?_|refine Al ?_|refine Ae ?_|refine Am ?_|refine At ?_|refine Au ?_|refine Ar rfl ?_|refine Aj rfl ?_)))
  clear hb1
  have hb1:=hbg
  ((repeat (first|refine Ah ?_|refine Al ?_|refine Ae ?_|refine Am ?_|refine At ?_|refine Au ?_|refine Ar rfl ?_|refine Aj rfl ?_))<;>(refine o_mv rfl rfl ?_<;>refine o_nc rfl rfl ?_<;>refine o_fa rfl rfl ?_<;>refine o_fa rfl rfl ?_<;>refine o_ld rfl rfl ?_<;>refine o_ln rfl rfl ?_<;>refine o_mv rfl rfl ?_<;>(first|refine Ay ?_|refine Az ?_|refine Aw ?_|refine AA ?_))<;>(repeat (first|refine Ah ?_|refine Al ?_|refine Ae ?_|refine Am ?_|refine At ?_|refine Au ?_|refine Ar rfl ?_|refine Aj rfl ?_)))
  refine Bi t.ops.length (by omega) (fun v:Value=>[(1,.pointer (some ⟨w.heap.size,0,none⟩)),(5,.pointer (some ⟨w3.heap.size,0,none⟩)),(6,v)]) (fun k v w'=>Ext w4 w'∧Own w' w4.heap.size (fun _=>False) 3 v ((List.range k).map fun i:Nat=>(i:Int))) (.slice none 0 0)
    ⟨Below.refl _ _,Own.nil _ _ _ _⟩ ⟨rfl,rfl,rfl,rfl,rfl,trivial⟩ (fun _=>⟨rfl,rfl⟩) ⟨rfl,rfl,rfl⟩ ⟨rfl,rfl⟩ ?_ ?_
  · rintro k v w5 hk ⟨hE5,hown⟩
    ((repeat (first|refine Ah ?_|refine Al ?_|refine Ae ?_|refine Am ?_|refine At ?_|refine Au ?_|refine Ar rfl ?_|refine Aj rfl ?_))<;>(refine o_mv rfl rfl ?_<;>refine o_as rfl rfl ?_<;>(first|refine Ay ?_|refine Az ?_|refine Aw ?_|refine AA ?_))<;>(repeat (first|refine Ah ?_|refine Al ?_|refine Ae ?_|refine Am ?_|refine At ?_|refine Au ?_|refine Ar rfl ?_|refine Aj rfl ?_)))
    (refine o_mv rfl rfl ?_<;>refine o_mv rfl rfl ?_)
    refine Ei (a:=(k:Int)) rfl rfl rfl hown (fun _ h=>h.elim) hE5.size ⟨rfl,by omega,by omega⟩ (by decide) (by decide) (by simp;omega) (by simp;omega) ⟨rfl,rfl⟩ fun v' w6 hown6 hK=>?_
    (refine o_as rfl rfl ?_<;>(first|refine Ay ?_|refine Az ?_|refine Aw ?_|refine AA ?_))
    repeat (first|refine Ah ?_|refine Al ?_|refine Ae ?_|refine Am ?_|refine At ?_|refine Au ?_|refine Ar rfl ?_|refine Aj rfl ?_)
    exact ⟨v',⟨rfl,rfl,rfl,rfl,rfl,trivial⟩,hE5.trans (hown.fits (Nat.le_refl _) hE5.size hK),by rw [JJ];exact hown6⟩
  rintro v w5 ⟨hE5,hown⟩
  have s5:=hE5.size
  have hE35:=hE34.trans' hE5
  have hbg5:=hbg.ext hE5
  have hB5:GenB w5 (All w5) (.pointer (some ⟨w3.heap.size,0,none⟩)) t:=⟨_,_,_,_,_,_,rfl,by show _ < _;omega,hbg5,(hvars'.agree (hE35.agree fun _ h=>h.2)).mono fun k hk=>by have:=hk.2;show _ < _;omega,(hinit'.agree (hE35.agree fun _ h=>h.2)).mono fun k hk=>by have:=hk.2;show _ < _;omega,(hgoal'.agree (hE35.agree fun _ h=>h.2)).mono fun k hk=>by have:=hk.2;show _ < _;omega,(hops'.agree (hE35.agree fun _ h=>h.2)).mono fun k hk=>by have:=hk.2;show _ < _;omega⟩
  have hov:Vb w5 (nw w4 w5) v (allOps t):=hown.vb.mono fun k hk=>hown.lt k (hk.resolve_left id)
  have hbuild:=genBuild t hok.vars hok.fits hl1 (t.vars.length + 1) w5 _ v (allOps t) 0 (nw w4 w5) hB5 hov (fun k hk=>hk.2) (fun op hop=>by
    obtain ⟨i,hi,rfl⟩:=List.mem_map.1 hop
    have:=List.mem_range.1 hi
    exact ⟨by omega,by omega⟩) (by rw [Il];omega) (Nat.zero_le _) (by omega)
  repeat (first|refine Ah ?_|refine Al ?_|refine Ae ?_|refine Am ?_|refine At ?_|refine Au ?_|refine Ar rfl ?_|refine Aj rfl ?_)
  (refine o_mv rfl rfl ?_<;>refine o_mv rfl rfl ?_<;>refine o_mv rfl rfl ?_)
  refine AZ rfl rfl hbuild ?_
  rintro p w6 ⟨hT,hE6⟩
  obtain ⟨rp,rfl⟩:=hT.form
  have s6:=hE6.size
  (refine o_nc rfl rfl ?_<;>refine o_fa rfl rfl ?_)
  refine By rfl rfl (hbg5.ext hE6) rfl (Nat.le_refl _) (by simp [Value.cells,Value.oneCell']) fun w7 hU=>?_
  ((first|refine Ay ?_|refine Az ?_|refine Aw ?_|refine AA ?_))
  repeat (first|refine Ah ?_|refine Al ?_|refine Ae ?_|refine Am ?_|refine At ?_|refine Au ?_|refine Ar rfl ?_|refine Aj rfl ?_)
  ((repeat (first|refine Ah ?_|refine Al ?_|refine Ae ?_|refine Am ?_|refine At ?_|refine Au ?_|refine Ar rfl ?_|refine Aj rfl ?_))<;>(refine o_mv rfl rfl ?_<;>refine o_as rfl rfl ?_<;>refine o_as rfl rfl ?_<;>(first|refine Ay ?_|refine Az ?_|refine Aw ?_|refine AA ?_))<;>(repeat (first|refine Ah ?_|refine Al ?_|refine Ae ?_|refine Am ?_|refine At ?_|refine Au ?_|refine Ar rfl ?_|refine Aj rfl ?_)))
  have hE36:=hE35.trans' hE6
  have s7:=hU.size
  have hcl:∀ {α:Type} [Rp α] {v:Value} {x:α},Vb w3 (nw w2 w3) v x→Vb w7 (nw w w7) v x:=fun h=>((h.agree (hE36.agree fun _ h=>h.2)).agree fun q hq=>hU.other q (by have:=hq.2;omega)).mono fun k hk=>⟨by have:=hk.1;omega,by have:=hk.2;omega⟩
  refine ret2 rfl (AG rfl) (AG rfl) ⟨(((hE02.trans' hE3).trans' hE36).trans (hU.below (by omega))),.inl ⟨hok,_,rfl,_,_,_,_,_,_,rfl,⟨by omega,by omega⟩,hU.blk,hcl hvars',hcl hinit',hcl hgoal',hcl hops',?_⟩⟩
  refine TrR.mono (fun k hk=>?_) (TrR.agree (fun q hq=>hU.other q ?_) hT)
  · rcases hk with hk|hk
    · exact ⟨by have:=hk.1;omega,by have:=hk.2;omega⟩
    · exact ⟨by omega,by omega⟩
  · rcases hq with hk|hk
    · have:=hk.1;omega
    · omega
end
section
open Go Go.RowKit
attribute [local irreducible] ewp owp hwp hwq hws Ev Evg Fn retPost loud loudS Res1
theorem GenR.mono {w:World} {F G:Nat→Prop} {gv:Value} {t:Tsk} {T:Tr} (h:GenR w F gv t T) (hk:∀ k,F k→G k):GenR w G gv t T:=by
  obtain ⟨gb,a,b,c,d,r,h1,h2,h3,h4,h5,h6,h7,h8⟩:=h
  exact ⟨gb,a,b,c,d,r,h1,hk _ h2,h3,h4.mono hk,h5.mono hk,h6.mono hk,h7.mono hk,TrR.mono hk h8⟩
theorem GenR.agree {w w':World} {F:Nat→Prop} {gv:Value} {t:Tsk} {T:Tr} (h:GenR w F gv t T) (ha:Agree F w w'):GenR w' F gv t T:=by
  obtain ⟨gb,a,b,c,d,r,h1,h2,h3,h4,h5,h6,h7,h8⟩:=h
  exact ⟨gb,a,b,c,d,r,h1,h2,h3.keep (ha gb h2),h4.agree ha,h5.agree ha,h6.agree ha,h7.agree ha,TrR.agree ha h8⟩
theorem GenR.form {w:World} {F:Nat→Prop} {gv:Value} {t:Tsk} {T:Tr} (h:GenR w F gv t T):∃ gb,gv=.pointer (some ⟨gb,0,none⟩):=by
  obtain ⟨gb,a,b,c,d,r,h1,_⟩:=h
  exact ⟨gb,h1⟩
noncomputable def appS (t:Tsk) (s:List Int):List Int:=if bof (StateOk t.vars s)=true then appl t s else []
theorem Gh {t:Tsk} {s:List Int} (h:StateOk t.vars s):appS t s=appl t s:=by unfold appS;rw [if_pos (bof_t h)]
theorem Ix {t:Tsk} {s:List Int} (h:¬ StateOk t.vars s):appS t s=[]:=by unfold appS;rw [bof_f h];rfl
theorem Kt {t:Tsk} (hp:PreOk t) (s:List Int):findL t (treeOf t) s=appS t s:=by
  by_cases h:StateOk t.vars s
  · rw [Ks hp h,Gh h]
  · rw [Ix h];unfold findL;rw [bof_f h];rfl
theorem Lx {t:Tsk} {s:List Int} {x:Int} (h:x∈appl t s):∃ (j:Nat) (o:Opr),x=(j:Int)∧t.ops[j]?=some o∧holdsB o.pre s=true:=by
  unfold appl applK at h
  obtain ⟨j,hj,rfl⟩:=List.mem_map.1 h
  obtain ⟨h1,h2⟩:=List.mem_filter.1 hj
  obtain ⟨o,ho⟩:=AH (List.mem_range.1 h1)
  rw [ho] at h2
  exact ⟨j,o,rfl,ho,h2⟩
theorem Ly {t:Tsk} {s:List Int} {x:Int} (h:x∈appS t s):StateOk t.vars s∧x∈appl t s:=by
  by_cases hs:StateOk t.vars s
  · rw [Gh hs] at h;exact ⟨hs,h⟩
  · rw [Ix hs] at h;cases h
theorem Lz (t:Tsk) (s:List Int):(appl t s).length≤t.ops.length:=KV t s _
theorem LA (t:Tsk) (s:List Int):(appS t s).length≤t.ops.length:=by
  by_cases hs:StateOk t.vars s
  · rw [Gh hs];exact Lz t s
  · rw [Ix hs];exact Nat.zero_le _
section
variable {w : World} {gv sv : Value} {t : Tsk} {s : List Int}
theorem applT (hok:TaskOk t) (hg:GenR w (All w) gv t (treeOf t)) (hs:V w sv s) (hsl:s.length≤1000000) :
    Fn Try.prog 64 [gv,sv] w fun v w'=>Ext w w'∧Own w' w.heap.size (All w) 3 v (appS t s):=by
  have:=genApplicable hg hs (KY hok.pre) (by have:=Lw t s;have:=hok.2.1;omega) hsl
  rwa [Kt hok.pre] at this
end
theorem nilFind {w:World} {sv:Value}:Fn Try.prog 79 [.pointer none,sv] w fun v w'=>v=.tuple #[.slice none 0 0,.int .i64 0]∧Ext w w':=by
  refine AK Try.func79 rfl Try.ntmps79 rfl ?_
  ((repeat (first|refine Ah ?_|refine Al ?_|refine Ae ?_|refine Am ?_|refine At ?_|refine Au ?_|refine Ar rfl ?_|refine Aj rfl ?_))<;>(refine o_as rfl rfl ?_<;>refine o_as rfl rfl ?_<;>(first|refine Ay ?_|refine Az ?_|refine Aw ?_|refine AA ?_))<;>(repeat (first|refine Ah ?_|refine Al ?_|refine Ae ?_|refine Am ?_|refine At ?_|refine Au ?_|refine Ar rfl ?_|refine Aj rfl ?_)))
  (refine o_mv rfl rfl ?_<;>refine o_pn rfl rfl ?_<;>refine o_mv rfl rfl ?_<;>(first|(refine AE rfl rfl ?_;refine o_mv rfl rfl ?_)|refine AD rfl rfl rfl rfl ?_)<;>(first|(refine AE rfl rfl ?_;refine o_nc rfl rfl ?_)|refine AD rfl rfl rfl rfl ?_)<;>(first|(refine AE rfl rfl ?_;refine o_fa rfl rfl ?_)|refine AD rfl rfl rfl rfl ?_)<;>(first|(refine AE rfl rfl ?_;refine o_fa rfl rfl ?_)|refine AD rfl rfl rfl rfl ?_)<;>(first|(refine AE rfl rfl ?_;refine o_ld rfl rfl ?_)|refine AD rfl rfl rfl rfl ?_)<;>(first|(refine AE rfl rfl ?_;refine o_mv rfl rfl ?_)|refine AD rfl rfl rfl rfl ?_))
  refine AD rfl rfl rfl rfl ?_
  ((first|(refine AE rfl rfl ?_;(first|refine o_nt rfl rfl ?_|refine o_nf rfl rfl ?_|refine o_nn rfl rfl ?_))|refine AD rfl rfl rfl rfl ?_)<;>(first|refine o_pt rfl rfl rfl ?_|refine o_pf rfl rfl rfl ?_)<;>(first|refine Ay ?_|refine Az ?_|refine Aw ?_|refine AA ?_))
  repeat (first|refine Ah ?_|refine Al ?_|refine Ae ?_|refine Am ?_|refine At ?_|refine Au ?_|refine Ar rfl ?_|refine Aj rfl ?_)
  ((repeat (first|refine Ah ?_|refine Al ?_|refine Ae ?_|refine Am ?_|refine At ?_|refine Au ?_|refine Ar rfl ?_|refine Aj rfl ?_))<;>(refine o_as rfl rfl ?_<;>refine o_as rfl rfl ?_<;>(first|refine Ay ?_|refine Az ?_|refine Aw ?_|refine AA ?_))<;>(repeat (first|refine Ah ?_|refine Al ?_|refine Ae ?_|refine Am ?_|refine At ?_|refine Au ?_|refine Ar rfl ?_|refine Aj rfl ?_)))
  exact ret2 rfl (AG rfl) (AG rfl) ⟨rfl,Below.refl _ _⟩
theorem nilApplicable {w:World} {sv:Value}:Fn Try.prog 64 [.pointer none,sv] w fun v w'=>v=.slice none 0 0∧Ext w w':=by
  refine AK Try.func64 rfl Try.ntmps64 rfl ?_
  ((repeat (first|refine Ah ?_|refine Al ?_|refine Ae ?_|refine Am ?_|refine At ?_|refine Au ?_|refine Ar rfl ?_|refine Aj rfl ?_))<;>(refine o_as rfl rfl ?_<;>(first|refine Ay ?_|refine Az ?_|refine Aw ?_|refine AA ?_))<;>(repeat (first|refine Ah ?_|refine Al ?_|refine Ae ?_|refine Am ?_|refine At ?_|refine Au ?_|refine Ar rfl ?_|refine Aj rfl ?_))<;>(refine o_mv rfl rfl ?_<;>refine o_mv rfl rfl ?_)<;>(repeat (first|refine Ah ?_|refine Al ?_|refine Ae ?_|refine Am ?_|refine At ?_|refine Au ?_|refine Ar rfl ?_|refine Aj rfl ?_)))
  refine AZ rfl rfl nilFind ?_
  rintro _ w1 ⟨rfl,hE⟩
  (refine o_mv rfl rfl ?_<;>refine o_ex rfl rfl rfl ?_<;>refine o_ex rfl rfl rfl ?_<;>refine o_as rfl rfl ?_<;>refine o_as rfl rfl ?_<;>(first|refine Ay ?_|refine Az ?_|refine Aw ?_|refine AA ?_))
  repeat (first|refine Ah ?_|refine Al ?_|refine Ae ?_|refine Am ?_|refine At ?_|refine Au ?_|refine Ar rfl ?_|refine Aj rfl ?_)
  ((repeat (first|refine Ah ?_|refine Al ?_|refine Ae ?_|refine Am ?_|refine At ?_|refine Au ?_|refine Ar rfl ?_|refine Aj rfl ?_))<;>(refine o_mv rfl rfl ?_<;>refine o_as rfl rfl ?_<;>(first|refine Ay ?_|refine Az ?_|refine Aw ?_|refine AA ?_))<;>(repeat (first|refine Ah ?_|refine Al ?_|refine Ae ?_|refine Am ?_|refine At ?_|refine Au ?_|refine Ar rfl ?_|refine Aj rfl ?_)))
  exact ret1 rfl rfl ⟨rfl,hE⟩
end
section
open Go Go.RowKit
attribute [local irreducible] ewp owp hwp hwq hws Ev Evg Fn retPost loud loudS Res1
structure Gnr where
  t:Tsk
def GnrR (w:World) (F:Nat→Prop) (v:Value):Option Gnr→Prop
  | none=>v=.pointer none
  | some g=>TaskOk g.t∧GenR w F v g.t (treeOf g.t)
theorem GnrR.one {w:World} {F:Nat→Prop} {v:Value}:∀ {x:Option Gnr},GnrR w F v x→v.oneCell'=true
  | none,h=>by    have:v=.pointer none:=h
                  subst this;rfl
  | some g,h=>by
    obtain ⟨gb,rfl⟩:=h.2.form
    rfl
instance:Rp (Option Gnr) where
  isAgg:=false
  size:=1
  R w F cs x:=∃ v,cs=[v]∧GnrR w F v x
  len:=by rintro w F cs x ⟨v,rfl,_⟩;rfl
  one:=by
    rintro w F cs x ⟨v,rfl,h⟩ u hu
    have:u=v:=by simpa using hu
    subst this;exact h.one
  agree:=by
    rintro w w' F cs x ⟨v,rfl,h⟩ ha
    refine ⟨v,rfl,?_⟩
    cases x with
    | none=>exact h
    | some g=>exact ⟨h.1,h.2.agree ha⟩
  mono:=by
    rintro w F G cs x ⟨v,rfl,h⟩ hk
    refine ⟨v,rfl,?_⟩
    cases x with
    | none=>exact h
    | some g=>exact ⟨h.1,h.2.mono hk⟩
theorem vNone {w:World} {F:Nat→Prop}:Vb w F (.pointer none) (none:Option Gnr):=⟨_,rfl,rfl⟩
theorem Vb.gnr {w:World} {F:Nat→Prop} {v:Value} {x:Option Gnr} (h:Vb w F v x):GnrR w F v x:=by
  obtain ⟨u,hu,h'⟩:=h
  have:v=u:=by simpa using hu
  subst this;exact h'
theorem Vb.ptr {w:World} {F:Nat→Prop} {v:Value} {x:Option Gnr} (h:Vb w F v x):∃ p,v=.pointer p∧p.isNone=x.isNone:=by
  cases x with
  | none=>exact ⟨none,h.gnr,rfl⟩
  | some g=>obtain ⟨gb,rfl⟩:=h.gnr.2.form;exact ⟨_,rfl,rfl⟩
theorem LB {w:World} {F:Nat→Prop} {p:Option Addr} {x:Option Gnr} {g:Gnr} (h:Vb w F (.pointer p) x) (e:x=some g) :
    ∃ gb a b c d r,p=some ⟨gb,0,none⟩∧F gb∧cellsAt w gb 0 [a,b,c,d,r]∧Vb w F a g.t.vars∧Vb w F b g.t.init∧Vb w F c g.t.goal∧Vb w F d g.t.ops:=by
  subst e
  obtain ⟨_,gb,a,b,c,d,r,h1,h2,h3,h4,h5,h6,h7,_⟩:=h.gnr
  injection h1 with h1
  exact ⟨gb,a,b,c,d,r,h1,h2,h3.cellsAt,h4,h5,h6,h7⟩
theorem vGnr {w:World} {F:Nat→Prop} {v:Value} {g:Gnr} (h:TaskOk g.t) (hg:GenR w F v g.t (treeOf g.t)):Vb w F v (some g):=⟨v,rfl,h,hg⟩
theorem Mc {A:Nat→Prop} {w w':World}:∀ k,nw w w' k→upA A w w' k:=fun _ h=>.inr h
theorem Own.intRow {w w':World} {F A:Nat→Prop} {e:TypeId} {v:Value} {xs:List Int} (h:Own w' w.heap.size F e v xs):RowR w w' (upA A w w') e v xs:=by
  obtain ⟨cells,q1,q2,q3⟩:=h
  exact ⟨fun _=>False,fun _ h=>h.elim,cells,q1,FR q2,fun _ _ h=>h⟩
noncomputable def DI (t:Tsk):Option (Option Gnr×Err):=some (if bof (TaskOk t)=true then some ⟨t⟩ else none,⟨checkN t⟩)
theorem IV {w:World} {A:Nat→Prop} (hA:∀ k,A k→k < w.heap.size) {v0:Value} {x0:Tsk} (h0:Vb w A v0 x0) {r:Option Gnr×Err} (hm:DI x0=some r):Fn Try.prog 59 [v0] w fun v w'=>Ext w w'∧T2 w' (upA A w w') v r:=by
  obtain rfl:=sm hm
  refine (genNew (h0.mono hA)).mono fun v w' h=>⟨h.1,?_⟩
  rcases h.2 with ⟨hok,gv,rfl,hg⟩|⟨hno,rfl⟩
  · rw [bof_t hok,Gu.2 hok]
    exact ⟨gv,_,rfl,vGnr (g:=⟨x0⟩) hok (hg.mono Mc),vErr0⟩
  · rw [bof_f hno]
    exact ⟨_,_,rfl,vNone,vErr (Kj _)⟩
noncomputable def appG:Option Gnr→List Int→List Int
  | none,_=>[]
  | some g,s=>appS g.t s
noncomputable def BB (x:Option Gnr) (s:List Int):Option (List Int):=if s.length≤1000000 then some (appG x s) else none
theorem EC {w:World} {A:Nat→Prop} (hA:∀ k,A k→k < w.heap.size) {v0:Value} {x0:Option Gnr} (h0:Vb w A v0 x0) {v1:Value} {x1:List Int} (h1:Vb w A v1 x1) {r:List Int} (hm:BB x0 x1=some r) :
    Fn Try.prog 64 [v0,v1] w fun v w'=>Ext w w'∧RowR w w' (upA A w w') 3 v r:=by
  obtain ⟨hl,rfl⟩:=Fq hm
  cases x0 with
  | none =>
    have h2:=h0.gnr
    have:v0=.pointer none:=h2
    subst this
    refine nilApplicable.mono fun v w' h=>⟨h.2,?_⟩
    rw [h.1];exact RowR.nil
  | some g =>
    obtain ⟨hok,hg⟩:=h0.gnr
    exact (applT hok (hg.mono hA) (h1.mono hA) hl).mono fun v w' h=>⟨h.1,h.2.intRow⟩
end
section
open Go Go.RowKit
section
attribute [local irreducible] ewp owp hwp hwq hws Ev Evg Fn retPost loud loudS Res1
noncomputable def AT (x0:Option Gnr) (x1:List Int):Option (List Suc) :=
  bnd (BB x0 x1) fun q7=>bnd (rng (ρ:=(List Suc)) (fun (k23:Nat) (a24:Int) (s21:(List Suc))=>bnd (Cm x1) fun q46=>bnd (x0) fun o56=>bnd (atI o56.t.ops a24) fun a88=>bnd (rng (ρ:=Ctl (List Suc) (List Suc)) (fun (k115:Nat) (a116:Eff) (s113:(List Int))=>bnd (Cw a116.cond x1) fun q150=>if q150=true then bnd (atI s113 a116.var) fun a157=>some (.next (s113.set (a116.var:Int).toNat a116.val)) else some (.next s113)) a88.effs 0 q46) fun res111=>fin res111 fun (s175:(List Int))=>bnd (appI 32 s21 [(⟨a24,s175⟩:Suc)]) fun u179=>some (.next u179)) q7 0 ([]:List Suc)) fun res19=>fin res19 fun (s195:(List Suc))=>some s195
theorem Cy {w:World} {A:Nat→Prop} (hA:∀ k,A k→k < w.heap.size) {vx0:Value} {x0:Option Gnr} (hx0:Vb w A vx0 x0) {vx1:Value} {x1:List Int} (hx1:Vb w A vx1 x1) {r:(List Suc)} (hm:AT x0 x1=some r) :
    Fn Try.prog 40 [vx0,vx1] w fun v w'=>Ext w w'∧Vb w' (upA A w w') v r:=by
 obtain ⟨O,hB,hA0⟩:=enter hA
 replace hx0:=hx0.mono hA0
 obtain ⟨p3,rfl,hq4⟩:=hx0.ptr
 replace hx1:=hx1.mono hA0
 obtain ⟨A5,c6,rfl⟩:=hx1.form
 refine AK Try.func40 rfl Try.ntmps40 rfl ?_
 unfold AT at hm
 refine Ah (Ae (o_as rfl rfl (o_z ?_)))
 refine Ah (Ae (o_as rfl rfl (o_z ?_)))
 refine Ah (Ah (Ae (o_mv rfl rfl (o_mv rfl rfl ?_))))
 obtain ⟨q7,e8,hm⟩:=bs hm
 refine Hb 2 (by decide) (O:=O) (EC Fr.lt hx0 hx1 e8) rfl rfl fun A14 c15 w9 O10 S11 h12=>?_
 refine o_ln rfl rfl ?_
 have l18:q7.length≤9223372036854775807:=Nat.le_trans h12.len.2.1 h12.len.2.2
 have r17:inI64 (q7.length:Int):=rngNat l18
 refine o_mv rfl rfl (o_z ?_)
 obtain ⟨res19,hL20,hm⟩:=bs hm
 refine AL (aft res19 (fun (s21:(List Suc)) (x22:(Option Addr×Nat))=>[(5,(.slice x22.1 s21.length x22.2))]) (fun s21 x22 w'=>∃ O':Lab,Bs w A w' O'∧Rw 5 w' O' 83 (.slice x22.1 s21.length x22.2) s21)) ?_ ?_
 ·
  refine Al ?_
  replace hB:=hB.st S11
  replace hx0:=hx0.st S11
  replace hx1:=hx1.st S11
  refine BM (σ:=(List Suc)) (X:=(Option Addr×Nat)) (q7.length) hL20 rfl l18 (fun (s21:(List Suc)) (x22:(Option Addr×Nat))=>[(0,(.pointer p3)),(1,(.slice A5 x1.length c6)),(5,(.slice x22.1 s21.length x22.2)),(13,(.slice A14 q7.length c15))]) _ (fun s21 x22 w'=>∃ O':Lab,Bs w A w' O'∧Vb w' (Fr 0 w' O') (.pointer p3) x0∧Vb w' (Fr 0 w' O') (.slice A5 x1.length c6) x1∧Rw 5 w' O' 83 (.slice x22.1 s21.length x22.2) s21∧Rw 2 w' O' 3 (.slice A14 q7.length c15) q7) _ (none,0) ⟨O10,hB,hx0,hx1,(Rw.nil 5 (by decide)),h12⟩ ⟨rfl,rfl,rfl,rfl,rfl,rfl,trivial⟩ (fun _ _=>⟨rfl,rfl⟩) (fun _ _=>⟨rfl,trivial⟩) (fun _ _ _ ⟨O',hB,hx0,hx1,h36,h12⟩=>⟨O',hB,h36⟩) ⟨rfl,rfl,rfl⟩ ⟨rfl,rfl⟩ ?_
  rintro k23 a24 s21 x22 w25 cc27 hx28 ⟨O26,hB,hx0,hx1,h36,h12⟩ hf29 hret30 hbrk31
  have rk23:inI64 (k23:Int):=rngK hx28 l18
  refine Ah (Ae ?_)
  obtain ⟨b38,o39,ce40,hA41,hl42,hd43,rfl,r45⟩:=h12.elem hx28
  refine o_iaE (hA:=hA41) (hj:=rfl) (hlt:=hl42) rfl rfl rfl ?_
  refine o_ld (hc:=cat0 hd43) rfl rfl ?_
  refine o_as rfl rfl (o_z ?_)
  refine Ah (Ae (o_mv rfl rfl ?_))
  obtain ⟨q46,e47,hf29⟩:=bs hf29
  refine Hb 3 (by decide) (O:=O26) (FC Fr.lt hx1 e47) rfl rfl fun A53 c54 w48 O49 S50 h51=>?_
  refine o_as rfl rfl (o_z ?_)
  refine Ah (Ah (Ae (o_mv rfl rfl ?_)))
  obtain ⟨o56,e57,hf29⟩:=bs hf29
  obtain ⟨ad59,hp58⟩:=It (hq4.trans (by rw [e57];rfl))
  refine o_ncE (hA:=hp58) rfl rfl ?_
  replace hx0:=hx0.st S50
  obtain ⟨b84,v67,v71,v75,v79,v83,hA85,hF86,hd87,h68,h72,h76,h80⟩:=LB hx0 e57
  obtain ⟨A69,c70,rfl⟩:=h68.form
  obtain ⟨A73,c74,rfl⟩:=h72.form
  obtain ⟨A77,c78,rfl⟩:=h76.form
  obtain ⟨A81,c82,rfl⟩:=h80.form
  refine o_faE (hA:=hA85) rfl rfl ?_
  refine o_fa rfl rfl (o_ld (hc:=cat3 hd87) rfl rfl ?_)
  refine o_mv rfl rfl ?_
  obtain ⟨a88,e89,hf29⟩:=bs hf29
  obtain ⟨p91,x90⟩:=AM e89
  obtain ⟨b92,o93,ce94,hA95,hl96,hd97,v99,v100,rfl,h101,h104,r107,z108⟩:=h80.elem' x90
  obtain ⟨A102,c103,rfl⟩:=h101.form
  obtain ⟨A105,c106,rfl⟩:=h104.form
  refine o_iaE (hA:=hA95) (hj:=(Int.toNat_of_nonneg p91).symm) (hlt:=hl96) rfl rfl rfl ?_
  refine o_fa rfl rfl (o_ld (hc:=cat3 hd97) rfl rfl ?_)
  refine o_ln rfl rfl ?_
  have l110:a88.effs.length≤9223372036854775807:=Nat.le_trans h104.len.2.1 h104.len.2.2
  have r109:inI64 (a88.effs.length:Int):=rngNat l110
  refine o_mv rfl rfl (o_z ?_)
  obtain ⟨res111,hL112,hf29⟩:=bs hf29
  refine AL (aft res111 (fun (s113:(List Int)) (x114:Unit)=>[(0,(.pointer p3)),(1,(.slice A5 x1.length c6)),(5,(.slice x22.1 s21.length x22.2)),(7,(.int .i64 a24)),(8,(.slice A53 q46.length c54)),(13,(.slice A14 q7.length c15)),(14,(.int .i64 (q7.length:Int))),(15,(.int .i64 (k23:Int)))]) (fun s113 x114 w'=>∃ O':Lab,Bs w A w' O'∧Vb w' (Fr 0 w' O') (.pointer p3) x0∧Vb w' (Fr 0 w' O') (.slice A5 x1.length c6) x1∧Rw 5 w' O' 83 (.slice x22.1 s21.length x22.2) s21∧Rw 3 w' O' 3 (.slice A53 q46.length c54) s113∧Rw 2 w' O' 3 (.slice A14 q7.length c15) q7)) ?_ ?_
  ·
   refine Al ?_
   replace hB:=hB.st S50
   replace hx1:=hx1.st S50
   replace h12:=h12.st S50
   replace h36:=h36.st S50
   refine BM (σ:=(List Int)) (X:=Unit) (a88.effs.length) hL112 rfl l110 (fun (s113:(List Int)) (x114:Unit)=>[(0,(.pointer p3)),(1,(.slice A5 x1.length c6)),(5,(.slice x22.1 s21.length x22.2)),(7,(.int .i64 a24)),(8,(.slice A53 q46.length c54)),(13,(.slice A14 q7.length c15)),(14,(.int .i64 (q7.length:Int))),(15,(.int .i64 (k23:Int))),(29,(.slice A105 a88.effs.length c106))]) _ (fun s113 x114 w'=>∃ O':Lab,Bs w A w' O'∧Vb w' (Fr 0 w' O') (.pointer p3) x0∧Vb w' (Fr 0 w' O') (.slice A5 x1.length c6) x1∧Rw 5 w' O' 83 (.slice x22.1 s21.length x22.2) s21∧Rw 3 w' O' 3 (.slice A53 q46.length c54) s113∧Rw 2 w' O' 3 (.slice A14 q7.length c15) q7∧Vb w' (Fr 0 w' O') (.slice A105 a88.effs.length c106) a88.effs) _ () ⟨O49,hB,hx0,hx1,h36,h51,h12,h104⟩ ⟨rfl,rfl,rfl,rfl,rfl,rfl,rfl,rfl,rfl,rfl,rfl,trivial⟩ (fun _ _=>⟨rfl,rfl⟩) (fun _ _=>⟨rfl,rfl,rfl,rfl,rfl,rfl,rfl,rfl,trivial⟩) (fun _ _ _ ⟨O',hB,hx0,hx1,h36,h128,h12,h104⟩=>⟨O',hB,hx0,hx1,h36,h128,h12⟩) ⟨rfl,rfl,rfl⟩ ⟨rfl,rfl⟩ ?_
   rintro k115 a116 s113 x114 w117 cc119 hx120 ⟨O118,hB,hx0,hx1,h36,h128,h12,h104⟩ hf121 hret122 hbrk123
   have rk115:inI64 (k115:Int):=rngK hx120 l110
   refine Ah (Ae ?_)
   obtain ⟨b130,o131,ce132,hA133,hl134,hd135,v137,rfl,h138,r141,r142⟩:=h104.elem' hx120
   obtain ⟨A139,c140,rfl⟩:=h138.form
   refine o_iaE (hA:=hA133) (hj:=rfl) (hlt:=hl134) rfl rfl rfl ?_
   refine o_la (hl:=rfl) (hc:=hd135) rfl rfl ?_
   refine BR 4 O118 rfl fun g143 w144 O145 S146 h147=>?_
   refine AV h147 rfl rfl rfl (Nat.le_of_ble_eq_true rfl) (by first|exact allOne rfl|simp [Value.cells,Value.oneCell',AQ]) fun w148 S149 h147=>?_
   replace h147:Lc 4 w148 O145 g143 59 [(.slice A139 a116.cond.length c140),(.int .i64 a116.var),(.int .i64 a116.val)]:=h147
   refine o_z ?_
   refine Ah (Ae (o_fa rfl rfl (o_ld (hc:=Blk.cell (i:=0) (h147.1) rfl) rfl rfl ?_)))
   refine o_mv rfl rfl ?_
   obtain ⟨q150,e151,hf121⟩:=bs hf121
   replace hx1:=(hx1.st S146).st S149
   replace h138:=(h138.st S146).st S149
   refine BL (O:=O145) (A:=All w148) (R:=fun w' F v=>Vb w' F v q150) (Fu (fun _ h=>h) (Vb.mono (F:=Fr 0 w148 O145) h138 Fr.lt) (Vb.mono (F:=Fr 0 w148 O145) hx1 Fr.lt) e151) rfl rfl fun v156 w152 O153 S154 h155=>?_
   obtain rfl:=h155.bool
   cases q150
   case false =>
    replace hf121:=iF hf121
    refine o_z ?_
    refine Aj rfl (Am ?_)
    obtain rfl:=sm hf121
    refine (?_:Exists _)
    replace hB:=((hB.st S146).st S149).st S154
    replace hx0:=((hx0.st S146).st S149).st S154
    replace hx1:=hx1.st S154
    replace h12:=((h12.st S146).st S149).st S154
    replace h36:=((h36.st S146).st S149).st S154
    replace h104:=((h104.st S146).st S149).st S154
    replace h128:=((h128.st S146).st S149).st S154
    exact ⟨_,(),rfl,⟨rfl,rfl,rfl,rfl,rfl,rfl,rfl,rfl,rfl,rfl,rfl,trivial⟩,_,hB,hx0,hx1,h36,h128,h12,h104⟩
   replace hf121:=iT hf121
   refine o_z ?_
   refine Ar rfl (Ae (o_mv rfl rfl (o_fa rfl rfl ?_)))
   replace h147:=h147.st S154
   refine o_ld (hc:=Blk.cell (i:=1) (h147.1) rfl) rfl rfl ?_
   refine o_fa rfl rfl (o_ld (hc:=Blk.cell (i:=2) (h147.1) rfl) rfl rfl ?_)
   obtain ⟨a157,e158,hf121⟩:=bs hf121
   obtain ⟨p160,x159⟩:=AM e158
   replace h128:=((h128.st S146).st S149).st S154
   obtain ⟨b161,o162,ce163,hA164,hl165,hd166,rfl,r168⟩:=h128.elem x159
   refine o_iaE (hA:=hA164) (hj:=(Int.toNat_of_nonneg p160).symm) (hlt:=hl165) rfl rfl rfl ?_
   refine Db rfl h128 (a:=a116.val) (vInt r142) hA164 rfl rfl (AJ x159) fun w169 S170 h128=>?_
   refine o_z ?_
   obtain rfl:=sm hf121
   refine (?_:Exists _)
   replace hB:=(((hB.st S146).st S149).st S154).st S170
   replace hx0:=(((hx0.st S146).st S149).st S154).st S170
   replace hx1:=(hx1.st S154).st S170
   replace h12:=(((h12.st S146).st S149).st S154).st S170
   replace h36:=(((h36.st S146).st S149).st S154).st S170
   replace h104:=(((h104.st S146).st S149).st S154).st S170
   exact ⟨_,(),rfl,⟨rfl,rfl,rfl,rfl,rfl,rfl,rfl,rfl,rfl,rfl,rfl,trivial⟩,_,hB,hx0,hx1,h36,h128,h12,h104⟩
  replace hB:=hB.st S50
  replace hx1:=hx1.st S50
  replace h12:=h12.st S50
  replace h36:=h36.st S50
  rintro l171 w172 ⟨s175,x176,rfl,hs174,O173,hB,hx0,hx1,h36,h128,h12⟩
  replace hf29:=AY hf29
  refine AP _ hs174 ?_
  refine Ae (o_mv rfl rfl (o_mv rfl rfl (o_mv rfl rfl (o_bd rfl rfl rfl ?_))))
  obtain ⟨O177,S178,h128⟩:=h128.freeze
  obtain ⟨u179,e180,hf29⟩:=bs hf29
  obtain ⟨e180,e181,e182⟩:=Cg e180
  replace h36:=h36.st S178
  refine CY rfl (a:=(⟨a24,s175⟩:Suc)) h36 (Vb.ofAgg (cs:=[(.int .i64 a24),(.slice A53 q46.length c54)]) (x:=(⟨a24,s175⟩:Suc)) rfl ⟨_,rfl,h128,r45⟩) (fun _=>rfl) rfl (by decide) (by decide) e181 e182 ⟨rfl,rfl⟩ fun g183 A184 c185 w186 O187 S188 h189=>?_
  rw [← e180] at h189 ⊢
  refine o_as rfl rfl (o_z ?_)
  obtain rfl:=sm hf29
  refine (?_:Exists _)
  replace hB:=(hB.st S178).st S188
  replace hx0:=(hx0.st S178).st S188
  replace hx1:=(hx1.st S178).st S188
  replace h12:=(h12.st S178).st S188
  exact ⟨_,(A184,c185),rfl,⟨rfl,rfl,rfl,rfl,rfl,rfl,trivial⟩,_,hB,hx0,hx1,h189,h12⟩
 replace hB:=hB.st S11
 rintro l191 w192 ⟨s195,x196,rfl,hs194,O193,hB,h36⟩
 replace hm:=AY hm
 refine AP _ hs194 ?_
 refine Ah (Ae (o_mv rfl rfl (o_as rfl rfl (o_z ?_))))
 refine Au ?_
 obtain ⟨O197,S198,h36⟩:=h36.freeze
 obtain rfl:=sm hm
 replace hB:=hB.st S198
 exact ret1v rfl (AG rfl) ⟨hB.ext,(Vb.mono (F:=Fr 0 w192 O197) h36 hB.out)⟩
end
theorem LC {s:List Int} (hl:s.length≤1000000):Cm s=some s:=if_pos ⟨by omega,by omega⟩
theorem Md {t:Tsk} {s:List Int} (hok:TaskOk t) (hl:s.length≤1000000):AT (some ⟨t⟩) s=some ((appS t s).map (sucOf t s)):=by
  have ha:BB (some ⟨t⟩) s=some (appS t s):=if_pos hl
  have hol:=hok.2.1
  have hal:=LA t s
  unfold AT
  rw [ha,AC]
  rw [Gy (fun k=>((appS t s).take k).map (sucOf t s)) ?_ ?_,AC,fin_d,List.take_length]
  · rfl
  intro k x hk
  have hkl:=AJ hk
  obtain ⟨hst,hmem⟩:=Ly (List.mem_of_getElem? hk)
  obtain ⟨j,o,rfl,hj,hp⟩:=Lx hmem
  rw [LC hl,AC,AC,Cf,hj,AC,Jn (hok.effs hst j o hj) Cw (fun _ _=>rfl) s rfl,AC,fin_d,DJ (by simp;omega) (by simp;omega),AC,List.take_add_one,hk,List.map_append]
  simp [sucOf,hj,succ]
theorem KZ {t:Tsk} (h:TaskOk t):DI t=some (some ⟨t⟩,⟨0⟩):=by unfold DI;rw [bof_t h,if_t,Gu.2 h]
end
section
open Go Go.RowKit
abbrev LP:=List (List Int)×List (List Int)
def appB (t:Tsk) (s:List Int) (k:Nat):Bool:=match t.ops[k]? with|some o=>holdsB o.pre s|none=>false
def appN (t:Tsk) (s:List Int) (m:Nat):List Nat:=(List.range m).filter (appB t s)
def sucN (t:Tsk) (s:List Int) (k:Nat):List Int:=match t.ops[k]? with|some o=>succ o s|none=>s
theorem MO (t:Tsk) (s:List Int):appl t s=(appN t s t.ops.length).map fun k:Nat=>(k:Int):=rfl
theorem Ho {t:Tsk} {s:List Int} {k:Nat} (h:appB t s k=true):∃ o,t.ops[k]?=some o∧holdsB o.pre s=true∧sucN t s k=succ o s:=by
  unfold appB at h
  cases ho:t.ops[k]? with
  | none=>rw [ho] at h;cases h
  | some o=>rw [ho] at h;exact ⟨o,rfl,h,by unfold sucN;rw [ho]⟩
theorem Me {t:Tsk} {s:List Int} {k:Nat} {o:Opr} (ho:t.ops[k]?=some o):appB t s k=holdsB o.pre s∧sucN t s k=succ o s:=by unfold appB sucN;rw [ho];exact ⟨rfl,rfl⟩
def addK (t:Tsk) (s:List Int) (i:Nat) (lp:LP) (k:Nat):LP:=if sucN t s k∈lp.1 then lp else (lp.1 ++ [sucN t s k],lp.2 ++ [(lp.2[i]?).getD [] ++ [(k:Int)]])
def expN (t:Tsk) (s:List Int) (i m:Nat) (lp:LP):LP:=(appN t s m).foldl (addK t s i) lp
theorem La (t:Tsk) (s:List Int) (i m:Nat) (lp:LP):expN t s i (m + 1) lp=if appB t s m=true then addK t s i (expN t s i m lp) m else expN t s i m lp:=by
  unfold expN appN
  rw [List.range_succ,List.filter_append,List.foldl_append]
  by_cases h:appB t s m=true
  · rw [if_pos h];simp [h]
  · rw [if_neg h];simp [h]
def lexL:List Int→List Int→Prop
  | a :: p,b :: q=>a < b∨(a=b∧lexL p q)
  | _,_=>False
def slt (p q:List Int):Prop:=p.length < q.length∨(p.length=q.length∧lexL p q)
def sle (p q:List Int):Prop:=p=q∨slt p q
theorem Im:∀ {p q r:List Int},lexL p q→lexL q r→lexL p r
  | a :: p,b :: q,c :: r,h1,h2=>by
    rcases h1 with h1|⟨rfl,h1⟩
    · rcases h2 with h2|⟨rfl,h2⟩
      · exact .inl (by omega)
      · exact .inl h1
    · rcases h2 with h2|⟨rfl,h2⟩
      · exact .inl h2
      · exact .inr ⟨rfl,Im h1 h2⟩
  | [],_,_,h1,_=>by simp [lexL] at h1
  | _ :: _,[],_,h1,_=>by simp [lexL] at h1
  | _ :: _,_ :: _,[],_,h2=>by simp [lexL] at h2
theorem Jt:∀ {p:List Int},¬ lexL p p
  | [],h=>by simp [lexL] at h
  | a :: p,h=>by
    rcases h with h|⟨_,h⟩
    · omega
    · exact Jt h
theorem Ju:∀ {p q:List Int} (u v:List Int),lexL p q→lexL (p ++ u) (q ++ v)
  | a :: p,b :: q,u,v,h=>by
    rcases h with h|⟨rfl,h⟩
    · exact .inl h
    · exact .inr ⟨rfl,Ju u v h⟩
  | [],_,_,_,h=>by simp [lexL] at h
  | _ :: _,[],_,_,h=>by simp [lexL] at h
theorem HS:∀ (p:List Int) {u v:List Int},lexL u v→lexL (p ++ u) (p ++ v)
  | [],_,_,h=>h
  | _ :: p,_,_,h=>.inr ⟨rfl,HS p h⟩
theorem IQ {p q r:List Int} (h1:slt p q) (h2:slt q r):slt p r:=by
  rcases h1 with h1|⟨e1,h1⟩<;>rcases h2 with h2|⟨e2,h2⟩
  · exact .inl (by omega)
  · exact .inl (by omega)
  · exact .inl (by omega)
  · exact .inr ⟨e1.trans e2,Im h1 h2⟩
theorem JY {p:List Int} (h:slt p p):False:=by
  rcases h with h|⟨_,h⟩
  · omega
  · exact Jt h
theorem FO {p q r:List Int} (h1:sle p q) (h2:sle q r):sle p r:=by
  rcases h1 with rfl|h1
  · exact h2
  · rcases h2 with rfl|h2
    · exact .inr h1
    · exact .inr (IQ h1 h2)
theorem Jv {p q:List Int} (h:slt p q) (a b:Int):slt (p ++ [a]) (q ++ [b]):=by
  rcases h with h|⟨e,h⟩
  · exact .inl (by simp;exact h)
  · exact .inr ⟨by simp [e],Ju _ _ h⟩
theorem LD (p:List Int) {a b:Int} (h:a < b):slt (p ++ [a]) (p ++ [b]):=.inr ⟨by simp,HS p (.inl h)⟩
theorem LE {p q:List Int} (h:sle p q) (a:Int):sle (p ++ [a]) (q ++ [a]):=by
  rcases h with rfl|h
  · exact .inl rfl
  · exact .inr (Jv h a a)
theorem Mf (p u:List Int):sle p (p ++ u):=by
  cases u with
  | nil=>exact .inl (by simp)
  | cons a u=>exact .inr (.inl (by simp))
theorem PlanR.rch {t:Tsk} {s p s':List Int} {C:Int} (h:PlanR t s p s' C) (hs:Rch t s):Rch t s':=by
  induction h with
  | nil=>exact hs
  | cons ho hp _ ih=>exact ih (hs.step ho hp)
structure BI (t:Tsk) (i:Nat) (lp:LP):Prop where
  len:lp.2.length=lp.1.length
  root:lp.1[0]?=some t.init
  rootp:lp.2[0]?=some []
  pl:∀ (j:Nat) s p,lp.1[j]?=some s→lp.2[j]?=some p→(∃ C,PlanR t t.init p s C)∧p.length≤j
  nodup:lp.1.Nodup
  clo:∀ (j:Nat) s p (k:Nat),j < i→lp.1[j]?=some s→lp.2[j]?=some p→appB t s k=true→∃ (j':Nat) (p':List Int),lp.1[j']?=some (sucN t s k)∧lp.2[j']?=some p'∧sle p' (p ++ [(k:Int)])
  par:∀ (j:Nat) p,lp.2[j]?=some p→p=[]∨∃ (j':Nat) (p':List Int) (k:Nat),j' < i∧lp.2[j']?=some p'∧p=p' ++ [(k:Int)]
  srt:∀ (j j':Nat) p p',j < j'→lp.2[j]?=some p→lp.2[j']?=some p'→slt p p'
section
variable {t : Tsk} {i : Nat} {lp : LP}
theorem BI.rch (h:BI t i lp) {j:Nat} {s:List Int} (hj:lp.1[j]?=some s):Rch t s:=by
  obtain ⟨p,hp⟩:=AH (l:=lp.2) (k:=j) (by rw [h.len];exact AJ hj)
  obtain ⟨⟨C,hC⟩,_⟩:=h.pl j s p hj hp
  exact hC.rch .init
theorem BI.few (h:BI t i lp) (hs:SmallOk t):lp.1.length≤512:=by
  refine Nat.le_trans (Hl h.nodup fun s hm=>?_) hs.many
  obtain ⟨j,hj⟩:=List.getElem?_of_mem hm
  exact ES.2 ((h.rch hj).ok hs.ok)
theorem Iy (t:Tsk):BI t 0 ([t.init],[[]]):=by
  have one:∀ {α:Type} {a b:α} {i:Nat},[a][i]?=some b→i=0∧b=a:=fun {α a b i} h=>by
    cases i with
    | zero=>simp at h;exact ⟨rfl,h.symm⟩
    | succ i=>simp at h
  refine ⟨rfl,rfl,rfl,fun j s p hs hp=>?_,by simp,fun j s p k hj=>by omega,fun j p hp=>.inl (one hp).2,fun j j' p p' hj h1 h2=>?_⟩
  · obtain ⟨rfl,rfl⟩:=one hs
    obtain ⟨_,rfl⟩:=one hp
    exact ⟨⟨0,.nil⟩,by simp⟩
  · have:=(one h1).1;have:=(one h2).1;omega
structure BJ (t:Tsk) (i:Nat) (lp0:LP) (s:List Int) (p:List Int) (m:Nat) (lp:LP):Prop where
  pre1:∃ A,lp.1=lp0.1 ++ A
  pre2:∃ B,lp.2=lp0.2 ++ B
  len:lp.2.length=lp.1.length
  pl:∀ (j:Nat) s p,lp.1[j]?=some s→lp.2[j]?=some p→(∃ C,PlanR t t.init p s C)∧p.length≤j
  nodup:lp.1.Nodup
  clo:∀ (k:Nat),k < m→appB t s k=true→∃ (j':Nat) (p':List Int),lp.1[j']?=some (sucN t s k)∧lp.2[j']?=some p'∧sle p' (p ++ [(k:Int)])
  par:∀ (j:Nat) q,lp.2[j]?=some q→q=[]∨(∃ (j':Nat) (p':List Int) (k:Nat),j' < i∧lp.2[j']?=some p'∧q=p' ++ [(k:Int)])∨∃ k:Nat,k < m∧q=p ++ [(k:Int)]
  srt:∀ (j j':Nat) p p',j < j'→lp.2[j]?=some p→lp.2[j']?=some p'→slt p p'
theorem Cl {α:Type} {l l':List α} (h:∃ A,l'=l ++ A) {j:Nat} {x:α} (hj:l[j]?=some x):l'[j]?=some x:=by
  obtain ⟨A,rfl⟩:=h
  rw [List.getElem?_append_left (AJ hj)];exact hj
theorem BJ.below {s p:List Int} {m:Nat} {lp0:LP} (h:BJ t i lp0 s p m lp) (hip:lp0.2[i]?=some p) {j:Nat} {q:List Int} (hj:lp.2[j]?=some q):slt q (p ++ [(m:Int)]):=by
  rcases h.par j q hj with rfl|⟨j',p',k,h1,h2,rfl⟩|⟨k,h1,rfl⟩
  · exact .inl (by simp)
  · exact Jv (h.srt j' i p' p h1 h2 (Cl h.pre2 hip)) _ _
  · exact LD p (by omega)
theorem BJ.step {s p:List Int} {m:Nat} {lp0:LP} (h:BJ t i lp0 s p m lp) (his:lp0.1[i]?=some s) (hip:lp0.2[i]?=some p):BJ t i lp0 s p (m + 1) (if appB t s m=true then addK t s i lp m else lp):=by
  have hi2:=Cl h.pre2 hip
  have hi1:=Cl h.pre1 his
  have par':∀ (j:Nat) q,lp.2[j]?=some q→q=[]∨(∃ (j':Nat) (p':List Int) (k:Nat),j' < i∧lp.2[j']?=some p'∧q=p' ++ [(k:Int)])∨∃ k:Nat,k < m + 1∧q=p ++ [(k:Int)]:=fun j q hq=>by
    rcases h.par j q hq with h1|h1|⟨k,h1,h2⟩
    · exact .inl h1
    · exact .inr (.inl h1)
    · exact .inr (.inr ⟨k,by omega,h2⟩)
  by_cases ha:appB t s m=true
  · rw [if_pos ha]
    obtain ⟨o,ho,hpre,hsuc⟩:=Ho ha
    unfold addK
    by_cases hin:sucN t s m∈lp.1
    · rw [if_pos hin]
      obtain ⟨j,hj⟩:=List.getElem?_of_mem hin
      obtain ⟨q,hq⟩:=AH (l:=lp.2) (k:=j) (by rw [h.len];exact AJ hj)
      exact { h with
        clo:=fun k hk hak=>by
          by_cases e:k=m
          · subst e;exact ⟨j,q,hj,hq,.inr (h.below hip hq)⟩
          · exact h.clo k (by omega) hak
        par:=par' }
    · rw [if_neg hin,hi2,Option.getD_some]
      obtain ⟨⟨C,hC⟩,hpl⟩:=h.pl i s p hi1 hi2
      have hil:=AJ hi1
      refine ⟨?_,?_,by simp [h.len],?_,?_,?_,?_,?_⟩
      · obtain ⟨A,hA⟩:=h.pre1;exact ⟨A ++ [sucN t s m],by rw [hA];simp⟩
      · obtain ⟨B,hB⟩:=h.pre2;exact ⟨B ++ [p ++ [(m:Int)]],by rw [hB];simp⟩
      · intro j s' p' hs' hp'
        rcases BZ hs' with hs'|⟨rfl,rfl⟩
        · rcases BZ hp' with hp'|⟨e,_⟩
          · exact h.pl j s' p' hs' hp'
          · have:=AJ hs';have:=h.len;omega
        · rcases BZ hp' with hp'|⟨_,rfl⟩
          · have:=AJ hp';have:=h.len;omega
          · refine ⟨⟨C + o.cost,by rw [hsuc];exact hC.snoc ho hpre⟩,by simp;omega⟩
      · show (lp.1 ++ [sucN t s m]).Nodup
        rw [List.nodup_append]
        refine ⟨h.nodup,by simp,fun a ha' b hb=>?_⟩
        have hb':b=sucN t s m:=by simpa using hb
        subst hb'
        exact fun e=>hin (e ▸ ha')
      · intro k hk hak
        by_cases e:k=m
        · subst e
          refine ⟨lp.1.length,p ++ [(k:Int)],by simp,?_,.inl rfl⟩
          show (lp.2 ++ [p ++ [(k:Int)]])[lp.1.length]?=_
          rw [← h.len];simp
        · obtain ⟨j',p',h1,h2,h3⟩:=h.clo k (by omega) hak
          exact ⟨j',p',Cl ⟨_,rfl⟩ h1,Cl ⟨_,rfl⟩ h2,h3⟩
      · intro j q hq
        rcases BZ hq with hq|⟨_,rfl⟩
        · rcases par' j q hq with h1|⟨j',p',k,h1,h2,h3⟩|h1
          · exact .inl h1
          · exact .inr (.inl ⟨j',p',k,h1,Cl ⟨_,rfl⟩ h2,h3⟩)
          · exact .inr (.inr h1)
        · exact .inr (.inr ⟨m,by omega,rfl⟩)
      · intro j j' q q' hjj hq hq'
        rcases BZ hq' with hq'|⟨rfl,rfl⟩
        · rcases BZ hq with hq|⟨rfl,_⟩
          · exact h.srt j j' q q' hjj hq hq'
          · have:=AJ hq';omega
        · rcases BZ hq with hq|⟨rfl,_⟩
          · exact h.below hip hq
          · omega
  · rw [if_neg ha]
    exact { h with
      clo:=fun k hk hak=>by
        by_cases e:k=m
        · subst e;exact absurd hak ha
        · exact h.clo k (by omega) hak
      par:=par' }
theorem BI.begin (h:BI t i lp) {s p:List Int} (his:lp.1[i]?=some s) (hip:lp.2[i]?=some p):BJ t i lp s p 0 lp :=
  ⟨⟨[],by simp⟩,⟨[],by simp⟩,h.len,h.pl,h.nodup,fun k hk=>by omega,fun j q hq=>(h.par j q hq).imp id .inl,h.srt⟩
theorem BI.part (h:BI t i lp) {s p:List Int} (his:lp.1[i]?=some s) (hip:lp.2[i]?=some p):∀ m,BJ t i lp s p m (expN t s i m lp)
  | 0=>h.begin his hip
  | m + 1=>by rw [La];exact (BI.part h his hip m).step his hip
theorem BJ.done {s p:List Int} {lp0:LP} (h0:BI t i lp0) (his:lp0.1[i]?=some s) (hip:lp0.2[i]?=some p) (h:BJ t i lp0 s p t.ops.length lp):BI t (i + 1) lp:=by
  have hi1:=Cl h.pre1 his
  have hi2:=Cl h.pre2 hip
  refine ⟨h.len,Cl h.pre1 h0.root,Cl h.pre2 h0.rootp,h.pl,h.nodup,fun j s' p' k hj hs' hp' hk=>?_,fun j q hq=>?_,h.srt⟩
  · by_cases e:j=i
    · subst e
      rw [hi1] at hs'
      rw [hi2] at hp'
      obtain rfl:=Option.some.inj hs'
      obtain rfl:=Option.some.inj hp'
      obtain ⟨o,ho,_⟩:=Ho hk
      exact h.clo k (AJ ho) hk
    · have hj':j < i:=by omega
      have hjl:j < lp0.1.length:=by have:=AJ his;omega
      obtain ⟨s0,hs0⟩:=AH (l:=lp0.1) (k:=j) hjl
      obtain ⟨p0,hp0⟩:=AH (l:=lp0.2) (k:=j) (by rw [h0.len];exact hjl)
      rw [Cl h.pre1 hs0] at hs'
      rw [Cl h.pre2 hp0] at hp'
      obtain rfl:=Option.some.inj hs'
      obtain rfl:=Option.some.inj hp'
      obtain ⟨j',q,q1,q2,q3⟩:=h0.clo j s0 p0 k hj' hs0 hp0 hk
      exact ⟨j',q,Cl h.pre1 q1,Cl h.pre2 q2,q3⟩
  · rcases h.par j q hq with h1|⟨j',p',k,h1,h2,h3⟩|⟨k,h1,h2⟩
    · exact .inl h1
    · exact .inr ⟨j',p',k,by omega,h2,h3⟩
    · exact .inr ⟨i,p,k,by omega,hi2,h2⟩
theorem BI.next (h:BI t i lp) {s p:List Int} (his:lp.1[i]?=some s) (hip:lp.2[i]?=some p):BI t (i + 1) (expN t s i t.ops.length lp):=BJ.done h his hip (h.part his hip _)
theorem BI.ways (h:BI t i lp) {s0 p' s:List Int} {C:Int} (hw:PlanR t s0 p' s C):∀ q,(∃ j:Nat,∃ p,lp.1[j]?=some s0∧lp.2[j]?=some p∧sle p q)→(∃ (j:Nat) (p:List Int),lp.1[j]?=some s∧lp.2[j]?=some p∧sle p (q ++ p'))∨∃ (j:Nat) (p u:List Int),i≤j∧lp.2[j]?=some p∧sle p (q ++ u)∧∃ v,p'=u ++ v:=by
  induction hw with
  | nil=>rintro q ⟨j,p,h1,h2,h3⟩;exact .inl ⟨j,p,h1,h2,by simpa using h3⟩
  | @cons s0 rest s' k o C ho hp _ ih =>
    rintro q ⟨j,p,h1,h2,h3⟩
    by_cases hj:j < i
    · obtain ⟨e1,e2⟩:=Me (s:=s0) ho
      obtain ⟨j',p1,a1,a2,a3⟩:=h.clo j s0 p k hj h1 h2 (by rw [e1];exact hp)
      rw [e2] at a1
      rcases ih (q ++ [(k:Int)]) ⟨j',p1,a1,a2,FO a3 (LE h3 _)⟩ with ⟨j2,p2,b1,b2,b3⟩|⟨j2,p2,u,b1,b2,b3,v,b4⟩
      · exact .inl ⟨j2,p2,b1,b2,by simpa using b3⟩
      · exact .inr ⟨j2,p2,(k:Int) :: u,b1,b2,by simpa using b3,v,by rw [b4];rfl⟩
    · exact .inr ⟨j,p,[],by omega,h2,by simpa using h3,_,rfl⟩
theorem BI.first (h:BI t i lp) {p:List Int} (hip:lp.2[i]?=some p) (hno:∀ (j:Nat) s,j < i→lp.1[j]?=some s→holdsB t.goal s=false) {p' s:List Int} {C:Int} (hw:PlanR t t.init p' s C) (hg:holdsB t.goal s=true):sle p p':=by
  have up:∀ (j:Nat) q,i≤j→lp.2[j]?=some q→sle p q:=fun j q hj hq=>by
    by_cases e:i=j
    · subst e;rw [hip] at hq;exact .inl (Option.some.inj hq)
    · exact .inr (h.srt i j p q (by omega) hip hq)
  rcases h.ways hw [] ⟨0,[],h.root,h.rootp,.inl rfl⟩ with ⟨j,q,h1,h2,h3⟩|⟨j,q,u,h1,h2,h3,v,rfl⟩
  · have hj:i≤j:=by
      rcases Nat.lt_or_ge j i with hj|hj
      · have:=hno j s hj h1;rw [hg] at this;cases this
      · exact hj
    exact FO (up j q hj h2) (by simpa using h3)
  · exact FO (up j q h1 h2) (FO (by simpa using h3) (Mf u v))
theorem BI.all (h:BI t lp.1.length lp) {p' s:List Int} {C:Int} (hw:PlanR t t.init p' s C):s∈lp.1:=by
  rcases h.ways hw [] ⟨0,[],h.root,h.rootp,.inl rfl⟩ with ⟨j,q,h1,_⟩|⟨j,q,u,h1,h2,_⟩
  · exact List.mem_of_getElem? h1
  · have:=AJ h2;rw [h.len] at this;omega
end
inductive Bfs (t:Tsk) (lim:Int):Nat→LP→Rsl→Prop
  | none {i:Nat} {lp:LP}:i=lp.1.length→Bfs t lim i lp ⟨2,[],0,(lp.1.length:Int)⟩
  | goal {i:Nat} {lp:LP} {s p:List Int} {C:Int}:lp.1[i]?=some s→lp.2[i]?=some p→holdsB t.goal s=true→PlanR t t.init p s C→Bfs t lim i lp ⟨1,p,C,(i:Int)⟩
  | full {i:Nat} {lp:LP} {s:List Int}:lp.1[i]?=some s→holdsB t.goal s=false→lim≤(i:Int)→Bfs t lim i lp ⟨3,[],0,(i:Int)⟩
  | step {i:Nat} {lp:LP} {s:List Int} {r:Rsl}:lp.1[i]?=some s→holdsB t.goal s=false→(i:Int) < lim→Bfs t lim (i + 1) (expN t s i t.ops.length lp) r→Bfs t lim i lp r
theorem LF {t:Tsk} (hs:SmallOk t) (lim:Int):∀ (n i:Nat) (lp:LP),513 - i≤n→i≤lp.1.length→BI t i lp→∃ r,Bfs t lim i lp r:=by
  intro n
  induction n with
  | zero=>intro i lp hn hi h;have:=h.few hs;omega
  | succ n ih =>
    intro i lp hn hi h
    by_cases he:i=lp.1.length
    · exact ⟨_,.none he⟩
    obtain ⟨s,hsi⟩:=AH (l:=lp.1) (k:=i) (by omega)
    obtain ⟨p,hpi⟩:=AH (l:=lp.2) (k:=i) (by rw [h.len];omega)
    cases hg:holdsB t.goal s with
    | true=>obtain ⟨⟨C,hC⟩,_⟩:=h.pl i s p hsi hpi;exact ⟨_,.goal hsi hpi hg hC⟩
    | false =>
      by_cases hl:lim≤(i:Int)
      · exact ⟨_,.full hsi hg hl⟩
      · have hf:=h.few hs
        have hJ:=h.part hsi hpi t.ops.length
        obtain ⟨A,hA⟩:=hJ.pre1
        obtain ⟨r,hr⟩:=ih (i + 1) (expN t s i t.ops.length lp) (by omega) (by rw [hA];simp;omega) (h.next hsi hpi)
        exact ⟨r,.step hsi hg (by omega) hr⟩
end
section
open Go Go.RowKit
class TCon (P:Program) (t:TypeId):Prop where eq:∃ d,P.underlying t=some d∧(match d with|.interface _=>false|_=>true)=true
instance {P:Program} {t e:TypeId} [h:TPtr P t e]:TCon P t:=⟨⟨_,h.eq,rfl⟩⟩
instance {P:Program} {t:TypeId} [h:TAgg P t]:TCon P t:=⟨by obtain ⟨d,h1,h2⟩:=h.eq;exact ⟨d,h1,by cases d<;>first|rfl|cases h2⟩⟩
class TMth (P:Program) (t:TypeId) (name:String) (f:outParam FuncId) (b:outParam Bool):Prop where
  eq:((P.info? t).bind fun i=>i.methods.find? (·.name == name)).map (fun m=>(m.path.toList,m.func))=some ([],some (f,b))
def Mth (P:Program) (t:TypeId) (v:Value) (name:String) (w:World) (f:FuncId) (r:Value):Prop:=∀ d,(method (P.types.size + Made.depth) t v name).run P (dr w d)=.ok (f,r) (dr w d)
section
variable {P : Program} {t e : TypeId} {name : String} {f : FuncId} {w : World}
theorem TMth.row {b:Bool} (h:TMth P t name f b):∃ i m,P.info? t=some i∧i.methods.find? (·.name == name)=some m∧m.path.toList=[]∧m.func=some (f,b):=by
  obtain ⟨m,h1,h2⟩:=Option.map_eq_some_iff.1 h.eq
  obtain ⟨i,h3,h4⟩:=Option.bind_eq_some_iff.1 h1
  injection h2 with h5 h6
  exact ⟨i,m,h3,h4,h5,h6⟩
theorem JZ {v:Value} [hm:TMth P t name f true] [hp:TPtr P t e]:Mth P t v name w f v:=fun d=>by
  obtain ⟨i,m,h1,h2,h3,h4⟩:=hm.row
  show (method ((P.types.size + 99) + 1) t v name).run P (dr w d)=_
  rw [method]
  simp [typeInfo,h1,h2,h3,h4,follow,receiverAt,run_underlying hp.eq,Place.get]
theorem JK (ts:Array TypeId) (a:Addr) (x y:String):(Builtin.ssaWrapNilChk_ ts t #[.pointer (some a),strVal x,strVal y]).run P w=.ok (.pointer (some a)) w:=rfl
theorem Et {ad:Addr} {u:Value} [hm:TMth P t name f false] [hp:TPtr P t e] [TOne P e] (hc:w.cell? ad=some u):Mth P t (.pointer (some ad)) name w f u:=fun d=>by
  obtain ⟨i,m,h1,h2,h3,h4⟩:=hm.row
  have h5:m.path=#[]:=by cases hm':m.path;rw [hm'] at h3;simp at h3;rw [h3]
  have hl:(load ad).run P (dr w d)=.ok u (dr w d):=by simp [load,Sem.run,Ip,hc]
  show (method ((P.types.size + 99) + 1) t _ name).run P (dr w d)=_
  rw [method]
  simp [typeInfo,h1,h2,h4,h5,follow,receiverAt,run_underlying hp.eq,Place.get,JK,asAddr,loadVar,GY,Ip,hc]
end
section
variable {P : Program} {n : Nat} {ops : Array Oper} {Q : Post} {rest : List Oper} {l : Env} {w : World} {d : Tmp} {ty : TypeId} {pos : String} {aft : Array Edge}
theorem Ka {f:FuncId} [hf:Callable P f] {y:Operand} {name:String} {t:TypeId} {v r:Value} {xs:List Operand} {vs:List Value} {ts:Array TypeId} {R:Value→World→Prop} (hm:Mth P t v name w f r) (hy:opv l y=some (.iface t v)) (hx:opvs l xs=some vs) (hd:Nat.blt d n=true) (hc:Fn P f (r :: vs) w R)
    (h:∀ v w',R v w'→owp P n ops Q rest ((d,v) :: l) w'):owp P n ops Q (⟨some d,.call { callee:=.invoke y name,args:=xs.toArray,argTypes:=ts },ty,pos,aft,none⟩ :: rest) l w :=
  FZ fun a e ha K hK=>by
    obtain ⟨fn,h1,h2,h3⟩:=hf.eq
    have h2':¬ fn.body=none:=fun e=>by rw [e] at h2;simp at h2
    have h3' : ¬ fn.name = "runtime.NumGoroutine" := fun e => by rw [e] at h3; simp at h3
    unfold Oper.wp
    have:(execOp a.eval ⟨some d,.call { callee:=.invoke y name,args:=xs.toArray,argTypes:=ts },ty,pos,aft,none⟩).run P (dr w e)=.ok (.enter f (r :: vs).toArray) (dr w e):=by
      simp [execOp,resolve,ha.eval hy,invoke,callMethod,hm e,callFunc,h1,h2',h3',ha.evals hx]
    rw [this]
    exact (hc e).mono fun _ _ ⟨v,w₀,d',he,hw,hR⟩=>by subst he;subst hw;exact hK _ _ (h v w₀ hR _ _ (ha.put hd v))
theorem Hp {T:Nat→Prop} {f:FuncId} [Callable P f] {y:Operand} {name:String} {t:TypeId} {v r:Value} {xs:List Operand} {vs:List Value} {ts:Array TypeId} {O:Lab} {R:Value→World→Lab→Prop}
    (hc:Fn P f (r :: vs) w fun v w'=>∃ O',St T w O w' O'∧R v w' O') (hm:Mth P t v name w f r) (hy:opv l y=some (.iface t v)) (hx:opvs l xs=some vs) (hd:Nat.blt d n=true)
    (h:∀ v w' O',St T w O w' O'→R v w' O'→owp P n ops Q rest ((d,v) :: l) w'):owp P n ops Q (⟨some d,.call { callee:=.invoke y name,args:=xs.toArray,argTypes:=ts },ty,pos,aft,none⟩ :: rest) l w :=
  Ka hm hy hx hd hc fun v w' ⟨O',hS,hR⟩=>h v w' O' hS hR
theorem Hq {f:FuncId} [Callable P f] {y:Operand} {name:String} {t:TypeId} {v r:Value} {xs:List Operand} {vs:List Value} {ts:Array TypeId} {O:Lab} {A:Nat→Prop} {R:World→(Nat→Prop)→Value→Prop} (hc:Fn P f (r :: vs) w fun v w'=>Ext w w'∧R w' (upA A w w') v) (hm:Mth P t v name w f r) (hy:opv l y=some (.iface t v)) (hx:opvs l xs=some vs) (hd:Nat.blt d n=true)
    (h:∀ v w' O',St nT w O w' O'→R w' (upA A w w') v→owp P n ops Q rest ((d,v) :: l) w'):owp P n ops Q (⟨some d,.call { callee:=.invoke y name,args:=xs.toArray,argTypes:=ts },ty,pos,aft,none⟩ :: rest) l w :=
  Ka hm hy hx hd hc fun v w' ⟨hE,hR⟩=>h v w' (upO O w.heap.size fun _=>0) (hE.st O _) hR
end
def quoT (a b:Int):Option Int:=if 0 < b then some (if 0≤a then a / b else -((-a) / b)) else none
theorem Kb {a b r:Int} (h:quoT a b=some r) (ha:inI64 a):inI64 r:=by
  unfold quoT at h
  split at h
  · rename_i hb
    rw [← sm h]
    unfold inI64 at *
    split
    · rename_i h0
      have:=Int.ediv_le_self b h0
      have:=Int.ediv_nonneg h0 (show 0≤b by omega)
      omega
    · have h0:0≤-a:=by omega
      have:=Int.ediv_le_self b h0
      have:=Int.ediv_nonneg h0 (show 0≤b by omega)
      omega
  · cases h
theorem MP {P:Program} {l:Env} {w:World} {dst:Option Tmp} {ty:TypeId} {pos:String} {aft:Array Edge} {t u:TypeId} {x y:Operand} {a b c:Int} (hx:opv l x=some (.int .i64 a)) (hy:opv l y=some (.int .i64 b)) (he:quoT a b=some c) (hr:inI64 a):Ev P ⟨dst,.binOp .quo t x y u,ty,pos,aft,none⟩ l w (.int .i64 c):=fun _ _ d ha=>by
  have hc:=Kb he hr
  unfold quoT at he
  split at he
  · rename_i hb
    have hn:b≠0:=by omega
    have h1:a.tdiv b=c:=by
      rw [← sm he]
      split
      · rename_i h0;exact Int.tdiv_eq_ediv_of_nonneg h0
      · rw [← Int.tdiv_eq_ediv_of_nonneg (show 0≤-a by omega),Int.neg_tdiv,Int.neg_neg]
    simp [execOp,ha.eval hx,ha.eval hy,eqGuard,binOp,Op.intDiv,hn,h1,wrap_i64 hc.1 hc.2]
  · cases he
structure An (t:TypeId) (α:Type) where
  x:α
instance {t:TypeId} {α:Type} [Rp α]:Rp (An t α) where
  isAgg:=false
  size:=1
  R w F cs a:=∃ v,cs=[.iface t v]∧Vb w F v a.x
  len:=by rintro w F cs x ⟨v,rfl,_⟩;rfl
  one:=by
    rintro w F cs x ⟨v,rfl,_⟩ u hu
    have:u=.iface t v:=by simpa using hu
    subst this;rfl
  agree:=by rintro w w' F cs x ⟨v,rfl,h⟩ ha;exact ⟨v,rfl,h.agree ha⟩
  mono:=by rintro w F G cs x ⟨v,rfl,h⟩ ha;exact ⟨v,rfl,h.mono ha⟩
theorem Vb.any {w:World} {F:Nat→Prop} {v:Value} {t:TypeId} {α:Type} [Rp α] {x:An t α} (h:Vb w F v x):∃ u,v=.iface t u∧Vb w F u x.x:=by
  obtain ⟨u,hu,h'⟩:=h
  exact ⟨u,by simpa using hu,h'⟩
theorem vAny {w:World} {F:Nat→Prop} {v:Value} {t:TypeId} {α:Type} [Rp α] {x:α} (h:Vb w F v x):Vb w F (.iface t v) (⟨x⟩:An t α):=⟨v,rfl,h⟩
section
variable {P : Program} {l : Env} {w : World} {dst : Option Tmp} {ty : TypeId} {pos : String} {aft : Array Edge}
theorem MQ {t:TypeId} [hk:TCon P t] {x:Operand} {v:Value} (hx:opv l x=some v):Ev P ⟨dst,.makeInterface t x,ty,pos,aft,none⟩ l w (.iface t v):=fun _ a d ha=>by
  obtain ⟨q,h1,h2⟩:=hk.eq
  cases q<;>first|(cases h2;done)|simp [execOp,ha.eval hx,Instr.makeInterface,run_underlying h1]
theorem MR {s t:TypeId} [hk:TCon P t] {x:Operand} {v:Value} (hx:opv l x=some (.iface t v)):Ev P ⟨dst,.typeAssert x s t true,ty,pos,aft,none⟩ l w (.tuple #[v,.bool true]):=fun _ a d ha=>by
  obtain ⟨q,h1,h2⟩:=hk.eq
  cases q<;>first|(cases h2;done)|simp [execOp,ha.eval hx,Instr.typeAssert,run_underlying h1]
end
section
variable {P : Program} {n : Nat} {ops : Array Oper} {Q : Post} {S : World → Prop} {rest : List Oper} {r : List (Nat × Bool)} {l : Env} {w : World} {d i : Nat} {ty : TypeId} {pos : String} {aft : Array Edge}
theorem o_qtE {t u:TypeId} {x y:Operand} {a b c:Int} (hx:opv l x=some (.int .i64 a)) (hy:opv l y=some (.int .i64 b)) (hd:Nat.blt d n=true) (h:owp P n ops Q rest ((d,.int .i64 c) :: l) w) (he:quoT a b=some c:=by assumption) (hr:inI64 a:=by assumption):owp P n ops Q (⟨some d,.binOp .quo t x y u,ty,pos,aft,none⟩ :: rest) l w:=AS (MP hx hy he hr) hd h
theorem o_miA {t:TypeId} [TCon P t] {x:Operand} {v:Value} (hx:opv l x=some v) (hd:Nat.blt d n=true) (h:owp P n ops Q rest ((d,.iface t v) :: l) w):owp P n ops Q (⟨some d,.makeInterface t x,ty,pos,aft,none⟩ :: rest) l w:=AS (MQ hx) hd h
theorem o_taA {s t:TypeId} [TCon P t] {x:Operand} {v:Value} (hx:opv l x=some (.iface t v)) (hd:Nat.blt d n=true) (h:owp P n ops Q rest ((d,.tuple #[v,.bool true]) :: l) w):owp P n ops Q (⟨some d,.typeAssert x s t true,ty,pos,aft,none⟩ :: rest) l w:=AS (MR hx) hd h
end
end
section
open Go Go.RowKit
attribute [local irreducible] ewp owp hwp hwq hws Ev Evg Fn retPost loud loudS Res1
attribute [local irreducible] hwx loudX
structure Itm where
  cost:Int
  order:Int
  id:Int
instance:Rp Itm where
  isAgg:=true
  size:=3
  R w F cs x:=cs=[.int .i64 x.cost,.int .i64 x.order,.int .i64 x.id]∧inI64 x.cost∧inI64 x.order∧inI64 x.id
  len:=by rintro w F cs x ⟨rfl,h0,h1,h2⟩;rfl
  one:=by rintro w F cs x ⟨rfl,h0,h1,h2⟩ u hu;simp at hu;rcases hu with rfl|rfl|rfl<;>first|rfl|exact Vb.one rfl (by assumption)
  agree:=by rintro w w' F cs x ⟨rfl,h0,h1,h2⟩ ha;exact ⟨rfl,h0,h1,h2⟩
  mono:=by rintro w F G cs x ⟨rfl,h0,h1,h2⟩ ha;exact ⟨rfl,h0,h1,h2⟩
instance : TMth Try.prog 94 "Len" 47 false := ⟨by kernel_rfl⟩
instance : TMth Try.prog 94 "Less" 129 false := ⟨by kernel_rfl⟩
instance : TMth Try.prog 94 "Pop" 130 true := ⟨by kernel_rfl⟩
instance : TMth Try.prog 94 "Push" 131 true := ⟨by kernel_rfl⟩
instance : TMth Try.prog 94 "Swap" 132 false := ⟨by kernel_rfl⟩
noncomputable def Cc (x0:List Itm):Option Int :=
  some (x0.length:Int)
theorem DM {w:World} {A:Nat→Prop} (hA:∀ k,A k→k < w.heap.size) {vx0:Value} {x0:List Itm} (hx0:Vb w A vx0 x0) {r:Int} (hm:Cc x0=some r) :
    Fn Try.prog 47 [vx0] w fun v w'=>Ext w w'∧Vb w' (upA A w w') v r:=by
 obtain ⟨O,hB,hA0⟩:=enter hA
 replace hx0:=hx0.mono hA0
 obtain ⟨A2,c3,rfl⟩:=hx0.form
 refine AK Try.func47 rfl Try.ntmps47 rfl ?_
 unfold Cc at hm
 refine Ah (Ae (o_as rfl rfl (o_z ?_)))
 refine Ah (Ae (o_mv rfl rfl (o_ln rfl rfl ?_)))
 have l5:x0.length≤9223372036854775807:=Nat.le_trans hx0.len.2.1 hx0.len.2.2
 have r4:inI64 (x0.length:Int):=rngNat l5
 refine o_as rfl rfl (o_z ?_)
 refine Au ?_
 obtain rfl:=sm hm
 exact ret1v rfl (AG rfl) ⟨hB.ext,(vInt r4)⟩
noncomputable def BW (x0:List Itm) (x1:Int) (x2:Int):Option Bool :=
  bnd (bnd (atI x0 x1) fun a10=>bnd (atI x0 x2) fun a24=>if a10.cost < a24.cost then (some true) else (bnd (atI x0 x1) fun a39=>bnd (atI x0 x2) fun a53=>if a39.cost=a53.cost then (bnd (atI x0 x1) fun a68=>bnd (atI x0 x2) fun a82=>if a68.order < a82.order then (some true) else (some false)) else (some false)):Option Bool) fun y6=>some y6
theorem DA {w:World} {A:Nat→Prop} (hA:∀ k,A k→k < w.heap.size) {vx0:Value} {x0:List Itm} (hx0:Vb w A vx0 x0) {x1:Int} (rx1:inI64 x1) {x2:Int} (rx2:inI64 x2) {r:Bool} (hm:BW x0 x1 x2=some r) :
    Fn Try.prog 129 [vx0,(.int .i64 x1),(.int .i64 x2)] w fun v w'=>Ext w w'∧Vb w' (upA A w w') v r:=by
 obtain ⟨O,hB,hA0⟩:=enter hA
 replace hx0:=hx0.mono hA0
 obtain ⟨A4,c5,rfl⟩:=hx0.form
 refine AK Try.func129 rfl Try.ntmps129 rfl ?_
 unfold BW at hm
 refine Ah (Ae (o_as rfl rfl (o_z ?_)))
 refine Ah ?_
 obtain ⟨y6,hy7,hm⟩:=bs hm
 refine AL (fun l' w'=>∃ (x9:Unit) (O':Lab),subs l' [(6,(.bool y6))]∧Bs w A w' O') ?_ ?_
 ·
  refine BE (·=w) [(0,true),(1,true),(2,true),(3,true),(4,true),(5,true),(6,true),(7,true),(8,true),(9,true),(10,true),(11,true),(12,true),(13,true),(14,true),(15,true),(16,true),(17,true),(18,true),(19,true),(20,true),(21,true),(22,true),(23,true),(24,true),(25,true),(26,true),(27,true),(28,true),(29,true),(30,true),(31,true),(32,true),(33,true),(34,true),(35,true),(36,true),(37,true)] (by kernel_rfl) rfl (by kernel_rfl) rfl ?_
  refine h_mv rfl rfl rfl (h_mv rfl rfl rfl ?_)
  obtain ⟨a10,e11,hy7⟩:=bs hy7
  obtain ⟨p13,x12⟩:=AM e11
  obtain ⟨b14,o15,ce16,hA17,hl18,hd19,rfl,r21,r22,r23⟩:=hx0.elem' x12
  refine h_iaE (hA:=hA17) (hj:=(Int.toNat_of_nonneg p13).symm) (hlt:=hl18) rfl rfl rfl rfl ?_
  refine h_fa rfl rfl rfl (h_ldA (hc:=cat0 hd19) rfl rfl rfl ?_)
  refine h_mv rfl rfl rfl (h_mv rfl rfl rfl ?_)
  obtain ⟨a24,e25,hy7⟩:=bs hy7
  obtain ⟨p27,x26⟩:=AM e25
  obtain ⟨b28,o29,ce30,hA31,hl32,hd33,rfl,r35,r36,r37⟩:=hx0.elem' x26
  refine h_iaE (hA:=hA31) (hj:=(Int.toNat_of_nonneg p27).symm) (hlt:=hl32) rfl rfl rfl rfl ?_
  refine h_fa rfl rfl rfl (h_ldA (hc:=cat0 hd33) rfl rfl rfl ?_)
  refine h_ltS rfl rfl rfl rfl (fun c38=>?_) fun c38=>?_
  ·
   replace hy7:=ip hy7 c38
   refine h_mv rfl rfl rfl (h_no rfl rfl rfl rfl rfl (h_no rfl rfl rfl rfl rfl (h_no rfl rfl rfl rfl rfl (h_no rfl rfl rfl rfl rfl (h_no rfl rfl rfl rfl rfl (h_no rfl rfl rfl rfl rfl (h_no rfl rfl rfl rfl rfl (h_no rfl rfl rfl rfl rfl (h_no rfl rfl rfl rfl rfl (h_no rfl rfl rfl rfl rfl (h_no rfl rfl rfl rfl rfl (h_no rfl rfl rfl rfl rfl (h_no rfl rfl rfl rfl rfl (h_no rfl rfl rfl rfl rfl ?_))))))))))))))
   refine h_no rfl rfl rfl rfl rfl (h_no rfl rfl rfl rfl rfl (h_no rfl rfl rfl rfl rfl (h_no rfl rfl rfl rfl rfl (h_no rfl rfl rfl rfl rfl (h_no rfl rfl rfl rfl rfl (h_no rfl rfl rfl rfl rfl (h_no rfl rfl rfl rfl rfl (h_no rfl rfl rfl rfl rfl (h_no rfl rfl rfl rfl rfl (h_pt rfl rfl rfl rfl (h_as rfl rfl rfl (h_z ?_))))))))))))
   obtain rfl:=sm hy7
   exact ⟨(),_,⟨rfl,trivial⟩,hB⟩
  ·
   replace hy7:=im hy7 c38
   refine h_mv rfl rfl rfl (hwp_o rfl (AB rfl rfl (g_mv rfl rfl (hwp_o rfl (AB rfl rfl (g_mv rfl rfl (hwp_o rfl (AB rfl rfl ?_))))))))
   obtain ⟨a39,e40,hy7⟩:=bs hy7
   obtain ⟨p42,x41⟩:=AM e40
   obtain ⟨b43,o44,ce45,hA46,hl47,hd48,rfl,r50,r51,r52⟩:=hx0.elem' x41
   refine g_iaE (hA:=hA46) (hj:=(Int.toNat_of_nonneg p42).symm) (hlt:=hl47) rfl rfl rfl ?_
   refine hwp_o rfl (AB rfl rfl (g_fa rfl rfl (hwp_o rfl (AB rfl rfl (g_ldA (hc:=cat0 hd48) rfl rfl ?_)))))
   refine hwp_o rfl (AB rfl rfl (g_mv rfl rfl (hwp_o rfl (AB rfl rfl (g_mv rfl rfl (hwp_o rfl (AB rfl rfl ?_)))))))
   obtain ⟨a53,e54,hy7⟩:=bs hy7
   obtain ⟨p56,x55⟩:=AM e54
   obtain ⟨b57,o58,ce59,hA60,hl61,hd62,rfl,r64,r65,r66⟩:=hx0.elem' x55
   refine g_iaE (hA:=hA60) (hj:=(Int.toNat_of_nonneg p56).symm) (hlt:=hl61) rfl rfl rfl ?_
   refine hwp_o rfl (AB rfl rfl (g_fa rfl rfl (hwp_o rfl (AB rfl rfl (g_ldA (hc:=cat0 hd62) rfl rfl ?_)))))
   refine hwp_o rfl (AB rfl rfl (AN (fun _ _=>Ee rfl rfl) rfl (fun c67=>?_) (fun c67=>?_)))
   ·
    replace hy7:=ip hy7 c67
    refine hwp_o rfl (AB rfl rfl (g_mv rfl rfl (hwp_o rfl (AB rfl rfl (g_mv rfl rfl (hwp_o rfl (AB rfl rfl (g_mv rfl rfl (hwp_o rfl (AB rfl rfl ?_))))))))))
    obtain ⟨a68,e69,hy7⟩:=bs hy7
    obtain ⟨p71,x70⟩:=AM e69
    obtain ⟨b72,o73,ce74,hA75,hl76,hd77,rfl,r79,r80,r81⟩:=hx0.elem' x70
    refine g_iaE (hA:=hA75) (hj:=(Int.toNat_of_nonneg p71).symm) (hlt:=hl76) rfl rfl rfl ?_
    refine hwp_o rfl (AB rfl rfl (g_fa rfl rfl (hwp_o rfl (AB rfl rfl (g_ldA (hc:=cat1 hd77) rfl rfl ?_)))))
    refine hwp_o rfl (AB rfl rfl (g_mv rfl rfl (hwp_o rfl (AB rfl rfl (g_mv rfl rfl (hwp_o rfl (AB rfl rfl ?_)))))))
    obtain ⟨a82,e83,hy7⟩:=bs hy7
    obtain ⟨p85,x84⟩:=AM e83
    obtain ⟨b86,o87,ce88,hA89,hl90,hd91,rfl,r93,r94,r95⟩:=hx0.elem' x84
    refine g_iaE (hA:=hA89) (hj:=(Int.toNat_of_nonneg p85).symm) (hlt:=hl90) rfl rfl rfl ?_
    refine hwp_o rfl (AB rfl rfl (g_fa rfl rfl (hwp_o rfl (AB rfl rfl (g_ldA (hc:=cat1 hd91) rfl rfl ?_)))))
    refine hwp_o rfl (AB rfl rfl (AN (fun _ _=>BN rfl rfl) rfl (fun c96=>?_) (fun c96=>?_)))
    ·
     replace hy7:=ip hy7 c96
     refine hwp_o rfl (AB rfl rfl (g_pt rfl rfl rfl (h_pf rfl rfl rfl rfl (h_as rfl rfl rfl (h_z ?_)))))
     obtain rfl:=sm hy7
     exact ⟨(),_,⟨rfl,trivial⟩,hB⟩
    ·
     replace hy7:=im hy7 c96
     refine hwp_o rfl (AB rfl rfl (g_pt rfl rfl rfl (h_pf rfl rfl rfl rfl (h_as rfl rfl rfl (h_z ?_)))))
     obtain rfl:=sm hy7
     exact ⟨(),_,⟨rfl,trivial⟩,hB⟩
   ·
    replace hy7:=im hy7 c67
    refine hwp_o rfl (AB rfl rfl (g_mv rfl rfl (h_no rfl rfl rfl rfl rfl (h_no rfl rfl rfl rfl rfl (h_no rfl rfl rfl rfl rfl (h_no rfl rfl rfl rfl rfl (h_no rfl rfl rfl rfl rfl (h_no rfl rfl rfl rfl rfl (h_no rfl rfl rfl rfl rfl (h_no rfl rfl rfl rfl rfl (h_no rfl rfl rfl rfl rfl (h_no rfl rfl rfl rfl rfl (h_no rfl rfl rfl rfl rfl (hwp_o rfl ?_))))))))))))))
    refine AB rfl rfl (g_pf rfl rfl rfl (h_pf rfl rfl rfl rfl (h_as rfl rfl rfl (h_z ?_))))
    obtain rfl:=sm hy7
    exact ⟨(),_,⟨rfl,trivial⟩,hB⟩
 rintro l97 w98 ⟨x9,O99,hs100,hB⟩
 refine AP _ hs100 ?_
 refine Au ?_
 obtain rfl:=sm hm
 exact ret1v rfl (AG rfl) ⟨hB.ext,vBool⟩
noncomputable def BX (x0:List Itm) (x1:Int) (x2:Int):Option (List Itm) :=
  bnd (atI x0 x2) fun a4=>bnd (atI x0 x1) fun a18=>bnd (atI x0 x1) fun a32=>bnd (atI (x0.set (x1:Int).toNat a4) x2) fun a48=>some ((x0.set (x1:Int).toNat a4).set (x2:Int).toNat a18)
theorem DB {w:World} {O:Lab} {A0:Option Addr} {m0 c0 i0:Nat} {x0:List Itm} (hx0:Rw i0 w O 96 (.slice A0 m0 c0) x0) {x1:Int} (rx1:inI64 x1) {x2:Int} (rx2:inI64 x2) {r:(List Itm)} (hm:BX x0 x1 x2=some r) :
    Fn Try.prog 132 [(.slice A0 m0 c0),(.int .i64 x1),(.int .i64 x2)] w fun v w'=>∃ O',St (eT i0) w O w' O'∧Rw i0 w' O' 96 (.slice A0 m0 c0) r:=by
 obtain ⟨O0,hE,hz0,hl2⟩:=ent1 (w:=w) (O:=O) hx0.2.2
 obtain rfl:m0=x0.length:=hx0.len.1
 have hx0':=Rw.leave hx0 hz0 hl2 (j:=2) (by decide)
 have hB:Bm w O0 w O0:=Bm.refl
 refine AK Try.func132 rfl Try.ntmps132 rfl ?_
 unfold BX at hm
 refine BA [(13,[2])] O0 ?_
 refine x_pre (fuel:=5) [] [(0,true),(1,true),(4,true),(5,true),(6,true),(7,true),(8,true),(9,true),(10,true),(11,true),(12,true)] (by kernel_rfl) rfl ?_
 refine h_mv rfl rfl rfl (h_mv rfl rfl rfl (h_mv rfl rfl rfl (h_mv rfl rfl rfl ?_)))
 obtain ⟨a4,e5,hm⟩:=bs hm
 obtain ⟨p7,x6⟩:=AM e5
 obtain ⟨b8,o9,ce10,hA11,hF14,hl12,hd13,rfl,r15,r16,r17⟩:=hx0'.elemF x6
 refine h_iaE (hA:=hA11) (hj:=(Int.toNat_of_nonneg p7).symm) (hlt:=hl12) rfl rfl rfl rfl ?_
 refine h_laB (hl:=rfl) (hb:=fun w' ⟨O',hq⟩=>(Bh (hq.agree (i:=2) (by decide)) hF14 hd13)) rfl rfl rfl ?_
 refine h_mv rfl rfl rfl (h_mv rfl rfl rfl ?_)
 obtain ⟨a18,e19,hm⟩:=bs hm
 obtain ⟨p21,x20⟩:=AM e19
 obtain ⟨b22,o23,ce24,hA25,hF28,hl26,hd27,rfl,r29,r30,r31⟩:=hx0'.elemF x20
 refine h_iaE (hA:=hA25) (hj:=(Int.toNat_of_nonneg p21).symm) (hlt:=hl26) rfl rfl rfl rfl ?_
 refine h_laB (hl:=rfl) (hb:=fun w' ⟨O',hq⟩=>(Bh (hq.agree (i:=2) (by decide)) hF28 hd27)) rfl rfl rfl ?_
 obtain ⟨a32,e33,hm⟩:=bs hm
 obtain ⟨p35,x34⟩:=AM e33
 obtain ⟨b36,o37,ce38,hA39,hF42,hl40,hd41,rfl,r43,r44,r45⟩:=hx0'.elemF x34
 refine h_iaE (hA:=hA39) (hj:=(Int.toNat_of_nonneg p35).symm) (hlt:=hl40) rfl rfl rfl rfl ?_
 refine AI ?_
 refine x_pre (fuel:=3) [2] [(2,true),(3,true)] (by kernel_rfl) rfl ?_
 refine h_mv rfl rfl rfl (h_mv rfl rfl rfl (AI ?_))
 refine x_one (i:=13) (by kernel_rfl) rfl ?_
 refine Db rfl hx0' (a:=a4) (Vb.ofAgg (cs:=[(.int .i64 a4.cost),(.int .i64 a4.order),(.int .i64 a4.id)]) (x:=a4) rfl ⟨rfl,r15,r16,r17⟩) hA39 rfl rfl (AJ x34) fun w46 S47 hx0'=>?_
 have hZ:=S47.lst [2] (fun _ h=>by cases h;decide)
 refine x_go [] hZ (by kernel_rfl) ?_
 refine x_pre (fuel:=1) [] [(14,true)] (by kernel_rfl) rfl ?_
 obtain ⟨a48,e49,hm⟩:=bs hm
 obtain ⟨p51,x50⟩:=AM e49
 obtain ⟨b52,o53,ce54,hA55,hF58,hl56,hd57,rfl,r59,r60,r61⟩:=hx0'.elemF x50
 refine h_iaE (hA:=hA55) (hj:=(Int.toNat_of_nonneg p51).symm) (hlt:=hl56) rfl rfl rfl rfl ?_
 refine AI ?_
 refine x_one (i:=15) (by kernel_rfl) rfl ?_
 refine Db rfl hx0' (a:=a18) (Vb.ofAgg (cs:=[(.int .i64 a18.cost),(.int .i64 a18.order),(.int .i64 a18.id)]) (x:=a18) rfl ⟨rfl,r29,r30,r31⟩) hA55 rfl rfl (AJ x50) fun w62 S63 hx0'=>?_
 refine x_end (by kernel_rfl) ?_
 refine x_nil (by kernel_rfl) ?_
 obtain rfl:=sm hm
 replace hB:=(hB.st S47).st S63
 obtain ⟨O',hS',hz,hl⟩:=hE.leave (fun q=>if q=2 then i0 else 0) rfl hB
 exact ret0n rfl  ⟨O',hS',(Rw.leave hx0' hz (hl 2 (by decide) (by decide)) hx0.2.2)⟩
noncomputable def Cz (x0:BxR 98 96 Itm) (x1:An 96 Itm):Option (BxR 98 96 Itm) :=
  bnd (appI 24 x0.l [x1.x]) fun u31=>some (⟨u31⟩:BxR 98 96 Itm)
theorem GB {w:World} {O:Lab} {p0 i0:Nat} {x0:BxR 98 96 Itm} (hx0:Ob i0 w O (.pointer (some ⟨p0,0,none⟩)) x0) {vx1:Value} {x1:An 96 Itm} (hx1:Vb w (Fr 0 w O) vx1 x1) {r:(BxR 98 96 Itm)} (hm:Cz x0 x1=some r) :
    Fn Try.prog 131 [(.pointer (some ⟨p0,0,none⟩)),vx1] w fun v w'=>∃ O',St (eT i0) w O w' O'∧Ob i0 w' O' (.pointer (some ⟨p0,0,none⟩)) r:=by
 obtain ⟨O0,hE,hz0,hl2⟩:=ent1 (w:=w) (O:=O) hx0.2
 have hx0':=Ob.leave hx0 hz0 hl2 (j:=2) (by decide)
 have hB:Bm w O0 w O0:=Bm.refl
 replace hx1:=hx1.mono hz0
 obtain ⟨v3,rfl,h4⟩:=hx1.any
 obtain ⟨cs5,rfl,rfl,r6,r7,r8⟩:=h4
 refine AK Try.func131 rfl Try.ntmps131 rfl ?_
 unfold Cz at hm
 refine Ah (Ae (o_mv rfl rfl (o_taA rfl rfl ?_)))
 refine o_mv rfl rfl (o_ex rfl rfl rfl (o_ex rfl rfl rfl (BR 3 O0 rfl fun g9 w10 O11 S12 h13=>?_)))
 refine AV h13 rfl rfl rfl (Nat.le_of_ble_eq_true rfl) (by first|exact allOne rfl|simp [Value.cells,Value.oneCell',AQ]) fun w14 S15 h13=>?_
 replace h13:Lc 3 w14 O11 g9 96 [(.int .i64 x1.x.cost),(.int .i64 x1.x.order),(.int .i64 x1.x.id)]:=h13
 refine o_as rfl rfl (o_z ?_)
 refine Ah (Ae (o_mv rfl rfl (o_z ?_)))
 refine Ar rfl ?_
 replace hx0':=(hx0'.st S12).st S15
 obtain ⟨O16,v20,S17,ha19,h18,h21⟩:=BxR.opn hx0' 2 4 (by decide)
 obtain ⟨A22,c23,rfl⟩:=h21.form
 refine BA [(5,[]),(6,[4])] O16 ?_
 refine x_pre (fuel:=5) [] [(1,true),(2,true),(3,true),(4,true)] (by kernel_rfl) rfl ?_
 refine h_mv rfl rfl rfl (h_nc rfl rfl rfl (h_ldC (hc:=fun w' ⟨O',hq⟩=>Blk.cell (i:=0) ((h18.st hq (by decide)).1) rfl) rfl rfl rfl ?_))
 replace h13:=h13.st S17
 refine h_laB (hl:=rfl) (hb:=fun w' ⟨O',hq⟩=>((h13.st hq (by decide)).1).cellsAt) rfl rfl rfl ?_
 refine AI ?_
 refine x_pre (fuel:=4) [4] [(0,true)] (by kernel_rfl) rfl ?_
 refine h_mv rfl rfl rfl (AI ?_)
 refine x_one (i:=5) (by kernel_rfl) rfl ?_
 refine BG 5 (by decide) O16 (xs:=([x1.x]:List Itm)) rfl rfl rfl rfl ⟨(Vb.ofAgg (cs:=[(.int .i64 x1.x.cost),(.int .i64 x1.x.order),(.int .i64 x1.x.id)]) (x:=x1.x) rfl ⟨rfl,r6,r7,r8⟩),trivial⟩ (by decide) (by decide) rfl fun g25 w26 O27 S28 h29=>?_
 have hZ:=S28.lst [] (fun _ h=>h.elim)
 refine x_go [(6,[4])] hZ (by kernel_rfl) ?_
 refine x_one (i:=6) (by kernel_rfl) rfl ?_
 obtain ⟨u31,e32,hm⟩:=bs hm
 obtain ⟨e32,e33,e34⟩:=Cg e32
 replace h21:=h21.st S28
 refine DS rfl h21 (h29.rd) rfl rfl (by decide) e33 e34 rfl fun A35 c36 w37 O38 S39 h40=>?_
 rw [← e32] at h40 ⊢
 have hZ:=S39.lst [4] (fun _ h=>by cases h;decide)
 refine x_go [] hZ (by kernel_rfl) ?_
 refine x_pre (fuel:=1) [] [(7,true)] (by kernel_rfl) rfl ?_
 refine h_nc rfl rfl rfl (AI ?_)
 refine x_one (i:=8) (by kernel_rfl) rfl ?_
 replace h18:=(h18.st S28).st S39
 refine AV h18 rfl rfl rfl (Nat.le_of_ble_eq_true rfl) (by first|exact allOne rfl|simp [Value.cells,Value.oneCell',AQ]) fun w42 S43 h18=>?_
 replace h18:Lc 2 w42 O38 p0 98 [(.slice A35 u31.length c36)]:=h18
 refine x_end (by kernel_rfl) ?_
 refine x_nil (by kernel_rfl) ?_
 replace h40:=h40.st S43
 obtain ⟨O44,S45,hz47,ha48,h46⟩:=BxR.shut (x:=(⟨u31⟩:BxR 98 96 Itm)) (l0:=2) (l1:=4) (by decide) h18 h40
 obtain rfl:=sm hm
 replace hB:=((((((hB.st S12).st S15).st S17).st S28).st S39).st S43).st S45
 obtain ⟨O',hS',hz,hl⟩:=hE.leave (fun q=>if q=2 then i0 else 0) rfl hB
 exact ret0n rfl  ⟨O',hS',(Ob.leave h46 hz (hl 2 (by decide) (by decide)) hx0.2)⟩
noncomputable def CJ (x0:BxR 98 96 Itm):Option ((An 96 Itm)×(BxR 98 96 Itm)) :=
  bnd (chkI ((x0.l.length:Int) - 1)) fun n13=>bnd (atI x0.l n13) fun a16=>bnd (cutI x0.l 0 n13) fun u37=>some ((⟨a16⟩:An 96 Itm),(⟨u37⟩:BxR 98 96 Itm))
theorem GS {w:World} {O:Lab} {p0 i0:Nat} {x0:BxR 98 96 Itm} (hx0:Ob i0 w O (.pointer (some ⟨p0,0,none⟩)) x0) {r:(An 96 Itm)×(BxR 98 96 Itm)} (hm:CJ x0=some r) :
    Fn Try.prog 130 [(.pointer (some ⟨p0,0,none⟩))] w fun v w'=>∃ O',St (eT i0) w O w' O'∧Ob i0 w' O' (.pointer (some ⟨p0,0,none⟩)) r.2∧Vb w' (Fr 0 w' O') v r.1:=by
 obtain ⟨O0,hE,hz0,hl2⟩:=ent1 (w:=w) (O:=O) hx0.2
 have hx0':=Ob.leave hx0 hz0 hl2 (j:=2) (by decide)
 have hB:Bm w O0 w O0:=Bm.refl
 refine AK Try.func130 rfl Try.ntmps130 rfl ?_
 unfold CJ at hm
 refine Ah (Ae (o_as rfl rfl (o_z ?_)))
 refine Ah (Ae (o_mv rfl rfl (o_nc rfl rfl ?_)))
 obtain ⟨O2,v6,S3,ha5,h4,h7⟩:=BxR.opn hx0' 2 3 (by decide)
 obtain ⟨A8,c9,rfl⟩:=h7.form
 refine o_ld (hc:=Blk.cell (i:=0) (h4.1) rfl) rfl rfl ?_
 refine o_ln rfl rfl ?_
 have l12:x0.l.length≤9223372036854775807:=Nat.le_trans h7.len.2.1 h7.len.2.2
 have r11:inI64 (x0.l.length:Int):=rngNat l12
 obtain ⟨n13,e14,hm⟩:=bs hm
 have r15:=(Bj e14)
 refine o_sbE (he:=e14) rfl rfl rfl ?_
 refine o_as rfl rfl (o_z ?_)
 refine Ah (Ae (o_mv rfl rfl (o_nc rfl rfl (o_ld (hc:=Blk.cell (i:=0) (h4.1) rfl) rfl rfl ?_))))
 refine o_mv rfl rfl ?_
 obtain ⟨a16,e17,hm⟩:=bs hm
 obtain ⟨p19,x18⟩:=AM e17
 obtain ⟨b20,o21,ce22,hA23,hl24,hd25,rfl,r27,r28,r29⟩:=h7.elem x18
 refine o_iaE (hA:=hA23) (hj:=(Int.toNat_of_nonneg p19).symm) (hlt:=hl24) rfl rfl rfl ?_
 refine o_la (hl:=rfl) (hc:=hd25) rfl rfl ?_
 refine BR 4 O2 rfl fun g30 w31 O32 S33 h34=>?_
 refine AV h34 rfl rfl rfl (Nat.le_of_ble_eq_true rfl) (by first|exact allOne rfl|simp [Value.cells,Value.oneCell',AQ]) fun w35 S36 h34=>?_
 replace h34:Lc 4 w35 O32 g30 96 [(.int .i64 a16.cost),(.int .i64 a16.order),(.int .i64 a16.id)]:=h34
 refine o_z ?_
 refine Ah (Ae (o_mv rfl rfl (o_mv rfl rfl (o_nc rfl rfl ?_))))
 replace h4:=(h4.st S33).st S36
 refine o_ld (hc:=Blk.cell (i:=0) (h4.1) rfl) rfl rfl ?_
 refine o_mv rfl rfl ?_
 obtain ⟨u37,e38,hm⟩:=bs hm
 replace h7:=(h7.st S33).st S36
 obtain ⟨h39,e40⟩:=cutRw h7 e38
 refine Mw (hc:=e40) rfl rfl rfl ?_
 refine o_nc rfl rfl (AV h4 rfl rfl rfl (Nat.le_of_ble_eq_true rfl) (by first|exact allOne rfl|simp [Value.cells,Value.oneCell',AQ]) fun w42 S43 h4=>?_)
 replace h4:Lc 2 w42 O32 p0 98 [(.slice A8 u37.length c9)]:=h4
 refine o_z ?_
 refine Ah (Ae ?_)
 replace h34:=h34.st S43
 refine o_la (hl:=rfl) (hc:=(h34.1).cellsAt) rfl rfl ?_
 refine o_miA rfl rfl ?_
 refine o_as rfl rfl (o_z ?_)
 refine Au ?_
 replace h39:=h39.st S43
 obtain ⟨O44,S45,hz47,ha48,h46⟩:=BxR.shut (x:=(⟨u37⟩:BxR 98 96 Itm)) (l0:=2) (l1:=3) (by decide) h4 h39
 obtain rfl:=sm hm
 replace hB:=((((hB.st S3).st S33).st S36).st S43).st S45
 obtain ⟨O',hS',hz,hl⟩:=hE.leave (fun q=>if q=2 then i0 else 0) rfl hB
 exact ret1v rfl (AG rfl) ⟨O',hS',(Ob.leave h46 hz (hl 2 (by decide) (by decide)) hx0.2),(vAny (Vb.ofAgg (cs:=[(.int .i64 a16.cost),(.int .i64 a16.order),(.int .i64 a16.id)]) (x:=a16) rfl ⟨rfl,r27,r28,r29⟩))⟩
noncomputable def CK (x0:BxR 98 96 Itm) (x1:Int):Option (BxR 98 96 Itm) :=
  bnd (lop (ρ:=(BxR 98 96 Itm)) (fun (s5:Int×(BxR 98 96 Itm))=>bnd (chkI (s5.1 - 1)) fun n22=>bnd (quoT n22 2) fun n25=>bnd (if n25=s5.1 then (some true) else (bnd (BW s5.2.l s5.1 n25) fun q42=>if q42=true then some false else some true):Option Bool) fun y28=>if y28=true then (some (.brk (s5.1,s5.2))) else (bnd (BX s5.2.l n25 s5.1) fun q73=>some (.next (n25,(⟨q73⟩:BxR 98 96 Itm))))) (x1,x0)) fun res3=>fin res3 fun (s90:Int×(BxR 98 96 Itm))=>some s90.2
theorem GT {w:World} {O:Lab} {p0 i0:Nat} {x0:BxR 98 96 Itm} (hx0:Ob i0 w O (.pointer (some ⟨p0,0,none⟩)) x0) {x1:Int} (rx1:inI64 x1) {r:(BxR 98 96 Itm)} (hm:CK x0 x1=some r) :
    Fn Try.prog 68 [(.iface 94 (.pointer (some ⟨p0,0,none⟩))),(.int .i64 x1)] w fun v w'=>∃ O',St (eT i0) w O w' O'∧Ob i0 w' O' (.pointer (some ⟨p0,0,none⟩)) r:=by
 obtain ⟨O0,hE,hz0,hl2⟩:=ent1 (w:=w) (O:=O) hx0.2
 have hx0':=Ob.leave hx0 hz0 hl2 (j:=2) (by decide)
 have hB:Bm w O0 w O0:=Bm.refl
 refine AK Try.func68 rfl Try.ntmps68 rfl ?_
 unfold CK at hm
 obtain ⟨res3,hL4,hm⟩:=bs hm
 refine AL (aft res3 (fun (s5:Int×(BxR 98 96 Itm)) (x6:Unit)=>[]) (fun s5 x6 w'=>∃ O':Lab,Bm w O0 w' O'∧Ob 2 w' O' (.pointer (some ⟨p0,0,none⟩)) s5.2∧inI64 s5.1)) ?_ ?_
 ·
  refine Al (DZ (σ:=Int×(BxR 98 96 Itm)) (X:=Unit) hL4 (fun (s5:Int×(BxR 98 96 Itm)) (x6:Unit)=>[(0,(.iface 94 (.pointer (some ⟨p0,0,none⟩)))),(1,(.int .i64 s5.1))]) _ (fun s5 x6 w'=>∃ O':Lab,Bm w O0 w' O'∧Ob 2 w' O' (.pointer (some ⟨p0,0,none⟩)) s5.2∧inI64 s5.1) _ () ⟨O0,hB,hx0',rx1⟩ ⟨rfl,rfl,trivial⟩ ?_)
  rintro s5 x6 w9 cc11 ⟨O10,hB,h21,r20⟩ hf13 hret14 hbrk15
  refine Al (Ah (Ae (o_mv rfl rfl ?_)))
  obtain ⟨n22,e23,hf13⟩:=bs hf13
  have r24:=(Bj e23)
  refine o_sbE (he:=e23) rfl rfl rfl ?_
  obtain ⟨n25,e26,hf13⟩:=bs hf13
  have r27:=Kb e26 r24
  refine o_qtE (he:=e26) (hr:=r24) rfl rfl rfl ?_
  refine o_as rfl rfl (o_z ?_)
  refine Ah (Ah ?_)
  obtain ⟨y28,hy29,hf13⟩:=bs hf13
  refine AL (fun l' w'=>∃ (x31:Unit) (O':Lab),subs l' [(0,(.iface 94 (.pointer (some ⟨p0,0,none⟩)))),(1,(.int .i64 s5.1)),(4,(.int .i64 n25)),(17,(.bool y28))]∧Bm w O0 w' O'∧Ob 2 w' O' (.pointer (some ⟨p0,0,none⟩)) s5.2) ?_ ?_
  ·
   refine Ae (o_mv rfl rfl (o_mv rfl rfl (o_eeS rfl rfl rfl (fun c32=>?_) fun c32=>?_)))
   ·
    replace hy29:=ip hy29 c32
    refine o_mv rfl rfl (AD rfl rfl rfl rfl (AD rfl rfl rfl rfl (AD rfl rfl rfl rfl (AD rfl rfl rfl rfl (AD rfl rfl rfl rfl (o_pt rfl rfl rfl (o_z ?_)))))))
    obtain rfl:=sm hy29
    exact ⟨(),_,⟨rfl,rfl,rfl,rfl,trivial⟩,hB,h21⟩
   ·
    replace hy29:=im hy29 c32
    refine o_mv rfl rfl (AE rfl rfl (o_mv rfl rfl (AE rfl rfl (o_mv rfl rfl (AE rfl rfl (o_mv rfl rfl (AE rfl rfl ?_)))))))
    obtain ⟨O33,v37,S34,ha36,h35,h38⟩:=BxR.opn h21 2 3 (by decide)
    obtain ⟨A39,c40,rfl⟩:=h38.form
    obtain ⟨q42,e43,hy29⟩:=bs hy29
    refine Hq (O:=O33) (A:=All w9) (R:=fun w' F v=>Vb w' F v q42) (DA (fun _ h=>h) (h38).all r20 r27 e43) (Et (Blk.cell (i:=0) h35.1 rfl)) rfl rfl rfl fun v48 w44 O45 S46 h47=>?_
    obtain rfl:=h47.bool
    cases q42
    case false =>
     replace hy29:=iF hy29
     refine AE rfl rfl (o_nf rfl rfl (o_pf rfl rfl rfl (o_z ?_)))
     replace h35:=h35.st S46
     replace h38:=h38.st S46
     obtain ⟨O49,S50,hz52,ha53,h51⟩:=BxR.shut (x:=s5.2) (l0:=2) (l1:=3) (by decide) h35 h38
     obtain rfl:=sm hy29
     replace hB:=((hB.st S34).st S46).st S50
     exact ⟨(),_,⟨rfl,rfl,rfl,rfl,trivial⟩,hB,h51⟩
    replace hy29:=iT hy29
    refine AE rfl rfl (o_nt rfl rfl (o_pf rfl rfl rfl (o_z ?_)))
    replace h35:=h35.st S46
    replace h38:=h38.st S46
    obtain ⟨O54,S55,hz57,ha58,h56⟩:=BxR.shut (x:=s5.2) (l0:=2) (l1:=3) (by decide) h35 h38
    obtain rfl:=sm hy29
    replace hB:=((hB.st S34).st S46).st S55
    exact ⟨(),_,⟨rfl,rfl,rfl,rfl,trivial⟩,hB,h56⟩
  rintro l59 w60 ⟨x31,O61,hs62,hB,h21⟩
  refine AP _ hs62 ?_
  refine Cb rfl (fun c63=>?_) (fun c63=>?_)
  ·
   replace hf13:=ip hf13 c63
   refine At ?_
   obtain rfl:=sm hf13
   refine (?_:Exists _)
   exact ⟨_,(),hbrk15 _ rfl,trivial,_,hB,h21,r20⟩
  ·
   replace hf13:=im' hf13 c63
   refine Am (Ah (Ae (o_mv rfl rfl (o_mv rfl rfl (o_mv rfl rfl ?_)))))
   obtain ⟨O64,v68,S65,ha67,h66,h69⟩:=BxR.opn h21 2 3 (by decide)
   obtain ⟨A70,c71,rfl⟩:=h69.form
   obtain ⟨q73,e74,hf13⟩:=bs hf13
   refine Hp (O:=O64) (DB h69 r27 r20 e74) (Et (Blk.cell (i:=0) h66.1 rfl)) rfl rfl rfl fun v79 w75 O76 S77 h80=>?_
   refine o_z ?_
   refine Ae (o_mv rfl rfl (o_as rfl rfl (o_z ?_)))
   replace h66:=h66.st S77
   obtain ⟨O81,S82,hz84,ha85,h83⟩:=BxR.shut (x:=(⟨q73⟩:BxR 98 96 Itm)) (l0:=2) (l1:=3) (by decide) (by have q:=h66;rw [← h80.len.1.symm] at q;exact q) h80.relen
   obtain rfl:=sm hf13
   refine (?_:Exists _)
   replace hB:=((hB.st S65).st S77).st S82
   exact ⟨_,(),rfl,⟨rfl,rfl,trivial⟩,_,hB,h83,r27⟩
 rintro l86 w87 ⟨s90,x91,rfl,hs89,O88,hB,h21,r20⟩
 replace hm:=AY hm
 obtain rfl:=sm hm
 obtain ⟨O',hS',hz,hl⟩:=hE.leave (fun q=>if q=2 then i0 else 0) rfl hB
 exact ret0n rfl  ⟨O',hS',(Ob.leave h21 hz (hl 2 (by decide) (by decide)) hx0.2)⟩
noncomputable def Ct (x0:BxR 98 96 Itm) (x1:Int) (x2:Int):Option (Bool×(BxR 98 96 Itm)) :=
  bnd (lop (ρ:=Bool×(BxR 98 96 Itm)) (fun (s6:Int×(BxR 98 96 Itm))=>bnd (chkI (2 * s6.1)) fun n23=>bnd (chkI (n23 + 1)) fun n26=>bnd (if x2≤n26 then (some true) else (if n26 < 0 then (some true) else (some false)):Option Bool) fun y29=>if y29=true then (some (.brk (s6.1,s6.2))) else (bnd (bnd (chkI (n26 + 1)) fun n45=>bnd (if n45 < x2 then (bnd (BW s6.2.l n45 n26) fun q62=>if q62=true then some true else some false) else (some false):Option Bool) fun y48=>if y48=true then (some n45) else (some n26):Option Int) fun y40=>bnd (BW s6.2.l y40 s6.1) fun q97=>if q97=true then bnd (BX s6.2.l s6.1 y40) fun q109=>some (.next (y40,(⟨q109⟩:BxR 98 96 Itm))) else some (.brk (s6.1,s6.2)))) (x1,x0)) fun res4=>fin res4 fun (s126:Int×(BxR 98 96 Itm))=>bnd (if x1 < s126.1 then (some true) else (some false):Option Bool) fun y128=>some (y128,s126.2)
theorem Gi {w:World} {O:Lab} {p0 i0:Nat} {x0:BxR 98 96 Itm} (hx0:Ob i0 w O (.pointer (some ⟨p0,0,none⟩)) x0) {x1:Int} (rx1:inI64 x1) {x2:Int} (rx2:inI64 x2) {r:Bool×(BxR 98 96 Itm)} (hm:Ct x0 x1 x2=some r) :
    Fn Try.prog 67 [(.iface 94 (.pointer (some ⟨p0,0,none⟩))),(.int .i64 x1),(.int .i64 x2)] w fun v w'=>∃ O',St (eT i0) w O w' O'∧Ob i0 w' O' (.pointer (some ⟨p0,0,none⟩)) r.2∧Vb w' (Fr 0 w' O') v r.1:=by
 obtain ⟨O0,hE,hz0,hl2⟩:=ent1 (w:=w) (O:=O) hx0.2
 have hx0':=Ob.leave hx0 hz0 hl2 (j:=2) (by decide)
 have hB:Bm w O0 w O0:=Bm.refl
 refine AK Try.func67 rfl Try.ntmps67 rfl ?_
 unfold Ct at hm
 refine Ah (Ae (o_as rfl rfl (o_z ?_)))
 refine Ah (Ae (o_mv rfl rfl (o_as rfl rfl (o_z ?_))))
 refine Ah ?_
 obtain ⟨res4,hL5,hm⟩:=bs hm
 refine AL (aft res4 (fun (s6:Int×(BxR 98 96 Itm)) (x7:Unit)=>[(1,(.int .i64 x1)),(7,(.int .i64 s6.1))]) (fun s6 x7 w'=>∃ O':Lab,Bm w O0 w' O'∧Ob 2 w' O' (.pointer (some ⟨p0,0,none⟩)) s6.2∧inI64 s6.1)) ?_ ?_
 ·
  refine Al (DZ (σ:=Int×(BxR 98 96 Itm)) (X:=Unit) hL5 (fun (s6:Int×(BxR 98 96 Itm)) (x7:Unit)=>[(0,(.iface 94 (.pointer (some ⟨p0,0,none⟩)))),(1,(.int .i64 x1)),(2,(.int .i64 x2)),(7,(.int .i64 s6.1))]) _ (fun s6 x7 w'=>∃ O':Lab,Bm w O0 w' O'∧Ob 2 w' O' (.pointer (some ⟨p0,0,none⟩)) s6.2∧inI64 s6.1) _ () ⟨O0,hB,hx0',rx1⟩ ⟨rfl,rfl,rfl,rfl,trivial⟩ ?_)
  rintro s6 x7 w10 cc12 ⟨O11,hB,h22,r21⟩ hf14 hret15 hbrk16
  refine Al (Ah (Ae (o_mv rfl rfl ?_)))
  obtain ⟨n23,e24,hf14⟩:=bs hf14
  have r25:=(Bj e24)
  refine o_mlE (he:=e24) rfl rfl rfl ?_
  obtain ⟨n26,e27,hf14⟩:=bs hf14
  have r28:=(Bj e27)
  refine o_adE (he:=e27) rfl rfl rfl ?_
  refine o_as rfl rfl (o_z ?_)
  refine Ah (Ah ?_)
  obtain ⟨y29,hy30,hf14⟩:=bs hf14
  refine AL (fun l' w'=>∃ (x32:Unit) (O':Lab),subs l' [(0,(.iface 94 (.pointer (some ⟨p0,0,none⟩)))),(1,(.int .i64 x1)),(2,(.int .i64 x2)),(7,(.int .i64 s6.1)),(8,(.int .i64 n26)),(21,(.bool y29))]∧Bm w O0 w' O'∧Ob 2 w' O' (.pointer (some ⟨p0,0,none⟩)) s6.2) ?_ ?_
  ·
   refine Ae (o_mv rfl rfl (o_mv rfl rfl (o_geS rfl rfl rfl (fun c33=>?_) fun c33=>?_)))
   ·
    replace hy30:=ip hy30 c33
    refine o_mv rfl rfl (AD rfl rfl rfl rfl (AD rfl rfl rfl rfl (o_pt rfl rfl rfl (o_z ?_))))
    obtain rfl:=sm hy30
    exact ⟨(),_,⟨rfl,rfl,rfl,rfl,rfl,rfl,trivial⟩,hB,h22⟩
   ·
    replace hy30:=im hy30 c33
    refine o_mv rfl rfl (AE rfl rfl (o_mv rfl rfl (AE rfl rfl (o_ltS rfl rfl rfl (fun c34=>?_) fun c34=>?_))))
    ·
     replace hy30:=ip hy30 c34
     refine o_pf rfl rfl rfl (o_z ?_)
     obtain rfl:=sm hy30
     exact ⟨(),_,⟨rfl,rfl,rfl,rfl,rfl,rfl,trivial⟩,hB,h22⟩
    ·
     replace hy30:=im hy30 c34
     refine o_pf rfl rfl rfl (o_z ?_)
     obtain rfl:=sm hy30
     exact ⟨(),_,⟨rfl,rfl,rfl,rfl,rfl,rfl,trivial⟩,hB,h22⟩
  rintro l35 w36 ⟨x32,O37,hs38,hB,h22⟩
  refine AP _ hs38 ?_
  refine Cb rfl (fun c39=>?_) (fun c39=>?_)
  ·
   replace hf14:=ip hf14 c39
   refine At ?_
   obtain rfl:=sm hf14
   refine (?_:Exists _)
   exact ⟨_,(),hbrk16 _ rfl,⟨rfl,rfl,trivial⟩,_,hB,h22,r21⟩
  ·
   replace hf14:=im' hf14 c39
   refine Am (Ah (Ae (o_mv rfl rfl (o_as rfl rfl (o_z ?_)))))
   refine Ah ?_
   obtain ⟨y40,hy41,hf14⟩:=bs hf14
   refine AL (fun l' w'=>∃ (x43:Unit) (O':Lab),subs l' [(0,(.iface 94 (.pointer (some ⟨p0,0,none⟩)))),(1,(.int .i64 x1)),(2,(.int .i64 x2)),(7,(.int .i64 s6.1)),(9,(.int .i64 y40))]∧Bm w O0 w' O'∧Ob 2 w' O' (.pointer (some ⟨p0,0,none⟩)) s6.2∧inI64 y40) ?_ ?_
   ·
    refine Ah (Ae (o_mv rfl rfl ?_))
    obtain ⟨n45,e46,hy41⟩:=bs hy41
    have r47:=(Bj e46)
    refine o_adE (he:=e46) rfl rfl rfl ?_
    refine o_as rfl rfl (o_z ?_)
    refine Ah ?_
    obtain ⟨y48,hy49,hy41⟩:=bs hy41
    refine AL (fun l' w'=>∃ (x51:Unit) (O':Lab),subs l' [(0,(.iface 94 (.pointer (some ⟨p0,0,none⟩)))),(1,(.int .i64 x1)),(2,(.int .i64 x2)),(7,(.int .i64 s6.1)),(9,(.int .i64 n26)),(10,(.int .i64 n45)),(33,(.bool y48))]∧Bm w O0 w' O'∧Ob 2 w' O' (.pointer (some ⟨p0,0,none⟩)) s6.2) ?_ ?_
    ·
     refine Ae (o_mv rfl rfl (o_mv rfl rfl (o_ltS rfl rfl rfl (fun c52=>?_) fun c52=>?_)))
     ·
      replace hy49:=ip hy49 c52
      refine o_mv rfl rfl (AE rfl rfl (o_mv rfl rfl (AE rfl rfl (o_mv rfl rfl (AE rfl rfl (o_mv rfl rfl (AE rfl rfl ?_)))))))
      obtain ⟨O53,v57,S54,ha56,h55,h58⟩:=BxR.opn h22 2 3 (by decide)
      obtain ⟨A59,c60,rfl⟩:=h58.form
      obtain ⟨q62,e63,hy49⟩:=bs hy49
      refine Hq (O:=O53) (A:=All w36) (R:=fun w' F v=>Vb w' F v q62) (DA (fun _ h=>h) (h58).all r47 r28 e63) (Et (Blk.cell (i:=0) h55.1 rfl)) rfl rfl rfl fun v68 w64 O65 S66 h67=>?_
      obtain rfl:=h67.bool
      cases q62
      case false =>
       replace hy49:=iF hy49
       refine o_pt rfl rfl rfl (o_z ?_)
       replace h55:=h55.st S66
       replace h58:=h58.st S66
       obtain ⟨O69,S70,hz72,ha73,h71⟩:=BxR.shut (x:=s6.2) (l0:=2) (l1:=3) (by decide) h55 h58
       obtain rfl:=sm hy49
       replace hB:=((hB.st S54).st S66).st S70
       exact ⟨(),_,⟨rfl,rfl,rfl,rfl,rfl,rfl,rfl,trivial⟩,hB,h71⟩
      replace hy49:=iT hy49
      refine o_pt rfl rfl rfl (o_z ?_)
      replace h55:=h55.st S66
      replace h58:=h58.st S66
      obtain ⟨O74,S75,hz77,ha78,h76⟩:=BxR.shut (x:=s6.2) (l0:=2) (l1:=3) (by decide) h55 h58
      obtain rfl:=sm hy49
      replace hB:=((hB.st S54).st S66).st S75
      exact ⟨(),_,⟨rfl,rfl,rfl,rfl,rfl,rfl,rfl,trivial⟩,hB,h76⟩
     ·
      replace hy49:=im hy49 c52
      refine o_mv rfl rfl (AD rfl rfl rfl rfl (AD rfl rfl rfl rfl (AD rfl rfl rfl rfl (AD rfl rfl rfl rfl (o_pf rfl rfl rfl (o_z ?_))))))
      obtain rfl:=sm hy49
      exact ⟨(),_,⟨rfl,rfl,rfl,rfl,rfl,rfl,rfl,trivial⟩,hB,h22⟩
    rintro l79 w80 ⟨x51,O81,hs82,hB,h67⟩
    refine AP _ hs82 ?_
    refine Cb rfl (fun c83=>?_) (fun c83=>?_)
    ·
     replace hy41:=ip hy41 c83
     refine Ae (o_mv rfl rfl (o_as rfl rfl (o_z ?_)))
     obtain rfl:=sm hy41
     exact ⟨(),_,⟨rfl,rfl,rfl,rfl,rfl,trivial⟩,hB,h67,r47⟩
    ·
     replace hy41:=im' hy41 c83
     refine Am ?_
     obtain rfl:=sm hy41
     exact ⟨(),_,⟨rfl,rfl,rfl,rfl,rfl,trivial⟩,hB,h67,r28⟩
   rintro l84 w85 ⟨x43,O86,hs87,hB,h62,r44⟩
   refine AP _ hs87 ?_
   refine Ah (Ah (Ae (o_mv rfl rfl (o_mv rfl rfl (o_mv rfl rfl ?_)))))
   obtain ⟨O88,v92,S89,ha91,h90,h93⟩:=BxR.opn h62 2 3 (by decide)
   obtain ⟨A94,c95,rfl⟩:=h93.form
   obtain ⟨q97,e98,hf14⟩:=bs hf14
   refine Hq (O:=O88) (A:=All w85) (R:=fun w' F v=>Vb w' F v q97) (DA (fun _ h=>h) (h93).all r44 r21 e98) (Et (Blk.cell (i:=0) h90.1 rfl)) rfl rfl rfl fun v103 w99 O100 S101 h102=>?_
   obtain rfl:=h102.bool
   cases q97
   case false =>
    replace hf14:=iF hf14
    refine o_nf rfl rfl (o_z ?_)
    refine Ar rfl (At ?_)
    replace h90:=h90.st S101
    replace h93:=h93.st S101
    obtain ⟨O104,S105,hz107,ha108,h106⟩:=BxR.shut (x:=s6.2) (l0:=2) (l1:=3) (by decide) h90 h93
    obtain rfl:=sm hf14
    refine (?_:Exists _)
    replace hB:=((hB.st S89).st S101).st S105
    exact ⟨_,(),hbrk16 _ rfl,⟨rfl,rfl,trivial⟩,_,hB,h106,r21⟩
   replace hf14:=iT hf14
   refine o_nt rfl rfl (o_z ?_)
   refine Aj rfl (Am (Ah (Ae (o_mv rfl rfl (o_mv rfl rfl (o_mv rfl rfl ?_))))))
   obtain ⟨q109,e110,hf14⟩:=bs hf14
   replace h90:=h90.st S101
   replace h93:=h93.st S101
   refine Hp (O:=O100) (DB h93 r21 r44 e110) (Et (Blk.cell (i:=0) h90.1 rfl)) rfl rfl rfl fun v115 w111 O112 S113 h116=>?_
   refine o_z ?_
   refine Ae (o_mv rfl rfl (o_as rfl rfl (o_z ?_)))
   replace h90:=h90.st S113
   obtain ⟨O117,S118,hz120,ha121,h119⟩:=BxR.shut (x:=(⟨q109⟩:BxR 98 96 Itm)) (l0:=2) (l1:=3) (by decide) (by have q:=h90;rw [← h116.len.1.symm] at q;exact q) h116.relen
   obtain rfl:=sm hf14
   refine (?_:Exists _)
   replace hB:=(((hB.st S89).st S101).st S113).st S118
   exact ⟨_,(),rfl,⟨rfl,rfl,rfl,rfl,trivial⟩,_,hB,h119,r44⟩
 rintro l122 w123 ⟨s126,x127,rfl,hs125,O124,hB,h22,r21⟩
 replace hm:=AY hm
 refine AP _ hs125 ?_
 refine Ah ?_
 obtain ⟨y128,hy129,hm⟩:=bs hm
 refine AL (fun l' w'=>∃ (x131:Unit) (O':Lab),subs l' [(6,(.bool y128))]∧Bm w O0 w' O'∧Ob 2 w' O' (.pointer (some ⟨p0,0,none⟩)) s126.2) ?_ ?_
 ·
  refine Ae (o_mv rfl rfl (o_mv rfl rfl (o_gtS rfl rfl rfl (fun c132=>?_) fun c132=>?_)))
  ·
   replace hy129:=ip hy129 c132
   refine o_as rfl rfl (o_z ?_)
   obtain rfl:=sm hy129
   exact ⟨(),_,⟨rfl,trivial⟩,hB,h22⟩
  ·
   replace hy129:=im hy129 c132
   refine o_as rfl rfl (o_z ?_)
   obtain rfl:=sm hy129
   exact ⟨(),_,⟨rfl,trivial⟩,hB,h22⟩
 rintro l133 w134 ⟨x131,O135,hs136,hB,h22⟩
 refine AP _ hs136 ?_
 refine Au ?_
 obtain rfl:=sm hm
 obtain ⟨O',hS',hz,hl⟩:=hE.leave (fun q=>if q=2 then i0 else 0) rfl hB
 exact ret1v rfl (AG rfl) ⟨O',hS',(Ob.leave h22 hz (hl 2 (by decide) (by decide)) hx0.2),vBool⟩
noncomputable def Cu (x0:BxR 98 96 Itm) (x1:An 96 Itm):Option (BxR 98 96 Itm) :=
  bnd (Cz x0 (⟨x1.x⟩:An 96 Itm)) fun q9=>bnd (Cc q9.l) fun q26=>bnd (chkI (q26 - 1)) fun n34=>bnd (CK q9 n34) fun q42=>some q42
theorem Gj {w:World} {O:Lab} {p0 i0:Nat} {x0:BxR 98 96 Itm} (hx0:Ob i0 w O (.pointer (some ⟨p0,0,none⟩)) x0) {vx1:Value} {x1:An 96 Itm} (hx1:Vb w (Fr 0 w O) vx1 x1) {r:(BxR 98 96 Itm)} (hm:Cu x0 x1=some r) :
    Fn Try.prog 49 [(.iface 94 (.pointer (some ⟨p0,0,none⟩))),vx1] w fun v w'=>∃ O',St (eT i0) w O w' O'∧Ob i0 w' O' (.pointer (some ⟨p0,0,none⟩)) r:=by
 obtain ⟨O0,hE,hz0,hl2⟩:=ent1 (w:=w) (O:=O) hx0.2
 have hx0':=Ob.leave hx0 hz0 hl2 (j:=2) (by decide)
 have hB:Bm w O0 w O0:=Bm.refl
 replace hx1:=hx1.mono hz0
 obtain ⟨v3,rfl,h4⟩:=hx1.any
 obtain ⟨cs5,rfl,rfl,r6,r7,r8⟩:=h4
 refine AK Try.func49 rfl Try.ntmps49 rfl ?_
 unfold Cu at hm
 refine Ah (Ae (o_mv rfl rfl (o_mv rfl rfl ?_)))
 obtain ⟨q9,e10,hm⟩:=bs hm
 refine Hp (O:=O0) (GB hx0' (vAny (Vb.ofAgg (cs:=[(.int .i64 x1.x.cost),(.int .i64 x1.x.order),(.int .i64 x1.x.id)]) (x:=x1.x) rfl ⟨rfl,r6,r7,r8⟩)) e10) JZ rfl rfl rfl fun v15 w11 O12 S13 h16=>?_
 refine o_z ?_
 refine Ae (o_mv rfl rfl (o_mv rfl rfl ?_))
 obtain ⟨O17,v21,S18,ha20,h19,h22⟩:=BxR.opn h16 2 3 (by decide)
 obtain ⟨A23,c24,rfl⟩:=h22.form
 obtain ⟨q26,e27,hm⟩:=bs hm
 refine Hq (O:=O17) (A:=All w11) (R:=fun w' F v=>Vb w' F v q26) (DM (fun _ h=>h) (h22).all e27) (Et (Blk.cell (i:=0) h19.1 rfl)) rfl rfl rfl fun v32 w28 O29 S30 h31=>?_
 obtain ⟨rfl,r33⟩:=h31.int
 obtain ⟨n34,e35,hm⟩:=bs hm
 have r36:=(Bj e35)
 refine o_sbE (he:=e35) rfl rfl rfl ?_
 replace h19:=h19.st S30
 replace h22:=h22.st S30
 obtain ⟨O37,S38,hz40,ha41,h39⟩:=BxR.shut (x:=q9) (l0:=2) (l1:=3) (by decide) h19 h22
 obtain ⟨q42,e43,hm⟩:=bs hm
 refine Be (O:=O37) (GT h39 r36 e43) rfl rfl fun v48 w44 O45 S46 h49=>?_
 refine o_z ?_
 obtain rfl:=sm hm
 replace hB:=((((hB.st S13).st S18).st S30).st S38).st S46
 obtain ⟨O',hS',hz,hl⟩:=hE.leave (fun q=>if q=2 then i0 else 0) rfl hB
 exact ret0n rfl  ⟨O',hS',(Ob.leave h49 hz (hl 2 (by decide) (by decide)) hx0.2)⟩
noncomputable def CA (x0:BxR 98 96 Itm):Option ((An 96 Itm)×(BxR 98 96 Itm)) :=
  bnd (Cc x0.l) fun q11=>bnd (chkI (q11 - 1)) fun n19=>bnd (BX x0.l 0 n19) fun q22=>bnd (Ct (⟨q22⟩:BxR 98 96 Itm) 0 n19) fun q35=>bnd (CJ q35.2) fun q44=>some ((⟨q44.1.x⟩:An 96 Itm),q44.2)
theorem GC {w:World} {O:Lab} {p0 i0:Nat} {x0:BxR 98 96 Itm} (hx0:Ob i0 w O (.pointer (some ⟨p0,0,none⟩)) x0) {r:(An 96 Itm)×(BxR 98 96 Itm)} (hm:CA x0=some r) :
    Fn Try.prog 48 [(.iface 94 (.pointer (some ⟨p0,0,none⟩)))] w fun v w'=>∃ O',St (eT i0) w O w' O'∧Ob i0 w' O' (.pointer (some ⟨p0,0,none⟩)) r.2∧Vb w' (Fr 0 w' O') v r.1:=by
 obtain ⟨O0,hE,hz0,hl2⟩:=ent1 (w:=w) (O:=O) hx0.2
 have hx0':=Ob.leave hx0 hz0 hl2 (j:=2) (by decide)
 have hB:Bm w O0 w O0:=Bm.refl
 refine AK Try.func48 rfl Try.ntmps48 rfl ?_
 unfold CA at hm
 refine Ah (Ae (o_as rfl rfl (o_z ?_)))
 refine Ah (Ae (o_mv rfl rfl ?_))
 obtain ⟨O2,v6,S3,ha5,h4,h7⟩:=BxR.opn hx0' 2 3 (by decide)
 obtain ⟨A8,c9,rfl⟩:=h7.form
 obtain ⟨q11,e12,hm⟩:=bs hm
 refine Hq (O:=O2) (A:=All w) (R:=fun w' F v=>Vb w' F v q11) (DM (fun _ h=>h) (h7).all e12) (Et (Blk.cell (i:=0) h4.1 rfl)) rfl rfl rfl fun v17 w13 O14 S15 h16=>?_
 obtain ⟨rfl,r18⟩:=h16.int
 obtain ⟨n19,e20,hm⟩:=bs hm
 have r21:=(Bj e20)
 refine o_sbE (he:=e20) rfl rfl rfl ?_
 refine o_as rfl rfl (o_z ?_)
 refine Ah (Ae (o_mv rfl rfl (o_mv rfl rfl ?_)))
 obtain ⟨q22,e23,hm⟩:=bs hm
 replace h4:=h4.st S15
 replace h7:=h7.st S15
 refine Hp (O:=O14) (DB h7 (show inI64 (0) from by decide) r21 e23) (Et (Blk.cell (i:=0) h4.1 rfl)) rfl rfl rfl fun v28 w24 O25 S26 h29=>?_
 refine o_z ?_
 refine Ah (Ae (o_mv rfl rfl (o_mv rfl rfl ?_)))
 replace h4:=h4.st S26
 obtain ⟨O30,S31,hz33,ha34,h32⟩:=BxR.shut (x:=(⟨q22⟩:BxR 98 96 Itm)) (l0:=2) (l1:=3) (by decide) (by have q:=h4;rw [← h29.len.1.symm] at q;exact q) h29.relen
 obtain ⟨q35,e36,hm⟩:=bs hm
 refine Be (O:=O30) (Gi h32 (show inI64 (0) from by decide) r21 e36) rfl rfl fun v41 w37 O38 S39 h40=>?_
 obtain ⟨h42,h43⟩:=h40
 obtain rfl:=h43.bool
 refine o_z ?_
 refine Ah (Ae (o_mv rfl rfl ?_))
 obtain ⟨q44,e45,hm⟩:=bs hm
 refine Hp (O:=O38) (GS h42 e45) JZ rfl rfl rfl fun v50 w46 O47 S48 h49=>?_
 obtain ⟨h51,h52⟩:=h49
 obtain ⟨v53,rfl,h54⟩:=h52.any
 obtain ⟨cs55,rfl,rfl,r56,r57,r58⟩:=h54
 refine o_as rfl rfl (o_z ?_)
 refine Au ?_
 obtain rfl:=sm hm
 replace hB:=(((((hB.st S3).st S15).st S26).st S31).st S39).st S48
 obtain ⟨O',hS',hz,hl⟩:=hE.leave (fun q=>if q=2 then i0 else 0) rfl hB
 exact ret1v rfl (AG rfl) ⟨O',hS',(Ob.leave h51 hz (hl 2 (by decide) (by decide)) hx0.2),(vAny (Vb.ofAgg (cs:=[(.int .i64 q44.1.x.cost),(.int .i64 q44.1.x.order),(.int .i64 q44.1.x.id)]) (x:=q44.1.x) rfl ⟨rfl,r56,r57,r58⟩))⟩
end
end Go.Proofs.Ythomfnkaicjmbaa

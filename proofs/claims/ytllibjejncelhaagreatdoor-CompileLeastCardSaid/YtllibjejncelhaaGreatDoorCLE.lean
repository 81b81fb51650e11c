/- Own text: what the proof of compileLeast_holds uses, part 5: rules, models and their proofs, plain laws. -/
import Derived.Test.YtllibjejncelhaaGreatDoorCLD
set_option linter.unusedVariables false
set_option linter.unusedSimpArgs false
namespace Go.Proofs.YtllibjejncelhaaGreatDoor
open Go Go.RowKit Go.Proofs.Tryz
section
open Go Go.RowKit
attribute [local irreducible] ewp owp hwp hwq hws Ev Evg Fn T9 V1 U8 U4
theorem Adl {w:World} {sv:Value} {xs:List (Int)} {g:FuncId} [Callable prog g] {caps:List Value} {p:Int->Prop} (hs:V w sv xs)
    (l:∀ v x w',x∈xs->Ext w w'->V w' v x->Fn prog g ([v] ++ caps) w' λ q h=>q=.bool (bof (p x))/\Ext w' h) :
    Fn prog 155 [sv,.func (.func g) #[] caps.toArray] w λ v w'=>((∃ k:Nat,v=.int .i64 (k:Int)/\∃ x∈xs,p x)\/(v=.int .i64 (-1)/\∀ x∈xs,¬ p x))/\Ext w w':=by
  obtain ⟨A,c,rfl⟩:=hs.form;have hl:=hs.len;refine AH func155 rfl ntmps155 ?_;refine bf ?_;refine Dn xs.length (by omega) (λ _:Unit=>[(0,.slice A xs.length c),(1,.func (.func g) #[] caps.toArray)]) (λ k _ w'=>Ext w w'/\∀ i,i < k->∀ x,xs[i]?=some x->¬ p x) ()
    ⟨T0 _ _,λ i hi=>by omega⟩ ⟨rfl,rfl,rfl,rfl,trivial⟩ (λ _=>⟨rfl,rfl⟩) ⟨rfl,rfl,rfl⟩ ⟨rfl,rfl⟩ ?_ ?_
  . rintro k _ j hk ⟨d,hh⟩;obtain ⟨x,e⟩:=AL hk;obtain ⟨b,o,ce,rfl,_,_,hd1,hR⟩:=(hs.ext d).elem e;obtain ⟨v,rfl⟩:=List.length_eq_one_iff.1 (Rp.len hR);refine cu ?_;refine Lv rfl rfl rfl (l v x j (G2 e) d hR) ?_;rintro _ m ⟨rfl,hE2⟩;by_cases f:p x
    . rw [CT f];refine o_z ?_;refine aa ?_;refine al ?_;exact U2 rfl rfl ⟨.inl ⟨k,rfl,x,G2 e,f⟩,d.trans' hE2⟩
    . rw [Cc f];refine o_z ?_;refine aa ?_;exact ⟨(),⟨rfl,rfl,rfl,rfl,trivial⟩,d.trans' hE2,Gg hh λ n a=>by rw [e] at a;injection a with a;exact a ▸ f⟩
  rintro _ j ⟨d,hh⟩;refine aa ?_;refine ad ?_;refine U2 rfl rfl ⟨.inr ⟨rfl,λ x e=>?_⟩,d⟩;obtain ⟨i,hi⟩:=G6 e;exact hh i (CF hi) x hi
theorem AcX {w:World} {sv:Value} {xs:List (Int)} {g:FuncId} [Callable prog g] {caps:List Value} {p:Int->Prop} (hs:V w sv xs)
    (b:∀ v x w',x∈xs->Ext w w'->V w' v x->Fn prog g ([v] ++ caps) w' λ d a=>d=.bool (bof (p x))/\Ext w' a) :
    Fn prog 137 [sv,.func (.func g) #[] caps.toArray] w λ v w'=>v=.bool (bof (∃ x∈xs,p x))/\Ext w w':=by
  refine AH func137 rfl ntmps137 ?_;refine bw ?_;refine BG rfl (Adl hs b) ?_;rintro v c ⟨h,hE⟩;rcases h with ⟨k,rfl,h⟩|⟨rfl,h⟩
  . refine bx ?_;refine aa ?_;exact U2 rfl rfl ⟨by rw [CT h],hE⟩
  . refine bx ?_;refine aa ?_;exact U2 rfl rfl ⟨by rw [Cc (λ ⟨x,hx,hp⟩=>h x hx hp)],hE⟩
end
section
open Go Go.RowKit
attribute [local irreducible] ewp owp hwp hwq hws Ev Evg Fn T9 V1 U8 U4
def preOf (t:Tsk) (a:Int):List Fct:=match t.ops[a.toNat]? with|some o=>o.pre|none=>[]
def X8 (t:Tsk) (ops:List Int) (v:Nat):Bool:=ops.any λ a=>(factOn (preOf t a) (v:Int)).isSome
def nextF (t:Tsk) (ops:List Int):Nat->Nat->Nat
  | 0,v=>v
  | k + 1,v=>if X8 t ops v=true then v else nextF t ops k (v + 1)
def nextV (t:Tsk) (ops:List Int) (v:Nat):Nat:=nextF t ops (t.vars.length - v) v
def valB (t:Tsk) (u:Nat) (x:Nat) (a:Int):Bool:=match factOn (preOf t a) (u:Int) with|some f=>decide (f.val=(x:Int))|none=>false
def X0 (t:Tsk) (u:Nat) (a:Int):Bool:=(factOn (preOf t a) (u:Int)).isNone
def mkT (t:Tsk):Nat→List Int→Nat→Tr
  | 0,_,_=>.nil
  | fuel + 1,ops,v =>
    if ops.isEmpty then .nil
    else if nextV t ops v=t.vars.length then .leaf ops
    else .node (nextV t ops v) (t.vars[nextV t ops v]?.getD 0).toNat (λ x=>mkT t fuel (ops.filter (valB t (nextV t ops v) x)) (nextV t ops v + 1)) (mkT t fuel (ops.filter (X0 t (nextV t ops v))) (nextV t ops v + 1))
theorem MM (t:Tsk) (ops:List Int):∀ (k v:Nat),v<=nextF t ops k v/\nextF t ops k v<=v + k/\(∀ u,v<=u->u < nextF t ops k v->X8 t ops u=false)/\(nextF t ops k v < v + k->X8 t ops (nextF t ops k v)=true)
  | 0,v=>by simp [nextF];intro u b c;omega
  | k + 1,v=>by
    by_cases h:X8 t ops v=true
    . simp only [nextF,h,if_true];exact ⟨R7 _,by omega,λ u b c=>by omega,λ _=>trivial⟩
    . obtain ⟨b,c,h3,h4⟩:=MM t ops k (v + 1);simp only [nextF,h];refine ⟨by simp;omega,by simp;omega,λ u d a=>?_,λ hlt=>h4 (by simp at hlt;omega)⟩;by_cases he:u=v
      . subst he;simpa using h
      . exact h3 u (by omega) (by simpa using a)
theorem XC (t:Tsk) (ops:List Int) {v u:Nat} (a:v<=u) (e:u<=t.vars.length) (b:∀ x,v<=x->x < u->X8 t ops x=false) (c:u < t.vars.length->X8 t ops u=true):nextV t ops v=u:=by
  obtain ⟨d,g2,g3,g4⟩:=MM t ops (t.vars.length - v) v;unfold nextV;rcases L1 (nextF t ops (t.vars.length - v) v) u with h|h|h
  . have:=b _ d h;rw [g4 (by omega)] at this;cases this
  . exact h
  . have:=g3 u a h;rw [c (by omega)] at this;cases this
def Aez (t:Tsk) (ops:List Int):Prop:=∀ a∈ops,0<=a/\a < t.ops.length
def Adx (t:Tsk):Prop:=∀ (i:Nat) o,t.ops[i]?=some o->∀ (v:Nat) f,factOn o.pre (v:Int)=some f->v < t.vars.length->0<=f.val/\∃ n,t.vars[v]?=some n/\f.val < n
structure ByInv (w:World) (base gby:Nat) (vals:List Value) (rv:Value) (L:Nat->List Int) (R:List Int) (m:Nat):Prop where
  len:vals.length=m
  blk:Blk w gby 22 vals
  own:∀ (i:Nat) (u:Value),vals[i]?=some u->Own w base (λ _=>False) 3 u (L i)
  rest:Own w base (λ _=>False) 3 rv R
  apart:∀ (i j:Nat) (u u':Value),i≠j->vals[i]?=some u->vals[j]?=some u'->∀ g,u.ownBlock=some g->u'.ownBlock≠some g
  apartR:∀ (i:Nat) (u:Value),vals[i]?=some u->∀ g,u.ownBlock=some g->rv.ownBlock≠some g
theorem ByInv.ext {w w':World} {base b:Nat} {a:List Value} {rv:Value} {L:Nat->List Int} {R:List Int} {m:Nat} (h:ByInv w base b a rv L R m) (c:Ext w w'):ByInv w' base b a rv L R m :=
  ⟨h.len,h.blk.ext c,λ i u hu=>(h.own i u hu).ext c λ _ hk=>hk.elim,h.rest.ext c λ _ hk=>hk.elim,h.apart,h.apartR⟩
theorem ByInv.putRest {w w':World} {base d:Nat} {c:List Value} {rv b:Value} {L:Nat->List Int} {R e:List Int} {m:Nat} (h:ByInv w base d c rv L R m) (f:Kept w w' rv) (k:Own w' base (λ _=>False) 3 b e)
    (a:b.ownBlock=rv.ownBlock\/∃ g,b.ownBlock=some g/\w.heap.size<=g):ByInv w' base d c b L e m:=by
  refine ⟨h.len,f.blk h.blk (h.rest.blk_ne h.blk (by decide)),λ i u hu=>(h.own i u hu).kept f (λ _ hk=>hk.elim) (h.apartR i u hu),k,h.apart,λ i u hu g j he=>?_⟩;rcases a with a|⟨l,a,hge⟩
  . exact h.apartR i u hu g j (a ▸ he)
  . have:=((h.own i u hu).lt g j).2;rw [a] at he;injection he with he;omega
theorem ByInv.putVal {w w' f:World} {base l:Nat} {c:List Value} {rv u q:Value} {L:Nat→List Int} {R:List Int} {m i:Nat} {xs:List Int} (h:ByInv w base l c rv L R m) (hu:c[i]?=some u) (s:Kept w w' u) (B:Own w' base (λ _=>False) 3 q xs)
    (e:q.ownBlock=u.ownBlock\/∃ g,q.ownBlock=some g/\w.heap.size<=g) (z:Upd w' f l 22 (c.set i q)):ByInv f base l (c.set i q) rv (λ j=>if j=i then xs else L j) R m:=by
  have hi:i < c.length:=(B7.1 hu).1;have n:∀ {v:Value} {ys:List Int},Own w' base (λ _=>False) 3 v ys->Own f base (λ _=>False) 3 v ys:=λ A=>by
    have t:=A.blk_ne (s.blk h.blk ((h.own i u hu).blk_ne h.blk (by decide))) (by decide);exact A.agree (λ _ hk=>hk.elim) λ g d=>z.other g λ he=>t (he ▸ d)
  have o:∀ {y:Value} {ys:List Int},Own w base (λ _=>False) 3 y ys->(∀ g,u.ownBlock=some g->y.ownBlock≠some g)->∀ g,q.ownBlock=some g->y.ownBlock≠some g:=λ a r g d he=>by
    rcases e with e|⟨C,e,hge⟩
    . exact r g (e ▸ d) he
    . have:=(a.lt g he).2;rw [e] at d;injection d with d;omega
  refine ⟨by rw [N9];exact h.len,z.blk,λ j y a=>?_,n (h.rest.kept s (λ _ hk=>hk.elim) λ g d he=>h.apartR i u hu g he d),λ j k y x p a b g d=>?_,λ j y a g d=>?_⟩
  . by_cases hj:j=i
    . subst hj;rw [E6 hi] at a;injection a with a;subst a;rw [if_pos rfl];exact n B
    . rw [H1 (T1 hj)] at a;rw [if_neg hj];exact n ((h.own j y a).kept s (λ _ hk=>hk.elim) (h.apart j i y u hj a hu))
  . by_cases hj:j=i
    . subst hj;rw [E6 hi] at a;injection a with a;subst a;rw [H1 p] at b;exact o (h.own k x b) (h.apart j k u x p hu b) g d
    . rw [H1 (T1 hj)] at a;by_cases hk:k=i
      . subst hk;rw [E6 hi] at b;injection b with b;subst b;intro he;exact o (h.own j y a) (h.apart k j u y (T1 hj) hu a) g he d
      . rw [H1 (T1 hk)] at b;exact h.apart j k y x p a b g d
  . by_cases hj:j=i
    . subst hj;rw [E6 hi] at a;injection a with a;subst a;exact o h.rest (h.apartR j u hu) g d
    . rw [H1 (T1 hj)] at a;exact h.apartR j y a g d
instance:Rp Tr where
  isAgg:=false
  size:=1
  R w F cs T:=∃ q,cs=[.pointer q]/\TrR w F T (.pointer q)
  len:=by rintro w F cs x ⟨v,rfl,_⟩;rfl
  one:=by rintro w F cs x ⟨v,rfl,h⟩ u hu;simp at hu;subst hu;rfl
  agree:=by rintro w w' F cs x ⟨v,rfl,h⟩ ha;exact ⟨v,rfl,TrR.agree ha h⟩
  mono:=by rintro w F G cs x ⟨v,rfl,h⟩ ha;exact ⟨v,rfl,TrR.mono ha h⟩
def more (F:Nat->Prop) (w w':World):Nat->Prop:=λ k=>F k\/w.heap.size<=k/\k < w'.heap.size
theorem JP {p:Int->Bool} {l:List Int} {k:Nat} {x:Int} (h:l[k]?=some x):(l.take (k + 1)).filter p=(l.take k).filter p ++ if p x=true then [x] else []:=by
  rw [K4,h,List.filter_append];cases a:p x<;>simp [a]
theorem WC (n:Nat):(madeCells (Value.slice none 0 0).cells (n * 1)).toList=List.replicate n (.slice none 0 0):=Tc _ n rfl
theorem cz {G H:Prop} (g:H) (h:Wr0 H->G:=by intro x;refine Ks rfl rfl ?_;refine Ks rfl rfl ?_;refine bq ?_;refine AU rfl rfl ?_;refine Ks rfl rfl ?_;refine LL rfl rfl ?_;exact x.o):G:=h ⟨g⟩
theorem da {G H:Prop} (g:H) (h:Wr0 H->G:=by intro x;refine ah ?_;refine ak ?_;(refine AB rfl ?_;(first|(refine AA rfl rfl ?_;refine Aae rfl rfl rfl ?_)|refine AG rfl rfl ?_));exact x.o):G:=h ⟨g⟩
theorem cr {G H:Prop} (g:H) (h:Wr0 H->G:=by intro x;(refine AB rfl ?_;(first|(refine AA rfl rfl ?_;(first|refine Xe rfl rfl ?_|refine Xf rfl rfl ?_|refine Xg rfl rfl ?_))|refine AG rfl rfl ?_));refine cd ?_;refine h_z ?_;exact x.o):G:=h ⟨g⟩
theorem Aej (t:Tsk) (hdom:Ab3 t) (hfv:Adx t) (hvl:t.vars.length≤64):∀ (fuel:Nat) (w:World) (gv opsv:Value) (ops:List Int) (v:Nat) (F:Nat→Prop),GenB w (All w) gv t→Vb w F opsv ops→(∀ k,F k→k < w.heap.size)→Aez t ops→ops.length≤4096 →
    v<=t.vars.length->t.vars.length < fuel + v->Fn prog 106 [gv,opsv,.int .i64 (v:Int)] w λ p w'=>TrR w' (more F w w') (mkT t fuel ops v) p/\Ext w w':=by
  intro fuel
  induction fuel with
  | zero=>intro w gv opsv ops v F _ _ _ _ _ h1 h2;omega
  | succ fuel ih =>
    intro w gv opsv ops v F hg0 hops hF hin hlen hvn hfuel;obtain ⟨gb,a,b,c,d,rp,rfl,hgb,hbg,hvars,hinit,hgoal,hopsv⟩:=id hg0;obtain ⟨Av,cv,rfl⟩:=hvars.form;obtain ⟨Ax,cx,rfl⟩:=hops.form;refine AH func106 rfl ntmps106 ?_;refine aa ?_;refine GC rfl λ w1 hN1=>?_;refine GC rfl λ w2 hN2=>?_;have hE2:Ext w w2:=hN1.ext.trans' hN2.ext;have hb1:Blk w2 w.heap.size 86 [.pointer (some ⟨gb,0,none⟩)]:=hN1.blk.ext hN2.ext;have hb2:Blk w2 w1.heap.size 3 [.int .i64 (v:Int)]:=hN2.blk;have hg12:w1.heap.size≠w.heap.size:=(by rw [hN1.size];omega);have hg2w:w.heap.size<=w1.heap.size:=hN1.ext.size;have hz1:w1.heap.size=w.heap.size + 1:=hN1.size;have hz2:w2.heap.size=w1.heap.size + 1:=hN2.size;refine ac ?_;refine aa ?_;by_cases hemp:ops.length=0
    . have:ops=[]:=B0 hemp;subst this;refine af ?_<;>refine AT rfl ?_<;>(first|refine Ve rfl rfl rfl ?_|refine Vf rfl rfl rfl ?_)<;>refine o_z ?_<;>refine ad ?_;exact U2 rfl rfl ⟨rfl,hE2⟩
    have hemp':ops.isEmpty=false:=by cases ops<;>simp at *
    refine ab ?_<;>refine AT rfl ?_<;>(first|refine Ve rfl rfl rfl ?_|refine Vf rfl rfl rfl ?_)<;>refine o_z ?_;refine Aj rfl (AK ?_);refine Ue (λ l' w'=>∃ u:Nat,T7 l' [(1,.slice Ax ops.length cx),(3,.pointer (some ⟨w.heap.size,0,none⟩)),(5,.pointer (some ⟨w1.heap.size,0,none⟩))]/\Ext w w'/\Blk w' w.heap.size 86 [.pointer (some ⟨gb,0,none⟩)]/\Blk w' w1.heap.size 3 [.int .i64 (u:Int)] /\
      v<=u/\u<=t.vars.length/\(∀ x,v<=x->x < u->X8 t ops x=false)/\(u < t.vars.length->X8 t ops u=true)) ?_ ?_
    . refine aa ?_;refine HE (λ _:Nat=>[(1,.slice Ax ops.length cx),(3,.pointer (some ⟨w.heap.size,0,none⟩)),(5,.pointer (some ⟨w1.heap.size,0,none⟩))]) (λ u w'=>Ext w w'/\Blk w' w.heap.size 86 [.pointer (some ⟨gb,0,none⟩)]/\Blk w' w1.heap.size 3 [.int .i64 (u:Int)] /\
        v<=u/\u<=t.vars.length/\∀ x,v<=x->x < u->X8 t ops x=false) (λ u=>t.vars.length - u) v ⟨hE2,hb1,hb2,R7 _,hvn,λ x h1 h2=>by omega⟩ ⟨rfl,rfl,rfl,trivial⟩ ?_
      rintro u w3 ⟨hE3,hb1,hb2,hvu,hun,hno⟩;have hb3:=hbg.ext hE3;refine aa ?_;refine DI (Ext w3) [(0,true),(1,true),(2,true),(3,true),(4,true),(5,true),(6,true),(7,true),(8,true),(9,true),(10,true),(11,false),(12,true),(13,true)] rfl (T0 _ _) ?_;by_cases hlt:u < t.vars.length
      . (refine cz ?_<;>(first|refine JJ rfl rfl rfl ?_|refine JK rfl rfl rfl ?_|refine IH rfl rfl rfl (λ _=>?_) λ _=>?_)<;>refine da ?_)
        refine CW rfl ?_;refine Az rfl rfl ?_;have hV3:V w3 (.slice Ax ops.length cx) ops:=Vb.mono (Vb.agree hops (hE3.agree hF)) λ k hk=>I6 (hF k hk) hE3.size;have hex:(∃ x∈ops,(factOn (preOf t x) (u:Int)).isSome=true)↔X8 t ops u=true:=(by unfold X8;rw [M4]);refine HU rfl (AcX (g:=138) (caps:=[.pointer (some ⟨w.heap.size,0,none⟩),.pointer (some ⟨w1.heap.size,0,none⟩)]) (p:=λ op=>(factOn (preOf t op) (u:Int)).isSome=true) hV3 ?_) ?_ ?_
        . intro vx x w' hx hE' hvx;obtain ⟨hvx,_⟩:=hvx;obtain rfl:vx=.int .i64 x:=(by simpa using hvx);obtain ⟨hx0,hx1⟩:=hin x hx;obtain ⟨j,rfl⟩:=D1 hx0;obtain ⟨o,ho⟩:=AL (l:=t.ops) (k:=j) (by omega);refine (Ad2 (hg0.ext (hE3.trans' hE')) ho (hb1.ext hE') (hb2.ext hE')).mono λ r w'' ⟨hr,hE''⟩=>⟨?_,hE''⟩;rw [hr,Kp];simp [preOf,ho]
        . intro w4 hp hE4;refine DB hE4 ?_;refine cr ?_;refine aa ?_;exact ⟨u,⟨rfl,rfl,rfl,trivial⟩,hE3.trans' hE4,hb1.ext hE4,hb2.ext hE4,hvu,hun,hno,λ _=>hex.1 hp⟩
        . intro w4 hp hE4;refine DB hE4 ?_;refine cr ?_;refine aa ?_;replace hb1:=hb1.ext hE4;replace hb2:=hb2.ext hE4;refine AQ rfl ?_<;>(first|refine KR rfl ?_|refine KQ rfl rfl ?_);refine Dg rfl rfl hb2 rfl (R7 _) (by simp [Value.cells,Value.oneCell']) λ w5 hU=>?_;refine o_z ?_;refine ⟨u + 1,⟨rfl,rfl,rfl,trivial⟩,⟨(hE3.trans' hE4).trans (hU.below hg2w),hb1.keep (hU.other _ (λ h=>hg12 h.symm)),hU.blk,by omega,by omega,λ x h1 h2=>?_⟩,by omega⟩;by_cases he:x=u
          . subst he;cases hq:X8 t ops x
            . rfl
            . exact absurd (hex.2 hq) hp
          . exact hno x h1 (by omega)
      . (refine cz ?_<;>(first|refine JJ rfl rfl rfl ?_|refine JK rfl rfl rfl ?_|refine IH rfl rfl rfl (λ _=>?_) λ _=>?_)<;>refine da ?_)
        refine CW rfl ?_;refine Aw rfl rfl ?_;refine DB (T0 _ _) ?_;refine cr ?_;refine aa ?_;exact ⟨u,⟨rfl,rfl,rfl,trivial⟩,hE3,hb1,hb2,hvu,hun,hno,λ h=>absurd h hlt⟩
    rintro l' w3 ⟨u,hsub,hE3,hb1,hb2,hvu,hun,hno,hyes⟩;refine AX _ hsub ?_;clear hsub;have hnx:nextV t ops v=u:=XC t ops hvu hun hno hyes;have hb3:=hbg.ext hE3;have hV3:Vb w3 F (.slice Ax ops.length cx) ops:=Vb.agree hops (hE3.agree hF);refine aa ?_;refine DI (·=w3) [(0,true),(1,true),(2,true),(3,true),(4,true),(5,true),(6,true),(7,true)] rfl rfl ?_;by_cases hlast:u=t.vars.length
    . (refine DV rfl rfl ?_<;>refine DV rfl rfl ?_<;>refine bq ?_<;>refine ao ?_<;>refine LL rfl rfl ?_<;>(first|refine Yu rfl rfl rfl rfl ?_|refine Yv rfl rfl rfl rfl ?_|refine Yw rfl rfl rfl rfl (λ _=>?_) λ _=>?_)<;>refine h_z ?_)<;>refine aa ?_
      refine ab ?_<;>refine ai ?_;refine GC rfl λ w4 hN4=>?_;refine ac ?_;refine aa ?_;have hE4:Ext w w4:=hE3.trans' hN4.ext;have hT:mkT t (fuel + 1) ops v=.leaf ops:=(by simp only [mkT,hemp',hnx,hlast];simp);rw [hT];refine U2 rfl rfl ⟨⟨w3.heap.size,.slice Ax ops.length cx,rfl,.inr ⟨hE3.size,hN4.blk.lt⟩,hN4.blk,?_⟩,hE4⟩;exact Vb.mono (Vb.agree hV3 (hN4.ext.agree λ k hk=>I6 (hF k hk) hE3.size)) λ k hk=>.inl hk
    have hun':u < t.vars.length:=(by omega);obtain ⟨n,hn⟩:=AL hun';have hn1:=hdom u n hn;obtain ⟨m,rfl⟩:=D1 (show 0<=n by omega);have hT:mkT t (fuel + 1) ops v=.node u m (λ x=>mkT t fuel (ops.filter (valB t u x)) (u + 1)) (mkT t fuel (ops.filter (X0 t u)) (u + 1)):=by
      simp only [mkT,hemp',hnx,hlast,hn];simp
    rw [hT];clear hT hnx
    (refine DV rfl rfl ?_<;>refine DV rfl rfl ?_<;>refine bq ?_<;>refine ao ?_<;>refine LL rfl rfl ?_<;>(first|refine Yu rfl rfl rfl rfl ?_|refine Yv rfl rfl rfl rfl ?_|refine Yw rfl rfl rfl rfl (λ _=>?_) λ _=>?_)<;>refine h_z ?_)<;>refine aa ?_
    obtain ⟨bv,ov,ce,rfl,hbv,_,hdv,rfl,_⟩:=hvars.elem hn;refine DI (Ext w3) [(0,true),(1,true),(2,true),(3,true),(4,true),(5,true),(6,true),(7,true),(8,false),(9,true)] rfl (T0 _ _) ?_;have hb1s:=hb1;have hb2s:=hb2;replace hb1:∀ w',Ext w3 w'->Blk w' w.heap.size 86 [.pointer (some ⟨gb,0,none⟩)]:=λ w' h=>hb1s.ext h;replace hb2:∀ w',Ext w3 w'->Blk w' w1.heap.size 3 [.int .i64 (u:Int)]:=λ w' h=>hb2s.ext h;have hb3s:=hb3;replace hb3:∀ w',Ext w3 w'->Blk w' gb 159 [.slice (some ⟨bv,ov,none⟩) t.vars.length cv,b,c,d,.pointer rp]:=λ w' h=>hb3s.ext h;have hd1:∀ w',Ext w3 w'->cellsAt w' bv (ov + u * 1) [.int .i64 (m:Int)]:=λ w' h=>Nv hdv hbv (hE3.trans' h);refine am ?_<;>refine bq ?_<;>refine AU rfl rfl ?_<;>refine am ?_<;>refine am ?_<;>refine Nz rfl rfl rfl ?_<;>refine am ?_;refine CW rfl ?_;refine Pm rfl rfl (by omega) (by omega) rfl λ w4 hN4=>?_;refine DB hN4.ext ?_;refine Ek rfl rfl ?_<;>refine h_z ?_;have hE4:Ext w w4:=hE3.trans' hN4.ext;have hw23:w2.heap.size<=w3.heap.size:=(by have:=hb2s.lt;omega);replace hb1:=hb1s.ext hN4.ext;replace hb2:=hb2s.ext hN4.ext;clear hb3 hd1;refine aa ?_;refine bf ?_;have hby0:ByInv w4 w2.heap.size w3.heap.size (List.replicate m (.slice none 0 0)) (.slice none 0 0) (λ i=>((ops.take 0).filter (valB t u i))) ((ops.take 0).filter (X0 t u)) m:=by
      have hget:∀ (i:Nat) (x:Value),(List.replicate m (Value.slice none 0 0))[i]?=some x->x=.slice none 0 0:=λ i x h=>by
        rw [D4] at h;split at h<;>simp at h;exact h.symm
      refine ⟨by simp,by have:=hN4.blk;rwa [WC] at this,λ i x h=>?_,by simpa using Own.nil _ _ _ _,λ i j x y _ hx _ g hg=>?_,λ i x hx g hg=>?_⟩
      . rw [hget i x h];simpa using Own.nil _ _ _ _
      . rw [hget i x hx] at hg;simp [Value.ownBlock] at hg
      . rw [hget i x hx] at hg;simp [Value.ownBlock] at hg
    refine Dn ops.length (by omega) (λ x:List Value×Value=>[(1,.slice Ax ops.length cx),(3,.pointer (some ⟨w.heap.size,0,none⟩)),(5,.pointer (some ⟨w1.heap.size,0,none⟩)),(7,.slice (some ⟨w3.heap.size,0,none⟩) m m),(8,x.2),(55,.slice Ax ops.length cx)])
      (λ k x w'=>Ext w w'/\Blk w' w.heap.size 86 [.pointer (some ⟨gb,0,none⟩)]/\Blk w' w1.heap.size 3 [.int .i64 (u:Int)]/\ByInv w' w2.heap.size w3.heap.size x.1 x.2 (λ i=>((ops.take k).filter (valB t u i))) ((ops.take k).filter (X0 t u)) m) (List.replicate m (.slice none 0 0),.slice none 0 0)
      ⟨hE4,hb1,hb2,hby0⟩ ⟨rfl,rfl,rfl,rfl,rfl,rfl,rfl,rfl,trivial⟩ (λ _=>⟨rfl,rfl⟩) ⟨rfl,rfl,rfl⟩ ⟨rfl,rfl⟩ ?_ ?_
    . rintro k ⟨vals,rv⟩ w5 hk ⟨hE5,hb1,hb2,hby⟩;dsimp only at hby;obtain ⟨x,hx⟩:=AL hk;obtain ⟨hx0,hx1⟩:=hin x (G2 hx);obtain ⟨j,rfl⟩:=D1 hx0;obtain ⟨o,ho⟩:=AL (l:=t.ops) (k:=j) (by omega);have hpre:preOf t (j:Int)=o.pre:=(by simp [preOf,ho]);obtain ⟨b2,o2,ce,rfl,hbF,_,hd0,rfl,hxin⟩:=hops.elem hx;have hd1:=Nv hd0 (hF _ hbF) hE5;refine bp ?_<;>refine AQ rfl ?_<;>refine ab ?_<;>refine AQ rfl ?_<;>refine aa ?_;refine BG rfl (AdA (hg0.ext hE5) ho) ?_;rintro _ w6 ⟨rfl,hE6⟩;replace hb1:=hb1.ext hE6;replace hb2:=hb2.ext hE6;replace hby:=hby.ext hE6;have hE06:Ext w w6:=hE5.trans' hE6;have hkl:((ops.take k).filter (X0 t u)).length<=4096:=R2 (F6 _ _) (by rw [M3];omega);cases hf:factOn o.pre (u:Int) with
      | none =>
        simp only [Ac7];refine bj ?_;refine DF rfl rfl (by simp [Value.cells,Value.oneCell']) λ w7 hN7=>?_;replace hb1:=hb1.ext hN7.ext;replace hb2:=hb2.ext hN7.ext;replace hby:=hby.ext hN7.ext;have hE7:Ext w w7:=hE06.trans' hN7.ext;refine ac ?_;refine aa ?_;refine af ?_<;>refine o_z ?_<;>refine aa ?_;refine bo ?_;have hl2:=hb2.lt;refine Sr (a:=(j:Int)) rfl rfl rfl hby.rest (λ _ h=>h.elim) (by omega) ⟨rfl,hxin⟩ (by decide) (by decide) (by omega) (by omega) ⟨rfl,rfl⟩ λ rv' w8 ho8 hK8 hat=>?_;have hB8:Below w2.heap.size w7 w8:=hby.rest.fits (R7 _) (by omega) hK8;have hby8:=hby.putRest hK8 ho8 hat;refine ac ?_;refine aa ?_;refine ⟨(vals,rv'),⟨rfl,rfl,rfl,rfl,rfl,rfl,rfl,rfl,trivial⟩,hE7.trans (hB8.mono (by omega)),hb1.keep (hB8.block _ (by omega)),hb2.keep (hB8.block _ (by omega)),?_⟩;have e1:∀ i,(ops.take (k + 1)).filter (valB t u i)=(ops.take k).filter (valB t u i):=λ i=>(by rw [JP hx];simp [valB,hpre,hf]);have e2:(ops.take (k + 1)).filter (X0 t u)=(ops.take k).filter (X0 t u) ++ [(j:Int)]:=(by rw [JP hx];simp [X0,hpre,hf]);dsimp only;rw [e2];simp only [e1];exact hby8
      | some f =>
        obtain ⟨hf0,n',hn',hf1⟩:=hfv j o ho u f hf hun';rw [hn] at hn';injection hn' with hn';subst hn';obtain ⟨x0,hj1⟩:=D1 hf0;have hx0m:x0 < m:=(by omega);obtain ⟨u0,hu0⟩:=AL (l:=vals) (k:=x0) (by rw [hby.len];exact hx0m);simp only [Ac7];refine bj ?_;refine DF rfl rfl (by simp [Value.cells,Value.oneCell']) λ w7 hN7=>?_;replace hb1:=hb1.ext hN7.ext;replace hb2:=hb2.ext hN7.ext;replace hby:=hby.ext hN7.ext;have hE7:Ext w w7:=hE06.trans' hN7.ext;have hbf:=hN7.blk;refine ac ?_;refine aa ?_;refine af ?_<;>refine o_z ?_<;>refine aa ?_;have hl2:=hb2.lt;have hown0:=hby.own x0 u0 hu0;have hkl0:((ops.take k).filter (valB t u x0)).length<=4096:=R2 (F6 _ _) (by rw [M3];omega);refine DI (λ w'=>Blk w' w6.heap.size 61 [.int .i64 f.var,.int .i64 f.val]/\Blk w' w3.heap.size 22 vals) [(0,true),(1,true),(2,true),(3,true),(4,true),(5,true),(6,true),(7,true),(8,true),(9,false),(10,false),(11,true),(12,false)] rfl ⟨hbf,hby.blk⟩ ?_;have hb1s:=hb1;have hb2s:=hb2;clear hb2;replace hb1:∀ w',(Blk w' w6.heap.size 61 [.int .i64 f.var,.int .i64 f.val]/\Blk w' w3.heap.size 22 vals)->Blk w' w6.heap.size 61 [.int .i64 f.var,.int .i64 f.val]:=λ _ h=>h.1;have hc1:∀ w',(Blk w' w6.heap.size 61 [.int .i64 f.var,.int .i64 f.val]/\Blk w' w3.heap.size 22 vals)->w'.cell? ⟨w3.heap.size,0 + x0 * 1,none⟩=some u0:=λ _ h=>h.2.cell (by rw [R0,S5];exact hu0);refine ah ?_<;>refine AU rfl rfl ?_<;>refine am ?_<;>refine ah ?_<;>refine AU rfl rfl ?_<;>refine am ?_<;>refine Nz rfl rfl rfl ?_<;>refine am ?_<;>refine ah ?_;refine CW rfl ?_;refine GF rfl rfl rfl (by simp [Value.cells]) rfl λ w8 hN8=>?_;refine DB ⟨hbf.ext hN8.ext,hby.blk.ext hN8.ext⟩ ?_;refine CW rfl ?_;refine Ih (α:=Int) (A:=some ⟨w7.heap.size,0,none⟩) (c:=1) (ys:=[(j:Int)]) (cells:=[.int .i64 (j:Int)]) rfl rfl (hown0.ext hN8.ext λ _ h=>h.elim) (λ _ h=>h.elim) (by have:=hN8.size;omega) (.single ⟨rfl,hxin⟩) (λ _=>⟨_,_,rfl,hN8.blk.cellsAt⟩) (by decide) (by rw [F7];omega) (by rw [F7];omega) rfl λ v' w9 ho9 hg9 hat=>?_;have hK9:Kept w7 w9 u0:=⟨hg9.os.trans hN8.ext.os,hg9.tape.trans hN8.ext.tape,hg9.output.trans hN8.ext.output,R2 hN8.ext.size hg9.size,λ k hk hne=>by rw [hg9.block k (I6 hk hN8.ext.size) (λ he=>hne he.symm),hN8.ext.block k hk]⟩;have hbf9:=hK9.blk hbf (hown0.blk_ne hbf (by decide));have hby9:=hK9.blk hby.blk (hown0.blk_ne hby.blk (by decide));have hB9:Below w2.heap.size w7 w9:=hown0.fits (R7 _) (by omega) hK9;refine DB ⟨hbf9,hby9⟩ ?_;refine Nz rfl rfl rfl ?_;refine CW rfl ?_;obtain ⟨A9,c9,rfl⟩:=ho9.form;refine Dg (g:=w3.heap.size) (o:=0 + x0 * 1) rfl rfl hby9 rfl (by rw [hby.len];show 0 + x0 * 1 + 1<=m;omega) (by simp [Value.cells,Value.oneCell']) λ w10 hU=>?_;have hset:U1 vals (0 + x0 * 1) [.slice A9 (List.filter (valB t u x0) (List.take k ops) ++ [(j:Int)]).length c9]=vals.set x0 (.slice A9 (List.filter (valB t u x0) (List.take k ops) ++ [(j:Int)]).length c9):=(by rw [R0,S5];rfl);have hU':Upd w9 w10 w3.heap.size 22 (vals.set x0 (.slice A9 (List.filter (valB t u x0) (List.take k ops) ++ [(j:Int)]).length c9)):=hset ▸ hU;have hby10:=hby.putVal hu0 hK9 ho9 (by
          rcases hat with hat|hat
          . exact .inl hat
          . exact .inr ⟨_,hat,hN8.ext.size⟩) hU'
        have hB10:Below w2.heap.size w9 w10:=hU.below hw23;refine Jc ?_;refine h_z ?_;refine aa ?_;refine ⟨(vals.set x0 (.slice A9 (List.filter (valB t u x0) (List.take k ops) ++ [(j:Int)]).length c9),rv),⟨rfl,rfl,rfl,rfl,rfl,rfl,rfl,rfl,trivial⟩,hE7.trans ((hB9.trans hB10).mono (by omega)),hb1s.keep ((hB9.trans hB10).block _ (by omega)),hb2s.keep ((hB9.trans hB10).block _ (by omega)),?_⟩;have e1:∀ i,(ops.take (k + 1)).filter (valB t u i)=if i=x0 then (ops.take k).filter (valB t u x0) ++ [(j:Int)] else (ops.take k).filter (valB t u i):=λ i=>by
          rw [JP hx];by_cases hi:i=x0
          . subst hi;simp [valB,hpre,hf,hj1]
          . have:¬ (f.val=(i:Int)):=(by omega);simp [valB,hpre,hf,hi,this]
        have e2:(ops.take (k + 1)).filter (X0 t u)=(ops.take k).filter (X0 t u):=(by rw [JP hx];simp [X0,hpre,hf]);dsimp only;rw [e2];simp only [e1];exact hby10
    rintro ⟨vals,rv⟩ w5 ⟨hE5,hb1,hb2,hby⟩;dsimp only at hby;rw [M9] at hby;have hl2:=hb2.lt;have hb1s:=hb1;have hb2s:=hb2;have hflt:∀ p:Int->Bool,Aez t (ops.filter p)/\(ops.filter p).length<=4096:=λ p=>⟨λ x hx=>hin x (P2.1 hx).1,R2 (F6 _ _) hlen⟩;have hrv:Vb w5 (λ k=>rv.ownBlock=some k) rv (ops.filter (X0 t u)):=hby.rest.vb.mono λ k hk=>hk.resolve_left id;refine aa ?_;refine DI (Ext w5) [(0,true),(1,true),(2,true),(3,true),(4,true),(5,false),(6,true),(7,false),(8,true)] rfl (T0 _ _) ?_;refine Ks rfl rfl ?_<;>refine Ks rfl rfl ?_<;>refine ah ?_<;>refine Ks rfl rfl ?_<;>(first|refine Aad rfl rfl rfl ?_|refine Aac rfl rfl rfl rfl ?_);refine CW rfl ?_;refine BG rfl (ih w5 _ rv _ (u + 1) (λ k=>rv.ownBlock=some k) (hg0.ext hE5) hrv (λ k hk=>(hby.rest.lt k hk).2) (hflt _).1 (hflt _).2 (by omega) (by omega)) ?_;rintro p6 w6 ⟨hT6,hE6⟩;obtain ⟨q6,rfl⟩:=hT6.form;refine DB hE6 ?_;refine Dk rfl rfl rfl ?_;refine CW rfl ?_;refine GC rfl λ w7 hN7=>?_;refine DB (hE6.trans' hN7.ext) ?_;refine Ek rfl rfl ?_<;>refine h_z ?_;have hnode:Blk w7 w6.heap.size 238 [.slice none 0 0,.bool false,.int .i64 (u:Int),.slice none 0 0,.pointer q6]:=hN7.blk;have hby6:=hby.ext hE6;refine aa ?_;refine af ?_<;>refine ar ?_;refine Dn m (by omega) (λ x:Value=>[(3,.pointer (some ⟨w.heap.size,0,none⟩)),(5,.pointer (some ⟨w1.heap.size,0,none⟩)),(13,.pointer (some ⟨w6.heap.size,0,none⟩)),(94,.slice (some ⟨w3.heap.size,0,none⟩) m m)])
      (λ k x w'=>Ext w6 w'/\Blk w' w6.heap.size 238 [.slice none 0 0,.bool false,.int .i64 (u:Int),x,.pointer q6]/\∃ G:Nat->Prop,(∀ k,G k->k < w'.heap.size/\w2.heap.size<=k)/\¬ G w6.heap.size/\Own w' w7.heap.size G 157 x ((List.range k).map λ i=>mkT t fuel (ops.filter (valB t u i)) (u + 1))) (.slice none 0 0)
      ⟨hN7.ext,hnode,λ _=>False,λ _ h=>h.elim,id,Own.nil _ _ _ _⟩ ⟨rfl,rfl,rfl,rfl,rfl,rfl,trivial⟩ (λ _=>⟨rfl,rfl⟩) ⟨rfl,rfl,rfl⟩ ⟨rfl,rfl⟩ ?_ ?_
    . rintro k xv w8 hk ⟨hE8,hnd,G,hG,hGn,hown⟩;obtain ⟨u0,hu0⟩:=AL (l:=vals) (k:=k) (by rw [hby.len];exact hk);have hby8:=hby6.ext hE8;have hE58:Ext w5 w8:=hE6.trans' hE8;have hE08:Ext w w8:=hE5.trans' hE58;have hc1:w8.cell? ⟨w3.heap.size,0 + k * 1,none⟩=some u0:=hby8.blk.cell (by rw [R0,S5];exact hu0);have hown0:=hby8.own k u0 hu0;obtain ⟨Ak,ck,rfl⟩:=hown0.form;obtain ⟨Ax',cx',rfl⟩:=hown.form;have hz78:w7.heap.size<=w8.heap.size:=(by have:=hnd.lt;have:=hN7.size;omega);refine bp ?_;refine DI (λ w'=>Blk w' w6.heap.size 238 [.slice none 0 0,.bool false,.int .i64 (u:Int),.slice Ax' ((List.range k).map λ i=>mkT t fuel (ops.filter (valB t u i)) (u + 1)).length cx',.pointer q6]/\Blk w' w.heap.size 86 [.pointer (some ⟨gb,0,none⟩)]/\Blk w' w1.heap.size 3 [.int .i64 (u:Int)]) [(0,true),(1,true),(2,true),(3,true),(4,true),(5,true),(6,true),(7,true),(8,true),(9,false),(10,false),(11,false),(12,true),(13,true),(14,false)] rfl ⟨hnd,hb1s.ext hE58,hb2s.ext hE58⟩ ?_;have hS8:∀ w',Ext w8 w'->Blk w' w6.heap.size 238 [.slice none 0 0,.bool false,.int .i64 (u:Int),.slice Ax' ((List.range k).map λ i=>mkT t fuel (ops.filter (valB t u i)) (u + 1)).length cx',.pointer q6]/\Blk w' w.heap.size 86 [.pointer (some ⟨gb,0,none⟩)]/\Blk w' w1.heap.size 3 [.int .i64 (u:Int)]:=λ w' h=>⟨hnd.ext h,(hb1s.ext hE58).ext h,(hb2s.ext hE58).ext h⟩;clear hb1 hb2 hc1;have hb1:∀ w',(Blk w' w6.heap.size 238 [.slice none 0 0,.bool false,.int .i64 (u:Int),.slice Ax' ((List.range k).map λ i=>mkT t fuel (ops.filter (valB t u i)) (u + 1)).length cx',.pointer q6]/\Blk w' w.heap.size 86 [.pointer (some ⟨gb,0,none⟩)]/\Blk w' w1.heap.size 3 [.int .i64 (u:Int)])->Blk w' w6.heap.size 238 [.slice none 0 0,.bool false,.int .i64 (u:Int),.slice Ax' ((List.range k).map λ i=>mkT t fuel (ops.filter (valB t u i)) (u + 1)).length cx',.pointer q6]:=λ _ h=>h.1;have hb2:∀ w',(Blk w' w6.heap.size 238 [.slice none 0 0,.bool false,.int .i64 (u:Int),.slice Ax' ((List.range k).map λ i=>mkT t fuel (ops.filter (valB t u i)) (u + 1)).length cx',.pointer q6]/\Blk w' w.heap.size 86 [.pointer (some ⟨gb,0,none⟩)]/\Blk w' w1.heap.size 3 [.int .i64 (u:Int)])->Blk w' w.heap.size 86 [.pointer (some ⟨gb,0,none⟩)]:=λ _ h=>h.2.1;have hb3:∀ w',(Blk w' w6.heap.size 238 [.slice none 0 0,.bool false,.int .i64 (u:Int),.slice Ax' ((List.range k).map λ i=>mkT t fuel (ops.filter (valB t u i)) (u + 1)).length cx',.pointer q6]/\Blk w' w.heap.size 86 [.pointer (some ⟨gb,0,none⟩)]/\Blk w' w1.heap.size 3 [.int .i64 (u:Int)])->Blk w' w1.heap.size 3 [.int .i64 (u:Int)]:=λ _ h=>h.2.2;refine ah ?_<;>refine bz ?_<;>refine am ?_<;>refine ah ?_<;>refine am ?_<;>(first|refine Aad rfl rfl rfl ?_|refine Aac rfl rfl rfl rfl ?_);refine CW rfl ?_;have hu0v:Vb w8 (λ q=>(Value.slice Ak (ops.filter (valB t u k)).length ck).ownBlock=some q) (.slice Ak (ops.filter (valB t u k)).length ck) (ops.filter (valB t u k)):=hown0.vb.mono λ q hq=>hq.resolve_left id;refine BG rfl (ih w8 _ _ _ (u + 1) _ (hg0.ext hE08) hu0v (λ q hq=>(hown0.lt q hq).2) (hflt _).1 (hflt _).2 (by omega) (by omega)) ?_;rintro p9 w9 ⟨hT9,hE9⟩;obtain ⟨q9,rfl⟩:=hT9.form;refine DB (hS8 w9 hE9) ?_;refine CW rfl ?_;refine GF rfl rfl rfl (by simp [Value.cells]) rfl λ w10 hN10=>?_;have hE10:Ext w8 w10:=hE9.trans' hN10.ext;refine DB (hS8 w10 hE10) ?_;have hG':∀ q,(G q\/(Value.slice Ak (ops.filter (valB t u k)).length ck).ownBlock=some q\/w8.heap.size<=q/\q < w9.heap.size)->q < w9.heap.size/\w2.heap.size<=q:=λ q hq=>by
        have h9:=hE9.size;have h6:=hE6.size;have h7:=hN7.size;rcases hq with hq|hq|hq
        . have:=hG q hq;exact ⟨by omega,this.2⟩
        . have:=hown0.lt q hq;exact ⟨by omega,this.1⟩
        . exact ⟨hq.2,by omega⟩
      have hGx:∀ g,(Value.slice Ax' ((List.range k).map λ i=>mkT t fuel (ops.filter (valB t u i)) (u + 1)).length cx').ownBlock=some g->¬ (G g\/(Value.slice Ak (ops.filter (valB t u k)).length ck).ownBlock=some g\/w8.heap.size<=g/\g < w9.heap.size):=λ g hg h=>by
        rcases h with h|h|h
        . obtain ⟨_,_,_,h3⟩:=hown;exact h3 g hg h
        . exact hown.own_ne hown0 (by decide) g hg h
        . have:=(hown.lt g hg).2;omega
      have hownG:Own w9 w7.heap.size (λ q=>G q\/(Value.slice Ak (ops.filter (valB t u k)).length ck).ownBlock=some q\/w8.heap.size<=q/\q < w9.heap.size) 157 _ _:=(hown.ext hE9 λ q hq=>(hG q hq).1).mono (λ q hq=>.inl hq) hGx;have hch:Chunks w10 (λ q=>G q\/(Value.slice Ak (ops.filter (valB t u k)).length ck).ownBlock=some q\/w8.heap.size<=q/\q < w9.heap.size) [.pointer q9] [mkT t fuel (ops.filter (valB t u k)) (u + 1)] :=
        .single (show Rp.R w10 _ [.pointer q9] _ from ⟨q9,rfl,TrR.agree (hN10.ext.agree λ q hq=>(hG' q hq).1) (TrR.mono (λ q hq=>by
          rcases hq with hq|hq
          . exact .inr (.inl hq)
          . exact .inr (.inr hq)) hT9)⟩)
      refine CW rfl ?_;have hmk:((List.range k).map λ i=>mkT t fuel (ops.filter (valB t u i)) (u + 1)).length<=64:=(by simp;omega);refine Ih (α:=Tr) (A:=some ⟨w9.heap.size,0,none⟩) (c:=1) (ys:=[mkT t fuel (ops.filter (valB t u k)) (u + 1)]) (cells:=[.pointer q9]) rfl rfl (hownG.ext hN10.ext λ q hq=>(hG' q hq).1) (λ q hq=>I6 (hG' q hq).1 hN10.ext.size) (by have:=hE10.size;omega) hch (λ _=>⟨_,_,rfl,hN10.blk.cellsAt⟩) (by decide) (by rw [F7];omega) (by rw [F7];omega) rfl λ v' w11 ho11 hg11 hat=>?_;have hown10:=hown.ext hE10 λ q hq=>(hG q hq).1;have hK11:Kept w8 w11 (.slice Ax' ((List.range k).map λ i=>mkT t fuel (ops.filter (valB t u i)) (u + 1)).length cx'):=⟨hg11.os.trans hE10.os,hg11.tape.trans hE10.tape,hg11.output.trans hE10.output,R2 hE10.size hg11.size,λ q hq hne=>by rw [hg11.block q (I6 hq hE10.size) (λ he=>hne he.symm),hE10.block q hq]⟩;have hB11:Below w7.heap.size w8 w11:=hown.fits (R7 _) hz78 hK11;have hnd11:=hK11.blk hnd (hown.blk_ne hnd (by decide));have hz67:=hN7.size;refine DB ⟨hnd11,(hb1s.ext hE58).keep (hB11.block _ (by have:=hE6.size;omega)),(hb2s.ext hE58).keep (hB11.block _ (by have:=hE6.size;omega))⟩ ?_;refine bq ?_;refine CW rfl ?_;obtain ⟨A11,c11,rfl⟩:=ho11.form;refine Dg (g:=w6.heap.size) rfl rfl hnd11 rfl (show 0 + 3 + 1<=5 by decide) (by simp [Value.cells,Value.oneCell']) λ w12 hU=>?_;refine Jc ?_;refine h_z ?_;refine aa ?_;refine ⟨_,⟨rfl,rfl,rfl,rfl,rfl,rfl,trivial⟩,?_,hU.blk,(λ q=>G q\/(Value.slice Ak (ops.filter (valB t u k)).length ck).ownBlock=some q\/w8.heap.size<=q/\q < w9.heap.size),?_,?_,?_⟩
      . exact hE8.trans ((hB11.mono (by omega)).trans (hU.below (R7 _)))
      . intro q hq;have:=hG' q hq;have h1:=hN10.ext.size;have h2:=hg11.size;exact ⟨by rw [hU.size];omega,this.2⟩
      . rintro (h|h|h)
        . exact hGn h
        . exact hown0.blk_ne hnd (by decide) h
        . have:=hnd.lt;omega
      . rw [P8,P3];have hne:(Value.slice A11 (((List.range k).map λ i=>mkT t fuel (ops.filter (valB t u i)) (u + 1)) ++ [mkT t fuel (ops.filter (valB t u k)) (u + 1)]).length c11).ownBlock≠some w6.heap.size:=ho11.blk_ne hnd11 (by decide);exact ho11.agree (hU.agree (by
          rintro (h|h|h)
          . exact hGn h
          . exact hown0.blk_ne hnd (by decide) h
          . have:=hnd.lt;omega)) λ g hg=>hU.other g λ he=>hne (he ▸ hg)
    rintro xv w8 ⟨hE8,hnd,G,hG,hGn,hown⟩;refine aa ?_;refine al ?_;have hE08:Ext w w8:=hE5.trans' (hE6.trans' hE8);obtain ⟨Ax',cx',rfl⟩:=hown.form;have hxl:((List.range m).map λ i=>mkT t fuel (ops.filter (valB t u i)) (u + 1)).length=m:=(by simp);rw [hxl] at hnd;refine U2 rfl rfl ⟨⟨w6.heap.size,Ax',cx',q6,rfl,.inr ⟨by have:=hE5.size;have:=hE6.size;omega,hnd.lt⟩,hnd,?_,λ i hi=>?_⟩,hE08⟩
    . refine TrR.mono (λ q hq=>?_) (TrR.agree (hE8.agree λ q hq=>?_) hT6)
      . rcases hq with hq|hq
        . have:=hby.rest.lt q hq;have:=hE6.size;have:=hE8.size;exact .inr ⟨by omega,by omega⟩
        . have:=hE8.size;have:=hE5.size;exact .inr ⟨by omega,by omega⟩
      . rcases hq with hq|hq
        . have:=hby.rest.lt q hq;have:=hE6.size;omega
        . exact hq.2
    . have hvb:=hown.vb;obtain ⟨b9,o9,cs9,hA,hF9,_,hc9,q9,rfl,hT9⟩:=hvb.elem (k:=i) (x:=mkT t fuel (ops.filter (valB t u i)) (u + 1)) (by rw [K1,I1 hi];rfl);have hsub:∀ q,(G q\/(Value.slice Ax' ((List.range m).map λ i=>mkT t fuel (ops.filter (valB t u i)) (u + 1)).length cx').ownBlock=some q)->more F w w8 q:=λ q hq=>by
        rcases hq with hq|hq
        . have:=hG q hq;exact .inr ⟨by omega,this.1⟩
        . have h1:=hown.lt q hq;have:=hN7.size;have:=hE6.size;exact .inr ⟨by omega,h1.2⟩
      exact ⟨b9,o9,q9,hA,hsub _ hF9,by have:=hc9.1;rwa [show i * Rp.size Tr=i from S5 i] at this,TrR.mono hsub hT9⟩
end
section
open Go Go.RowKit
attribute [local irreducible] ewp owp hwp hwq hws Ev Evg Fn T9 V1 U8 U4
def nw (w w':World):Nat->Prop:=λ k=>w.heap.size<=k/\k < w'.heap.size
theorem Qr {w:World} {F G:Nat->Prop}:∀ {xs:List Fct} {cells:List Value},Chunks w F cells xs->Chunks w G cells xs
  | [],_,h=>h
  | _ :: _,_,⟨cs,rest,he,hr,hc⟩=>⟨cs,rest,he,hr,Qr hc⟩
theorem LT {w:World} {F G:Nat->Prop}:∀ {xs:List Int} {cells:List Value},Chunks w F cells xs->Chunks w G cells xs
  | [],_,h=>h
  | _ :: _,_,⟨cs,rest,he,hr,hc⟩=>⟨cs,rest,he,hr,LT hc⟩
theorem AbW {w:World} {sv:Value} {xs:List Int} (hs:V w sv xs) (hl:xs.length<=1000000):Fn prog 57 [sv] w λ v w'=>Vb w' (nw w w') v xs/\Ext w w' :=
  (Aec hs (by omega)).mono λ v w' ⟨b,hE⟩=>⟨by
    obtain ⟨cells,q1,q2,q3⟩:=id b;have a:Own w' w.heap.size (λ _=>False) 3 v xs:=⟨cells,q1,LT q2,λ _ _ h=>h⟩;exact a.vb.mono λ k hk=>b.lt k (hk.resolve_left id),hE⟩
theorem Y2 {w:World} {sv:Value} {xs:List Fct} (hs:V w sv xs) (hl:xs.length<=1000000):Fn prog 19 [sv] w λ v w'=>Vb w' (nw w w') v xs/\Ext w w' :=
  (AdG hs (by omega)).mono λ v w' ⟨b,hE⟩=>⟨by
    obtain ⟨cells,q1,q2,q3⟩:=id b;have a:Own w' w.heap.size (λ _=>False) 61 v xs:=⟨cells,q1,Qr q2,λ _ _ h=>h⟩;exact a.vb.mono λ k hk=>b.lt k (hk.resolve_left id),hE⟩
theorem Vb.nwext {α:Type} [Rp α] {w w' a:World} {v:Value} {x:α} (h:Vb w' (nw w w') v x) (b:Ext w' a):Vb a (nw w w') v x:=h.agree (b.agree λ _ hk=>hk.2)
theorem Ad4 {w:World} {tv:Value} {t:Tsk} (ht:V w tv t) (hl1:t.vars.length≤1000000) (hl2:t.init.length≤1000000) (hl3:t.goal.length≤1000000) (hl4:t.ops.length≤1000000)
    (hl5:∀ (i:Nat) o,t.ops[i]?=some o->o.pre.length<=1000000/\o.effs.length<=1000000/\∀ (j:Nat) e,o.effs[j]?=some e->e.cond.length<=1000000) :
    Fn prog 105 [tv] w λ v w'=>Vb w' (nw w w') v t/\Ext w w':=by
  obtain ⟨cs,rfl,a,b,c,d,rfl,hvars,hinit,hgoal,hops⟩:=ht;obtain ⟨Av,cv,rfl⟩:=hvars.form;obtain ⟨Ai,ci,rfl⟩:=hinit.form;obtain ⟨Ag,cg,rfl⟩:=hgoal.form;obtain ⟨Ao,co,rfl⟩:=hops.form;refine AH func105 rfl ntmps105 ?_;refine aa ?_;refine GC rfl λ w1 hN1=>?_;refine GE rfl λ w2 hN2=>?_;have hE2:Ext w w2:=hN1.ext.trans' hN2.ext;have hz1:w1.heap.size=w.heap.size + 1:=hN1.size;have hz2:w2.heap.size=w1.heap.size + 1:=hN2.size;have hb1:Blk w2 w.heap.size 32 [.slice Av t.vars.length cv,.slice Ai t.init.length ci,.slice Ag t.goal.length cg,.slice Ao t.ops.length co]:=hN1.blk.ext hN2.ext;have hres:Blk w2 w1.heap.size 32 [.slice none 0 0,.slice none 0 0,.slice none 0 0,.slice none 0 0]:=hN2.blk;refine o_z ?_;refine Ue (λ l' w'=>∃ g3 av bv cv',T7 l' [(1,.pointer (some ⟨w.heap.size,0,none⟩)),(2,.pointer (some ⟨w1.heap.size,0,none⟩)),(3,.pointer (some ⟨g3,0,none⟩))]/\Ext w2 w'/\w2.heap.size<=g3/\Blk w' g3 32 [av,bv,cv',.slice none 0 0] /\
    Vb w' (λ k=>nw w2 w' k/\k≠g3) av t.vars/\Vb w' (λ k=>nw w2 w' k/\k≠g3) bv t.init/\Vb w' (λ k=>nw w2 w' k/\k≠g3) cv' t.goal) ?_ ?_
  . have q0:∀ w',Ext w2 w'->Blk w' w.heap.size 32 [.slice Av t.vars.length cv,.slice Ai t.init.length ci,.slice Ag t.goal.length cg,.slice Ao t.ops.length co]:=λ w' h=>hb1.ext h;refine VS (Ext w2) ?_;refine Oj (i:=0) rfl rfl rfl (evg λ _ _=>Ed rfl) (T0 _ _) ?_;refine Oj (i:=1) rfl rfl rfl (evg λ _ hS=>Dc rfl ((hb1.ext hS).cell rfl)) (T0 _ _) ?_;refine Oj (i:=3) rfl rfl rfl (evg λ _ _=>Ed rfl) (T0 _ _) ?_;refine Oj (i:=4) rfl rfl rfl (evg λ _ hS=>Dc rfl ((hb1.ext hS).cell rfl)) (T0 _ _) ?_;refine Oj (i:=6) rfl rfl rfl (evg λ _ _=>Ed rfl) (T0 _ _) ?_;refine Oj (i:=7) rfl rfl rfl (evg λ _ hS=>Dc rfl ((hb1.ext hS).cell rfl)) (T0 _ _) ?_;refine QI (i:=2) (j:=10) rfl rfl ?_ ?_
    . refine BG rfl (AbW (hvars.ext hE2) hl1) ?_;rintro av w3 ⟨hav,hE3⟩;refine Jd hE3 ?_;refine QI (i:=5) (j:=10) rfl rfl ?_ ?_
      . refine BG rfl (AbW (hinit.ext (hE2.trans' hE3)) hl2) ?_;rintro bv w4 ⟨hbv,hE4⟩;refine Jd (hE3.trans' hE4) ?_;refine QI (i:=8) (j:=10) rfl rfl ?_ ?_
        . refine BG rfl (Y2 (hgoal.ext (hE2.trans' (hE3.trans' hE4))) hl3) ?_;rintro cv' w5 ⟨hcv,hE5⟩;refine Jd (hE3.trans' (hE4.trans' hE5)) ?_;refine Ol [(9,true),(10,false),(11,false)] rfl (hE3.trans' (hE4.trans' hE5)) ?_;obtain ⟨Aa,ca,rfl⟩:=hav.form;obtain ⟨Ab,cb,rfl⟩:=hbv.form;obtain ⟨Ac,cc,rfl⟩:=hcv.form;refine AB rfl ?_;refine Bo (λ _ _=>JB rfl rfl) rfl ?_;refine CW rfl ?_;refine GE rfl λ w6 hN6=>?_;refine DB (hE3.trans' (hE4.trans' (hE5.trans' hN6.ext))) ?_;refine CW rfl ?_;refine Dg rfl rfl hN6.blk rfl (R7 _) (by simp [Value.cells,Value.oneCell',W1,U1]) λ w7 hU=>?_;refine Jc (AC ?_);have hE7:Ext w5 w7:=(hN6.upd hU).ext;have s3:=hE3.size;have s4:=hE4.size;have s5:=hE5.size;have s7:=hE7.size;refine ⟨w5.heap.size,_,_,_,⟨rfl,rfl,rfl,trivial⟩,hE3.trans' (hE4.trans' (hE5.trans' hE7)),by omega,hU.blk,?_,?_,?_⟩
          . exact ((((hav.nwext hE4).agree (hE5.agree λ k hk=>by have:=hk.2;omega)).agree (hE7.agree λ k hk=>by have:=hk.2;omega)).mono λ k hk=>⟨⟨by have:=hk.1;omega,by have:=hk.2;omega⟩,by have:=hk.2;omega⟩)
          . exact ((hbv.nwext hE5).agree (hE7.agree λ k hk=>by have:=hk.2;omega)).mono λ k hk=>⟨⟨by have:=hk.1;omega,by have:=hk.2;omega⟩,by have:=hk.2;omega⟩
          . exact (hcv.nwext hE7).mono λ k hk=>⟨⟨by have:=hk.1;omega,by have:=hk.2;omega⟩,by have:=hk.2;omega⟩
        . refine GE rfl λ w5 hN=>?_;have hE5:=hN.ext;refine Jd (hE3.trans' (hE4.trans' hE5)) ?_;refine Ol [(8,false),(9,true),(11,false)] rfl (hE3.trans' (hE4.trans' hE5)) ?_;refine CW rfl ?_;refine BG rfl (Y2 (hgoal.ext (hE2.trans' (hE3.trans' (hE4.trans' hE5)))) hl3) ?_;rintro cv' w6 ⟨hcv,hE6⟩;refine DB (hE3.trans' (hE4.trans' (hE5.trans' hE6))) ?_;have hg3:=hN.blk.ext hE6;obtain ⟨Aa,ca,rfl⟩:=hav.form;obtain ⟨Ab,cb,rfl⟩:=hbv.form;obtain ⟨Ac,cc,rfl⟩:=hcv.form;refine AB rfl ?_;refine Bo (λ _ _=>JB rfl rfl) rfl ?_;refine CW rfl ?_;refine Dg rfl rfl hg3 rfl (R7 _) (by simp [Value.cells,Value.oneCell',W1,U1]) λ w7 hU=>?_;refine Jc (AC ?_);have s3:=hE3.size;have s4:=hE4.size;have s5:=hE5.size;have s6:=hE6.size;have s7:=hU.size;have sN:=hN.size;refine ⟨_,_,_,_,⟨rfl,rfl,rfl,trivial⟩,(hE3.trans' (hE4.trans' (hE5.trans' hE6))).trans (hU.below (by omega)),by omega,hU.blk,?_,?_,?_⟩
          . exact (hav.agree λ k hk=>(hU.other k (by have:=hk.2;omega)).trans ((hE4.trans' (hE5.trans' hE6)).block k hk.2)).mono λ k hk=>⟨⟨by have:=hk.1;omega,by have:=hk.2;omega⟩,by have:=hk.2;omega⟩
          . exact (hbv.agree λ k hk=>(hU.other k (by have:=hk.2;omega)).trans ((hE5.trans' hE6).block k hk.2)).mono λ k hk=>⟨⟨by have:=hk.1;omega,by have:=hk.2;omega⟩,by have:=hk.2;omega⟩
          . exact (hcv.agree λ k hk=>hU.other k (by have:=hk.1;omega)).mono λ k hk=>⟨⟨by have:=hk.1;omega,by have:=hk.2;omega⟩,by have:=hk.1;omega⟩
      . refine GE rfl λ w4 hN=>?_;have hE4:=hN.ext;refine Jd (hE3.trans' hE4) ?_;refine Ol [(5,false),(8,false),(9,true),(11,false)] rfl (hE3.trans' hE4) ?_;refine CW rfl ?_;refine BG rfl (AbW (hinit.ext (hE2.trans' (hE3.trans' hE4))) hl2) ?_;rintro bv w5 ⟨hbv,hE5⟩;refine DB (hE3.trans' (hE4.trans' hE5)) ?_;refine CW rfl ?_;refine BG rfl (Y2 (hgoal.ext (hE2.trans' (hE3.trans' (hE4.trans' hE5)))) hl3) ?_;rintro cv' w6 ⟨hcv,hE6⟩;refine DB (hE3.trans' (hE4.trans' (hE5.trans' hE6))) ?_;have hg3:=(hN.blk.ext hE5).ext hE6;obtain ⟨Aa,ca,rfl⟩:=hav.form;obtain ⟨Ab,cb,rfl⟩:=hbv.form;obtain ⟨Ac,cc,rfl⟩:=hcv.form;refine AB rfl ?_;refine Bo (λ _ _=>JB rfl rfl) rfl ?_;refine CW rfl ?_;refine Dg rfl rfl hg3 rfl (R7 _) (by simp [Value.cells,Value.oneCell',W1,U1]) λ w7 hU=>?_;refine Jc (AC ?_);have s3:=hE3.size;have s4:=hE4.size;have s5:=hE5.size;have s6:=hE6.size;have s7:=hU.size;have sN:=hN.size;refine ⟨_,_,_,_,⟨rfl,rfl,rfl,trivial⟩,(hE3.trans' (hE4.trans' (hE5.trans' hE6))).trans (hU.below (by omega)),by omega,hU.blk,?_,?_,?_⟩
        . exact (hav.agree λ k hk=>(hU.other k (by have:=hk.2;omega)).trans ((hE4.trans' (hE5.trans' hE6)).block k hk.2)).mono λ k hk=>⟨⟨by have:=hk.1;omega,by have:=hk.2;omega⟩,by have:=hk.2;omega⟩
        . exact (hbv.agree λ k hk=>(hU.other k (by have:=hk.1;omega)).trans (hE6.block k hk.2)).mono λ k hk=>⟨⟨by have:=hk.1;omega,by have:=hk.2;omega⟩,by have:=hk.1;omega⟩
        . exact (hcv.agree λ k hk=>hU.other k (by have:=hk.1;omega)).mono λ k hk=>⟨⟨by have:=hk.1;omega,by have:=hk.2;omega⟩,by have:=hk.1;omega⟩
    . refine GE rfl λ w3 hN=>?_;have hE3:=hN.ext;refine Jd hE3 ?_;refine Ol [(2,false),(5,false),(8,false),(9,true),(11,false)] rfl hE3 ?_;refine CW rfl ?_;refine BG rfl (AbW (hvars.ext (hE2.trans' hE3)) hl1) ?_;rintro av w4 ⟨hav,hE4⟩;refine DB (hE3.trans' hE4) ?_;refine CW rfl ?_;refine BG rfl (AbW (hinit.ext (hE2.trans' (hE3.trans' hE4))) hl2) ?_;rintro bv w5 ⟨hbv,hE5⟩;refine DB (hE3.trans' (hE4.trans' hE5)) ?_;refine CW rfl ?_;refine BG rfl (Y2 (hgoal.ext (hE2.trans' (hE3.trans' (hE4.trans' hE5)))) hl3) ?_;rintro cv' w6 ⟨hcv,hE6⟩;refine DB (hE3.trans' (hE4.trans' (hE5.trans' hE6))) ?_;have hg3:=((hN.blk.ext hE4).ext hE5).ext hE6;obtain ⟨Aa,ca,rfl⟩:=hav.form;obtain ⟨Ab,cb,rfl⟩:=hbv.form;obtain ⟨Ac,cc,rfl⟩:=hcv.form;refine AB rfl ?_;refine Bo (λ _ _=>JB rfl rfl) rfl ?_;refine CW rfl ?_;refine Dg rfl rfl hg3 rfl (R7 _) (by simp [Value.cells,Value.oneCell',W1,U1]) λ w7 hU=>?_;refine Jc (AC ?_);have s3:=hE3.size;have s4:=hE4.size;have s5:=hE5.size;have s6:=hE6.size;have s7:=hU.size;have sN:=hN.size;refine ⟨_,_,_,_,⟨rfl,rfl,rfl,trivial⟩,(hE3.trans' (hE4.trans' (hE5.trans' hE6))).trans (hU.below (by omega)),by omega,hU.blk,?_,?_,?_⟩
      . exact (hav.agree λ k hk=>(hU.other k (by have:=hk.1;omega)).trans ((hE5.trans' hE6).block k hk.2)).mono λ k hk=>⟨⟨by have:=hk.1;omega,by have:=hk.2;omega⟩,by have:=hk.1;omega⟩
      . exact (hbv.agree λ k hk=>(hU.other k (by have:=hk.1;omega)).trans (hE6.block k hk.2)).mono λ k hk=>⟨⟨by have:=hk.1;omega,by have:=hk.2;omega⟩,by have:=hk.1;omega⟩
      . exact (hcv.agree λ k hk=>hU.other k (by have:=hk.1;omega)).mono λ k hk=>⟨⟨by have:=hk.1;omega,by have:=hk.2;omega⟩,by have:=hk.1;omega⟩
  . rintro l' w3 ⟨g3,av,bv,cv',hsub,hE3,hg3,hb3,hav,hbv,hcv⟩;refine AX _ hsub ?_;clear hsub;replace hb1:=hb1.ext hE3;replace hres:=hres.ext hE3;have hE03:Ext w w3:=hE2.trans' hE3;have hg3z:g3 < w3.heap.size:=hb3.lt;refine aa ?_;refine bb ?_;refine Dn t.ops.length (by omega) (λ _:Unit=>[(2,.pointer (some ⟨w1.heap.size,0,none⟩)),(3,.pointer (some ⟨g3,0,none⟩)),(20,.slice Ao t.ops.length co)])
      (λ k _ w'=>Below w2.heap.size w2 w'/\w3.heap.size<=w'.heap.size/\(∀ q,q < w3.heap.size->q≠g3->w'.heap[q]?=w3.heap[q]?)/\∃ (ov:Value) (G:Nat->Prop),Blk w' g3 32 [av,bv,cv',ov]/\(∀ q,G q->w3.heap.size<=q/\q < w'.heap.size)/\Own w' w3.heap.size G 65 ov (t.ops.take k)) ()
      ⟨hE3,R7 _,λ _ _ _=>rfl,.slice none 0 0,λ _=>False,hb3,λ _ h=>h.elim,Own.nil _ _ _ _⟩ ⟨rfl,rfl,rfl,rfl,rfl,trivial⟩ (λ _=>⟨rfl,rfl⟩) ⟨rfl,rfl,rfl⟩ ⟨rfl,rfl⟩ ?_ ?_
    . rintro k _ w4 hk ⟨hB4,hz34,hkeep,ov,G,hb3,hG,hown⟩;have hE04:Ext w w4:=hE2.trans (hB4.mono (by omega));obtain ⟨o,ho⟩:=AL hk;obtain ⟨hp5,hq5,hc5⟩:=hl5 k o ho;obtain ⟨b2,o2,ce,rfl,_,_,hd1,p,q,rfl,hp,hq,hc,hn⟩:=(hops.ext hE04).elem ho;obtain ⟨Ap,cp,rfl⟩:=hp.form;obtain ⟨Aq,cq,rfl⟩:=hq.form;obtain ⟨Aov,cov,rfl⟩:=hown.form;refine aw ?_;refine DF rfl rfl (by simp [Value.cells,Value.oneCell']) λ w5 hN5=>?_;have hb2:Blk w5 w4.heap.size 65 [.string o.name,.int .i64 o.cost,.slice Ap o.pre.length cp,.slice Aq o.effs.length cq]:=hN5.blk;have hz5:=hN5.size;refine o_z ?_;refine aa ?_;clear hd1;refine ae ?_;refine BG rfl (Y2 (hp.ext hN5.ext) hp5) ?_;rintro pv w6 ⟨hpv,hE6⟩;obtain ⟨Ap',cp',rfl⟩:=hpv.form;replace hb2:=hb2.ext hE6;refine AD rfl ?_;refine Dg rfl rfl hb2 rfl (show 0 + 2 + 1<=4 by decide) (by simp [Value.cells,Value.oneCell']) λ w7 hU7=>?_;have hE47:Ext w4 w7:=(hN5.ext.trans' hE6).trans (hU7.below (R7 _));replace hb2:Blk w7 w4.heap.size 65 [.string o.name,.int .i64 o.cost,.slice Ap' o.pre.length cp',.slice Aq o.effs.length cq]:=hU7.blk;have hpv7:Vb w7 (nw w5 w6) (.slice Ap' o.pre.length cp') o.pre:=hpv.agree λ q hq=>hU7.other q (by have:=hq.1;omega);refine o_z ?_;refine aa ?_;refine ad ?_<;>refine ae ?_<;>refine ar ?_;refine Dn o.effs.length (by omega) (λ ev:Value=>[(2,.pointer (some ⟨w1.heap.size,0,none⟩)),(3,.pointer (some ⟨g3,0,none⟩)),(5,.pointer (some ⟨w4.heap.size,0,none⟩)),(6,ev),(20,.slice (some ⟨b2,o2,none⟩) t.ops.length co),(21,.int .i64 (t.ops.length:Int)),(22,.int .i64 (k:Int)),(31,.slice Aq o.effs.length cq)])
        (λ i ev w'=>Ext w7 w'/\∃ H:Nat->Prop,(∀ q,H q->w7.heap.size<=q/\q < w'.heap.size)/\Own w' w7.heap.size H 68 ev (o.effs.take i)) (.slice none 0 0)
        ⟨T0 _ _,λ _=>False,λ _ h=>h.elim,Own.nil _ _ _ _⟩ ⟨rfl,rfl,rfl,rfl,rfl,rfl,rfl,rfl,rfl,rfl,trivial⟩ (λ _=>⟨rfl,rfl⟩) ⟨rfl,rfl,rfl⟩ ⟨rfl,rfl⟩ ?_ ?_
      . rintro i ev w8 hi ⟨hE8,H,hH,hev⟩;obtain ⟨e,he⟩:=AL hi;have hce:=hc5 i e he;obtain ⟨b3,o3,ce,rfl,_,_,hd1,cv8,rfl,hcn,hr1,hr2⟩:=(hq.ext (hE47.trans' hE8)).elem he;obtain ⟨Acn,ccn,rfl⟩:=hcn.form;refine aw ?_;refine DF rfl rfl (by simp [Value.cells,Value.oneCell']) λ w9 hN9=>?_;have hb4:Blk w9 w8.heap.size 68 [.slice Acn e.cond.length ccn,.int .i64 e.var,.int .i64 e.val]:=hN9.blk;have hz9:=hN9.size;refine o_z ?_;refine aa ?_;clear hd1;refine ae ?_;refine BG rfl (Y2 (hcn.ext hN9.ext) hce) ?_;rintro cw w10 ⟨hcw,hE10⟩;obtain ⟨Acw,ccw,rfl⟩:=hcw.form;replace hb4:=hb4.ext hE10;refine AD rfl ?_;refine Dg rfl rfl hb4 rfl (show 0 + 0 + 1<=3 by decide) (by simp [Value.cells,Value.oneCell']) λ w11 hU11=>?_;replace hb4:Blk w11 w8.heap.size 68 [.slice Acw e.cond.length ccw,.int .i64 e.var,.int .i64 e.val]:=hU11.blk;have hE811:Ext w8 w11:=(hN9.ext.trans' hE10).trans (hU11.below (R7 _));have hE711:Ext w7 w11:=hE8.trans' hE811;have hcw11:Vb w11 (nw w9 w10) (.slice Acw e.cond.length ccw) e.cond:=hcw.agree λ q hq=>hU11.other q (by have:=hq.1;omega);have s10:=hE10.size;have s11:=hU11.size;have hne:∀ g,ev.ownBlock=some g->¬ (H g\/nw w9 w10 g):=λ g hg h=>by
          have hlt:=(hev.lt g hg).2;rcases h with h|h
          . obtain ⟨_,_,_,h3⟩:=hev;exact h3 g hg h
          . have:=h.1;omega
        have hev11:Own w11 w7.heap.size (λ q=>H q\/nw w9 w10 q) 68 ev _:=(hev.ext hE811 λ q hq=>(hH q hq).2).mono (λ q hq=>.inl hq) hne;have hH11:∀ q,(H q\/nw w9 w10 q)->w7.heap.size<=q/\q < w11.heap.size:=λ q hq=>by
          rcases hq with hq|hq
          . have:=hH q hq;omega
          . have h1:=hq.1;have h2:=hq.2;have:=hE8.size;omega
        have hil:(o.effs.take i).length<=1000000:=(by rw [M3];omega);refine o_z ?_;refine aa ?_;refine ab ?_<;>refine BX rfl ?_;refine Iw (a:=e) rfl rfl rfl hev11 (λ q hq=>(hH11 q hq).2) hE711.size ⟨_,rfl,_,rfl,hcw11.mono λ q hq=>.inr hq,hr1,hr2⟩ (by omega) (by omega) ⟨rfl,rfl⟩ λ ev' w12 hev12 hK12=>?_;refine ac ?_;refine aa ?_;exact ⟨ev',⟨rfl,rfl,rfl,rfl,rfl,rfl,rfl,rfl,rfl,rfl,trivial⟩,hE711.trans (hev11.fits (R7 _) hE711.size hK12),_,λ q hq=>⟨(hH11 q hq).1,I6 (hH11 q hq).2 hK12.size⟩,by rw [K4,he];simpa using hev12⟩
      rintro ev w12 ⟨hE12,H,hH,hev⟩;rw [M9] at hev;obtain ⟨Aev,cev,rfl⟩:=hev.form;replace hb2:=hb2.ext hE12;refine aa ?_;refine ab ?_<;>refine AD rfl ?_;refine Dg rfl rfl hb2 rfl (show 0 + 3 + 1<=4 by decide) (by simp [Value.cells,Value.oneCell']) λ w13 hU13=>?_;replace hb2:Blk w13 w4.heap.size 65 [.string o.name,.int .i64 o.cost,.slice Ap' o.pre.length cp',.slice Aev o.effs.length cev]:=hU13.blk;have hE413:Ext w4 w13:=(hE47.trans' hE12).trans (hU13.below (R7 _));have s6:=hE6.size;have s7:=hU7.size;have s12:=hE12.size;have s13:=hU13.size;have hb3':=hb3.ext hE413;have hg3lt:=hb3.lt;have hpv13:Vb w13 (nw w5 w6) (.slice Ap' o.pre.length cp') o.pre:=hpv7.agree λ q hq=>(hU13.other q (by have:=hq.1;omega)).trans (hE12.block q (by have:=hq.2;omega));have hev13:Vb w13 (λ q=>H q\/(Value.slice Aev o.effs.length cev).ownBlock=some q) (.slice Aev o.effs.length cev) o.effs:=hev.vb.agree λ q hq=>hU13.other q (by
        rcases hq with hq|hq
        . have:=(hH q hq).1;omega
        . have:=(hev.lt q hq).1;omega)
      have hne:∀ g,(Value.slice Aov (t.ops.take k).length cov).ownBlock=some g->¬ (G g\/w4.heap.size<=g/\g < w13.heap.size):=λ g hg h=>by
        have hlt:=(hown.lt g hg).2;rcases h with h|h
        . obtain ⟨_,_,_,h3⟩:=hown;exact h3 g hg h
        . omega
      have hown13:Own w13 w3.heap.size (λ q=>G q\/w4.heap.size<=q/\q < w13.heap.size) 65 _ _:=(hown.ext hE413 λ q hq=>(hG q hq).2).mono (λ q hq=>.inl hq) hne;have hG13:∀ q,(G q\/w4.heap.size<=q/\q < w13.heap.size)->w3.heap.size<=q/\q < w13.heap.size:=λ q hq=>by
        have:=hE413.size;rcases hq with hq|hq
        . have:=hG q hq;omega
        . omega
      have hopr:Vb w13 (λ q=>G q\/w4.heap.size<=q/\q < w13.heap.size) (.agg #[.string o.name,.int .i64 o.cost,.slice Ap' o.pre.length cp',.slice Aev o.effs.length cev]) o :=
        ⟨[.string o.name,.int .i64 o.cost,.slice Ap' o.pre.length cp',.slice Aev o.effs.length cev],rfl,_,_,rfl,hpv13.mono λ q hq=>.inr (by have h1:=hq.1;have h2:=hq.2;omega),hev13.mono λ q hq=>.inr (by
          rcases hq with hq|hq
          . have:=hH q hq;omega
          . have:=hev.lt q hq;omega),hc,hn⟩
      have hkl:(t.ops.take k).length<=1000000:=(by rw [M3];omega);refine o_z ?_;refine aa ?_;have hbx:=hb2;clear hb1;have hb1:=hb3';refine ae ?_<;>refine BX rfl ?_;refine Iw (a:=o) rfl rfl rfl hown13 (λ q hq=>(hG13 q hq).2) (by have:=hE413.size;omega) hopr (by omega) (by omega) ⟨rfl,rfl⟩ λ ov' w14 hov14 hK14=>?_;obtain ⟨Aov',cov',rfl⟩:=hov14.form;have hb3k:=hK14.blk hb3' (hown13.blk_ne hb3' (by decide));refine AD rfl ?_;refine Dg rfl rfl hb3k rfl (show 0 + 3 + 1<=4 by decide) (by simp [Value.cells,Value.oneCell']) λ w15 hU15=>?_;refine o_z ?_;refine aa ?_;have hB14:Below w3.heap.size w13 w14:=hown13.fits (R7 _) (by have:=hE413.size;omega) hK14;have sz14:=hK14.size;have sz15:=hU15.size;refine ⟨(),⟨rfl,rfl,rfl,rfl,rfl,trivial⟩,?_,?_,?_,_,(λ q=>G q\/w4.heap.size<=q/\q < w13.heap.size),hU15.blk,λ q hq=>?_,?_⟩
      . exact hB4.trans (((hE413.mono (by omega)).trans (hB14.mono (by omega))).trans (hU15.below (by omega)))
      . have:=hE413.size;omega
      . intro q hq hne';rw [hU15.other q hne',hB14.block q hq,hE413.block q (by omega),hkeep q hq hne']
      . have:=hG13 q hq;omega
      . have hne15:=hov14.blk_ne hb3k (by decide);rw [K4,ho];refine hov14.agree (hU15.agree ?_) λ g hg=>hU15.other g λ he=>hne15 (he ▸ hg);rintro (h|h)
        . have:=(hG g3 h).1;omega
        . omega
    rintro _ w4 ⟨hB4,hz34,hkeep,ov,G,hb3,hG,hown⟩;rw [M9] at hown;obtain ⟨Aov,cov,rfl⟩:=hown.form;have hresz:=hres.lt;replace hres:=hres.keep (hkeep _ hresz (by omega));clear hb1;have hb1:=hb3;refine aa ?_;obtain ⟨Aa,ca,rfl⟩:=hav.form;obtain ⟨Ab,cb,rfl⟩:=hbv.form;obtain ⟨Ac,cc,rfl⟩:=hcv.form;refine BX rfl ?_;refine Dg rfl rfl hres rfl (R7 _) (by simp [Value.cells,Value.oneCell']) λ w5 hU=>?_;refine o_z ?_;refine aa ?_;have hE4:Ext w w4:=hE2.trans (hB4.mono (by omega));have s5:=hU.size;have s04:=hE4.size;have hcl:∀ {α:Type} [Rp α] {v:Value} {x:α},Vb w3 (λ k=>nw w2 w3 k/\k≠g3) v x->Vb w5 (nw w w5) v x:=λ h=>(h.agree λ q hq=>(hU.other q (by have:=hq.1.1;omega)).trans (hkeep q hq.1.2 hq.2)).mono λ q hq=>⟨by have:=hq.1.1;omega,by have:=hq.1.2;omega⟩;have hovv:Vb w5 (nw w w5) (.slice Aov t.ops.length cov) t.ops:=(hown.vb.agree λ q hq=>hU.other q (by
      rcases hq with hq|hq
      . have:=(hG q hq).1;omega
      . have:=(hown.lt q hq).1;omega)).mono λ q hq=>by
        rcases hq with hq|hq
        . have:=hG q hq;exact ⟨by omega,by omega⟩
        . have:=hown.lt q hq;exact ⟨by omega,by omega⟩
    refine U0 rfl (DH rfl rfl hU.blk.cellsAt) ⟨⟨_,rfl,_,_,_,_,rfl,hcl hav,hcl hbv,hcl hcv,hovv⟩,hE4.trans (hU.below (by omega))⟩
end
section
def Acd (t:Tsk):Prop:=∀ (i:Nat) o,t.ops[i]?=some o->FactsOk t.vars o.pre
theorem TaskOk.pre {t:Tsk} (h:TaskOk t):Acd t:=λ i o a=>(h.2.2.2.2.2 i o a).2.2.2.2.1
theorem Td {t:Tsk} (h:Acd t) (b:Int):FactsOk t.vars (preOf t b):=by
  unfold preOf;cases c:t.ops[b.toNat]? with
  | none=>exact ⟨λ i x a=>by simp at a,λ i x y a=>by simp at a⟩
  | some o=>exact h _ o c
theorem LU {l:List Fct} {v:Int} {f:Fct} (h:factOn l v=some f):f∈l/\f.var=v:=by
  unfold factOn at h;exact ⟨List.mem_of_find?_eq_some h,by simpa using List.find?_some h⟩
theorem TX {l:List Fct} {v:Int} (h:factOn l v=none):∀ f∈l,f.var≠v:=by
  unfold factOn at h;rw [List.find?_eq_none] at h;intro f hf;simpa using h f hf
theorem TY {a:List Int} {l:List Fct} (hl:FactsOk a l) {f g:Fct} (hf:f∈l) (b:g∈l) (he:f.var=g.var):f=g:=by
  obtain ⟨i,hi⟩:=G6 hf;obtain ⟨j,hj⟩:=G6 b;rcases L1 i j with h|h|h
  . have:=Kt hl j i f g h hi hj;omega
  . subst h;rw [hi] at hj;injection hj
  . have:=Kt hl i j g f h hj hi;omega
theorem TaskOk.fits {t:Tsk} (h:TaskOk t):Adx t:=by
  intro i o a v f hf c;obtain ⟨b,h2⟩:=LU hf;obtain ⟨j,hj⟩:=G6 b;obtain ⟨d,g2,n,g3,g4⟩:=(h.pre i o a).1 j f hj;rw [h2] at g3;exact ⟨g2,n,by simpa using g3,g4⟩
def hf (t:Tsk) (s:List Int) (v:Nat) (a:Int):Bool:=(preOf t a).all λ f=>decide (f.var < (v:Int)) || hasB s f
theorem NR {t:Tsk} {s:List Int} {v:Nat} {a:Int}:hf t s v a=true↔∀ f∈preOf t a,f.var < (v:Int)\/hasB s f=true:=by
  unfold hf;simp [M0]
theorem Ur {t:Tsk} {s:List Int} {v:Nat} {a:Int} (h:factOn (preOf t a) (v:Int)=none):hf t s v a=hf t s (v + 1) a:=by
  rw [P7,NR,NR];constructor
  . intro b f hm;rcases b f hm with h1|h1
    . exact .inl (by omega)
    . exact .inr h1
  . intro b f hm;have:=TX h f hm;rcases b f hm with h1|h1
    . exact .inl (by omega)
    . exact .inr h1
theorem Zc {t:Tsk} {s:List Int} {v:Nat} {a:Int} {f:Fct} (e:Acd t) (h:factOn (preOf t a) (v:Int)=some f):hf t s v a=(hasB s f && hf t s (v + 1) a):=by
  obtain ⟨d,h2⟩:=LU h;rw [P7,L9,NR,NR];constructor
  . intro b;refine ⟨(b f d).resolve_left (by omega),λ g c=>?_⟩;rcases b g c with h3|h3
    . exact .inl (by omega)
    . exact .inr h3
  . rintro ⟨h3,b⟩ g c;rcases b g c with h4|h4
    . by_cases he:g.var=(v:Int)
      . have:g=f:=TY (Td e a) c d (by omega);subst this;exact .inr h3
      . exact .inl (by omega)
    . exact .inr h4
theorem Us {t:Tsk} {s:List Int} {ops:List Int}:∀ (k v:Nat),(∀ x,v<=x->x < v + k->X8 t ops x=false)->∀ a∈ops,hf t s v a=hf t s (v + k) a
  | 0,_,_,_,_=>rfl
  | k + 1,v,h,a,ho=>by
    have b:=h v (R7 _) (by omega);unfold X8 at b;rw [List.any_eq_false] at b;have c:=b a ho;have d:factOn (preOf t a) (v:Int)=none:=(by simpa using c);rw [Ur d,Us k (v + 1) (λ x e f=>h x (by omega) (by omega)) a ho];congr 1;omega
theorem Qs {a b c:Int→Bool} {p:Int→Bool} (h:∀ x,p x=if a x=true then b x else if c x=true then b x else false) (f:∀ x,a x=true→c x=false) :
    ∀ l:List Int,(l.filter p).Perm ((l.filter a).filter b ++ (l.filter c).filter b)
  | []=>by simp
  | x :: l=>by
    have g:=Qs h f l;have d:=h x;cases e:a x
    . cases hc:c x
      . simp only [e,hc] at d;simpa [M8,e,hc,d] using g
      . simp only [e,hc] at d;cases hb:b x
        . rw [hb] at d;simpa [M8,e,hc,hb,d] using g
        . rw [hb] at d;simp only [M8,e,hc,hb,d,if_true,J5,if_false];exact (g.cons x).trans (List.perm_middle.symm)
    . have hc:=f x e;simp only [e] at d;cases hb:b x
      . rw [hb] at d;simpa [M8,e,hc,hb,d] using g
      . rw [hb] at d;simp only [M8,e,hc,hb,d,if_true,J5,if_false,L7];exact g.cons x
theorem AaK {t:Tsk} {s:List Int} (c:Acd t) (b:Int):hf t s t.vars.length b=true:=by
  rw [NR];intro f a;obtain ⟨i,hi⟩:=G6 a;obtain ⟨d,h2,n,h3,_⟩:=(Td c b).1 i f hi;have:=CF h3;exact .inl (by omega)
theorem VA (t:Tsk) (ops:List Int) {v:Nat} (h:v<=t.vars.length):v<=nextV t ops v/\nextV t ops v<=t.vars.length/\(∀ u,v<=u->u < nextV t ops v->X8 t ops u=false)/\(nextV t ops v < t.vars.length->X8 t ops (nextV t ops v)=true):=by
  obtain ⟨a,h2,h3,h4⟩:=MM t ops (t.vars.length - v) v;exact ⟨a,by unfold nextV;omega,h3,λ h=>h4 (by unfold nextV at h;omega)⟩
theorem StateOk.at {a s:List Int} (h:StateOk a s) {u:Nat} (hu:u < a.length):∃ (x:Nat) (n:Int),s[u]?=some (x:Int)/\a[u]?=some n/\(x:Int) < n/\atN s u=x:=by
  obtain ⟨y,hy⟩:=AL (l:=s) (k:=u) (by rw [h.1];exact hu);obtain ⟨n,hn⟩:=AL hu;obtain ⟨b,h2⟩:=h.2 u y n hy hn;obtain ⟨x,rfl⟩:=D1 b;exact ⟨x,n,hy,hn,h2,by simp [atN,hy]⟩
theorem Te {t:Tsk} {s:List Int} (k:Acd t) (hs:StateOk t.vars s):∀ (fuel:Nat) (ops:List Int) (v:Nat),v≤t.vars.length→t.vars.length < fuel + v →
    (Y3 s (mkT t fuel ops v)).Perm (ops.filter (hf t s v))/\AcW s (mkT t fuel ops v):=by
  intro fuel
  induction fuel with
  | zero=>intro ops v l q;omega
  | succ fuel m =>
    intro ops v l q;obtain ⟨w,g2,g3,g4⟩:=VA t ops l;have b:=Us (t:=t) (s:=s) (ops:=ops) (nextV t ops v - v) v (λ x g r=>g3 x g (by omega));rw [show v + (nextV t ops v - v)=nextV t ops v from by omega] at b;have d:ops.filter (hf t s v)=ops.filter (hf t s (nextV t ops v)):=J9 b;rw [d];unfold mkT;by_cases he:ops.isEmpty=true
    . rw [if_pos he];have:ops=[]:=(by simpa using he);subst this;exact ⟨by simp [Y3],trivial⟩
    rw [if_neg he];by_cases hn:nextV t ops v=t.vars.length
    . rw [if_pos hn,hn];have:ops.filter (hf t s t.vars.length)=ops:=H7.2 λ x _=>AaK k x;rw [this];exact ⟨List.Perm.refl _,trivial⟩
    rw [if_neg hn];obtain ⟨x,n,q1,q2,q3,q4⟩:=hs.at (u:=nextV t ops v) (by omega);have o:=m (ops.filter (valB t (nextV t ops v) x)) (nextV t ops v + 1) (by omega) (by omega);have p:=m (ops.filter (X0 t (nextV t ops v))) (nextV t ops v + 1) (by omega) (by omega);refine ⟨?_,⟨x,q1,by rw [q2];simp;omega⟩,by rw [q4];exact o.2,p.2⟩;rw [Y3,q4];refine (o.1.append p.1).trans (Qs (a:=valB t (nextV t ops v) x) (c:=X0 t (nextV t ops v)) (λ i=>?_) (λ i h=>?_) ops).symm
    . unfold valB X0;cases e:factOn (preOf t i) (nextV t ops v:Int) with
      | none=>rw [Ur e];simp
      | some f =>
        rw [Zc k e];obtain ⟨_,hv⟩:=LU e;rw [QP (s:=s) hv q1];by_cases j:f.val=(x:Int)
        . simp [j]
        . simp [j,T1 j]
    . unfold valB at h;unfold X0;cases e:factOn (preOf t i) (nextV t ops v:Int) with
      | none=>rw [e] at h;simp at h
      | some f=>rfl
def Ab5 (t:Tsk):List Int:=(List.range t.ops.length).map λ i:Nat=>(i:Int)
def Ab2 (t:Tsk):Tr:=mkT t (t.vars.length + 1) (Ab5 t) 0
theorem Rr {α:Type} {p q:α->Bool}:∀ {l:List α},(∀ x∈l,p x=q x)->l.all p=l.all q
  | [],_=>rfl
  | x :: l,h=>by rw [Q3,Q3,h x J0,Rr λ y a=>h y (G1 _ a)]
theorem Zd {t:Tsk} (b:Acd t) (s:List Int):X2 t s=(Ab5 t).filter (hf t s 0):=by
  unfold X2 AcN Ab5;rw [List.filter_map];congr 1;refine J9 λ i hi=>?_;obtain ⟨o,ho⟩:=AL (l:=t.ops) (k:=i) (P9.1 hi);simp only [Function.comp,hf,preOf,holdsB,L2,ho];refine Rr λ f a=>?_;obtain ⟨j,hj⟩:=G6 a;have:=((b i o ho).1 j f hj).1;have:decide (f.var < ((0:Nat):Int))=false:=decide_eq_false (by omega);rw [this,Q4]
theorem TZ (t:Tsk) (s:List Int):(X2 t s).Pairwise λ x y=>decide (x<=y)=true:=by
  unfold X2 AcN;refine List.Pairwise.map _ (λ a b h=>?_) (List.Pairwise.filter _ List.pairwise_lt_range);exact decide_eq_true (by omega)
theorem Ua {l m:List Int} (h:l.Perm m) (hm:m.Pairwise λ x y=>decide (x<=y)=true):Z9 l=m:=by
  refine List.Perm.eq_of_pairwise (le:=λ x y:Int=>decide (x<=y)=true) (λ a b _ _ d e=>?_) (List.pairwise_mergeSort (λ a b c d e=>?_) (λ a b=>?_) l) hm ((H6 _ _).trans h)
  . have:=of_decide_eq_true d;have:=of_decide_eq_true e;omega
  . have:=of_decide_eq_true d;have:=of_decide_eq_true e;exact decide_eq_true (by omega)
  . simp;omega
theorem VB {t:Tsk} {s:List Int} (a:Acd t) (hs:StateOk t.vars s):Aci t (Ab2 t) s=X2 t s:=by
  unfold Aci;rw [if_pos (CT hs)];refine Ua ?_ (TZ t s);rw [Zd a];exact (Te a hs _ _ 0 (S0 _) (by omega)).1
theorem WD {t:Tsk} {s:List Int} (a:Acd t) (hs:StateOk t.vars s):AcW s (Ab2 t):=(Te a hs _ _ 0 (S0 _) (by omega)).2
theorem XD (t:Tsk) (s:List Int):∀ (fuel:Nat) (ops:List Int) (v:Nat),(Y3 s (mkT t fuel ops v)).length≤ops.length:=by
  intro fuel
  induction fuel with
  | zero=>intro ops v;exact S0 _
  | succ fuel b =>
    intro ops v;unfold mkT;by_cases he:ops.isEmpty=true
    . rw [if_pos he];exact S0 _
    rw [if_neg he];by_cases hn:nextV t ops v=t.vars.length
    . rw [if_pos hn];exact R7 _
    rw [if_neg hn,Y3,I5];refine R2 (Nat.add_le_add (b _ _) (b _ _)) ?_;generalize nextV t ops v=u;generalize atN s u=x;clear he hn b
    induction ops with
    | nil=>simp
    | cons a ops d =>
      have c:valB t u x a=true->X0 t u a=false:=by
        unfold valB X0;cases factOn (preOf t a) (u:Int)<;>simp
      rw [M8,M8];cases e:valB t u x a
      . cases hc:X0 t u a<;>simp<;>omega
      . rw [c e];simp;omega
theorem Qt (t:Tsk):(Ab5 t).length=t.ops.length:=by simp [Ab5]
theorem XE (t:Tsk) (s:List Int):(Y3 s (Ab2 t)).length<=t.ops.length:=by
  have:=XD t s (t.vars.length + 1) (Ab5 t) 0;rwa [Qt] at this
end
section
open Go Go.RowKit
attribute [local irreducible] ewp owp hwp hwq hws Ev Evg Fn T9 V1 U8 U4
theorem Ub:∀ k,((List.range (k + 1)).map λ i:Nat=>(i:Int))=((List.range k).map λ i:Nat=>(i:Int)) ++ [(k:Int)]:=λ k=>by
  rw [P8,P3];rfl
theorem AeX {w:World} {T:Value} {t:Tsk} (U:V w T t):Fn prog 72 [T] w λ v w'=>Ext w w' /\
    ((TaskOk t/\∃ W,v=.tuple #[W,.nilIface]/\GenR w' (nw w w') W t (Ab2 t))\/(¬ TaskOk t/\v=.tuple #[.pointer none,X6 (V6 t)])):=by
  have K:=U;obtain ⟨cs,rfl,a,b,c,d,rfl,hvars,hinit,hgoal,hops⟩:=U;refine AH func72 rfl ntmps72 ?_;refine aa ?_;refine GC rfl λ X E=>?_;have F:Ext w X:=E.ext;have n:Blk X w.heap.size 32 [a,b,c,d]:=E.blk;have G:=K.ext F;refine Au rfl ?_<;>refine ac ?_;refine aa ?_;refine BX rfl ?_;refine BG rfl (Adi G) ?_;rintro _ Y ⟨rfl,hE2⟩;have m:Ext w Y:=F.trans' hE2;have n:=n.ext hE2;by_cases f:TaskOk t
  case neg =>
    have L:V6 t≠0:=λ h=>f (IP.1 h);rw [KW L];refine ac ?_;refine aa ?_;refine af ?_<;>(first|refine ZY rfl rfl ?_|refine ZZ rfl rfl ?_)<;>refine o_z ?_<;>refine aa ?_;refine af ?_<;>refine ba ?_;exact U6 rfl (AF rfl) (AF rfl) ⟨m,.inr ⟨f,rfl⟩⟩
  rw [IP.2 f,JV];refine ac ?_;refine aa ?_;refine af ?_<;>(first|refine ZY rfl rfl ?_|refine ZZ rfl rfl ?_)<;>refine o_z ?_<;>refine aa ?_;have Z:=f.pre;have M:t.vars.length<=64:=f.1;have a0:t.ops.length<=4096:=f.2.1;have N:=Ad4 (G.ext hE2) (by omega) (by rw [f.2.2.2.1.1];omega) (by have:=FB f.2.2.2.2.1;omega) (by omega) (λ i o ho=>by
    obtain ⟨_,_,h3,_,h5,h6⟩:=f.2.2.2.2.2 i o ho;exact ⟨by have:=FB h5;omega,by omega,λ j e he=>by have:=FB (h6 j e he).1;omega⟩)
  refine BX rfl ?_;refine BG rfl N ?_;rintro b0 z ⟨O,hE3⟩;obtain ⟨c0,rfl,a',b',c',d',rfl,hvars',hinit',hgoal',hops'⟩:=O;refine ai ?_;refine GC rfl λ A B=>?_;have H:Blk A z.heap.size 159 [a',b',c',d',.pointer none]:=B.blk;have I:Ext z A:=B.ext;have s2:=m.size;have s3:=hE3.size;have s4:A.heap.size=z.heap.size + 1:=B.size;obtain ⟨Ao,co,rfl⟩:=hops'.form;refine ac ?_;refine aa ?_;refine ad ?_;clear n;have n:=H;refine af ?_<;>refine Dr rfl ?_<;>refine AD rfl ?_<;>refine ae ?_<;>refine ar ?_;refine Dn t.ops.length (by omega) (λ v:Value=>[(1,.pointer (some ⟨w.heap.size,0,none⟩)),(5,.pointer (some ⟨z.heap.size,0,none⟩)),(6,v)]) (λ k v w'=>Ext A w'/\Own w' A.heap.size (λ _=>False) 3 v ((List.range k).map λ i:Nat=>(i:Int))) (.slice none 0 0)
    ⟨T0 _ _,Own.nil _ _ _ _⟩ ⟨rfl,rfl,rfl,rfl,rfl,trivial⟩ (λ _=>⟨rfl,rfl⟩) ⟨rfl,rfl,rfl⟩ ⟨rfl,rfl⟩ ?_ ?_
  . rintro k v C hk ⟨l,hown⟩;refine al ?_;refine bo ?_;refine Iw (a:=(k:Int)) rfl rfl rfl hown (λ _ h=>h.elim) l.size ⟨rfl,by omega,by omega⟩ (by simp;omega) (by simp;omega) ⟨rfl,rfl⟩ λ v' w6 D hK=>?_;refine ac ?_;refine aa ?_;exact ⟨v',⟨rfl,rfl,rfl,rfl,rfl,trivial⟩,l.trans (hown.fits (R7 _) l.size hK),by rw [Ub];exact D⟩
  rintro v C ⟨l,hown⟩;have s5:=l.size;have g:=I.trans' l;have u:=H.ext l;have P:GenB C (All C) (.pointer (some ⟨z.heap.size,0,none⟩)) t:=⟨_,_,_,_,_,_,rfl,by show _ < _;omega,u,(hvars'.agree (g.agree λ _ h=>h.2)).mono λ k hk=>by have:=hk.2;show _ < _;omega,(hinit'.agree (g.agree λ _ h=>h.2)).mono λ k hk=>by have:=hk.2;show _ < _;omega,(hgoal'.agree (g.agree λ _ h=>h.2)).mono λ k hk=>by have:=hk.2;show _ < _;omega,(hops'.agree (g.agree λ _ h=>h.2)).mono λ k hk=>by have:=hk.2;show _ < _;omega⟩;have Q:Vb C (nw A C) v (Ab5 t):=hown.vb.mono λ k hk=>hown.lt k (hk.resolve_left id);have r:=Aej t f.vars f.fits M (t.vars.length + 1) C _ v (Ab5 t) 0 (nw A C) P Q (λ k hk=>hk.2) (λ op R=>by
    obtain ⟨i,hi,rfl⟩:=R3.1 R;have:=P9.1 hi;exact ⟨by omega,by omega⟩) (by rw [Qt];omega) (S0 _) (by omega)
  refine aa ?_;refine bo ?_<;>refine ab ?_;refine BG rfl r ?_;rintro p w6 ⟨hT,hE6⟩;obtain ⟨rp,rfl⟩:=hT.form;have s6:=hE6.size;refine Dr rfl ?_<;>refine AD rfl ?_;refine Dg rfl rfl (u.ext hE6) rfl (R7 _) (by simp [Value.cells,Value.oneCell']) λ w7 J=>?_;refine o_z ?_;refine aa ?_;refine af ?_<;>refine ba ?_;have y:=g.trans' hE6;have s7:=J.size;have s:∀ {α:Type} [Rp α] {v:Value} {x:α},Vb z (nw Y z) v x->Vb w7 (nw w w7) v x:=λ h=>((h.agree (y.agree λ _ h=>h.2)).agree λ q S=>J.other q (by have:=S.2;omega)).mono λ k hk=>⟨by have:=hk.1;omega,by have:=hk.2;omega⟩;refine U6 rfl (AF rfl) (AF rfl) ⟨(((m.trans' hE3).trans' y).trans (J.below (by omega))),.inl ⟨f,_,rfl,_,_,_,_,_,_,rfl,⟨by omega,by omega⟩,J.blk,s hvars',s hinit',s hgoal',s hops',?_⟩⟩;refine TrR.mono (λ k hk=>?_) (TrR.agree (λ q S=>J.other q ?_) hT)
  . rcases hk with hk|hk
    . exact ⟨by have:=hk.1;omega,by have:=hk.2;omega⟩
    . exact ⟨by omega,by omega⟩
  . rcases S with hk|hk
    . have:=hk.1;omega
    . omega
end
section
open Go Go.RowKit
theorem TaskOk.effs {t:Tsk} (h:TaskOk t) {s:List Int} (hs:StateOk t.vars s):∀ (i:Nat) o,t.ops[i]?=some o->Adt s o.effs:=λ i o b j e he=>by
  obtain ⟨a,_,y,hy,_⟩:=((h.2.2.2.2.2 i o b).2.2.2.2.2 j e he).2;refine ⟨a,?_⟩;have:=(B7.1 hy).1;rw [hs.1];simp only at a this;omega
end
section
open Go Go.RowKit
attribute [local irreducible] ewp owp hwp hwq hws Ev Evg Fn T9 V1 U8 U4
theorem GenR.mono {w:World} {F G:Nat->Prop} {gv:Value} {t:Tsk} {T:Tr} (h:GenR w F gv t T) (hk:∀ k,F k->G k):GenR w G gv t T:=by
  obtain ⟨e,a,b,c,d,r,h1,h2,h3,h4,h5,h6,h7,h8⟩:=h;exact ⟨e,a,b,c,d,r,h1,hk _ h2,h3,h4.mono hk,h5.mono hk,h6.mono hk,h7.mono hk,TrR.mono hk h8⟩
theorem GenR.agree {w w':World} {F:Nat->Prop} {gv:Value} {t:Tsk} {T:Tr} (h:GenR w F gv t T) (e:Agree F w w'):GenR w' F gv t T:=by
  obtain ⟨f,a,b,c,d,r,h1,h2,h3,h4,h5,h6,h7,h8⟩:=h;exact ⟨f,a,b,c,d,r,h1,h2,h3.keep (e f h2),h4.agree e,h5.agree e,h6.agree e,h7.agree e,TrR.agree e h8⟩
theorem GenR.form {w:World} {F:Nat->Prop} {gv:Value} {t:Tsk} {T:Tr} (h:GenR w F gv t T):∃ e,gv=.pointer (some ⟨e,0,none⟩):=by
  obtain ⟨e,a,b,c,d,r,h1,_⟩:=h;exact ⟨e,h1⟩
noncomputable def Z6 (t:Tsk) (s:List Int):List Int:=if bof (StateOk t.vars s)=true then X2 t s else []
theorem OA {t:Tsk} {s:List Int} (h:StateOk t.vars s):Z6 t s=X2 t s:=by unfold Z6;rw [if_pos (CT h)]
theorem QV {t:Tsk} {s:List Int} (h:¬ StateOk t.vars s):Z6 t s=[]:=by unfold Z6;rw [Cc h];rfl
theorem VC {t:Tsk} (a:Acd t) (s:List Int):Aci t (Ab2 t) s=Z6 t s:=by
  by_cases h:StateOk t.vars s
  . rw [VB a h,OA h]
  . rw [QV h];unfold Aci;rw [Cc h];rfl
theorem Tf {t:Tsk} {s:List Int} {x:Int} (h:x∈X2 t s):∃ (j:Nat) (o:Opr),x=(j:Int)/\t.ops[j]?=some o/\holdsB o.pre s=true:=by
  unfold X2 AcN at h;obtain ⟨j,hj,rfl⟩:=R3.1 h;obtain ⟨a,h2⟩:=P2.1 hj;obtain ⟨o,ho⟩:=AL (P9.1 a);rw [ho] at h2;exact ⟨j,o,rfl,ho,h2⟩
theorem XF {t:Tsk} {s:List Int} {x:Int} (h:x∈Z6 t s):StateOk t.vars s/\x∈X2 t s:=by
  by_cases hs:StateOk t.vars s
  . rw [OA hs] at h;exact ⟨hs,h⟩
  . rw [QV hs] at h;cases h
theorem Tg (t:Tsk) (s:List Int):(X2 t s).length<=t.ops.length:=WA t s _
theorem XG (t:Tsk) (s:List Int):(Z6 t s).length<=t.ops.length:=by
  by_cases hs:StateOk t.vars s
  . rw [OA hs];exact Tg t s
  . rw [QV hs];exact S0 _
section
variable {w : World} {gv sv : Value} {t : Tsk} {s : List Int}
theorem Ae6 (a:TaskOk t) (c:GenR w (All w) gv t (Ab2 t)) (hs:V w sv s) (b:s.length<=1000000) :
    Fn prog 78 [gv,sv] w λ v w'=>Ext w w'/\Own w' w.heap.size (All w) 3 v (Z6 t s):=by
  have:=Adk c hs (WD a.pre) (by have:=XE t s;have:=a.2.1;omega) b;rwa [VC a.pre] at this
end
theorem AeH {w:World} {sv:Value}:Fn prog 112 [.pointer none,sv] w λ v w'=>v=.tuple #[.slice none 0 0,.int .i64 0]/\Ext w w':=by
  refine AH func112 rfl ntmps112 ?_;refine aa ?_<;>refine ba ?_
  (refine ab ?_<;>refine Kg rfl ?_<;>refine ab ?_<;>(first|(refine Az rfl rfl ?_;refine Ar rfl ?_)|refine Aw rfl rfl ?_)<;>(first|(refine Az rfl rfl ?_;refine Dr rfl ?_)|refine Aw rfl rfl ?_)<;>(first|(refine Az rfl rfl ?_;refine AD rfl ?_)|refine Aw rfl rfl ?_)<;>(first|(refine Az rfl rfl ?_;refine AD rfl ?_)|refine Aw rfl rfl ?_)<;>(first|(refine Az rfl rfl ?_;refine AQ rfl ?_)|refine Aw rfl rfl ?_)<;>(first|(refine Az rfl rfl ?_;refine Ar rfl ?_)|refine Aw rfl rfl ?_))
  refine Aw rfl rfl ?_
  ((first|(refine Az rfl rfl ?_;(first|refine EE rfl ?_|refine EF rfl ?_|refine Iq rfl ?_))|refine Aw rfl rfl ?_)<;>refine bc ?_)
  refine aa ?_;refine aa ?_<;>refine ba ?_;exact U6 rfl (AF rfl) (AF rfl) ⟨rfl,T0 _ _⟩
theorem Adj {w:World} {sv:Value}:Fn prog 78 [.pointer none,sv] w λ v w'=>v=.slice none 0 0/\Ext w w':=by
  refine AH func78 rfl ntmps78 ?_;refine bw ?_;refine BG rfl AeH ?_;rintro _ a ⟨rfl,hE⟩;refine bj ?_<;>refine Au rfl ?_<;>refine ac ?_;refine aa ?_;refine al ?_;exact U2 rfl rfl ⟨rfl,hE⟩
end
section
open Go Go.RowKit
attribute [local irreducible] ewp owp hwp hwq hws Ev Evg Fn T9 V1 U8 U4
structure Gnr where
  t:Tsk
def GnrR (w:World) (F:Nat->Prop) (v:Value):Option Gnr->Prop
  | none=>v=.pointer none
  | some g=>TaskOk g.t/\GenR w F v g.t (Ab2 g.t)
theorem GnrR.one {w:World} {F:Nat->Prop} {v:Value}:∀ {x:Option Gnr},GnrR w F v x->v.oneCell'=true
  | none,h=>by    have:v=.pointer none:=h
                  subst this;rfl
  | some g,h=>by
    obtain ⟨a,rfl⟩:=h.2.form;rfl
instance:Rp (Option Gnr) where
  isAgg:=false
  size:=1
  R w F cs x:=∃ v,cs=[v]/\GnrR w F v x
  len:=by rintro w F cs x ⟨v,rfl,_⟩;rfl
  one:=by
    rintro w F cs x ⟨v,rfl,h⟩ u hu;have:u=v:=(by simpa using hu);subst this;exact h.one
  agree:=by
    rintro w w' F cs x ⟨v,rfl,h⟩ ha;refine ⟨v,rfl,?_⟩;cases x with
    | none=>exact h
    | some g=>exact ⟨h.1,h.2.agree ha⟩
  mono:=by
    rintro w F G cs x ⟨v,rfl,h⟩ hk;refine ⟨v,rfl,?_⟩;cases x with
    | none=>exact h
    | some g=>exact ⟨h.1,h.2.mono hk⟩
theorem Afa {w:World} {F:Nat->Prop}:Vb w F (.pointer none) (none:Option Gnr):=⟨_,rfl,rfl⟩
theorem Vb.gnr {w:World} {F:Nat->Prop} {v:Value} {x:Option Gnr} (h:Vb w F v x):GnrR w F v x:=by
  obtain ⟨u,hu,h'⟩:=h;have:v=u:=(by simpa using hu);subst this;exact h'
theorem Vb.ptr {w:World} {F:Nat->Prop} {v:Value} {x:Option Gnr} (h:Vb w F v x):∃ p,v=.pointer p/\p.isNone=x.isNone:=by
  cases x with
  | none=>exact ⟨none,h.gnr,rfl⟩
  | some g=>obtain ⟨a,rfl⟩:=h.gnr.2.form;exact ⟨_,rfl,rfl⟩
theorem XH {w:World} {F:Nat->Prop} {p:Option Addr} {x:Option Gnr} {g:Gnr} (h:Vb w F (.pointer p) x) (e:x=some g) :
    ∃ d a b c i j,p=some ⟨d,0,none⟩/\F d/\cellsAt w d 0 [a,b,c,i,j]/\Vb w F a g.t.vars/\Vb w F b g.t.init/\Vb w F c g.t.goal/\Vb w F i g.t.ops:=by
  subst e;obtain ⟨_,d,a,b,c,i,j,f,h2,h3,h4,h5,h6,h7,_⟩:=h.gnr;injection f with f;exact ⟨d,a,b,c,i,j,f,h2,h3.cellsAt,h4,h5,h6,h7⟩
theorem Afc {w:World} {F:Nat->Prop} {v:Value} {g:Gnr} (h:TaskOk g.t) (a:GenR w F v g.t (Ab2 g.t)):Vb w F v (some g):=⟨v,rfl,h,a⟩
theorem Ze {A:Nat->Prop} {w w':World}:∀ k,nw w w' k->upA A w w' k:=λ _ h=>.inr h
theorem Own.intRow {w w':World} {F A:Nat->Prop} {e:TypeId} {v:Value} {xs:List Int} (h:Own w' w.heap.size F e v xs):RowR w w' (upA A w w') e v xs:=by
  obtain ⟨cells,q1,q2,q3⟩:=h;exact ⟨λ _=>False,λ _ h=>h.elim,cells,q1,LT q2,λ _ _ h=>h⟩
noncomputable def IL (t:Tsk):Option (Option Gnr×Err):=some (if bof (TaskOk t)=true then some ⟨t⟩ else none,⟨V6 t⟩)
theorem RV {w:World} {A:Nat->Prop} (hA:∀ k,A k->k < w.heap.size) {v0:Value} {b:Tsk} (d:Vb w A v0 b) {e:Option Gnr×Err} (hm:IL b=some e):Fn prog 72 [v0] w λ v w'=>Ext w w'/\T2 w' (upA A w w') v e:=by
  obtain rfl:=sm hm;refine (AeX (d.mono hA)).mono λ v w' h=>⟨h.1,?_⟩;rcases h.2 with ⟨a,gv,rfl,hg⟩|⟨c,rfl⟩
  . rw [CT a,IP.2 a];exact ⟨gv,_,rfl,Afc (g:=⟨b⟩) a (hg.mono Ze),vErr0⟩
  . rw [Cc c];exact ⟨_,_,rfl,Afa,vErr (Qj _)⟩
noncomputable def Afk:Option Gnr->List Int->List Int
  | none,_=>[]
  | some g,s=>Z6 g.t s
noncomputable def EZ (x:Option Gnr) (s:List Int):Option (List Int):=if s.length<=1000000 then some (Afk x s) else none
theorem Jo {w:World} {A:Nat->Prop} (hA:∀ k,A k->k < w.heap.size) {v0:Value} {a:Option Gnr} (c:Vb w A v0 a) {d:Value} {e:List Int} (f:Vb w A d e) {j:List Int} (hm:EZ a e=some j) :
    Fn prog 78 [v0,d] w λ v w'=>Ext w w'/\RowR w w' (upA A w w') 3 v j:=by
  obtain ⟨hl,rfl⟩:=DJ hm;cases a with
  | none =>
    have i:=c.gnr;have:v0=.pointer none:=i;subst this;refine Adj.mono λ v w' h=>⟨h.2,?_⟩;rw [h.1];exact RowR.nil
  | some g =>
    obtain ⟨b,hg⟩:=c.gnr;exact (Ae6 b (hg.mono hA) (f.mono hA) hl).mono λ v w' h=>⟨h.1,h.2.intRow⟩
end
section
section
variable {α σ ρ : Type}
theorem Cg {s:σ} {f:σ->Option ρ}:fin (.done s) f=f s:=rfl
theorem AbJ {c:ρ} {f:σ->Option ρ}:fin (.ret c) f=some c:=rfl
theorem DE {x y:α}:(if true=true then x else y)=x:=rfl
theorem Fe {x y:α}:(if false=true then x else y)=y:=rfl
theorem NS {f:Nat→α→σ→Option (Ctl σ ρ)} {I:Nat→σ→Prop} {R:ρ→Prop}:∀ (ys:List α) (j:Nat) (s:σ),I j s →
    (∀ k x s,ys[k]?=some x->I (j + k) s->(∃ a,f (j + k) x s=some (.next a)/\I (j + k + 1) a)\/(∃ g,f (j + k) x s=some (.ret g)/\R g)) ->
    (∃ a,rng f ys j s=some (.done a)/\I (j + ys.length) a)\/∃ g,rng f ys j s=some (.ret g)/\R g
  | [],j,s,c,_=>.inl ⟨s,rfl,c⟩
  | y :: ys,j,s,c,h=>by
    rcases h 0 y s rfl c with ⟨a,h1,h2⟩|⟨g,h1,h2⟩
    . have b:f j y s=some (.next a):=h1;simp only [rng,b];rcases NS (I:=I) (R:=R) ys (j + 1) a h2 (λ k x s hk e=>by
        have:=h (k + 1) x s (by simpa using hk) (by rwa [show j + (k + 1)=j + 1 + k from by omega]);rwa [show j + (k + 1)=j + 1 + k from by omega] at this) with ⟨d,h3,h4⟩|h3
      . exact .inl ⟨d,h3,by rw [L6,show j + (ys.length + 1)=j + 1 + ys.length from by omega];exact h4⟩
      . exact .inr h3
    . have b:f j y s=some (.ret g):=h1;simp only [rng,b];exact .inr ⟨g,rfl,h2⟩
theorem Zf {f:Nat->α->σ->Option (Ctl σ ρ)} {xs:List α} {s₀:σ} (I:Nat->σ->Prop) (R:ρ->Prop) (c:I 0 s₀)
    (h:∀ k x s,xs[k]?=some x->I k s->(∃ a,f k x s=some (.next a)/\I (k + 1) a)\/(∃ d,f k x s=some (.ret d)/\R d)) :
    (∃ a,rng f xs 0 s₀=some (.done a)/\I xs.length a)\/∃ d,rng f xs 0 s₀=some (.ret d)/\R d:=by
  have:=NS (f:=f) (I:=I) (R:=R) xs 0 s₀ c (λ k x s hk b=>by rw [R0] at b ⊢;exact h k x s hk b);rwa [R0] at this
theorem Ut {f:Nat->α->σ->Option (Ctl σ ρ)} {xs:List α} {s₀:σ} (I:Nat->σ->Prop) (b:I 0 s₀) (h:∀ k x s,xs[k]?=some x->I k s->∃ a,f k x s=some (.next a)/\I (k + 1) a) :
    ∃ a,rng f xs 0 s₀=some (.done a)/\I xs.length a:=by
  rcases Zf I (λ _=>False) b (λ k x s hk c=>.inl (h k x s hk c)) with h|⟨_,_,h⟩
  . exact h
  . exact h.elim
theorem Uu {f:Nat->α->σ->Option (Ctl σ ρ)} {xs:List α} (g:Nat->σ) (h:∀ k x,xs[k]?=some x->f k x (g k)=some (.next (g (k + 1)))):rng f xs 0 (g 0)=some (.done (g xs.length)):=by
  obtain ⟨b,h1,h2⟩:=Ut (f:=f) (xs:=xs) (s₀:=g 0) (λ k s=>s=g k) rfl (λ k x s hk a=>⟨_,by rw [a];exact h k x hk,rfl⟩);rw [h1,h2]
theorem FR {f:Nat->α->σ->Option (Ctl σ ρ)} {xs:List α} {s₀:σ} (g:Nat->σ) (a:s₀=g 0) (h:∀ k x,xs[k]?=some x->f k x (g k)=some (.next (g (k + 1)))):rng f xs 0 s₀=some (.done (g xs.length)):=by
  rw [a];exact Uu g h
theorem XI {f:Nat->σ->Option (Ctl σ ρ)} {N:Nat} (g:Nat->σ) (h:∀ k,k < N->f k (g k)=some (.next (g (k + 1)))):rngN f N (g 0)=some (.done (g N)):=by
  have:=Uu (f:=λ _ k s=>f k s) (xs:=List.range N) g (λ k x hk=>by
    obtain ⟨hlt,rfl⟩:=B7.1 hk;simpa using h k (by simpa using hlt))
  rwa [L3] at this
theorem LC {f:Nat->σ->Option (Ctl σ ρ)} {N:Nat} {s₀:σ} (g:Nat->σ) (a:s₀=g 0) (h:∀ k,k < N->f k (g k)=some (.next (g (k + 1)))):rngN f N s₀=some (.done (g N)):=by
  rw [a];exact XI g h
end
end
section
open Go Go.RowKit
theorem MN (f:List Fct) (s:List Int):DO f s=some (holdsB f s):=rfl
theorem Th {ρ:Type} {s:List Int} {a:List Eff} (he:Adt s a) (m:List Fct->List Int->Option Bool) (hm:∀ f s,m f s=some (holdsB f s)) (u:List Int) (hu:u.length=s.length) :
    rng (ρ:=ρ) (λ (_:Nat) (e:Eff) (b:List Int)=>bnd (m e.cond s) λ q=>if q=true then bnd (atI b e.var) λ _=>some (.next (b.set (e.var).toNat e.val)) else some (.next b)) a 0 u=some (.done (effsOn s a u)):=by
  rw [FR (λ k=>effsOn s (a.take k) u) ?_ ?_,M9]
  . rfl
  intro k e hk;rw [hm,At,TW s hk];have c:=he k e hk;have hl:=Nh s (a.take k) u;by_cases hb:holdsB e.cond s=true
  . rw [if_pos hb,if_pos hb];obtain ⟨j,hj⟩:=D1 c.1;rw [hj,CY,C4 (by omega),At]
  . rw [if_neg hb,if_neg hb]
theorem XJ {t:Tsk} {s:List Int} {j:Nat} {o:Opr} (a:t.ops[j]?=some o) (b:holdsB o.pre s=true) (hl:s.length<=1000000) (he:Adt s o.effs):EX t s (j:Int)=some (succ o s,true):=by
  have hj:=AO a;unfold EX;rw [if_neg (by omega),if_neg (by omega),CY,a,At,MN,At,b,DE,At,Fe,Bn (by simp;omega) (by simp;omega),At,At,N6,Th he DO MN s rfl,At,Cg];rfl
theorem Rs {a s:List Int}:∀ (l:List Eff),(∀ e∈l,AeC a e)→∀ (u:List Int),StateOk a u→StateOk a (effsOn s l u)
  | [],_,_,hu=>hu
  | e :: l,he,u,hu=>by
    refine Rs l (λ c d=>he c (G1 _ d)) _ ?_;split
    . obtain ⟨_,h1,h2,y,hy,h3⟩:=he e J0;refine ⟨by rw [N9];exact hu.1,λ i x n b hn=>?_⟩;rw [K2] at b;by_cases hi:e.var.toNat=i
      . subst hi;rw [if_pos rfl] at b;split at b
        . obtain rfl:=N4 b;simp only at hy h2 h3;rw [hy] at hn;obtain rfl:=N4 hn;exact ⟨h2,h3⟩
        . cases b
      . rw [if_neg hi] at b;exact hu.2 i x n b hn
    . exact hu
theorem Uv {t:Tsk} (h:TaskOk t) {s:List Int} (hs:StateOk t.vars s) {k:Nat} {o:Opr} (a:t.ops[k]?=some o):StateOk t.vars (succ o s) :=
  Rs o.effs (λ e he=>by obtain ⟨j,hj⟩:=G6 he;exact (h.2.2.2.2.2 k o a).2.2.2.2.2 j e hj) s hs
theorem WE {t:Tsk} (h:TaskOk t) {s:List Int} (hs:StateOk t.vars s) {k:Nat} {o:Opr} (a:t.ops[k]?=some o):EX t s (k:Int)=some (if holdsB o.pre s=true then (succ o s,true) else ([],false)):=by
  have hk:=AO a;by_cases b:holdsB o.pre s=true
  . rw [XJ a b (by have:=hs.1;have:=h.1;omega) (h.effs hs k o a),if_pos b]
  . unfold EX;rw [if_neg (by omega),if_neg (by omega),CY,a,At,MN,At,if_neg b,if_neg b,At,DE]
end
section
open Go Go.RowKit
section
attribute [local irreducible] ewp owp hwp hwq hws Ev Evg Fn T9 V1 U8 U4
noncomputable def Cp (o:Option Gnr) (j:List Int):Option (List Suc) :=
  bnd (EZ o j) λ r=>bnd (rng (ρ:=(List Suc)) (λ (s:Nat) (e:Int) (k:(List Suc))=>bnd (Cx j) λ l=>bnd (o) λ m=>bnd (atI m.t.ops e) λ n=>bnd (rng (ρ:=Ctl (List Suc) (List Suc)) (λ (p:Nat) (a:Eff) (b:(List Int))=>bnd (Ef a.cond j) λ f=>if f=true then bnd (atI b a.var) λ q=>some (.next (b.set (a.var:Int).toNat a.val)) else some (.next b)) n.effs 0 l) λ c=>fin c λ (g:(List Int))=>bnd (T5 32 k [(⟨e,g⟩:Suc)]) λ h=>some (.next h)) r 0 ([]:List Suc)) λ d=>fin d λ (i:(List Suc))=>some i
theorem Jp {w:World} {A:Nat->Prop} (hA:∀ k,A k->k < w.heap.size) {vx0:Value} {x0:Option Gnr} (d0:Vb w A vx0 x0) {vx1:Value} {x1:List Int} (o1:Vb w A vx1 x1) {r:(List Suc)} (hm:Cp x0 x1=some r) :
    Fn prog 34 [vx0,vx1] w λ v w'=>Ext w w'/\Vb w' (upA A w w') v r:=by
 obtain ⟨O,hB,n3⟩:=enter hA;replace d0:=d0.mono n3;obtain ⟨p3,rfl,o3⟩:=d0.ptr;obtain ⟨A5,c6,rfl⟩:=o1.form;refine AH func34 rfl ntmps34 ?_;unfold Cp at hm;refine Ah (Ae (Au rfl (o_z (Ah (Ae (Au rfl (o_z (Ah (Ah (Ae (Ar rfl (Ar rfl ?_))))))))))));obtain ⟨q7,e8,hm⟩:=bs hm;refine GH 2 (O:=O) (Jo Fr.lt d0 (o1.zs hA hB) e8) rfl rfl λ p1 q1 w9 q3 f3 j0=>?_;refine AT rfl ?_;have w1:=BK j0.len;have s5:=rngNat w1;refine Ar rfl (o_z ?_);obtain ⟨g3,y1,hm⟩:=bs hm;replace d0:=d0.st f3;replace hB:=hB.st f3;refine Dv (X:=(Option Addr×Nat)) (q7.length) y1 rfl w1 (λ q0 n0=>[(0,(.pointer p3)),(1,(.slice A5 x1.length c6)),(5,(.slice n0.1 q0.length n0.2)),(13,(.slice p1 q7.length q1))]) (λ q0 n0 w'=>∃ O':Lab,Bs w A w' O'/\Vb w' (Fr 0 w' O') (.pointer p3) x0/\Rw 5 w' O' 95 (.slice n0.1 q0.length n0.2) q0/\Rw 2 w' O' 3 (.slice p1 q7.length q1) q7) (none,0) ⟨q3,hB,d0,(Rw.nil 5 (by decide)),j0⟩ ⟨rfl,rfl,rfl,rfl,rfl,rfl,trivial⟩ (λ _ _=>rfl) ?_ ?_
 ·rintro r3 r1 q0 n0 t5 s3 y0 ⟨t3,hB,d0,h0,j0⟩ b0 z1 a2;have rk23:=V5 y0 w1;refine Ah (Ae ?_);obtain ⟨u5,v5,u3,b2,c2,d2,rfl,v3⟩:=j0.elem y0;refine CN (hA:=b2) (hj:=rfl) (hlt:=c2) rfl rfl (AQ (hc:=cat0 d2) rfl (Au rfl (o_z (Ah (Ae (Ar rfl ?_))))));obtain ⟨e2,w3,b0⟩:=bs b0;refine GH 3 (O:=t3) (GA Fr.lt (o1.zs hA hB) w3) rfl rfl λ f2 g2 w5 x3 s1 y3=>?_;refine Au rfl (o_z (Ah (Ah (Ae (Ar rfl ?_)))));obtain ⟨x5,h3,b0⟩:=bs b0;obtain ⟨ad59,h2⟩:=QL (o3.trans (by rw [h3];rfl));refine Abn (hA:=h2) rfl rfl ?_;replace d0:=d0.st s1;obtain ⟨y5,z5,a6,b6,d6,e6,i2,z3,j2,a4,b4,c4,i3⟩:=XH d0 h3;obtain ⟨f6,g6,rfl⟩:=a4.form;obtain ⟨h6,i6,rfl⟩:=b4.form;obtain ⟨j6,k6,rfl⟩:=c4.form;obtain ⟨l6,m6,rfl⟩:=i3.form;refine Abm (hA:=i2) rfl rfl (AD rfl (AQ (hc:=cat3 j2) rfl (Ar rfl ?_)));obtain ⟨t1,d4,b0⟩:=bs b0;obtain ⟨e4,f4⟩:=Dz d4;obtain ⟨n6,o6,g4,k2,l2,m2,p6,h4,rfl,n2,e0,i4,j4⟩:=i3.elem' f4;obtain ⟨k4,l4,rfl⟩:=n2.form;obtain ⟨z0,a1,rfl⟩:=e0.form;refine CN (hA:=k2) (hj:=e4) (hlt:=l2) rfl rfl (AD rfl (AQ (hc:=cat3 m2) rfl (AT rfl ?_)));have t0:=BK e0.len;have m4:=rngNat t0;refine Ar rfl (o_z ?_);obtain ⟨o2,b1,b0⟩:=bs b0;replace hB:=hB.st s1;replace j0:=j0.st s1;replace h0:=h0.st s1;refine Dv (X:=Unit) (t1.effs.length) b1 rfl t0 (λ u0 c1=>[(0,(.pointer p3)),(1,(.slice A5 x1.length c6)),(5,(.slice n0.1 q0.length n0.2)),(7,(.int .i64 r1)),(8,(.slice f2 e2.length g2)),(13,(.slice p1 q7.length q1)),(14,(.int .i64 (q7.length:Int))),(15,(.int .i64 (r3:Int))),(29,(.slice z0 t1.effs.length a1))]) (λ u0 c1 w'=>∃ O':Lab,Bs w A w' O'/\Vb w' (Fr 0 w' O') (.pointer p3) x0/\Rw 5 w' O' 95 (.slice n0.1 q0.length n0.2) q0/\Rw 3 w' O' 3 (.slice f2 e2.length g2) u0/\Rw 2 w' O' 3 (.slice p1 q7.length q1) q7/\Vb w' (Fr 0 w' O') (.slice z0 t1.effs.length a1) t1.effs) () ⟨x3,hB,d0,h0,y3,j0,e0⟩ ⟨rfl,rfl,rfl,rfl,rfl,rfl,rfl,rfl,rfl,rfl,rfl,trivial⟩ (λ _ _=>rfl) ?_ ?_
  ·rintro n4 p2 u0 c1 o4 j3 r0 ⟨q2,hB,d0,h0,c0,j0,e0⟩ a0 u1 v1;have rk115:=V5 r0 t0;refine Ah (Ae ?_);obtain ⟨p4,q4,k3,d1,e1,f1,r4,rfl,o0,s4,r2⟩:=e0.elem' r0;obtain ⟨t4,u4,rfl⟩:=o0.form;refine CN (hA:=d1) (hj:=rfl) (hlt:=e1) rfl rfl (BX (hl:=rfl) (hc:=f1) rfl ?_);refine Bw 4 q2 λ v4 w4 g1 l0 g0=>?_;refine AR g0 rfl rfl rfl (AY) (allOne) λ s2 m0 g0=>?_;refine o_z (Ah (Ae (AD rfl (AQ (hc:=Blk.cell (i:=0) (g0.1) rfl) rfl (Ar rfl ?_)))));obtain ⟨t2,u2,a0⟩:=bs a0;replace hB:=(hB.st l0).st m0;replace o0:=(o0.st l0).st m0;refine Bv (O:=g1) (HW (λ _ h=>h) (vMo o0) (Vb.mono (F:=Fr 0 s2 g1) (o1.zs hA hB) Fr.lt) u2) rfl λ x4 y4 z4 k0 v2=>?_;obtain rfl:=v2.bool;cases t2
   case false =>
    replace a0:=iF a0;refine o_z (Aj rfl (AK ?_));obtain rfl:=sm a0;have f0:=(l0.an m0).an k0;exact show Exists _ from ⟨_,(),rfl,⟨rfl,rfl,rfl,rfl,rfl,rfl,rfl,rfl,rfl,rfl,rfl,trivial⟩,_,hB.st k0,d0.st f0,h0.st f0,c0.st f0,j0.st f0,e0.st f0⟩
   replace a0:=iT a0;refine o_z (Am rfl (Ae (Ar rfl (AD rfl ?_))));replace g0:=g0.st k0;refine AQ (hc:=Blk.cell (i:=1) (g0.1) rfl) rfl (AD rfl (AQ (hc:=Blk.cell (i:=2) (g0.1) rfl) rfl ?_));obtain ⟨a5,w2,a0⟩:=bs a0;obtain ⟨x2,h1⟩:=Dz w2;replace c0:=((c0.st l0).st m0).st k0;obtain ⟨b5,c5,l3,s0,i1,m3,rfl,d5⟩:=c0.elem h1;refine CN (hA:=s0) (hj:=x2) (hlt:=i1) rfl rfl ?_;refine GG rfl c0 (a:=p2.val) (vInt r2) s0 rfl rfl (AO h1) λ e5 j1 c0=>?_;refine o_z ?_;obtain rfl:=sm a0;have i0:=((l0.an m0).an k0).an j1;exact show Exists _ from ⟨_,(),rfl,⟨rfl,rfl,rfl,rfl,rfl,rfl,rfl,rfl,rfl,rfl,rfl,trivial⟩,_,(hB.st k0).st j1,d0.st i0,h0.st i0,c0,j0.st i0,e0.st i0⟩
  rintro f5 g5 ⟨k1,h5,rfl,l1,i5,hB,d0,h0,c0,j0,e0⟩;replace b0:=BE b0;refine AX _ l1 ?_;refine Ae (Ar rfl (Ar rfl (Ar rfl (CX rfl rfl ?_))));obtain ⟨j5,p0,c0⟩:=c0.freeze;obtain ⟨k5,v0,b0⟩:=bs b0;obtain ⟨v0,y2,z2⟩:=Bz v0;replace h0:=h0.st p0;refine DQ rfl (a:=(⟨r1,k1⟩:Suc)) h0 (Vb.ofAgg (cs:=[(.int .i64 r1),(.slice f2 e2.length g2)]) (x:=(⟨r1,k1⟩:Suc)) rfl ⟨_,rfl,c0,v3⟩) (λ _=>rfl) rfl y2 z2 ⟨rfl,rfl⟩ λ l5 a3 b3 m5 n5 w0 m1=>?_;rw [<- v0] at m1 ⊢;refine Au rfl (o_z ?_);obtain rfl:=sm b0;exact show Exists _ from ⟨_,(a3,b3),rfl,⟨rfl,rfl,rfl,rfl,rfl,rfl,trivial⟩,_,(hB.st p0).st w0,(d0.st p0).st w0,m1,(j0.st p0).st w0⟩
 rintro o5 c3 ⟨p5,q5,rfl,n1,r5,hB,d0,h0,j0⟩;replace hm:=BE hm;refine AX _ n1 ?_;refine Ah (Ae (Ar rfl (Au rfl (o_z (AE ?_)))));obtain ⟨d3,e3,h0⟩:=h0.freeze;obtain rfl:=sm hm;replace hB:=hB.st e3;exact U0 rfl (AF rfl) ⟨hB.ext,(Vb.mono (F:=Fr 0 c3 d3) h0 hB.out)⟩
end
theorem XK {s:List Int} (hl:s.length<=1000000):Cx s=some s:=if_pos ⟨by omega,by omega⟩
theorem Zg {t:Tsk} {s:List Int} (a:TaskOk t) (hl:s.length<=1000000):Cp (some ⟨t⟩) s=some ((Z6 t s).map (Acc t s)):=by
  have c:EZ (some ⟨t⟩) s=some (Z6 t s):=if_pos hl;have d:=a.2.1;have e:=XG t s;unfold Cp;rw [c,At];rw [FR (λ k=>((Z6 t s).take k).map (Acc t s)) ?_ ?_,At,Cg,M9]
  . rfl
  intro k x hk;have f:=AO hk;obtain ⟨b,hmem⟩:=XF (G2 hk);obtain ⟨j,o,rfl,hj,hp⟩:=Tf hmem;rw [XK hl,At,At,CY,hj,At,Th (a.effs b j o hj) Ef (λ _ _=>rfl) s rfl,At,Cg,Bn (by simp;omega) (by simp;omega),At,K4,hk,P3];simp [Acc,hj,succ]
theorem AaL {t:Tsk} (h:TaskOk t):IL t=some (some ⟨t⟩,⟨0⟩):=by unfold IL;rw [CT h,DE,IP.2 h]
end
section
open Go Go.RowKit
attribute [local irreducible] ewp owp hwp hwq hws Ev Evg Fn T9 V1 U8 U4
attribute [local irreducible] hwx V7
structure Spc where
  t:Tsk
  reg:Reg
  gen:Option Gnr
instance:Ow Spc where
  R w F j v x:=∃ (g:Nat) (L:Lab) (a b c d e f:Value),v=.pointer (some ⟨g,0,none⟩)/\Blk w g 88 [a,b,c,d,e,f]/\j g/\L g=0/\Vb w F a x.t.vars/\Vb w F b x.t.init/\Vb w F c x.t.goal/\Vb w F d x.t.ops/\Ow.R w F (λ k=>j k/\L k=1) e x.reg/\Vb w F f x.gen
  agree:=by rintro w w' F j v x ⟨g,L,a,b,c,d,e,f,rfl,hb,hM,hL,h0,h1,h2,h3,h4,h5⟩ a1 a2;exact ⟨g,L,a,b,c,d,e,f,rfl,hb.keep (a2 g hM),hM,hL,h0.agree a1,h1.agree a1,h2.agree a1,h3.agree a1,Ow.agree h4 a1 λ k hk=>a2 k hk.1,h5.agree a1⟩
  mono:=by rintro w F j h i v x ⟨g,L,a,b,c,d,e,f,rfl,hb,hM,hL,h0,h1,h2,h3,h4,h5⟩ a1 a2 a3;exact ⟨g,L,a,b,c,d,e,f,rfl,hb,a2 g hM,hL,h0.mono a1,h1.mono a1,h2.mono a1,h3.mono a1,Ow.mono h4 a1 (λ k hk=>⟨a2 k hk.1,hk.2⟩) λ k hf hm=>a3 k hf hm.1,h5.mono a1⟩
instance:OwP Spc:=⟨by rintro w F a v x ⟨g,L,c0,c1,c2,c3,c4,c5,rfl,_⟩;exact ⟨g,rfl⟩⟩
theorem Spc.opn {i:Nat} {w:World} {O:Lab} {p:Nat} {x:Spc} (h:Ob i w O (.pointer (some ⟨p,0,none⟩)) x) (l0 c:Nat) (hl:l0≠0/\c≠0):∃ (a:Lab) (d e f l m n:Value),St (eT i) w O w a/\(∀ k,Fr i w O k->∃ q,q∈[l0,c]/\Fr q w a k)/\Lc l0 w a p 88 [d,e,f,l,m,n]/\Vb w (Fr 0 w a) d x.t.vars/\Vb w (Fr 0 w a) e x.t.init/\Vb w (Fr 0 w a) f x.t.goal/\Vb w (Fr 0 w a) l x.t.ops/\Ob c w a m x.reg/\Vb w (Fr 0 w a) n x.gen:=by
  obtain ⟨⟨g,L,d,e,f,l,m,n,b,hb,hM,hL,h0,h1,h2,h3,h4,h5⟩,hi⟩:=h;obtain rfl:p=g:=(by injection b with b;injection b with b;injection b);exact ⟨part O i L [l0,c],d,e,f,l,m,n,Md hi,KU (by simp),⟨hb,(FK (j:=0) rfl p ⟨hM,hL⟩).2⟩,h0.mono (DS hi),h1.mono (DS hi),h2.mono (DS hi),h3.mono (DS hi),⟨Ow.mono h4 (DS hi) (FK (j:=1) rfl) (W6 hl.2),hl.2⟩,h5.mono (DS hi)⟩
theorem Spc.shut {w:World} {O:Lab} {p:Nat} {x:Spc} {l0 c:Nat} {g h j l m n:Value} (hd:¬ 0∈[l0,c]/\[l0,c].idxOf l0=0/\[l0,c].idxOf c=1) (hb:Lc l0 w O p 88 [g,h,j,l,m,n]) (r:Vb w (Fr 0 w O) g x.t.vars) (s:Vb w (Fr 0 w O) h x.t.init) (u:Vb w (Fr 0 w O) j x.t.goal) (v:Vb w (Fr 0 w O) l x.t.ops) (y:Ob c w O m x.reg) (z:Vb w (Fr 0 w O) n x.gen):∃ f,St (·∈[l0,c]) w O w f/\(∀ k,Fr 0 w O k->Fr 0 w f k)/\(∀ q,q∈[l0,c]->∀ k,Fr q w O k->Fr l0 w f k)/\Ob l0 w f (.pointer (some ⟨p,0,none⟩)) x:=by
  have d:l0≠0:=λ e=>hd.1 (by simp [e]);have o:=ES (i:=l0) hd.2.1 (by simp) p ⟨hb.1.lt,hb.2⟩;exact ⟨Z3 O l0 [l0,c],KV,CI hd.1,JT,⟨p,λ k=>[l0,c].idxOf (O k),g,h,j,l,m,n,rfl,hb.1,o.1,o.2,r.mono (CI hd.1),s.mono (CI hd.1),u.mono (CI hd.1),v.mono (CI hd.1),Ow.mono y.1 (CI hd.1) (ES hd.2.2 (by simp)) (λ k a b=>W6 d k a b.1),z.mono (CI hd.1)⟩,d⟩
noncomputable def FM (a:Tsk):Option ((Option Spc)×Err) :=
  bnd (IL a) λ b=>if b.2.n≠0 then (some (none,(⟨b.2.n⟩:Err))) else (bnd (GX a.vars) λ c=>if c.2.n≠0 then (some (none,(⟨c.2.n⟩:Err))) else (bnd c.1 λ e=>bnd (BS e a.init) λ d=>if d.2.2.1.n≠0 then (some (none,(⟨d.2.2.1.n⟩:Err))) else (some ((some (⟨(⟨a.vars,a.init,a.goal,a.ops⟩:Tsk),d.2.2.2,b.1⟩:Spc)),(⟨0⟩:Err)))))
theorem Qu {w:World} {O:Lab} {vx0:Value} {x0:Tsk} (b0:Vb w (Fr 0 w O) vx0 x0) (j0:Nat) (hj0:j0≠0) {r:(Option Spc)×Err} (hm:FM x0=some r) :
    Fn prog 27 [vx0] w λ v w'=>∃ O',St nT w O w' O'/\∃ v0 v1:Value,v=.tuple #[v0,v1]/\Obo j0 w' O' v0 r.1/\Vb w' (Fr 0 w' O') v1 r.2:=by
 obtain ⟨O0,hE,s0⟩:=AdZ (w:=w) (O:=O);have hB:Bm w O0 w O0:=Bm.refl;replace b0:=b0.mono s0;obtain ⟨x1,rfl,v3,v4,v5,v6,rfl,h7,f0,p0,q0⟩:=id b0;obtain ⟨A8,c9,rfl⟩:=h7.form;obtain ⟨y1,z1,rfl⟩:=f0.form;obtain ⟨a2,b2,rfl⟩:=p0.form;obtain ⟨c2,d2,rfl⟩:=q0.form;refine AH func27 rfl ntmps27 ?_;unfold FM at hm;refine Ah (Ae (Fi 2 O0 rfl λ e2 f2 t0 u0 a0=>?_));refine Au rfl (Au rfl (o_z (Ah (Ae (BX (hl:=rfl) (hc:=(a0.1).cellsAt) rfl ?_)))));obtain ⟨r0,w0,hm⟩:=bs hm;replace hB:=hB.st u0;refine Ix (O:=t0) (R:=λ w' F v=>T2 w' F v r0) (RV Fr.lt (b0.z hB) w0) rfl rfl λ g2 h2 y0 g0 z0=>?_;obtain ⟨i2,j2,rfl,c0,a1⟩:=z0;obtain ⟨k2,rfl,b1⟩:=c0.ptr;obtain ⟨rfl,c1⟩:=a1.err;refine Ar rfl (BW rfl rfl (BW rfl rfl (Au rfl (Au rfl (o_z (Ah (Ah (Ae (Ar rfl (FA rfl (λ h0=>?_) λ h0=>?_))))))))))
 ·replace hm:=ip hm h0;refine o_z (Am rfl (Ah (Ae (Ar rfl (Au rfl (Au rfl (o_z (AE ?_))))))));obtain rfl:=sm hm;replace hB:=hB.st g0;obtain ⟨O',hS',hz,hl⟩:=hE.leave (λ _=>0) rfl hB;exact U6 rfl (AF rfl) (AF rfl) ⟨O',hS',_,_,rfl,rfl,(vErr c1)⟩
 replace hm:=im hm h0;refine o_z (Aj rfl (AK (Ah (Ae (AD rfl ?_)))));replace a0:=a0.st g0;refine AQ (hc:=Blk.cell (i:=0) (a0.1) rfl) rfl ?_;obtain ⟨l2,d1,hm⟩:=bs hm;replace hB:=hB.st g0;refine Dm (O:=y0) (QU (h7.z hB) 3 (by decide) d1) rfl λ m2 n2 e1 d0 f1=>?_;obtain ⟨o2,p2,rfl,i0,g1⟩:=f1;obtain ⟨rfl,h1⟩:=g1.err;refine Ar rfl (BW rfl rfl (BW rfl rfl (Au rfl (Au rfl (o_z (Ah (Ah (Ae (Ar rfl (FA rfl (λ k0=>?_) λ k0=>?_))))))))))
 ·replace hm:=ip hm k0;refine o_z (Am rfl (Ah (Ae (Ar rfl (Au rfl (Au rfl (o_z (AE ?_))))))));obtain rfl:=sm hm;replace hB:=hB.st d0;obtain ⟨O',hS',hz,hl⟩:=hE.leave (λ _=>0) rfl hB;exact U6 rfl (AF rfl) (AF rfl) ⟨O',hS',_,_,rfl,rfl,(vErr h1)⟩
 replace hm:=im hm k0;refine o_z (Aj rfl (AK (Ah (Ah (Ae (Ar rfl (AD rfl ?_)))))));replace a0:=a0.st d0;refine AQ (hc:=Blk.cell (i:=1) (a0.1) rfl) rfl ?_;obtain ⟨q2,i1,hm⟩:=bs hm;rw [i1] at i0;obtain ⟨r2,rfl⟩:=Ob.ptr i0;obtain ⟨j1,k1,hm⟩:=bs hm;replace hB:=hB.st d0;refine Dm (O:=e1) (Il i0 (f0.z hB) k1) rfl λ s2 t2 l1 e0 m1=>?_;obtain ⟨u2,v2,w2,m0,rfl,n1,o1,p1⟩:=m1;obtain ⟨rfl,x2⟩:=n1.int;obtain rfl:=o1.bool;obtain ⟨rfl,q1⟩:=p1.err;refine Ar rfl (BW rfl rfl (BW rfl rfl (BW rfl rfl (Au rfl (Au rfl (Au rfl (o_z (Ah (Ae (Ar rfl (FA rfl (λ n0=>?_) λ n0=>?_)))))))))))
 ·replace hm:=ip hm n0;refine o_z (Am rfl (Ah (Ae (Ar rfl (Au rfl (Au rfl (o_z (AE ?_))))))));obtain rfl:=sm hm;replace hB:=hB.st e0;obtain ⟨O',hS',hz,hl⟩:=hE.leave (λ _=>0) rfl hB;exact U6 rfl (AF rfl) (AF rfl) ⟨O',hS',_,_,rfl,rfl,(vErr q1)⟩
 replace hm:=im hm n0;refine o_z (Aj rfl (AK (Ah (Ae ?_))));replace a0:=a0.st e0;refine BX (hl:=rfl) (hc:=(a0.1).cellsAt) rfl (Ar rfl (Ar rfl (CX rfl rfl ?_)));refine Fi 4 l1 rfl λ y2 z2 a3 o0 r1=>?_;refine Au rfl (Au rfl (o_z (AE ?_)));replace hB:=(hB.st e0).st o0;replace c0:=((c0.st d0).st e0).st o0;replace m0:=m0.st o0;obtain ⟨b3,s1,t1,u1,w1⟩:=Spc.shut (x:=(⟨(⟨x0.vars,x0.init,x0.goal,x0.ops⟩:Tsk),j1.2.2.2,r0.1⟩:Spc)) (l0:=4) (by decide) r1 (h7.z hB) (f0.z hB) (p0.z hB) (q0.z hB) m0 c0;obtain rfl:=sm hm;replace hB:=hB.st s1;obtain ⟨O',hS',hz,hl⟩:=hE.leave (λ q=>if q=4 then j0 else 0) rfl hB;exact U6 rfl (AF rfl) (AF rfl) ⟨O',hS',_,_,rfl,(Ob.leave w1 hz (hl 4 (by decide) (by decide)) hj0),(vErr (T8 0))⟩
noncomputable def DP (h:Spc) (i:Int) (j:Int):Option (Rsl×Err) :=
  bnd (Ei h.reg i) λ a=>if a.2.n≠0 then (some ((⟨0,([]:List Int),0,0⟩:Rsl),(⟨a.2.n⟩:Err))) else (bnd (rng (ρ:=Rsl×Err) (λ (k:Nat) (f:Int) (g:Int)=>bnd (atI h.t.ops f) λ c=>bnd (T4 (g + c.cost)) λ d=>some (.next d)) a.1 0 0) λ b=>fin b λ (e:Int)=>some ((⟨1,a.1,e,j⟩:Rsl),(⟨0⟩:Err)))
theorem LV {w:World} {O:Lab} {p0 i0:Nat} {x0:Spc} (r0:Ob i0 w O (.pointer (some ⟨p0,0,none⟩)) x0) {x1:Int} (rx1:T3 x1) {x2:Int} (rx2:T3 x2) {r:Rsl×Err} (hm:DP x0 x1 x2=some r) :
    Fn prog 32 [(.pointer (some ⟨p0,0,none⟩)),(.int .i64 x1),(.int .i64 x2)] w λ v w'=>∃ O',St (eT i0) w O w' O'/\∃ v0 v1:Value,Ob i0 w' O' (.pointer (some ⟨p0,0,none⟩)) x0/\v=.tuple #[v0,v1]/\Vb w' (Fr 0 w' O') v0 r.1/\Vb w' (Fr 0 w' O') v1 r.2:=by
 obtain ⟨O0,hE,a3,b3⟩:=X9 (w:=w) (O:=O) r0.2;have r0':=Ob.leave r0 a3 b3 (j:=2) (by decide);have hB:Bm w O0 w O0:=Bm.refl;refine AH func32 rfl ntmps32 ?_;unfold DP at hm;refine Ah (Ae (Bw 3 O0 λ g4 w5 O6 S7 h8=>?_));refine Au rfl (o_z (Ah (Ae (Ar rfl (Dr rfl ?_)))));replace r0':=r0'.st S7;obtain ⟨O9,c5,d5,e5,f5,g5,h5,s1,c3,t0,u0,w0,y0,z0,n2,a1⟩:=Spc.opn r0' 2 4 (by decide);obtain ⟨i5,j5,rfl⟩:=u0.form;obtain ⟨k5,l5,rfl⟩:=w0.form;obtain ⟨m5,n5,rfl⟩:=y0.form;obtain ⟨o5,p5,rfl⟩:=z0.form;obtain ⟨q5,rfl⟩:=n2.ptr;obtain ⟨r5,rfl,d3⟩:=a1.ptr;refine AD rfl (AQ (hc:=Blk.cell (i:=4) (t0.1) rfl) rfl (Ar rfl ?_));obtain ⟨s0,e3,hm⟩:=bs hm;refine Dm (O:=O9) (Lh n2 rx1 e3) rfl λ s5 t5 f3 e1 g3=>?_;obtain ⟨u5,v5,f1,rfl,d0,h3⟩:=g3;obtain ⟨g1,h1,rfl⟩:=d0.form;obtain ⟨rfl,i3⟩:=h3.err;refine Ar rfl (BW rfl rfl (BW rfl rfl (Au rfl (Au rfl (o_z (Ah (Ah (Ae (Ar rfl (FA rfl (λ w1=>?_) λ w1=>?_))))))))))
 ·replace hm:=ip hm w1;refine o_z (Am rfl (Ah (Ae (CX rfl rfl ?_))));refine ab ?_;replace h8:=(h8.st s1).st e1;refine AR h8 rfl rfl rfl (AY) (allOne) λ x5 y1 h8=>?_;refine Au rfl (o_z (AE ?_));have a0:=e1.an y1;replace t0:=t0.st a0;replace u0:=u0.st a0;replace w0:=w0.st a0;replace y0:=y0.st a0;replace z0:=z0.st a0;replace a1:=a1.st a0;replace f1:=f1.st y1;obtain ⟨y5,o2,j3,k3,l3⟩:=Spc.shut (x:=x0) (l0:=2) (by decide) t0 u0 w0 y0 z0 f1 a1;obtain rfl:=sm hm;replace hB:=((((hB.st S7).st s1).st e1).st y1).st o2;obtain ⟨O',hS',hz,hl⟩:=hE.leave (λ q=>if q=2 then i0 else 0) rfl hB;replace h8:=h8.st o2;exact U6 rfl (DH (cs:=[(.int .i64 0),(.slice none 0 0),(.int .i64 0),(.int .i64 0)]) rfl rfl h8.1.cellsAt) (AF rfl) ⟨O',hS',_,_,(Ob.leave l3 hz (hl 2 (by decide) (by decide)) r0.2),rfl,(Vb.mono (Vb.ofAgg (cs:=[(.int .i64 0),(.slice none 0 0),(.int .i64 0),(.int .i64 0)]) (x:=(⟨0,([]:List Int),0,0⟩:Rsl)) rfl ⟨_,rfl,(Vb.nil _ _),(T8 0),(T8 0),(T8 0)⟩) hz),(vErr i3)⟩
 replace hm:=im hm w1;refine o_z (Aj rfl (AK (Ah (Ae (Ar rfl (Ar rfl (CX rfl rfl ?_)))))));refine Bw 5 f3 λ p2 z5 a6 i1 e0=>?_;refine AR e0 rfl rfl rfl (AY) (allOne) λ b6 j1 e0=>?_;refine o_z (Ah (Ah (Ae (Ar rfl (AT rfl ?_)))));replace d0:=(d0.st i1).st j1;have z1:=BK d0.len;have c6:=rngNat z1;refine Ar rfl (o_z ?_);have b0:=(e1.an i1).an j1;replace t0:=t0.st b0;replace u0:=u0.st b0;replace w0:=w0.st b0;replace y0:=y0.st b0;replace z0:=z0.st b0;replace a1:=a1.st b0;replace f1:=(f1.st i1).st j1;obtain ⟨m3,t1,n3,o3,b1⟩:=Spc.shut (x:=x0) (l0:=2) (by decide) t0 u0 w0 y0 z0 f1 a1;obtain ⟨q2,a2,hm⟩:=bs hm;replace hB:=(((((hB.st S7).st s1).st e1).st i1).st j1).st t1;replace h8:=((((h8.st s1).st e1).st i1).st j1).st t1;replace d0:=d0.st t1;replace e0:=e0.st t1;refine Dv (X:=Unit) (s0.1.length) a2 rfl z1 (λ u1 r2=>[(0,(.pointer (some ⟨p0,0,none⟩))),(6,(.pointer (some ⟨g4,0,none⟩))),(10,(.pointer (some ⟨p2,0,none⟩))),(29,(.slice g1 s0.1.length h1))]) (λ u1 r2 w'=>∃ O':Lab,Bm w O0 w' O'/\Ob 2 w' O' (.pointer (some ⟨p0,0,none⟩)) x0/\Lc 3 w' O' g4 40 [(.int .i64 0),(.slice none 0 0),(.int .i64 0),(.int .i64 0)]/\Lc 5 w' O' p2 40 [(.int .i64 1),(.slice g1 s0.1.length h1),(.int .i64 u1),(.int .i64 x2)]/\Vb w' (Fr 0 w' O') (.slice g1 s0.1.length h1) s0.1/\T3 u1) () ⟨m3,hB,b1,h8,e0,d0,(T8 0)⟩ ⟨rfl,rfl,rfl,rfl,rfl,rfl,trivial⟩ (λ _ _=>rfl) ?_ ?_
 ·rintro d6 e6 u1 r2 f6 p3 k1 ⟨g6,hB,b1,h8,e0,d0,s2⟩ f0 b2 c2;have rk77:=V5 k1 z1;refine Ah (Ae ?_);obtain ⟨h6,i6,q3,d2,e2,f2,rfl,j6⟩:=d0.elem' k1;refine CN (hA:=d2) (hj:=rfl) (hlt:=e2) rfl rfl (AQ (hc:=cat0 f2) rfl (Au rfl (o_z ?_)));obtain ⟨r3,s3,t3,u3,v3,w3,x3,t2,u2,j0,k0,m0,n0,g0,o0,q0⟩:=Spc.opn b1 2 4 (by decide);obtain ⟨y3,z3,rfl⟩:=k0.form;obtain ⟨a4,b4,rfl⟩:=m0.form;obtain ⟨c4,d4,rfl⟩:=n0.form;obtain ⟨e4,f4,rfl⟩:=g0.form;obtain ⟨h4,rfl⟩:=o0.ptr;obtain ⟨i4,rfl,v2⟩:=q0.ptr;refine BT [] r3 ?_;refine AP (fuel:=1) [] (BL (DX 0 13)) rfl (AU rfl rfl ?_);replace e0:=e0.st t2;refine Bc (hc:=By e0 2 rfl) rfl rfl (AS rfl rfl (DN rfl rfl (AU rfl rfl (AU rfl rfl (Bc (hc:=By j0 3 rfl) rfl rfl (AS rfl rfl ?_))))));obtain ⟨j4,g2,f0⟩:=bs f0;obtain ⟨h2,i2⟩:=Dz g2;obtain ⟨k4,l4,w2,l1,m1,n1,o1,m4,n4,rfl,j2,k2,o4,p4⟩:=g0.elem i2;obtain ⟨q4,r4,rfl⟩:=j2.form;obtain ⟨s4,t4,rfl⟩:=k2.form;refine Em (hA:=l1) (hj:=h2) (hlt:=n1) rfl rfl rfl (AU rfl rfl (Bc (hc:=λ w' ⟨O',hq⟩=>cat1 (Ej (hq.agree (i:=0) (by decide)) m1 o1)) rfl rfl ?_));obtain ⟨u4,p1,f0⟩:=bs f0;have l2:=(BJ p1);refine MD (he:=p1) rfl rfl rfl (AU rfl rfl (AC (AJ (i:=13) rfl ?_)));refine AR e0 rfl rfl rfl (AY) (allOne) λ v4 c0 e0=>?_;refine BM (Bi ?_);replace j0:=j0.st c0;replace k0:=k0.st c0;replace m0:=m0.st c0;replace n0:=n0.st c0;replace g0:=g0.st c0;replace o0:=o0.st c0;replace q0:=q0.st c0;obtain ⟨w4,q1,y2,z2,m2⟩:=Spc.shut (x:=x0) (l0:=2) (by decide) j0 k0 m0 n0 g0 o0 q0;obtain rfl:=sm f0;have h0:=(t2.an c0).an q1;exact show Exists _ from ⟨_,(),rfl,⟨rfl,rfl,rfl,rfl,rfl,rfl,trivial⟩,_,hB.st h0,m2,h8.st h0,e0.st q1,d0.st h0,l2⟩
 rintro x4 y4 ⟨c1,z4,rfl,r1,a5,hB,b1,h8,e0,d0,s2⟩;replace hm:=BE hm;refine AX _ r1 ?_;refine Ah (Ae (BX (hl:=rfl) (hc:=(e0.1).cellsAt) rfl ?_));refine AR h8 rfl rfl rfl (AY) (allOne) λ b5 d1 h8=>?_;refine Au rfl (o_z (AE ?_));obtain rfl:=sm hm;replace hB:=hB.st d1;obtain ⟨O',hS',hz,hl⟩:=hE.leave (λ q=>if q=2 then i0 else 0) rfl hB;replace d0:=d0.st d1;replace b1:=b1.st d1;exact U6 rfl (DH (cs:=[(.int .i64 1),(.slice g1 s0.1.length h1),(.int .i64 c1),(.int .i64 x2)]) rfl rfl h8.1.cellsAt) (AF rfl) ⟨O',hS',_,_,(Ob.leave b1 hz (hl 2 (by decide) (by decide)) r0.2),rfl,(Vb.mono (Vb.ofAgg (cs:=[(.int .i64 1),(.slice g1 s0.1.length h1),(.int .i64 c1),(.int .i64 x2)]) (x:=(⟨1,s0.1,c1,x2⟩:Rsl)) rfl ⟨_,rfl,d0,(T8 1),s2,rx2⟩) hz),(vErr (T8 0))⟩
noncomputable def DK (a:Int) (b:Int):Option (Rsl×Err) :=
  some ((⟨a,([]:List Int),0,b⟩:Rsl),(⟨0⟩:Err))
section
attribute [local irreducible] Vb Lc Rw Ob
theorem IQ {w:World} {A:Nat->Prop} (hA:∀ k,A k->k < w.heap.size) {a:Int} (c:T3 a) {b:Int} (d:T3 b) {e:Rsl×Err} (hm:DK a b=some e) :
    Fn prog 33 [(.int .i64 a),(.int .i64 b)] w λ v w'=>Ext w w'/\T2 w' (upA A w w') v e:=by
 obtain ⟨_,_,_⟩:=CP hA;refine AH func33 rfl ntmps33 ?_;unfold DK at hm;refine Ah (Ae (BO 2 ?_));intros;refine Au rfl (o_z (Ah (Ae (Ar rfl (Ar rfl (CX rfl rfl ?_))))));refine Bf ?_;intros;refine Au rfl (o_z (AE ?_));obtain rfl:=sm hm;exact KX
end
noncomputable def FY (K:Tsk) (P:Int):Option (Rsl×Err) :=
  bnd (FM K) λ s=>if s.2.n≠0 then (some ((⟨0,([]:List Int),0,0⟩:Rsl),(⟨s.2.n⟩:Err))) else (bnd s.1 λ L=>bnd (lop (ρ:=Rsl×Err) (λ (b:(List Int)×(List Bool)×Int×Int×Spc×(BxR 81 79 Itm))=>bnd (Cy b.2.2.2.2.2.l) λ v=>if 0 < v then (bnd (Es b.2.2.2.2.2) λ d=>bnd (atI b.2.1 d.1.x.id) λ w=>if w=true then (some (.next (b.1,b.2.1,b.2.2.1,b.2.2.2.1,b.2.2.2.2.1,d.2))) else (bnd (Dw b.2.2.2.2.1.reg d.1.x.id) λ g=>if g.2.n≠0 then (some (.ret ((⟨0,([]:List Int),0,0⟩:Rsl),(⟨g.2.n⟩:Err)))) else (bnd (Ef K.goal g.1) λ y=>if y=true then bnd (DP b.2.2.2.2.1 d.1.x.id b.2.2.2.1) λ m=>some (.ret (m.1,(⟨m.2.n⟩:Err))) else if P<=b.2.2.2.1 then (bnd (DK 3 b.2.2.2.1) λ o=>some (.ret (o.1,(⟨o.2.n⟩:Err)))) else (bnd (atI b.2.1 d.1.x.id) λ M=>bnd (T4 (b.2.2.2.1 + 1)) λ p=>bnd (Cp b.2.2.2.2.1.gen g.1) λ z=>bnd (rng (ρ:=Ctl ((List Int)×(List Bool)×Int×Int×Spc×(BxR 81 79 Itm)) (Rsl×Err)) (λ (N:Nat) (h:Suc) (a:(List Int)×(List Bool)×Int×Spc×(BxR 81 79 Itm))=>bnd (BS a.2.2.2.1.reg h.state) λ c=>if c.2.2.1.n≠0 then (bnd (DK 3 p) λ q=>some (.ret (.ret (q.1,(⟨q.2.n⟩:Err))))) else (bnd (atI K.ops h.op) λ A=>bnd (T4 (d.1.x.cost + A.cost)) λ e=>bnd (if c.2.1=true then (bnd (T5 8 a.1 [e]) λ B=>bnd (T5 1 a.2.1 [false]) λ C=>some (.done (B,C))) else (bnd (bnd (atI a.2.1 c.1) λ D=>if D=true then (some true) else (bnd (atI a.1 c.1) λ E=>if E<=e then (some true) else (some false)):Option Bool) λ F=>if F=true then (some (.ret (.next (a.1,a.2.1,a.2.2.1,(⟨(⟨a.2.2.2.1.t.vars,a.2.2.2.1.t.init,a.2.2.2.1.t.goal,a.2.2.2.1.t.ops⟩:Tsk),c.2.2.2,a.2.2.2.1.gen⟩:Spc),a.2.2.2.2)))) else (some (.done (a.1,a.2.1)))):Option (Fin ((List Int)×(List Bool)) (Ctl ((List Int)×(List Bool)×Int×Spc×(BxR 81 79 Itm)) (Ctl ((List Int)×(List Bool)×Int×Int×Spc×(BxR 81 79 Itm)) (Rsl×Err))))) λ G=>fin G λ (i:(List Int)×(List Bool))=>bnd (atI i.1 c.1) λ O=>bnd (Di ((⟨(⟨a.2.2.2.1.t.vars,a.2.2.2.1.t.init,a.2.2.2.1.t.goal,a.2.2.2.1.t.ops⟩:Tsk),c.2.2.2,a.2.2.2.1.gen⟩:Spc).reg) c.1 d.1.x.id h.op e) λ j=>if j.1.n≠0 then (some (.ret (.ret ((⟨0,([]:List Int),0,0⟩:Rsl),(⟨j.1.n⟩:Err))))) else (bnd (DZ a.2.2.2.2 (⟨(⟨e,a.2.2.1,c.1⟩:Itm)⟩:An 79 Itm)) λ H=>bnd (T4 (a.2.2.1 + 1)) λ I=>some (.next ((i.1.set (c.1:Int).toNat e),i.2,I,(⟨(⟨(⟨(⟨a.2.2.2.1.t.vars,a.2.2.2.1.t.init,a.2.2.2.1.t.goal,a.2.2.2.1.t.ops⟩:Tsk),c.2.2.2,a.2.2.2.1.gen⟩:Spc).t.vars,(⟨(⟨a.2.2.2.1.t.vars,a.2.2.2.1.t.init,a.2.2.2.1.t.goal,a.2.2.2.1.t.ops⟩:Tsk),c.2.2.2,a.2.2.2.1.gen⟩:Spc).t.init,(⟨(⟨a.2.2.2.1.t.vars,a.2.2.2.1.t.init,a.2.2.2.1.t.goal,a.2.2.2.1.t.ops⟩:Tsk),c.2.2.2,a.2.2.2.1.gen⟩:Spc).t.goal,(⟨(⟨a.2.2.2.1.t.vars,a.2.2.2.1.t.init,a.2.2.2.1.t.goal,a.2.2.2.1.t.ops⟩:Tsk),c.2.2.2,a.2.2.2.1.gen⟩:Spc).t.ops⟩:Tsk),j.2,(⟨(⟨a.2.2.2.1.t.vars,a.2.2.2.1.t.init,a.2.2.2.1.t.goal,a.2.2.2.1.t.ops⟩:Tsk),c.2.2.2,a.2.2.2.1.gen⟩:Spc).gen⟩:Spc),H))))) z 0 (b.1,(b.2.1.set (d.1.x.id:Int).toNat true),b.2.2.1,b.2.2.2.2.1,d.2)) λ k=>fin k λ (f:(List Int)×(List Bool)×Int×Spc×(BxR 81 79 Itm))=>some (.next (f.1,f.2.1,f.2.2.1,p,f.2.2.2.1,f.2.2.2.2)))))) else (some (.brk (b.1,b.2.1,b.2.2.1,b.2.2.2.1,b.2.2.2.2.1,b.2.2.2.2.2)))) (([0]:List Int),[false],1,0,L,(⟨[(⟨0,0,0⟩:Itm)]⟩:BxR 81 79 Itm))) λ u=>fin u λ (J:(List Int)×(List Bool)×Int×Int×Spc×(BxR 81 79 Itm))=>bnd (DK 2 J.2.2.2.1) λ r=>some (r.1,(⟨r.2.n⟩:Err)))
theorem OJ {w:World} {A:Nat→Prop} (hA:∀ k,A k→k < w.heap.size) {vx0:Value} {x0:Tsk} (vD:Vb w A vx0 x0) {x1:Int} (rx1:T3 x1) {r:Rsl×Err} (hm:FY x0 x1=some r) :
    Fn prog 9 [vx0,(.int .i64 x1)] w λ v w'=>Ext w w'/\T2 w' (upA A w w') v r:=by
 obtain ⟨O,hB,dN⟩:=enter hA;obtain ⟨eN,rfl,v4,v5,v6,v7,rfl,h8,pF,wD,xD⟩:=id vD;obtain ⟨A9,i8,rfl⟩:=h8.form;obtain ⟨j8,k8,rfl⟩:=pF.form;obtain ⟨l8,m8,rfl⟩:=wD.form;obtain ⟨n8,o8,rfl⟩:=xD.form;refine AH func9 rfl ntmps9 ?_;unfold FY at hm;refine Ah (Ae (Fi 2 O rfl λ q4 fN qF rF y0=>?_));refine Bw 3 qF λ v3 gN sF yD f0=>?_;refine Au rfl (o_z (Ah (Ae ?_)));replace y0:=y0.st yD;refine BX (hl:=rfl) (hc:=(y0.1).cellsAt) rfl ?_;obtain ⟨hN,tF,hm⟩:=bs hm;replace hB:=(hB.st rF).st yD;refine Dm (O:=sF) (Qu (vD.zs hA hB) 4 (by decide) tF) rfl λ iN jN zD p8 uF=>?_;obtain ⟨kN,lN,rfl,b5,vF⟩:=uF;obtain ⟨rfl,wF⟩:=vF.err;refine Ar rfl (BW rfl rfl (BW rfl rfl (Au rfl (Au rfl (o_z (Ah (Ah (Ae (Ar rfl (FA rfl (λ t8=>?_) λ t8=>?_))))))))))
 ·replace hm:=ip hm t8;refine o_z (Am rfl (Ah (Ae (CX rfl rfl ?_))));refine ab ?_;replace f0:=f0.st p8;refine AR f0 rfl rfl rfl (AY) (allOne) λ xF yF f0=>?_;refine Au rfl (o_z (AE ?_));obtain rfl:=sm hm;replace hB:=(hB.st p8).st yF;exact U6 rfl (DH (cs:=[(.int .i64 0),(.slice none 0 0),(.int .i64 0),(.int .i64 0)]) rfl rfl f0.1.cellsAt) (AF rfl) ⟨hB.ext,_,_,rfl,(Vb.mono (F:=Fr 0 xF zD) (Vb.ofAgg (cs:=[(.int .i64 0),(.slice none 0 0),(.int .i64 0),(.int .i64 0)]) (x:=(⟨0,([]:List Int),0,0⟩:Rsl)) rfl ⟨_,rfl,(Vb.nil _ _),(T8 0),(T8 0),(T8 0)⟩) hB.out),(vErr wF)⟩
 replace hm:=im hm t8;refine o_z (Aj rfl (AK (Ah (Ae ?_))));refine BI 5 zD (xs:=(([0]:List Int):List Int)) rfl rfl rfl ⟨(vInt (T8 0)),trivial⟩ λ zF mN aG u8 v8=>?_;refine BI 6 aG (xs:=([false]:List Bool)) rfl rfl rfl ⟨vBool,trivial⟩ λ bG nN cG q8 w8=>?_;refine Au rfl (Au rfl (o_z (Ah (Ae (CX rfl rfl ?_)))));refine BI 7 cG (xs:=([(⟨0,0,0⟩:Itm)]:List Itm)) rfl rfl rfl ⟨(Vb.ofAgg (cs:=[(.int .i64 0),(.int .i64 0),(.int .i64 0)]) (x:=(⟨0,0,0⟩:Itm)) rfl ⟨rfl,(T8 0),(T8 0),(T8 0)⟩),trivial⟩ λ oN pN dG w5 x8=>?_;refine Fi 8 dG rfl λ r4 qN rN u5 eG=>?_;refine Au rfl (o_z (Ah (Ae (Au rfl (Au rfl (o_z (Ah ?_)))))));obtain ⟨sN,fG,hm⟩:=bs hm;replace b5:=(((b5.st u8).st q8).st w5).st u5;rw [fG] at b5;obtain ⟨s4,rfl⟩:=Ob.ptr b5;replace x8:=x8.st u5;obtain ⟨gG,x5,hG,iG,jG⟩:=BxR.shut (x:=(⟨[(⟨0,0,0⟩:Itm)]⟩:BxR 81 79 Itm)) (l0:=8) (by decide) eG x8;obtain ⟨y5,y8,hm⟩:=bs hm;refine BF (aft y5 (λ (h1:(List Int)×(List Bool)×Int×Int×Spc×(BxR 81 79 Itm)) (m1:(Option Addr×Nat)×(Option Addr×Nat))=>[(4,(.pointer (some ⟨v3,0,none⟩))),(12,(.int .i64 h1.2.2.2.1))]) (λ h1 m1 w'=>∃ O':Lab,Bs w A w' O'/\Lc 3 w' O' v3 40 [(.int .i64 0),(.slice none 0 0),(.int .i64 0),(.int .i64 0)]/\T3 h1.2.2.1/\T3 h1.2.2.2.1)) ?_ ?_
 ·refine Ci ?_;have l3:=((((p8.an u8).an q8).an w5).an u5).an x5;replace hB:=hB.st l3;replace y0:=y0.st l3;replace f0:=f0.st l3;replace b5:=b5.st x5;replace v8:=(((v8.st q8).st w5).st u5).st x5;replace w8:=((w8.st w5).st u5).st x5;refine JC (σ:=(List Int)×(List Bool)×Int×Int×Spc×(BxR 81 79 Itm)) (X:=(Option Addr×Nat)×(Option Addr×Nat)) y8 (λ (h1:(List Int)×(List Bool)×Int×Int×Spc×(BxR 81 79 Itm)) (m1:(Option Addr×Nat)×(Option Addr×Nat))=>[(1,(.int .i64 x1)),(2,(.pointer (some ⟨q4,0,none⟩))),(4,(.pointer (some ⟨v3,0,none⟩))),(6,(.pointer (some ⟨s4,0,none⟩))),(8,(.slice m1.1.1 h1.1.length m1.1.2)),(9,(.slice m1.2.1 h1.2.1.length m1.2.2)),(10,(.pointer (some ⟨r4,0,none⟩))),(11,(.int .i64 h1.2.2.1)),(12,(.int .i64 h1.2.2.2.1))]) _ (λ h1 m1 w'=>∃ O':Lab,Bs w A w' O'/\Lc 2 w' O' q4 32 [(.slice A9 x0.vars.length i8),(.slice j8 x0.init.length k8),(.slice l8 x0.goal.length m8),(.slice n8 x0.ops.length o8)]/\Lc 3 w' O' v3 40 [(.int .i64 0),(.slice none 0 0),(.int .i64 0),(.int .i64 0)]/\Ob 4 w' O' (.pointer (some ⟨s4,0,none⟩)) h1.2.2.2.2.1/\Rw 5 w' O' 3 (.slice m1.1.1 h1.1.length m1.1.2) h1.1/\Rw 6 w' O' 4 (.slice m1.2.1 h1.2.1.length m1.2.2) h1.2.1/\Ob 8 w' O' (.pointer (some ⟨r4,0,none⟩)) h1.2.2.2.2.2/\T3 h1.2.2.1/\T3 h1.2.2.2.1) _ (((some ⟨zF,0,none⟩),1),((some ⟨bG,0,none⟩),1)) ⟨gG,hB,y0,f0,b5,v8,w8,jG,(T8 1),(T8 0)⟩ ⟨rfl,rfl,rfl,rfl,rfl,rfl,rfl,rfl,rfl,trivial⟩ ?_;rintro h1 m1 tN kG ⟨uN,hB,y0,f0,w3,r8,i1,z8,x3,b3⟩ b0 n1 c5;refine Ah (Ah (Ae (Ar rfl (Dr rfl ?_))));obtain ⟨a9,lG,o1,aE,o2,g2⟩:=BxR.opn z8 8 9 (by decide);obtain ⟨mG,nG,rfl⟩:=g2.form;refine AQ (hc:=Blk.cell (i:=0) (o2.1) rfl) rfl ?_;obtain ⟨oG,b9,b0⟩:=bs b0;refine Bv (O:=a9) (HI (λ _ h=>h) (g2).all b9) rfl λ pG qG rG v0 c9=>?_;obtain ⟨rfl,sG⟩:=c9.int;refine Cw rfl rfl (λ d5=>?_) λ d5=>?_
  ·replace b0:=ip b0 d5;refine o_z (Am rfl (AK (Ci (Ah (Ae (Ar rfl (Sf rfl rfl ?_)))))));replace o2:=o2.st v0;replace g2:=g2.st v0;obtain ⟨d9,p1,bE,cE,e9⟩:=BxR.shut (x:=h1.2.2.2.2.2) (l0:=8) (by decide) o2 g2;obtain ⟨q1,f9,b0⟩:=bs b0;refine Dm (O:=d9) (ML e9 f9) rfl λ tG uG g9 r1 h9=>?_;obtain ⟨y3,i9⟩:=h9;obtain ⟨vG,rfl,j9⟩:=i9.any;obtain ⟨dE,rfl,rfl,wG,xG,e5⟩:=j9;refine YC rfl rfl (Ar rfl (BW rfl rfl (BW rfl rfl ?_)));refine Bw 10 g9 λ c3 yG zG j1 e0=>?_;refine AR e0 rfl rfl rfl (AY) (allOne) λ aH k1 e0=>?_;refine Au rfl (o_z (Ah (Ah (Ae (Ar rfl (AD rfl (AQ (hc:=Blk.cell (i:=2) (e0.1) rfl) rfl ?_)))))));obtain ⟨bH,k9,b0⟩:=bs b0;obtain ⟨l9,m9⟩:=Dz k9;replace i1:=(((((i1.st o1).st v0).st p1).st r1).st j1).st k1;obtain ⟨cH,dH,eE,z5,a6,b6,rfl⟩:=i1.elem m9;refine CN (hA:=z5) (hj:=l9) (hlt:=a6) rfl rfl (AQ (hc:=cat0 b6) rfl (o_z (BH rfl (λ f5=>?_) (λ f5=>?_))))
   ·replace b0:=ip b0 f5;refine Et ?_;obtain rfl:=sm b0;have h2:=((((o1.an v0).an p1).an r1).an j1).an k1;exact show Exists _ from ⟨_,((m1.1.1,m1.1.2),(m1.2.1,m1.2.2)),rfl,⟨rfl,rfl,rfl,rfl,rfl,rfl,rfl,rfl,rfl,trivial⟩,_,hB.st h2,y0.st h2,f0.st h2,w3.st h2,r8.st h2,i1,(y3.st j1).st k1,x3,b3⟩
   replace b0:=im' b0 f5;refine AK (Ah ?_);replace w3:=(((((w3.st o1).st v0).st p1).st r1).st j1).st k1;obtain ⟨c6,eH,fH,gH,hH,iH,jH,s1,fE,t1,p2,q2,r2,s2,d6,u1⟩:=Spc.opn w3 4 11 (by decide);obtain ⟨kH,lH,rfl⟩:=p2.form;obtain ⟨mH,nH,rfl⟩:=q2.form;obtain ⟨oH,pH,rfl⟩:=r2.form;obtain ⟨qH,rH,rfl⟩:=s2.form;obtain ⟨sH,rfl⟩:=d6.ptr;obtain ⟨tH,rfl,gE⟩:=u1.ptr;refine BT [(6,[11])] c6 ?_;refine AP (fuel:=6) [] (BL (DX 0 6)) rfl (AS rfl rfl (DN rfl rfl (AU rfl rfl (Bc (hc:=By t1 4 rfl) rfl rfl (AU rfl rfl ?_)))));replace e0:=e0.st s1;refine Bc (hc:=By e0 2 rfl) rfl rfl (AC (AJ (i:=6) rfl ?_));obtain ⟨uH,n9,b0⟩:=bs b0;refine Dm (O:=c6) (Kw d6 e5 n9) rfl λ vH o9 g5 r0 p9=>?_;obtain ⟨wH,xH,d3,rfl,m3,q9⟩:=p9;obtain ⟨yH,zH,rfl⟩:=m3.form;obtain ⟨rfl,r9⟩:=q9.err;have hZ:=r0.lst [11] (λ _ h=>by cases h;decide);refine Be [] hZ ?_;refine AP (fuel:=0) [] (BL (DX 7 5)) rfl (AS rfl rfl (Pp rfl rfl rfl (Pp rfl rfl rfl (Ek rfl rfl (Ek rfl rfl (AC (Bi (Ah (Ah (Ae (Ar rfl (FA rfl (λ h5=>?_) λ h5=>?_))))))))))))
   ·replace b0:=ip b0 h5;refine o_z (Am rfl (Ah (Ae (CX rfl rfl ?_))));refine ab ?_;replace f0:=(((((((f0.st o1).st v0).st p1).st r1).st j1).st k1).st s1).st r0;refine AR f0 rfl rfl rfl (AY) (allOne) λ s9 t9 f0=>?_;refine Au rfl (o_z (AE ?_));obtain rfl:=sm b0;obtain rfl:=n1 _ rfl;obtain rfl:=sm (CU hm);replace hB:=((((((((hB.st o1).st v0).st p1).st r1).st j1).st k1).st s1).st r0).st t9;exact U6 rfl (DH (cs:=[(.int .i64 0),(.slice none 0 0),(.int .i64 0),(.int .i64 0)]) rfl rfl f0.1.cellsAt) (AF rfl) ⟨hB.ext,_,_,rfl,(Vb.mono (F:=Fr 0 s9 g5) (Vb.ofAgg (cs:=[(.int .i64 0),(.slice none 0 0),(.int .i64 0),(.int .i64 0)]) (x:=(⟨0,([]:List Int),0,0⟩:Rsl)) rfl ⟨_,rfl,(Vb.nil _ _),(T8 0),(T8 0),(T8 0)⟩) hB.out),(vErr r9)⟩
   replace b0:=im b0 h5;refine o_z (Aj rfl (AK (Ah (Ah (Ae (AD rfl ?_))))));replace y0:=(((((((y0.st o1).st v0).st p1).st r1).st j1).st k1).st s1).st r0;refine AQ (hc:=Blk.cell (i:=2) (y0.1) rfl) rfl (Ar rfl ?_);obtain ⟨u9,v9,b0⟩:=bs b0;replace hB:=(((((((hB.st o1).st v0).st p1).st r1).st j1).st k1).st s1).st r0;refine Bv (O:=g5) (HW (λ _ h=>h) (Vb.mono (F:=Fr 0 o9 g5) (wD.zs hA hB) Fr.lt) (vMo m3) v9) rfl λ aI bI e6 m0 w9=>?_;obtain rfl:=w9.bool;cases u9
   case false =>
    replace b0:=iF b0;refine o_z (Aj rfl (AK (Ah (Ah (Ae (Ar rfl (Ar rfl (ER rfl rfl (λ i5=>?_) λ i5=>?_))))))))
    ·replace b0:=ip b0 i5;refine o_z (Am rfl (Ah (Ae (Ar rfl ?_))));obtain ⟨v1,x9,b0⟩:=bs b0;refine Ix (O:=e6) (R:=λ w' F v=>T2 w' F v v1) (IQ Fr.lt (T8 3) b3 x9) rfl rfl λ cI dI y9 f6 z9=>?_;obtain ⟨eI,fI,rfl,aA,bA⟩:=z9;obtain ⟨hE,rfl,gI,rfl,z3,cA,dA,eA⟩:=aA;obtain ⟨g6,h6,rfl⟩:=z3.form;obtain ⟨rfl,fA⟩:=bA.err;refine BW rfl rfl (BW rfl rfl ?_);replace f0:=(((((((((f0.st o1).st v0).st p1).st r1).st j1).st k1).st s1).st r0).st m0).st f6;refine AR f0 rfl rfl rfl (AY) (allOne) λ gA i6 f0=>?_;refine Au rfl (o_z (AE ?_));obtain rfl:=sm b0;obtain rfl:=n1 _ rfl;obtain rfl:=sm (CU hm);replace hB:=((hB.st m0).st f6).st i6;replace z3:=z3.st i6;exact U6 rfl (DH (cs:=[(.int .i64 v1.1.verdict),(.slice g6 v1.1.plan.length h6),(.int .i64 v1.1.cost),(.int .i64 v1.1.expanded)]) rfl rfl f0.1.cellsAt) (AF rfl) ⟨hB.ext,_,_,rfl,(Vb.mono (F:=Fr 0 gA y9) (Vb.ofAgg (cs:=[(.int .i64 v1.1.verdict),(.slice g6 v1.1.plan.length h6),(.int .i64 v1.1.cost),(.int .i64 v1.1.expanded)]) (x:=v1.1) rfl ⟨_,rfl,z3,cA,dA,eA⟩) hB.out),(vErr fA)⟩
    replace b0:=im b0 i5;refine o_z (Aj rfl (AK (Ah (Ae (Ar rfl (AD rfl ?_))))));replace e0:=(e0.st r0).st m0;refine AQ (hc:=Blk.cell (i:=2) (e0.1) rfl) rfl ?_;obtain ⟨hI,iA,b0⟩:=bs b0;obtain ⟨jA,j6⟩:=Dz iA;replace i1:=((i1.st s1).st r0).st m0;obtain ⟨iI,jI,iE,t4,k6,jE,rfl⟩:=i1.elem j6;refine CN (hA:=t4) (hj:=jA) (hlt:=k6) rfl rfl ?_;refine GG rfl i1 (a:=true) vBool t4 rfl rfl (AO j6) λ kI d2 i1=>?_;refine o_z (Ah (Ae (Ar rfl ?_)));obtain ⟨j5,l6,b0⟩:=bs b0;have m6:=(BJ l6);refine DD (he:=l6) rfl rfl (Au rfl (o_z (Ah (Ae (Ar rfl (Dr rfl (AD rfl ?_)))))));replace t1:=((t1.st r0).st m0).st d2;refine AQ (hc:=Blk.cell (i:=5) (t1.1) rfl) rfl (Ar rfl ?_);obtain ⟨l1,kA,b0⟩:=bs b0;replace u1:=((u1.st r0).st m0).st d2;replace m3:=(m3.st m0).st d2;refine Ii (O:=e6) (Jp Fr.lt u1 m3 kA) rfl λ lI mI nI e2 j0=>?_;obtain ⟨e3,f3,rfl⟩:=j0.form;refine AT rfl ?_;have k5:=BK j0.len;have oI:=rngNat k5;refine Ar rfl (o_z ?_);have x2:=((r0.an m0).an d2).an e2;replace t1:=t1.st e2;replace p2:=p2.st x2;replace q2:=q2.st x2;replace r2:=r2.st x2;replace s2:=s2.st x2;replace u1:=u1.st e2;replace d3:=((d3.st m0).st d2).st e2;obtain ⟨lA,g3,kE,lE,mA⟩:=Spc.shut (x:=h1.2.2.2.2.1) (l0:=4) (by decide) t1 p2 q2 r2 s2 d3 u1;obtain ⟨nA,n6,b0⟩:=bs b0;have u4:=((m0.an d2).an e2).an g3;have w4:=((((((((((o1.an v0).an p1).an r1).an j1).an k1).an s1).an r0).an m0).an d2).an e2).an g3;replace hB:=hB.st u4;replace y0:=y0.st u4;replace f0:=f0.st w4;replace r8:=r8.st w4;replace i1:=(i1.st e2).st g3;replace y3:=(((((((y3.st j1).st k1).st s1).st r0).st m0).st d2).st e2).st g3;replace e0:=((e0.st d2).st e2).st g3;replace j0:=j0.st g3;refine Dv (X:=(Option Addr×Nat)×(Option Addr×Nat)) (l1.length) n6 rfl k5 (λ a0 g0=>[(1,(.int .i64 x1)),(2,(.pointer (some ⟨q4,0,none⟩))),(4,(.pointer (some ⟨v3,0,none⟩))),(6,(.pointer (some ⟨s4,0,none⟩))),(8,(.slice g0.1.1 a0.1.length g0.1.2)),(9,(.slice g0.2.1 a0.2.1.length g0.2.2)),(10,(.pointer (some ⟨r4,0,none⟩))),(11,(.int .i64 a0.2.2.1)),(12,(.int .i64 j5)),(13,(.pointer (some ⟨c3,0,none⟩))),(98,(.slice e3 l1.length f3))]) (λ a0 g0 w'=>∃ O':Lab,Bs w A w' O'/\Lc 2 w' O' q4 32 [(.slice A9 x0.vars.length i8),(.slice j8 x0.init.length k8),(.slice l8 x0.goal.length m8),(.slice n8 x0.ops.length o8)]/\Lc 3 w' O' v3 40 [(.int .i64 0),(.slice none 0 0),(.int .i64 0),(.int .i64 0)]/\Ob 4 w' O' (.pointer (some ⟨s4,0,none⟩)) a0.2.2.2.1/\Rw 5 w' O' 3 (.slice g0.1.1 a0.1.length g0.1.2) a0.1/\Rw 6 w' O' 4 (.slice g0.2.1 a0.2.1.length g0.2.2) a0.2.1/\Ob 8 w' O' (.pointer (some ⟨r4,0,none⟩)) a0.2.2.2.2/\Lc 10 w' O' c3 79 [(.int .i64 q1.1.x.cost),(.int .i64 q1.1.x.order),(.int .i64 q1.1.x.id)]/\Vb w' (Fr 0 w' O') (.slice e3 l1.length f3) l1/\T3 a0.2.2.1) ((m1.1.1,m1.1.2),(m1.2.1,m1.2.2)) ⟨lA,hB,y0,f0,mA,r8,i1.relen,y3,e0,j0,x3⟩ ⟨rfl,rfl,rfl,rfl,rfl,rfl,rfl,(congrArg (λ n=>some (Value.slice _ n _)) ((by simp:(h1.2.1.set (q1.1.x.id:Int).toNat true).length=h1.2.1.length).trans rfl).symm),rfl,rfl,rfl,rfl,rfl,trivial⟩ (λ _ _=>rfl) ?_ ?_
    ·rintro o6 i2 a0 g0 pI mE x4 ⟨oA,hB,y0,f0,n3,s0,t0,n0,e0,j0,a4⟩ c0 y2 s8;have rk275:=V5 x4 k5;refine Ah (Ae ?_);obtain ⟨qI,rI,nE,p6,q6,r6,sI,rfl,w0,pA⟩:=j0.elem' x4;obtain ⟨b4,c4,rfl⟩:=w0.form;refine CN (hA:=p6) (hj:=rfl) (hlt:=q6) rfl rfl (BX (hl:=rfl) (hc:=r6) rfl ?_);refine Bw 12 oA λ d4 tI uI o0 k0=>?_;refine AR k0 rfl rfl rfl (AY) (allOne) λ vI p0 k0=>?_;refine o_z (Ah ?_);replace n3:=(n3.st o0).st p0;obtain ⟨s6,wI,xI,yI,zI,aJ,bJ,q0,oE,a1,b1,c1,d1,e1,t6,f1⟩:=Spc.opn n3 4 11 (by decide);obtain ⟨cJ,dJ,rfl⟩:=b1.form;obtain ⟨eJ,fJ,rfl⟩:=c1.form;obtain ⟨gJ,hJ,rfl⟩:=d1.form;obtain ⟨iJ,jJ,rfl⟩:=e1.form;obtain ⟨kJ,rfl⟩:=t6.ptr;obtain ⟨lJ,rfl,pE⟩:=f1.ptr;refine BT [(6,[11])] s6 ?_;refine AP (fuel:=8) [] (BL (DX 0 6)) rfl (AS rfl rfl (DN rfl rfl (AU rfl rfl (Bc (hc:=By a1 4 rfl) rfl rfl (AU rfl rfl ?_)))));replace k0:=k0.st q0;refine Bc (hc:=By k0 1 rfl) rfl rfl (AC (AJ (i:=6) rfl ?_));obtain ⟨u0,qA,c0⟩:=bs c0;replace w0:=((w0.st o0).st p0).st q0;refine Dm (O:=s6) (Il t6 w0 qA) rfl λ mJ rA sA d0 tA=>?_;obtain ⟨nJ,oJ,pJ,h3,rfl,uA,vA,wA⟩:=tA;obtain ⟨rfl,u6⟩:=uA.int;obtain rfl:=vA.bool;obtain ⟨rfl,qJ⟩:=wA.err;have hZ:=d0.lst [11] (λ _ h=>by cases h;decide);refine Be [] hZ ?_;refine AP (fuel:=0) [] (BL (DX 7 7)) rfl (AS rfl rfl (Pp rfl rfl rfl (Pp rfl rfl rfl (Pp rfl rfl rfl (Ek rfl rfl (Ek rfl rfl (Ek rfl rfl (AC (Bi (Ah (Ah (Ae (Ar rfl (FA rfl (λ l5=>?_) λ l5=>?_))))))))))))))
     ·replace c0:=ip c0 l5;refine o_z (Am rfl (Ah (Ae (Ar rfl ?_))));obtain ⟨w1,xA,c0⟩:=bs c0;refine Ix (O:=sA) (R:=λ w' F v=>T2 w' F v w1) (IQ Fr.lt (T8 3) m6 xA) rfl rfl λ rJ sJ yA w6 zA=>?_;obtain ⟨tJ,uJ,rfl,aB,bB⟩:=zA;obtain ⟨qE,rfl,vJ,rfl,e4,cB,dB,eB⟩:=aB;obtain ⟨x6,y6,rfl⟩:=e4.form;obtain ⟨rfl,fB⟩:=bB.err;refine BW rfl rfl (BW rfl rfl ?_);replace f0:=((((f0.st o0).st p0).st q0).st d0).st w6;refine AR f0 rfl rfl rfl (AY) (allOne) λ gB z6 f0=>?_;refine Au rfl (o_z (AE ?_));obtain rfl:=sm c0;obtain rfl:=y2 _ rfl;obtain rfl:=sm (CU b0);obtain rfl:=n1 _ rfl;obtain rfl:=sm (CU hm);replace hB:=(((((hB.st o0).st p0).st q0).st d0).st w6).st z6;replace e4:=e4.st z6;exact U6 rfl (DH (cs:=[(.int .i64 w1.1.verdict),(.slice x6 w1.1.plan.length y6),(.int .i64 w1.1.cost),(.int .i64 w1.1.expanded)]) rfl rfl f0.1.cellsAt) (AF rfl) ⟨hB.ext,_,_,rfl,(Vb.mono (F:=Fr 0 gB yA) (Vb.ofAgg (cs:=[(.int .i64 w1.1.verdict),(.slice x6 w1.1.plan.length y6),(.int .i64 w1.1.cost),(.int .i64 w1.1.expanded)]) (x:=w1.1) rfl ⟨_,rfl,e4,cB,dB,eB⟩) hB.out),(vErr fB)⟩
     replace c0:=im c0 l5;refine o_z (Aj rfl (AK (Ah ?_)));refine DI (·=rA) [(0,true),(1,true),(2,true),(3,true),(4,true),(5,true),(6,true),(7,true),(8,true),(9,true),(10,true)] rfl rfl ?_;refine AU rfl rfl ?_;replace e0:=(((e0.st o0).st p0).st q0).st d0;refine DV (hc:=Blk.cell (i:=0) (e0.1) rfl) rfl rfl (AU rfl rfl ?_);replace y0:=(((y0.st o0).st p0).st q0).st d0;refine DV (hc:=Blk.cell (i:=3) (y0.1) rfl) rfl rfl (AU rfl rfl ?_);replace k0:=k0.st d0;refine DV (hc:=Blk.cell (i:=0) (k0.1) rfl) rfl rfl ?_;obtain ⟨wJ,iB,c0⟩:=bs c0;obtain ⟨jB,kB⟩:=Dz iB;replace hB:=(((hB.st o0).st p0).st q0).st d0;obtain ⟨xJ,yJ,rE,a7,b7,c7,zJ,aK,rfl,lB,mB,bK,cK⟩:=(xD.zs hA hB).elem' kB;obtain ⟨dK,eK,rfl⟩:=lB.form;obtain ⟨fK,gK,rfl⟩:=mB.form;refine Em (hA:=a7) (hj:=jB) (hlt:=b7) rfl rfl rfl (AU rfl rfl (DV (hc:=cat1 c7) rfl rfl ?_));obtain ⟨t2,d7,c0⟩:=bs c0;have f4:=(BJ d7);refine MD (he:=d7) rfl rfl rfl (Ek rfl rfl (h_z (Ah ?_)));obtain ⟨nB,h0,c0⟩:=bs c0;refine BF (λ l' w'=>∃ (y1:(List Int)×(List Bool)) (g1:(Option Addr×Nat)×(Option Addr×Nat)) (O':Lab),nB=.done y1/\T7 l' [(1,(.int .i64 x1)),(2,(.pointer (some ⟨q4,0,none⟩))),(4,(.pointer (some ⟨v3,0,none⟩))),(6,(.pointer (some ⟨s4,0,none⟩))),(8,(.slice g1.1.1 y1.1.length g1.1.2)),(9,(.slice g1.2.1 y1.2.length g1.2.2)),(10,(.pointer (some ⟨r4,0,none⟩))),(11,(.int .i64 a0.2.2.1)),(12,(.int .i64 j5)),(13,(.pointer (some ⟨c3,0,none⟩))),(18,(.pointer (some ⟨d4,0,none⟩))),(19,(.int .i64 u0.1)),(22,(.int .i64 t2)),(98,(.slice e3 l1.length f3)),(99,(.int .i64 (l1.length:Int))),(100,(.int .i64 (o6:Int)))]/\Bs w A w' O'/\Lc 2 w' O' q4 32 [(.slice A9 x0.vars.length i8),(.slice j8 x0.init.length k8),(.slice l8 x0.goal.length m8),(.slice n8 x0.ops.length o8)]/\Lc 3 w' O' v3 40 [(.int .i64 0),(.slice none 0 0),(.int .i64 0),(.int .i64 0)]/\Ob 4 w' O' (.pointer (some ⟨s4,0,none⟩)) (⟨(⟨a0.2.2.2.1.t.vars,a0.2.2.2.1.t.init,a0.2.2.2.1.t.goal,a0.2.2.2.1.t.ops⟩:Tsk),u0.2.2.2,a0.2.2.2.1.gen⟩:Spc)/\Rw 5 w' O' 3 (.slice g1.1.1 y1.1.length g1.1.2) y1.1/\Rw 6 w' O' 4 (.slice g1.2.1 y1.2.length g1.2.2) y1.2/\Ob 8 w' O' (.pointer (some ⟨r4,0,none⟩)) a0.2.2.2.2/\Lc 10 w' O' c3 79 [(.int .i64 q1.1.x.cost),(.int .i64 q1.1.x.order),(.int .i64 q1.1.x.id)]/\Lc 12 w' O' d4 95 [(.int .i64 i2.op),(.slice b4 i2.state.length c4)]/\Vb w' (Fr 0 w' O') (.slice b4 i2.state.length c4) i2.state/\Vb w' (Fr 0 w' O') (.slice e3 l1.length f3) l1) ?_ ?_
     ·refine Ah (Ae (Ar rfl (o_z (BH rfl (λ m5=>?_) (λ m5=>?_)))))
      ·replace h0:=ip h0 m5;refine Ae (Ar rfl (Ar rfl ?_));obtain ⟨hK,n5,h0⟩:=bs h0;obtain ⟨n5,oB,pB⟩:=Bz n5;replace s0:=(((s0.st o0).st p0).st q0).st d0;refine DQ rfl (a:=t2) s0 (vInt f4) (λ _=>rfl) rfl oB pB ⟨rfl,rfl⟩ λ iK qB rB jK kK i3 e7=>?_;rw [<- n5] at e7 ⊢;refine ab ?_;obtain ⟨lK,o5,h0⟩:=bs h0;obtain ⟨o5,sB,tB⟩:=Bz o5;replace t0:=((((t0.st o0).st p0).st q0).st d0).st i3;refine DQ rfl (a:=false) t0 vBool (λ _=>rfl) rfl sB tB ⟨rfl,rfl⟩ λ mK uB vB nK oK j3 f7=>?_;rw [<- o5] at f7 ⊢;refine Au rfl (Au rfl (o_z ?_));have a2:=(d0.an i3).an j3;replace a1:=a1.st a2;replace b1:=b1.st a2;replace c1:=c1.st a2;replace d1:=d1.st a2;replace e1:=e1.st a2;replace f1:=f1.st a2;replace h3:=(h3.st i3).st j3;obtain ⟨pK,o3,sE,tE,wB⟩:=Spc.shut (x:=(⟨(⟨a0.2.2.2.1.t.vars,a0.2.2.2.1.t.init,a0.2.2.2.1.t.goal,a0.2.2.2.1.t.ops⟩:Tsk),u0.2.2.2,a0.2.2.2.1.gen⟩:Spc)) (l0:=4) (by decide) a1 b1 c1 d1 e1 h3 f1;obtain rfl:=sm h0;have z2:=(i3.an j3).an o3;have p3:=(((((o0.an p0).an q0).an d0).an i3).an j3).an o3;exact ⟨_,((qB,rB),(uB,vB)),_,rfl,⟨rfl,rfl,rfl,rfl,rfl,rfl,rfl,rfl,rfl,rfl,rfl,rfl,rfl,rfl,rfl,rfl,trivial⟩,hB.st z2,y0.st z2,f0.st p3,wB,(e7.st j3).st o3,f7.st o3,n0.st p3,e0.st z2,k0.st z2,(((w0.st d0).st i3).st j3).st o3,j0.st p3⟩
      replace h0:=im' h0 m5;refine Ah ?_;obtain ⟨xB,i0,h0⟩:=bs h0;refine BF (λ l' w'=>∃ (yB:Unit) (O':Lab),T7 l' [(1,(.int .i64 x1)),(2,(.pointer (some ⟨q4,0,none⟩))),(4,(.pointer (some ⟨v3,0,none⟩))),(6,(.pointer (some ⟨s4,0,none⟩))),(8,(.slice g0.1.1 a0.1.length g0.1.2)),(9,(.slice g0.2.1 a0.2.1.length g0.2.2)),(10,(.pointer (some ⟨r4,0,none⟩))),(11,(.int .i64 a0.2.2.1)),(12,(.int .i64 j5)),(13,(.pointer (some ⟨c3,0,none⟩))),(18,(.pointer (some ⟨d4,0,none⟩))),(19,(.int .i64 u0.1)),(22,(.int .i64 t2)),(98,(.slice e3 l1.length f3)),(99,(.int .i64 (l1.length:Int))),(100,(.int .i64 (o6:Int))),(150,(.bool xB))]/\Bs w A w' O'/\Lc 2 w' O' q4 32 [(.slice A9 x0.vars.length i8),(.slice j8 x0.init.length k8),(.slice l8 x0.goal.length m8),(.slice n8 x0.ops.length o8)]/\Lc 3 w' O' v3 40 [(.int .i64 0),(.slice none 0 0),(.int .i64 0),(.int .i64 0)]/\Ob 4 w' O' (.pointer (some ⟨s4,0,none⟩)) (⟨(⟨a0.2.2.2.1.t.vars,a0.2.2.2.1.t.init,a0.2.2.2.1.t.goal,a0.2.2.2.1.t.ops⟩:Tsk),u0.2.2.2,a0.2.2.2.1.gen⟩:Spc)/\Rw 5 w' O' 3 (.slice g0.1.1 a0.1.length g0.1.2) a0.1/\Rw 6 w' O' 4 (.slice g0.2.1 a0.2.1.length g0.2.2) a0.2.1/\Ob 8 w' O' (.pointer (some ⟨r4,0,none⟩)) a0.2.2.2.2/\Lc 10 w' O' c3 79 [(.int .i64 q1.1.x.cost),(.int .i64 q1.1.x.order),(.int .i64 q1.1.x.id)]/\Lc 12 w' O' d4 95 [(.int .i64 i2.op),(.slice b4 i2.state.length c4)]/\Vb w' (Fr 0 w' O') (.slice b4 i2.state.length c4) i2.state/\Vb w' (Fr 0 w' O') (.slice e3 l1.length f3) l1) ?_ ?_
      ·refine Ae (Ar rfl (Ar rfl ?_));obtain ⟨zB,aC,i0⟩:=bs i0;obtain ⟨bC,cC⟩:=Dz aC;replace t0:=(((t0.st o0).st p0).st q0).st d0;obtain ⟨qK,rK,uE,g7,h7,i7,rfl⟩:=t0.elem cC;refine CN (hA:=g7) (hj:=bC) (hlt:=h7) rfl rfl (AQ (hc:=cat0 i7) rfl (Ar rfl ?_));rcases C8 zB with q3|q3
       ·(try rw [q3]);replace i0:=ip i0 q3;refine Aw rfl rfl (Aw rfl rfl (Aw rfl rfl (Aw rfl rfl (Aw rfl rfl (Aw rfl rfl (Bt rfl rfl (o_z ?_)))))));replace a1:=a1.st d0;replace b1:=b1.st d0;replace c1:=c1.st d0;replace d1:=d1.st d0;replace e1:=e1.st d0;replace f1:=f1.st d0;obtain ⟨sK,u2,vE,wE,dC⟩:=Spc.shut (x:=(⟨(⟨a0.2.2.2.1.t.vars,a0.2.2.2.1.t.init,a0.2.2.2.1.t.goal,a0.2.2.2.1.t.ops⟩:Tsk),u0.2.2.2,a0.2.2.2.1.gen⟩:Spc)) (l0:=4) (by decide) a1 b1 c1 d1 e1 h3 f1;obtain rfl:=sm i0;have a3:=(((o0.an p0).an q0).an d0).an u2;exact ⟨(),_,⟨rfl,rfl,rfl,rfl,rfl,rfl,rfl,rfl,rfl,rfl,rfl,rfl,rfl,rfl,rfl,rfl,rfl,trivial⟩,hB.st u2,y0.st u2,f0.st a3,dC,s0.st a3,t0.st u2,n0.st a3,e0.st u2,k0.st u2,(w0.st d0).st u2,j0.st a3⟩
       (try rw [q3]);replace i0:=im' i0 q3;refine Az rfl rfl (Ar rfl (Az rfl rfl (Ar rfl (Az rfl rfl (Ar rfl (Az rfl rfl ?_))))));obtain ⟨tK,eC,i0⟩:=bs i0;obtain ⟨fC,gC⟩:=Dz eC;replace s0:=(((s0.st o0).st p0).st q0).st d0;obtain ⟨uK,vK,xE,j7,k7,l7,rfl,wK⟩:=s0.elem gC;refine CN (hA:=j7) (hj:=fC) (hlt:=k7) rfl rfl (Az rfl rfl (AQ (hc:=cat0 l7) rfl (Az rfl rfl (ER rfl rfl (λ p5=>?_) λ p5=>?_))))
       ·replace i0:=ip i0 p5;refine Bd rfl rfl (o_z ?_);replace a1:=a1.st d0;replace b1:=b1.st d0;replace c1:=c1.st d0;replace d1:=d1.st d0;replace e1:=e1.st d0;replace f1:=f1.st d0;obtain ⟨xK,j2,yE,zE,hC⟩:=Spc.shut (x:=(⟨(⟨a0.2.2.2.1.t.vars,a0.2.2.2.1.t.init,a0.2.2.2.1.t.goal,a0.2.2.2.1.t.ops⟩:Tsk),u0.2.2.2,a0.2.2.2.1.gen⟩:Spc)) (l0:=4) (by decide) a1 b1 c1 d1 e1 h3 f1;obtain rfl:=sm i0;have r3:=(((o0.an p0).an q0).an d0).an j2;exact ⟨(),_,⟨rfl,rfl,rfl,rfl,rfl,rfl,rfl,rfl,rfl,rfl,rfl,rfl,rfl,rfl,rfl,rfl,rfl,trivial⟩,hB.st j2,y0.st j2,f0.st r3,hC,s0.st j2,t0.st j2,n0.st r3,e0.st j2,k0.st j2,(w0.st d0).st j2,j0.st r3⟩
       replace i0:=im i0 p5;refine Bd rfl rfl (o_z ?_);replace a1:=a1.st d0;replace b1:=b1.st d0;replace c1:=c1.st d0;replace d1:=d1.st d0;replace e1:=e1.st d0;replace f1:=f1.st d0;obtain ⟨yK,k2,aF,bF,iC⟩:=Spc.shut (x:=(⟨(⟨a0.2.2.2.1.t.vars,a0.2.2.2.1.t.init,a0.2.2.2.1.t.goal,a0.2.2.2.1.t.ops⟩:Tsk),u0.2.2.2,a0.2.2.2.1.gen⟩:Spc)) (l0:=4) (by decide) a1 b1 c1 d1 e1 h3 f1;obtain rfl:=sm i0;have s3:=(((o0.an p0).an q0).an d0).an k2;exact ⟨(),_,⟨rfl,rfl,rfl,rfl,rfl,rfl,rfl,rfl,rfl,rfl,rfl,rfl,rfl,rfl,rfl,rfl,rfl,trivial⟩,hB.st k2,y0.st k2,f0.st s3,iC,s0.st k2,t0.st k2,n0.st s3,e0.st k2,k0.st k2,(w0.st d0).st k2,j0.st s3⟩
      have l2:=((o0.an p0).an q0).an d0;replace f0:=f0.st l2;replace j0:=j0.st l2;replace s0:=s0.st l2;replace t0:=t0.st l2;replace n0:=n0.st l2;replace w0:=w0.st d0;rintro zK aL ⟨yB,bL,m7,hB,y0,f0,n7,s0,t0,n0,e0,k0,w0,j0⟩;refine AX _ m7 ?_;refine BH rfl (λ q5=>?_) (λ q5=>?_)
      ·replace h0:=ip h0 q5;refine Et ?_;obtain rfl:=sm h0;obtain rfl:=sm (CU c0);exact show Exists _ from ⟨_,((g0.1.1,g0.1.2),(g0.2.1,g0.2.2)),rfl,⟨rfl,rfl,rfl,rfl,rfl,rfl,rfl,rfl,rfl,rfl,rfl,rfl,rfl,trivial⟩,_,hB,y0,f0,n7,s0,t0,n0,e0,j0,a4⟩
      replace h0:=im' h0 q5;refine AK ?_;obtain rfl:=sm h0;exact ⟨_,((g0.1.1,g0.1.2),(g0.2.1,g0.2.2)),_,rfl,⟨rfl,rfl,rfl,rfl,rfl,rfl,rfl,rfl,rfl,rfl,rfl,rfl,rfl,rfl,rfl,rfl,trivial⟩,hB,y0,f0,n7,s0,t0,n0,e0,k0,w0,j0⟩
     have t3:=((o0.an p0).an q0).an d0;replace f0:=f0.st t3;replace j0:=j0.st t3;replace n0:=n0.st t3;replace w0:=w0.st d0;rintro cL dL ⟨y1,g1,eL,rfl,o7,hB,y0,f0,r5,k3,jC,n0,e0,k0,w0,j0⟩;replace c0:=BE c0;refine AX _ o7 ?_;refine Ah (Ae (Ar rfl (Ar rfl (Ar rfl ?_))));obtain ⟨fL,kC,c0⟩:=bs c0;obtain ⟨lC,p7⟩:=Dz kC;obtain ⟨gL,hL,cF,y4,q7,dF,rfl,iL⟩:=k3.elem p7;refine CN (hA:=y4) (hj:=lC) (hlt:=q7) rfl rfl ?_;refine GG rfl k3 (a:=t2) (vInt f4) y4 rfl rfl (AO p7) λ jL v2 k3=>?_;refine o_z (Ah (Ah ?_));replace r5:=r5.st v2;obtain ⟨r7,kL,lL,mL,nL,oL,pL,w2,eF,g4,h4,i4,j4,k4,s7,l4⟩:=Spc.opn r5 4 11 (by decide);obtain ⟨qL,rL,rfl⟩:=h4.form;obtain ⟨sL,tL,rfl⟩:=i4.form;obtain ⟨uL,vL,rfl⟩:=j4.form;obtain ⟨wL,xL,rfl⟩:=k4.form;obtain ⟨yL,rfl⟩:=s7.ptr;obtain ⟨zL,rfl,fF⟩:=l4.ptr;refine BT [(10,[11])] r7 ?_;refine AP (fuel:=2) [] (BL (DX 0 10)) rfl (AS rfl rfl (DN rfl rfl (AU rfl rfl (Bc (hc:=By g4 4 rfl) rfl rfl (AS rfl rfl (AU rfl rfl ?_))))));replace e0:=(e0.st v2).st w2;refine Bc (hc:=By e0 2 rfl) rfl rfl (AU rfl rfl ?_);replace k0:=(k0.st v2).st w2;refine Bc (hc:=By k0 0 rfl) rfl rfl (AS rfl rfl (AC (AJ (i:=10) rfl ?_)));obtain ⟨mC,nC,c0⟩:=bs c0;refine Dm (O:=r7) (JX s7 u6 e5 pA f4 nC) rfl λ aM bM t7 m2 oC=>?_;obtain ⟨s5,pC⟩:=oC;obtain ⟨rfl,qC⟩:=pC.err;have hZ:=m2.lst [11] (λ _ h=>by cases h;decide);refine Be [] hZ ?_;refine AP (fuel:=0) [] [(11,true)] rfl (Ek rfl rfl (AC (Bi (Ah (Ae (Ar rfl (FA rfl (λ t5=>?_) λ t5=>?_)))))))
     ·replace c0:=ip c0 t5;refine o_z (Am rfl (Ah (Ae (CX rfl rfl ?_))));refine ab ?_;replace f0:=((f0.st v2).st w2).st m2;refine AR f0 rfl rfl rfl (AY) (allOne) λ rC sC f0=>?_;refine Au rfl (o_z (AE ?_));obtain rfl:=sm c0;obtain rfl:=y2 _ rfl;obtain rfl:=sm (CU b0);obtain rfl:=n1 _ rfl;obtain rfl:=sm (CU hm);replace hB:=(((hB.st v2).st w2).st m2).st sC;exact U6 rfl (DH (cs:=[(.int .i64 0),(.slice none 0 0),(.int .i64 0),(.int .i64 0)]) rfl rfl f0.1.cellsAt) (AF rfl) ⟨hB.ext,_,_,rfl,(Vb.mono (F:=Fr 0 rC t7) (Vb.ofAgg (cs:=[(.int .i64 0),(.slice none 0 0),(.int .i64 0),(.int .i64 0)]) (x:=(⟨0,([]:List Int),0,0⟩:Rsl)) rfl ⟨_,rfl,(Vb.nil _ _),(T8 0),(T8 0),(T8 0)⟩) hB.out),(vErr qC)⟩
     replace c0:=im c0 t5;refine o_z (Aj rfl (AK (Ah (Ae (Ar rfl (Sf rfl rfl (Ar rfl (Ar rfl (Ar rfl (CX rfl rfl ?_))))))))));refine Sf rfl rfl ?_;obtain ⟨cM,tC,c0⟩:=bs c0;replace n0:=((n0.st v2).st w2).st m2;refine Dm (O:=t7) (Ml n0 (AdO (Vb.ofAgg (cs:=[(.int .i64 t2),(.int .i64 a0.2.2.1),(.int .i64 u0.1)]) (x:=(⟨t2,a0.2.2.1,u0.1⟩:Itm)) rfl ⟨rfl,f4,a4,u6⟩)) tC) rfl λ dM eM fM u3 uC=>?_;refine o_z (Ae (Ar rfl ?_));obtain ⟨gM,u7,c0⟩:=bs c0;have vC:=(BJ u7);refine DD (he:=u7) rfl rfl (Au rfl (o_z ?_));have b2:=m2.an u3;replace g4:=g4.st b2;replace h4:=h4.st b2;replace i4:=i4.st b2;replace j4:=j4.st b2;replace k4:=k4.st b2;replace l4:=l4.st b2;replace s5:=s5.st u3;obtain ⟨hM,m4,gF,hF,wC⟩:=Spc.shut (x:=(⟨(⟨(⟨(⟨a0.2.2.2.1.t.vars,a0.2.2.2.1.t.init,a0.2.2.2.1.t.goal,a0.2.2.2.1.t.ops⟩:Tsk),u0.2.2.2,a0.2.2.2.1.gen⟩:Spc).t.vars,(⟨(⟨a0.2.2.2.1.t.vars,a0.2.2.2.1.t.init,a0.2.2.2.1.t.goal,a0.2.2.2.1.t.ops⟩:Tsk),u0.2.2.2,a0.2.2.2.1.gen⟩:Spc).t.init,(⟨(⟨a0.2.2.2.1.t.vars,a0.2.2.2.1.t.init,a0.2.2.2.1.t.goal,a0.2.2.2.1.t.ops⟩:Tsk),u0.2.2.2,a0.2.2.2.1.gen⟩:Spc).t.goal,(⟨(⟨a0.2.2.2.1.t.vars,a0.2.2.2.1.t.init,a0.2.2.2.1.t.goal,a0.2.2.2.1.t.ops⟩:Tsk),u0.2.2.2,a0.2.2.2.1.gen⟩:Spc).t.ops⟩:Tsk),mC.2,(⟨(⟨a0.2.2.2.1.t.vars,a0.2.2.2.1.t.init,a0.2.2.2.1.t.goal,a0.2.2.2.1.t.ops⟩:Tsk),u0.2.2.2,a0.2.2.2.1.gen⟩:Spc).gen⟩:Spc)) (l0:=4) (by decide) g4 h4 i4 j4 k4 s5 l4;obtain rfl:=sm c0;have n2:=(((v2.an w2).an m2).an u3).an m4;replace k3:=(((k3.st w2).st m2).st u3).st m4;exact show Exists _ from ⟨_,((g1.1.1,g1.1.2),(g1.2.1,g1.2.2)),rfl,⟨rfl,rfl,rfl,rfl,rfl,rfl,(congrArg (λ n=>some (Value.slice _ n _)) ((by simp:(y1.1.set (u0.1:Int).toNat t2).length=y1.1.length).trans rfl).symm),rfl,rfl,rfl,rfl,rfl,rfl,trivial⟩,_,hB.st n2,y0.st n2,f0.st n2,wC,k3.relen,jC.st n2,uC.st m4,((e0.st m2).st u3).st m4,j0.st n2,vC⟩
    rintro iM jM ⟨kM,n4,rfl,z0,lM,hB,y0,f0,n3,s0,t0,n0,e0,j0,a4⟩;replace b0:=BE b0;obtain rfl:=sm b0;exact show Exists _ from ⟨_,((n4.1.1,n4.1.2),(n4.2.1,n4.2.2)),rfl,⟨(AN z0 _ _ rfl),(AN z0 _ _ rfl),(AN z0 _ _ rfl),(AN z0 _ _ rfl),(AN z0 _ _ rfl),(AN z0 _ _ rfl),(AN z0 _ _ rfl),(AN z0 _ _ rfl),(AN z0 _ _ rfl),trivial⟩,_,hB,y0,f0,n3,s0,t0,n0,a4,m6⟩
   replace b0:=iT b0;refine o_z (Am rfl (Ah (Ae (Ar rfl (AD rfl ?_)))));replace e0:=(e0.st r0).st m0;refine AQ (hc:=Blk.cell (i:=2) (e0.1) rfl) rfl (Ar rfl ?_);have c2:=r0.an m0;replace t1:=t1.st c2;replace p2:=p2.st c2;replace q2:=q2.st c2;replace r2:=r2.st c2;replace s2:=s2.st c2;replace u1:=u1.st c2;replace d3:=d3.st m0;obtain ⟨xC,w7,jF,kF,yC⟩:=Spc.shut (x:=h1.2.2.2.2.1) (l0:=4) (by decide) t1 p2 q2 r2 s2 d3 u1;obtain ⟨f2,zC,b0⟩:=bs b0;refine Dm (O:=xC) (LV yC e5 b3 zC) rfl λ mM nM aD x7 bD=>?_;obtain ⟨oM,pM,qM,rfl,cD,dD⟩:=bD;obtain ⟨lF,rfl,rM,rfl,o4,eD,fD,gD⟩:=cD;obtain ⟨y7,z7,rfl⟩:=o4.form;obtain ⟨rfl,hD⟩:=dD.err;refine BW rfl rfl (BW rfl rfl ?_);have a8:=(((((((((o1.an v0).an p1).an r1).an j1).an k1).an s1).an r0).an m0).an w7).an x7;replace f0:=f0.st a8;refine AR f0 rfl rfl rfl (AY) (allOne) λ iD b8 f0=>?_;refine Au rfl (o_z (AE ?_));obtain rfl:=sm b0;obtain rfl:=n1 _ rfl;obtain rfl:=sm (CU hm);replace hB:=(((hB.st m0).st w7).st x7).st b8;replace o4:=o4.st b8;exact U6 rfl (DH (cs:=[(.int .i64 f2.1.verdict),(.slice y7 f2.1.plan.length z7),(.int .i64 f2.1.cost),(.int .i64 f2.1.expanded)]) rfl rfl f0.1.cellsAt) (AF rfl) ⟨hB.ext,_,_,rfl,(Vb.mono (F:=Fr 0 iD aD) (Vb.ofAgg (cs:=[(.int .i64 f2.1.verdict),(.slice y7 f2.1.plan.length z7),(.int .i64 f2.1.cost),(.int .i64 f2.1.expanded)]) (x:=f2.1) rfl ⟨_,rfl,o4,eD,fD,gD⟩) hB.out),(vErr hD)⟩
  replace b0:=im b0 d5;refine o_z (Aj rfl (Et ?_));replace o2:=o2.st v0;replace g2:=g2.st v0;obtain ⟨sM,jD,mF,nF,tM⟩:=BxR.shut (x:=h1.2.2.2.2.2) (l0:=8) (by decide) o2 g2;obtain rfl:=sm b0;have z4:=(o1.an v0).an jD;exact show Exists _ from ⟨_,((m1.1.1,m1.1.2),(m1.2.1,m1.2.2)),c5 _ rfl,⟨rfl,rfl,trivial⟩,_,hB.st z4,f0.st z4,x3,b3⟩
 have a5:=((((p8.an u8).an q8).an w5).an u5).an x5;replace hB:=hB.st a5;replace f0:=f0.st a5;rintro uM vM ⟨wM,xM,rfl,c8,kD,hB,f0,x3,b3⟩;replace hm:=BE hm;refine AX _ c8 ?_;refine Ah (Ae (Ar rfl ?_));obtain ⟨z1,lD,hm⟩:=bs hm;refine Ix (O:=kD) (R:=λ w' F v=>T2 w' F v z1) (IQ Fr.lt (T8 2) b3 lD) rfl rfl λ yM zM mD d8 nD=>?_;obtain ⟨aN,bN,rfl,oD,pD⟩:=nD;obtain ⟨oF,rfl,cN,rfl,p4,qD,rD,sD⟩:=oD;obtain ⟨e8,f8,rfl⟩:=p4.form;obtain ⟨rfl,tD⟩:=pD.err;refine BW rfl rfl (BW rfl rfl ?_);replace f0:=f0.st d8;refine AR f0 rfl rfl rfl (AY) (allOne) λ uD g8 f0=>?_;refine Au rfl (o_z (AE ?_));obtain rfl:=sm hm;replace hB:=(hB.st d8).st g8;replace p4:=p4.st g8;exact U6 rfl (DH (cs:=[(.int .i64 z1.1.verdict),(.slice e8 z1.1.plan.length f8),(.int .i64 z1.1.cost),(.int .i64 z1.1.expanded)]) rfl rfl f0.1.cellsAt) (AF rfl) ⟨hB.ext,_,_,rfl,(Vb.mono (F:=Fr 0 uD mD) (Vb.ofAgg (cs:=[(.int .i64 z1.1.verdict),(.slice e8 z1.1.plan.length f8),(.int .i64 z1.1.cost),(.int .i64 z1.1.expanded)]) (x:=z1.1) rfl ⟨_,rfl,p4,qD,rD,sD⟩) hB.out),(vErr tD)⟩
end
section
open Go Go.RowKit
noncomputable def Ia (b:Tpl):Option Bool :=
  bnd (if 2 < (b.jobs.length:Int) then (some true) else (if 3 < (b.vars.length:Int) then (some true) else (bnd (IA b.vars 18) λ c=>if 18 < c then (some true) else (some false))):Option Bool) λ d=>if d=true then (some false) else (bnd (rng (ρ:=Bool) (λ (h:Nat) (e:Job) (i:Unit)=>if 3 < e.dur then (some (.ret false)) else (some (.next ()))) b.jobs 0 ()) λ a=>fin a λ (j:Unit)=>bnd (bnd (Hy b) λ f=>if f=0 then (some true) else (some false):Option Bool) λ g=>some g)
section
attribute [local irreducible] Vb Lc Rw Ob
theorem Ti {w:World} {A:Nat->Prop} (hA:∀ k,A k->k < w.heap.size) {d:Value} {n:Tpl} (o:Vb w A d n) {z:Bool} (hm:Ia n=some z) :
    Fn prog 6 [d] w λ v w'=>Ext w w'/\Vb w' (upA A w w') v z:=by
 obtain ⟨_,_,_⟩:=CP hA;apply Ct o;intros;refine AH func6 rfl ntmps6 ?_;unfold Ia at hm;refine Ah (Ae (Do 2 ?_));intros;refine Au rfl (o_z (Ah (Ah (Ck (X:=Unit) hm [1] [] [] [] (λ _ _ e _ t=>(20,.bool e) :: t) (λ _ _ _ _ t=>t) ?_ ?_))))
 ·intro e a;refine Ae (AD rfl (AW (AT rfl (Cw rfl rfl (λ f=>?_) λ f=>?_))))
  ·replace a:=ip a f;refine Ar rfl (Aw rfl rfl (Aw rfl rfl (Aw rfl rfl (Aw rfl rfl (Bt rfl rfl (Ar rfl (Aw rfl rfl (Aw rfl rfl (Aw rfl rfl (Aw rfl rfl (Bt rfl rfl (o_z ?_))))))))))));obtain rfl:=sm a;exact AV ()
  replace a:=im a f;refine Ar rfl (Az rfl rfl (AD rfl (Az rfl rfl (AW (Az rfl rfl (AT rfl (Az rfl rfl (Cw rfl rfl (λ g=>?_) λ g=>?_))))))))
  ·replace a:=ip a g;refine Bd rfl rfl (Ar rfl (Aw rfl rfl (Aw rfl rfl (Aw rfl rfl (Aw rfl rfl (Bt rfl rfl (o_z ?_)))))));obtain rfl:=sm a;exact AV ()
  replace a:=im a g;refine Bd rfl rfl (Ar rfl (Az rfl rfl (AD rfl (Az rfl rfl (AW (Az rfl rfl ?_))))));obtain ⟨q,n0,a⟩:=bs a;refine Dj rfl (TU (λ _ h=>h) zA zI n0) ?_;intros;refine Az rfl rfl (Cw rfl rfl (λ i=>?_) λ i=>?_)
  ·replace a:=ip a i;refine Bd rfl rfl (o_z ?_);obtain rfl:=sm a;exact AV ()
  replace a:=im a i;refine Bd rfl rfl (o_z ?_);obtain rfl:=sm a;exact AV ()
 intro e _ _ _ _ hm;intros;refine Bu ?_;refine BH rfl (λ j=>?_) (λ j=>?_)
 ·replace hm:=ip hm j;refine Ah (Ae (Au rfl (o_z (AE ?_))));obtain rfl:=sm hm;exact Cb
 replace hm:=im' hm j;refine AK (Ah (Ah (Ae (AD rfl (AW (AT rfl (Ar rfl (o_z ?_))))))));refine Df (X:=Unit) hm [1,22] [] [3] [] (λ _ _ _ _ t=>t) (λ _ _ _ _ t=>t) () ?_ ?_
 ·intro r s u _ _ _ _ c x _ p;intros;refine Ah (Ae (CZ ?_));intros;refine FL ?_;refine BO 3 ?_;intros;refine Bf ?_;intros;refine o_z (Ah (Ae (AD rfl (AW (Cw rfl rfl (λ l=>?_) λ l=>?_)))))
  ·replace c:=ip c l;refine o_z (Am rfl (Ah (Ae (Au rfl (o_z (AE ?_))))));obtain rfl:=sm c;obtain rfl:=p _ rfl;exact Cb
  replace c:=im c l;refine o_z (Aj rfl (AK ?_));exact Cl () c
 intro y _ _ _ _ hm;intros;refine Bu ?_;refine Ah (Ck (X:=Unit) hm [] [] [] [] (λ _ _ m _ t=>(2,.bool m) :: t) (λ _ _ _ _ t=>t) ?_ ?_)
 ·intro m b;refine Ae (EA ?_);obtain ⟨v0,p0,b⟩:=bs b;refine Dj rfl (RO (λ _ h=>h) zA p0) ?_;intros;refine Gw rfl rfl (λ l0=>?_) λ l0=>?_
  ·replace b:=ip b l0;refine Au rfl (o_z ?_);obtain rfl:=sm b;exact AV ()
  replace b:=im b l0;refine Au rfl (o_z ?_);obtain rfl:=sm b;exact AV ()
 intro m _ _ _ _ hm;intros;refine Bu ?_;refine AE ?_;obtain rfl:=sm hm;exact Cb
end
noncomputable def Ge (f:Tpl):Option Bool :=
  bnd (bnd (FQ) λ g=>if g=true then bnd (IB f ([]:List Lch)) λ h=>if h=true then bnd (Ia f) λ i=>if i=true then some false else some true else some true else some true:Option Bool) λ j=>if j=true then (bnd (bnd (FQ) λ k=>if k=true then some true else some false:Option Bool) λ l=>some l) else (bnd (DA f) λ a=>if a.2.n≠0 then (bnd (bnd (NM (⟨a.2.n⟩:Err) 8) λ m=>if m=true then some true else some false:Option Bool) λ o=>some o) else (bnd (FY a.1 20000) λ b=>if b.2.n≠0 then (some false) else (if b.1.verdict=3 then (some true) else (bnd (bnd (HB f) λ c=>bnd (FP a.1 b.1 c) λ d=>if d=true then some true else some false:Option Bool) λ e=>some e))))
section
attribute [local irreducible] Vb Lc Rw Ob
theorem MO {w:World} {A:Nat->Prop} (hA:∀ k,A k->k < w.heap.size) {e:Value} {p:Tpl} (q:Vb w A e p) {H:Bool} (hm:Ge p=some H) :
    Fn prog 3 [e] w λ v w'=>Ext w w'/\Vb w' (upA A w w') v H:=by
 obtain ⟨_,_,_⟩:=CP hA;apply Ct q;intros;refine AH func3 rfl ntmps3 ?_;unfold Ge at hm;refine Ah (Ae (Do 2 ?_));intros;refine Au rfl (o_z (Ah (Ah (Ck (X:=Unit) hm [1] [] [] [] (λ _ _ f _ t=>(17,.bool f) :: t) (λ _ _ _ _ t=>t) ?_ ?_))))
 ·intro f a;refine Ae ?_;obtain ⟨r,t0,a⟩:=bs a;refine Dj rfl (Nf (λ _ h=>h) t0) ?_;intros;cases r
  case false =>
   replace a:=iF a;refine EF rfl (Ar rfl (Aw rfl rfl (Aw rfl rfl (Aw rfl rfl (Bt rfl rfl (Ar rfl (Aw rfl rfl (Aw rfl rfl (Aw rfl rfl (Bt rfl rfl (o_z ?_)))))))))));obtain rfl:=sm a;exact AV ()
  replace a:=iT a;refine EE rfl (Ar rfl (Az rfl rfl (EA (Az rfl rfl ?_))));obtain ⟨s,v0,a⟩:=bs a;refine Dj rfl (TV (λ _ h=>h) zA zA v0) ?_;intros;cases s
  case false =>
   replace a:=iF a;refine Az rfl rfl (EF rfl (Bd rfl rfl (Ar rfl (Aw rfl rfl (Aw rfl rfl (Aw rfl rfl (Bt rfl rfl (o_z ?_))))))));obtain rfl:=sm a;exact AV ()
  replace a:=iT a;refine Az rfl rfl (EE rfl (Bd rfl rfl (Ar rfl (Az rfl rfl (EA (Az rfl rfl ?_))))));obtain ⟨u,y0,a⟩:=bs a;refine Dj rfl (Ti (λ _ h=>h) zA y0) ?_;intros;cases u
  case false =>
   replace a:=iF a;refine Az rfl rfl (EF rfl (Bd rfl rfl (o_z ?_)));obtain rfl:=sm a;exact AV ()
  replace a:=iT a;refine Az rfl rfl (EE rfl (Bd rfl rfl (o_z ?_)));obtain rfl:=sm a;exact AV ()
 intro f _ _ _ _ hm;intros;refine Bu ?_;refine BH rfl (λ g=>?_) (λ g=>?_)
 ·replace hm:=ip hm g;refine Ah (Ck (X:=Unit) hm [] [] [] [] (λ _ _ j _ t=>(2,.bool j) :: t) (λ _ _ _ _ t=>t) ?_ ?_)
  ·intro j c;refine Ae ?_;obtain ⟨z0,a1,c⟩:=bs c;refine Dj rfl (Nf (λ _ h=>h) a1) ?_;intros;cases z0
   case false =>
    replace c:=iF c;refine Au rfl (o_z ?_);obtain rfl:=sm c;exact AV ()
   replace c:=iT c;refine Au rfl (o_z ?_);obtain rfl:=sm c;exact AV ()
  intro j _ _ _ _ hm;intros;refine Bu ?_;refine AE ?_;obtain rfl:=sm hm;exact Cb
 replace hm:=im' hm g;refine AK (Ah (Ae (EA ?_)));obtain ⟨E,b1,hm⟩:=bs hm;refine SD rfl (Is Fr.lt zV b1) λ _ _ _ _ _ x y=>?_;apply Kh x;intros;apply Kh y;intros;refine Ar rfl (BW rfl rfl (BW rfl rfl (BO 3 ?_)));intros;refine Bf ?_;intros;refine Au rfl (o_z (Ah (Ah (Ae (Ar rfl (FA rfl (λ l=>?_) λ l=>?_))))))
 ·replace hm:=ip hm l;refine o_z (Am rfl (Ah (Ck (X:=Unit) hm [] [] [] [] (λ _ _ l0 _ t=>(2,.bool l0) :: t) (λ _ _ _ _ t=>t) ?_ ?_)))
  ·intro l0 d;refine Ae (Ar rfl ?_);obtain ⟨z,f1,d⟩:=bs d;refine Dj rfl (Wy (λ _ h=>h) zI zI f1) ?_;intros;cases z
   case false =>
    replace d:=iF d;refine Au rfl (o_z ?_);obtain rfl:=sm d;exact AV ()
   replace d:=iT d;refine Au rfl (o_z ?_);obtain rfl:=sm d;exact AV ()
  intro l0 _ _ _ _ hm;intros;refine Bu ?_;refine AE ?_;obtain rfl:=sm hm;exact Cb
 replace hm:=im hm l;refine o_z (Aj rfl (AK (Ah (Ae (EA ?_)))));obtain ⟨F,g1,hm⟩:=bs hm;refine SD rfl (OJ Fr.lt zV zI g1) λ _ _ _ _ _ B C=>?_;apply Kh B;intros;apply Kh C;intros;refine Ar rfl (BW rfl rfl (BW rfl rfl (BO 4 ?_)));intros;refine Bf ?_;intros;refine Au rfl (o_z (Ah (Ah (Ae (Ar rfl (FA rfl (λ m=>?_) λ m=>?_))))))
 ·replace hm:=ip hm m;refine o_z (Am rfl (Ah (Ae (Au rfl (o_z (AE ?_))))));obtain rfl:=sm hm;exact Cb
 replace hm:=im hm m;refine o_z (Aj rfl (AK (Ah (Ah (Ae (AD rfl (AW (Gw rfl rfl (λ n=>?_) λ n=>?_))))))))
 ·replace hm:=ip hm n;refine o_z (Am rfl (Ah (Ae (Au rfl (o_z (AE ?_))))));obtain rfl:=sm hm;exact Cb
 replace hm:=im hm n;refine o_z (Aj rfl (AK (Ah (Ck (X:=Unit) hm [] [] [] [] (λ _ _ o _ t=>(2,.bool o) :: t) (λ _ _ _ _ t=>t) ?_ ?_))))
 ·intro o b;refine IN [] ?_;refine AP (fuel:=3) [] (BL [0,1,2]) rfl (Hk rfl ?_);refine Hk rfl ?_;refine Hk rfl (AC (AJ (i:=3) rfl ?_));refine q_S [] ?_;intros;obtain ⟨G,o0,b⟩:=bs b;refine Dj rfl (RU (λ _ h=>h) zA o0) ?_;intros;refine Bj [] ?_;refine AJ (i:=4) rfl (q_S [] ?_);intros;obtain ⟨D,q0,b⟩:=bs b;refine Dj rfl (RT (λ _ h=>h) zA zA zI q0) ?_;intros;cases D
  case false =>
   replace b:=iF b;refine Bj [] ?_;refine AP (fuel:=0) [] [(5,true)] rfl (Ek rfl rfl (AC (Bi ?_)));obtain rfl:=sm b;exact AV ()
  replace b:=iT b;refine Bj [] ?_;refine AP (fuel:=0) [] [(5,true)] rfl (Ek rfl rfl (AC (Bi ?_)));obtain rfl:=sm b;exact AV ()
 intro o _ _ _ _ hm;intros;refine Bu ?_;refine AE ?_;obtain rfl:=sm hm;exact Cb
end
end
section
open Go Go.RowKit
def Le {α:Type} (x y:Option α):Prop:=∀ a,x=some a->y=some a
theorem Le.rf {α:Type} {x:Option α}:Le x x:=λ _ h=>h
theorem Le.bnd {α c:Type} {x b:Option α} {f f':α->Option c} (h:Le x b) (hf:∀ a,Le (f a) (f' a)):Le (bnd x f) (bnd b f'):=λ d hr=>by
  obtain ⟨a,ha,hb⟩:=bs hr;rw [h a ha,At];exact hf a d hb
theorem Le.ite {α:Type} {p:Prop} [Decidable p] {x b y c:Option α} (h:Le x b) (k:Le y c):Le (if p then x else y) (if p then b else c):=by
  by_cases a:p
  . rw [if_pos a,if_pos a];exact h
  . rw [if_neg a,if_neg a];exact k
theorem Le.fin {σ b:Type} {y:Fin σ b} {f f':σ->Option b} (hf:∀ a,Le (f a) (f' a)):Le (fin y f) (fin y f'):=by
  cases y with
  | done s=>exact hf s
  | ret c=>exact Le.rf
theorem Le.rng {α σ ρ:Type} {f f':Nat->α->σ->Option (Ctl σ ρ)} (hf:∀ k a s,Le (f k a s) (f' k a s)):∀ {xs:List α} {k:Nat} {s:σ},Le (rng f xs k s) (rng f' xs k s)
  | [],_,_=>Le.rf
  | x :: xs,k,s=>λ d hr=>by
    simp only [Proofs.YtllibjejncelhaaGreatDoor.rng] at hr ⊢;cases hc:f k x s with
    | none=>rw [hc] at hr;cases hr
    | some c =>
      rw [hc] at hr;rw [hf k x s c hc];cases c with
      | next b=>exact Le.rng hf d hr
      | brk b=>exact hr
      | ret q=>exact hr
theorem Le.rngN {σ ρ:Type} {f f':Nat->σ->Option (Ctl σ ρ)} {n:Nat} {s:σ} (hf:∀ k s,Le (f k s) (f' k s)):Le (rngN f n s) (rngN f' n s):=Le.rng λ _ k s=>hf k s
theorem Le.itr {σ ρ:Type} {f f':σ->Option (Ctl σ ρ)} (hf:∀ s,Le (f s) (f' s)):∀ (n:Nat) (s:σ),Le (itr f n s) (itr f' n s)
  | 0,_=>Le.rf
  | n + 1,s=>λ b hr=>by
    simp only [Proofs.YtllibjejncelhaaGreatDoor.itr] at hr ⊢;cases hc:f s with
    | none=>rw [hc] at hr;cases hr
    | some c =>
      rw [hc] at hr;rw [hf s c hc];cases c with
      | next a=>exact Le.itr hf n a b hr
      | brk a=>exact hr
      | ret q=>exact hr
def Afe {σ ρ:Type} (f:σ->Option (Ctl σ ρ)) (s:σ):Option (Fin σ ρ):=itr f 600 s
theorem Le.lop {σ ρ:Type} {f f':σ->Option (Ctl σ ρ)} {s:σ} (hf:∀ s,Le (f s) (f' s)):Le (Afe f s) (lop f' s):=λ a hr=>MB.2 ⟨600,Le.itr hf 600 s a hr⟩
end
section
open Go Go.RowKit
def Adq (a:List Int) (x:Fct):Bool:=decide (0<=x.var) && (decide (0<=x.val) && (match a[x.var.toNat]? with|some y=>decide (x.val < y)|none=>false))
theorem Tj {a:List Int} {x:Fct} (h:Adq a x=true):X1 a x:=by
  unfold Adq at h;simp only [L9,decide_eq_true_eq] at h;obtain ⟨d,h2,b⟩:=h;cases c:a[x.var.toNat]? with
  | none=>rw [c] at b;cases b
  | some y=>rw [c] at b;exact ⟨d,h2,y,c,by simpa using b⟩
def AdK:List Fct->Bool
  | x :: y :: r=>decide (x.var < y.var) && AdK (y :: r)
  | _=>true
theorem Uw:∀ {f:List Fct},AdK f=true->∀ (i:Nat) x y,f[i]?=some x->f[i + 1]?=some y->x.var < y.var
  | [],_,i,x,y,h,_=>by simp at h
  | [_],_,i,x,y,_,h=>by simp at h
  | a :: b :: r,h,i,x,y,h1,h2=>by
    simp only [AdK,L9,decide_eq_true_eq] at h;cases i with
    | zero=>simp at h1 h2;subst h1;subst h2;exact h.1
    | succ i=>exact Uw h.2 i x y (by simpa using h1) (by simpa using h2)
def Acu (a:List Int) (f:List Fct):Bool:=f.all (Adq a) && AdK f
theorem LD {a:List Int} {f:List Fct} (h:Acu a f=true):FactsOk a f:=by
  unfold Acu at h;rw [L9,M0] at h;exact ⟨λ i x b=>Tj (h.1 x (G2 b)),Uw h.2⟩
def Ach:List Int->List Int->Bool
  | [],[]=>true
  | y :: vars,x :: s=>decide (0<=x) && (decide (x < y) && Ach vars s)
  | _,_=>false
theorem NT:∀ {c s:List Int},Ach c s=true->StateOk c s
  | [],[],_=>⟨rfl,λ i x y h=>by simp at h⟩
  | y :: c,x :: s,h=>by
    simp only [Ach,L9,decide_eq_true_eq] at h;obtain ⟨e,h2⟩:=NT h.2.2;refine ⟨by simp [e],λ i a b d hb=>?_⟩;cases i with
    | zero=>simp at d hb;subst d;subst hb;exact ⟨h.1,h.2.1⟩
    | succ i=>exact h2 i a b (by simpa using d) (by simpa using hb)
  | [],_ :: _,h=>by simp [Ach] at h
  | _ :: _,[],h=>by simp [Ach] at h
def AdN (s:ByteArray):Bool:=decide (s.size<=256) && s.data.toList.all λ c=>decide (32<=c.toNat) && decide (c.toNat<=126)
theorem XL {s:ByteArray} (h:AdN s=true):AcK s:=by
  unfold AdN at h;simp only [L9,decide_eq_true_eq,M0] at h;refine ⟨h.1,λ i hi=>h.2 _ ?_⟩;show s.data[i]∈_;simp
def opB (a:List Int) (o:Opr):Bool:=decide (0<=o.cost) && (decide (o.cost<=1048576) && (decide (o.effs.length<=64) && (AdN o.name && (Acu a o.pre && o.effs.all λ e=>Acu a e.cond && Adq a ⟨e.var,e.val⟩))))
theorem AaM {a:List Int} {o:Opr} (h:opB a o=true):AeV a o:=by
  unfold opB at h;simp only [L9,decide_eq_true_eq,M0] at h;obtain ⟨b,h2,h3,h4,h5,h6⟩:=h;exact ⟨b,h2,h3,XL h4,LD h5,λ i e he=>⟨LD (h6 e (G2 he)).1,Tj (h6 e (G2 he)).2⟩⟩
def AdC (t:Tsk):Bool:=decide (t.vars.length<=64) && (decide (t.ops.length<=4096) && ((t.vars.all λ n=>decide (1<=n) && decide (n<=64)) && (Ach t.vars t.init && (Acu t.vars t.goal && t.ops.all (opB t.vars)))))
theorem XM {t:Tsk} (h:AdC t=true):TaskOk t:=by
  unfold AdC at h;simp only [L9,decide_eq_true_eq,M0] at h;obtain ⟨a,h2,h3,h4,h5,h6⟩:=h;exact ⟨a,h2,λ i n hn=>h3 n (G2 hn),NT h4,LD h5,λ i o b=>AaM (h6 o (G2 b))⟩
def NU (t:Tsk):Option Err:=if AdC t=true then some ⟨0⟩ else none
theorem RW (t:Tsk):Le (NU t) (HY t):=λ b h=>by
  obtain ⟨a,rfl⟩:=DJ h;unfold HY;rw [IP.2 (XM a)]
def Ni (x y:List Int):Option Bool:=if Ach x y=true then some true else none
theorem QW (x y:List Int):Le (Ni x y) (Hw x y):=λ b h=>by
  obtain ⟨a,rfl⟩:=DJ h;unfold Hw;rw [CT (NT a)]
def JQ (x y:List Int):Option Bool:=some (decide (x=y))
theorem Tk (x y:List Int):Le (JQ x y) (Gi x y):=λ b h=>by
  unfold JQ at h;unfold Gi;rw [<- h];by_cases a:x=y
  . rw [CT a];simp [a]
  . rw [Cc a];simp [a]
def Jq (f:List Fct) (s:List Int):Option Bool:=Ef f s
theorem Nj (f:List Fct) (s:List Int):Le (Jq f s) (Ef f s):=Le.rf
def GB (x:List Int):Option (List Int):=Cx x
theorem Ib (x:List Int):Le (GB x) (Cx x):=Le.rf
end
section
open Go Go.RowKit
theorem NV {R:Fct→Fct→Prop}:∀ {a b:List Fct},a.Perm b→a.Pairwise R→b.Pairwise R→(∀ x y,R x y→¬ R y x)→a=b
  | [],b,h,_,_,_=>(List.nil_perm.1 h).symm
  | x :: a,[],h,_,_,_=>by simp at h
  | x :: a,y :: b,h,ha,hb,hR=>by
    obtain ⟨c,ha2⟩:=J4.1 ha;obtain ⟨d,hb2⟩:=J4.1 hb;have hx:x∈y :: b:=h.mem_iff.1 J0;have hy:y∈x :: a:=h.mem_iff.2 J0;have e:x=y:=by
      rcases Q1.1 hx with rfl|hx
      . rfl
      . rcases Q1.1 hy with rfl|hy
        . rfl
        . exact absurd (d x hx) (hR x y (c y hy))
    subst e;rw [NV ((List.perm_cons x).1 h) ha2 hb2 hR]
theorem QX {u v:List Fct} (h:u.Perm v) (d:v.Pairwise λ x y=>x.var < y.var):AM u=v:=by
  have e:=(Jf u).trans h;have hn:(v.map (·.var)).Nodup:=by
    rw [List.nodup_iff_pairwise_ne,L4];exact d.imp λ h=>by omega
  have c:((AM u).map (·.var)).Nodup:=((e.map (·.var)).nodup_iff).2 hn;rw [List.nodup_iff_pairwise_ne,L4] at c;have hs:=Pa u;exact NV e (hs.imp₂ (λ a b f g=>by omega) c) d λ x y f g=>by omega
def Ado (a:Fct):List Fct->List Fct
  | []=>[a]
  | b :: r=>if a.var < b.var then a :: b :: r else b :: Ado a r
def AdL:List Fct->List Fct
  | []=>[]
  | a :: r=>Ado a (AdL r)
theorem Qv (a:Fct):∀ c,(Ado a c).Perm (a :: c)
  | []=>.refl _
  | b :: c=>by
    simp only [Ado];split
    . exact .refl _
    . exact ((Qv a c).cons b).trans (.swap a b c)
theorem Rt:∀ l,(AdL l).Perm l
  | []=>.refl _
  | a :: r=>(Qv a _).trans ((Rt r).cons a)
def AdU:List Fct->Bool
  | a :: b :: r=>decide (a.var < b.var) && AdU (b :: r)
  | _=>true
theorem Ux:∀ {l:List Fct},AdU l=true->l.Pairwise λ x y=>x.var < y.var
  | [],_=>.nil
  | [a],_=>D5 _ _
  | a :: b :: r,h=>by
    simp only [AdU,L9,decide_eq_true_eq] at h;have d:=Ux h.2;refine J4.2 ⟨λ c hc=>?_,d⟩;rcases Q1.1 hc with rfl|hc
    . exact h.1
    . have:=(J4.1 d).1 c hc;omega
def AeR (u:List Fct):Option (List Fct):=if u.length < 4611686018427387904/\AdU (AdL u)=true then some (AdL u) else none
theorem Zh {u b:List Fct} (h:AeR u=some b):(if u.length < 4611686018427387904 then some (AM u) else none)=some b:=by
  obtain ⟨⟨a,h2⟩,rfl⟩:=DJ h;rw [if_pos a,QX (Rt u).symm (Ux h2)]
theorem Uy (x:Int):Fv x=if 0<=x/\x < 100 then some (Y1 x.toNat) else none:=by
  unfold Fv Fj Fu;by_cases h:0<=x/\x < 100
  . rw [if_pos h,if_pos ⟨rfl,h⟩];rfl
  . rw [if_neg h,if_neg (λ q=>h q.2)];rfl
end
section
open Go Go.RowKit
set_option maxRecDepth 20000
attribute [local irreducible] bnd fin rng rngN T4 mkI T5 atI Y5 AdY AdX Z4 Adm BU Cx Fv
def GM (xs:List Int):Option (List Int):=if xs.length<=1000000 then some (Adu xs) else none
theorem Lt (xs:List Int):Le (GM xs) (Ds xs):=λ a h=>by
  unfold GM at h;unfold Ds;rw [Wm];exact h
def EB (x:List Fct):Option (List Fct):=BU x
theorem FZ (x:List Fct):Le (EB x) (BU x):=Le.rf
def Mm (x:Int):Option ByteArray:=if 0<=x/\x < 100 then some (Y1 x.toNat) else none
theorem Qw (x:Int):Le (Mm x) (Fv x):=λ a h=>by rw [Uy];exact h
def Gu (x:Int):Option (List Fct):=Dd x
theorem IC (x:Int):Le (Gu x) (Dd x):=Le.rf
def FI (x:Int):Option (List Eff):=CJ x
theorem HS (x:Int):Le (FI x) (CJ x):=Le.rf
def Li (x:List Lch):Option (List Lch):=if x.length<=1 then some x else none
theorem OK (x:List Lch):Le (Li x) (Hm x):=λ c h=>by
  obtain ⟨b,rfl⟩:=DJ h;unfold Hm;rw [if_pos (by omega)];congr 1;refine YZ ?_
  match x,b with
  | [],_=>exact .nil
  | [a],_=>exact D5 _ _
noncomputable def Eu (k:List (List Fct)):Option (List Fct) :=
  bnd (rng (ρ:=(List Fct)) (λ (l:Nat) (e:List Fct) (m:Int)=>bnd (T4 (m + (e.length:Int))) λ b=>if b < 0 then (none) else (some (.next b))) k 0 0) λ c=>fin c λ (f:Int)=>bnd (Gu f) λ g=>bnd (rng (ρ:=(List Fct)) (λ (n:Nat) (h:List Fct) (i:(List Fct))=>bnd (T5 16 i h) λ j=>some (.next j)) k 0 g) λ a=>fin a λ (d:(List Fct))=>some d
theorem Ij (a:List (List Fct)):Le (Eu a) (BY a):=by
  unfold Eu BY
  repeat' (first|apply IC|apply Le.ite|apply Le.bnd|apply Le.fin|apply Le.rng|apply Le.rngN|apply Le.lop|exact Le.rf|intro _)
noncomputable def DT (k:List (List Eff)):Option (List Eff) :=
  bnd (rng (ρ:=(List Eff)) (λ (l:Nat) (e:List Eff) (m:Int)=>bnd (T4 (m + (e.length:Int))) λ b=>if b < 0 then (none) else (some (.next b))) k 0 0) λ c=>fin c λ (f:Int)=>bnd (FI f) λ g=>bnd (rng (ρ:=(List Eff)) (λ (n:Nat) (h:List Eff) (i:(List Eff))=>bnd (T5 40 i h) λ j=>some (.next j)) k 0 g) λ a=>fin a λ (d:(List Eff))=>some d
theorem HC (a:List (List Eff)):Le (DT a) (BR a):=by
  unfold DT BR
  repeat' (first|apply HS|apply Le.ite|apply Le.bnd|apply Le.fin|apply Le.rng|apply Le.rngN|apply Le.lop|exact Le.rf|intro _)
noncomputable def IR (f:Tpl):Option (List (List Fct)) :=
  bnd (rng (ρ:=(List (List Fct))) (λ (g:Nat) (a:Job) (d:(List (List Fct)))=>bnd (T5 24 d [a.start,a.over,a.fin,a.atStart,a.atEnd]) λ e=>some (.next e)) f.jobs 0 [f.goal]) λ b=>fin b λ (c:(List (List Fct)))=>some c
theorem OM (a:Tpl):Le (IR a) (Eg a):=by
  unfold IR Eg
  repeat' (first|apply Le.ite|apply Le.bnd|apply Le.fin|apply Le.rng|apply Le.rngN|apply Le.lop|exact Le.rf|intro _)
noncomputable def HJ (a:List Fct):Option Bool :=
  bnd (if 64 < (a.length:Int) then (some true) else (some false):Option Bool) λ b=>some b
theorem MP (a:List Fct):Le (HJ a) (Ey a):=by
  unfold HJ Ey
  repeat' (first|apply Le.ite|apply Le.bnd|apply Le.fin|apply Le.rng|apply Le.rngN|apply Le.lop|exact Le.rf|intro _)
noncomputable def Cz (e:List (List Fct)):Option Int :=
  bnd (rng (ρ:=Int) (λ (b:Nat) (c:List Fct) (g:Unit)=>bnd (HJ c) λ d=>if d=true then some (.ret (b:Int)) else some (.next ())) e 0 ()) λ a=>fin a λ (f:Unit)=>some (-1)
theorem Ff (a:List (List Fct)):Le (Cz a) (Bp a):=by
  unfold Cz Bp
  repeat' (first|apply MP|apply Le.ite|apply Le.bnd|apply Le.fin|apply Le.rng|apply Le.rngN|apply Le.lop|exact Le.rf|intro _)
noncomputable def Cq (a:List (List Fct)):Option Bool :=
  bnd (bnd (Cz a) λ b=>if 0<=b then (some true) else (some false):Option Bool) λ c=>some c
theorem EN (a:List (List Fct)):Le (Cq a) (AZ a):=by
  unfold Cq AZ
  repeat' (first|apply Ff|apply Le.ite|apply Le.bnd|apply Le.fin|apply Le.rng|apply Le.rngN|apply Le.lop|exact Le.rf|intro _)
def NW (x:List Int) (f:List Fct):Option Bool:=if Acu x f=true then some true else none
theorem RX (x:List Int) (f:List Fct):Le (NW x f) (HX x f):=λ b h=>by
  obtain ⟨a,rfl⟩:=DJ h;unfold HX;rw [CT (LD a)]
noncomputable def HK (c:List Fct) (d:Tpl):Option Bool :=
  bnd (bnd (NW d.vars c) λ a=>if a=true then some false else some true:Option Bool) λ b=>some b
theorem MQ (a:List Fct) (b:Tpl):Le (HK a b) (Ez a b):=by
  unfold HK Ez
  repeat' (first|apply RX|apply Le.ite|apply Le.bnd|apply Le.fin|apply Le.rng|apply Le.rngN|apply Le.lop|exact Le.rf|intro _)
noncomputable def CA (e:List (List Fct)) (f:Tpl):Option Int :=
  bnd (rng (ρ:=Int) (λ (b:Nat) (c:List Fct) (g:Unit)=>bnd (HK c f) λ d=>if d=true then some (.ret (b:Int)) else some (.next ())) e 0 ()) λ a=>fin a λ (h:Unit)=>some (-1)
theorem Fg (a:List (List Fct)) (b:Tpl):Le (CA a b) (Bq a b):=by
  unfold CA Bq
  repeat' (first|apply MQ|apply Le.ite|apply Le.bnd|apply Le.fin|apply Le.rng|apply Le.rngN|apply Le.lop|exact Le.rf|intro _)
noncomputable def Cr (c:List (List Fct)) (d:Tpl):Option Bool :=
  bnd (bnd (CA c d) λ a=>if 0<=a then (some true) else (some false):Option Bool) λ b=>some b
theorem EO (a:List (List Fct)) (b:Tpl):Le (Cr a b) (Ba a b):=by
  unfold Cr Ba
  repeat' (first|apply Fg|apply Le.ite|apply Le.bnd|apply Le.fin|apply Le.rng|apply Le.rngN|apply Le.lop|exact Le.rf|intro _)
noncomputable def IS (a:ByteArray):Option Bool :=
  bnd (rngN (ρ:=Bool) (λ (f:Nat) (h:Unit)=>bnd (bnd (Z8 a (f:Int)) λ b=>if b < 32 then (some true) else (bnd (Z8 a (f:Int)) λ c=>if 126 < c then (some true) else (some false)):Option Bool) λ d=>if d=true then (some (.ret false)) else (some (.next ()))) a.size ()) λ res3=>fin res3 λ (g:Unit)=>bnd (if (a.size:Int)<=256 then (some true) else (some false):Option Bool) λ e=>some e
theorem ON (a:ByteArray):Le (IS a) (Dt a):=by
  unfold IS Dt
  repeat' (first|apply Le.ite|apply Le.bnd|apply Le.fin|apply Le.rng|apply Le.rngN|apply Le.lop|exact Le.rf|intro _)
noncomputable def Hq (a:Tpl):Option Err :=
  bnd (IR a) λ f=>bnd (if 64 < (a.vars.length:Int) then (some true) else (if 24 < (a.jobs.length:Int) then (some true) else (bnd (Cq f) λ n=>if n=true then some true else some false)):Option Bool) λ o=>if o=true then (some (⟨5⟩:Err)) else (bnd (rng (ρ:=Err) (λ (w:Nat) (g:Int) (x:Unit)=>bnd (if g < 1 then (some true) else (if 64 < g then (some true) else (some false)):Option Bool) λ p=>if p=true then (some (.ret (⟨1⟩:Err))) else (some (.next ()))) a.vars 0 ()) λ d=>fin d λ (y:Unit)=>bnd (rng (ρ:=Err) (λ (q:Nat) (c:Job) (r:Unit)=>bnd (if c.dur < 1 then (some true) else (if 62 < c.dur then (some true) else (some false)):Option Bool) λ h=>if h=true then (some (.ret (⟨1⟩:Err))) else (some (.next ()))) a.jobs 0 ()) λ e=>fin e λ (s:Unit)=>bnd (bnd (Ni a.vars a.init) λ i=>if i=true then bnd (Cr f a) λ j=>if j=true then some true else some false else some true:Option Bool) λ k=>if k=true then (some (⟨2⟩:Err)) else (bnd (rng (ρ:=Err) (λ (t:Nat) (l:Job) (u:Unit)=>bnd (IS l.name) λ m=>if m=true then some (.next ()) else some (.ret (⟨8⟩:Err))) a.jobs 0 ()) λ b=>fin b λ (v:Unit)=>some (⟨0⟩:Err)))
theorem Km (a:Tpl):Le (Hq a) (Eh a):=by
  unfold Hq Eh
  repeat' (first|apply EN|apply EO|apply QW|apply OM|apply ON|apply Le.ite|apply Le.bnd|apply Le.fin|apply Le.rng|apply Le.rngN|apply Le.lop|exact Le.rf|intro _)
noncomputable def It (e:Tpl) (f:List Lch):Option Err :=
  bnd (Hq e) λ c=>if c.n≠0 then (some (⟨c.n⟩:Err)) else (if 4096 < (f.length:Int) then (some (⟨5⟩:Err)) else (bnd (rng (ρ:=Err) (λ (g:Nat) (a:Lch) (h:Unit)=>bnd (if a.job < 0 then (some true) else (if (e.jobs.length:Int)<=a.job then (some true) else (if a.tm < 0 then (some true) else (if 1048576 < a.tm then (some true) else (some false)))):Option Bool) λ d=>if d=true then (some (.ret (⟨1⟩:Err))) else (some (.next ()))) f 0 ()) λ b=>fin b λ (i:Unit)=>some (⟨0⟩:Err)))
theorem NX (a:Tpl) (b:List Lch):Le (It a b) (FU a b):=by
  unfold It FU
  repeat' (first|apply Km|apply Le.ite|apply Le.bnd|apply Le.fin|apply Le.rng|apply Le.rngN|apply Le.lop|exact Le.rf|intro _)
noncomputable def Gm (d:Tpl) (c:Lch):Option Int :=
  bnd (atI d.jobs c.job) λ a=>bnd (T4 (c.tm + a.dur)) λ b=>some b
theorem HQ (a:Tpl) (b:Lch):Le (Gm a b) (EG a b):=by
  unfold Gm EG
  repeat' (first|apply Le.ite|apply Le.bnd|apply Le.fin|apply Le.rng|apply Le.rngN|apply Le.lop|exact Le.rf|intro _)
noncomputable def GY (j:Tpl) (k:List Lch):Option ((MapR 212 Int Hap)×(List Int)) :=
  bnd (rng (ρ:=(MapR 212 Int Hap)×(List Int)) (λ (m:Nat) (a:Lch) (c:(MapR 212 Int Hap))=>bnd (T5 16 (V0 ([]:List Hap) c.l a.tm) [(⟨a.job,false⟩:Hap)]) λ e=>bnd (Gm j a) λ f=>bnd (T5 16 (V0 ([]:List Hap) (⟨X7 c.l a.tm e⟩:MapR 212 Int Hap).l f) [(⟨a.job,true⟩:Hap)]) λ i=>some (.next (⟨X7 (⟨X7 c.l a.tm e⟩:MapR 212 Int Hap).l f i⟩:MapR 212 Int Hap))) k 0 (⟨[]⟩:MapR 212 Int Hap)) λ d=>fin d λ (b:(MapR 212 Int Hap))=>bnd (Adm b) λ g=>bnd (GM g) λ h=>some (b,h)
theorem LW (a:Tpl) (b:List Lch):Le (GY a b) (EI a b):=by
  unfold GY EI
  repeat' (first|apply Lt|apply HQ|apply Le.ite|apply Le.bnd|apply Le.fin|apply Le.rng|apply Le.rngN|apply Le.lop|exact Le.rf|intro _)
noncomputable def HL (m:Tpl) (j:List Lch) (f:Int):Option Bool :=
  bnd (rng (ρ:=Bool) (λ (g:Nat) (d:Lch) (n:Unit)=>if d.tm≠f then (some (.next ())) else (bnd (rng (ρ:=Ctl Unit Bool) (λ (h:Nat) (a:Lch) (o:Unit)=>bnd (if (g:Int)≠(h:Int) then (if d.job=a.job then (if a.tm<=f then (bnd (Gm m a) λ e=>if f<=e then (some true) else (some false)) else (some false)) else (some false)) else (some false):Option Bool) λ i=>if i=true then (some (.ret (.ret true))) else (some (.next ()))) j 0 ()) λ b=>fin b λ (k:Unit)=>some (.next ()))) j 0 ()) λ c=>fin c λ (l:Unit)=>some false
theorem MR (a:Tpl) (b:List Lch) (c:Int):Le (HL a b c) (Fo a b c):=by
  unfold HL Fo
  repeat' (first|apply HQ|apply Le.ite|apply Le.bnd|apply Le.fin|apply Le.rng|apply Le.rngN|apply Le.lop|exact Le.rf|intro _)
noncomputable def Iu (d:Tpl) (a:Hap):Option (List Fct) :=
  if a.fin=true then (bnd (atI d.jobs a.job) λ b=>some b.atEnd) else (bnd (atI d.jobs a.job) λ c=>some c.atStart)
theorem NY (a:Tpl) (b:Hap):Le (Iu a b) (FV a b):=by
  unfold Iu FV
  repeat' (first|apply Le.ite|apply Le.bnd|apply Le.fin|apply Le.rng|apply Le.rngN|apply Le.lop|exact Le.rf|intro _)
noncomputable def IT (d:Tpl) (a:Hap):Option (List Fct) :=
  if a.fin=true then (bnd (atI d.jobs a.job) λ b=>some b.fin) else (bnd (atI d.jobs a.job) λ c=>some c.start)
theorem OO (a:Tpl) (b:Hap):Le (IT a b) (Gr a b):=by
  unfold IT Gr
  repeat' (first|apply Le.ite|apply Le.bnd|apply Le.fin|apply Le.rng|apply Le.rngN|apply Le.lop|exact Le.rf|intro _)
noncomputable def Jr (a:Tpl) (b:Hap) (c:Hap):Option Bool :=
  none
theorem Mn (a:Tpl) (b:Hap) (c:Hap):Le (Jr a b c) (Hl a b c):=λ _ h=>nomatch h
noncomputable def IU (t:Tpl) (x:List Int) (y:List Hap):Option (List Int) :=
  bnd (GB x) λ p=>bnd (rng (ρ:=(List Int)) (λ (z:Nat) (q:Bool) (r:(List Int))=>bnd (rng (ρ:=Ctl (List Int) (List Int)) (λ (s:Nat) (A:Job) (k:(List Int)×Bool)=>bnd (rng (ρ:=Ctl ((List Int)×Bool) (Ctl (List Int) (List Int))) (λ (u:Nat) (a:Hap) (c:(List Int)×Bool)=>bnd (if a.job≠(s:Int) then (some (c.2,true,a.fin)) else (if a.fin=true then (if c.2=true then (some (true,false,true)) else (some (false,true,true))) else (if c.2=true then (some (true,true,false)) else (some (false,false,false)))):Option (Bool×Bool×Bool)) λ b=>if b.2.1=true then (some (.next (c.1,b.1))) else (bnd (Iu t (⟨a.job,b.2.2⟩:Hap)) λ l=>bnd (rng (ρ:=Ctl ((List Int)×Bool) (Ctl ((List Int)×Bool) (Ctl (List Int) (List Int)))) (λ (v:Nat) (d:Fct) (f:(List Int))=>bnd (atI f d.var) λ w=>some (.next (f.set (d.var:Int).toNat d.val))) l 0 c.1) λ e=>fin e λ (m:(List Int))=>some (.next (m,b.1)))) y 0 (k.1,k.2)) λ h=>fin h λ (g:(List Int)×Bool)=>some (.next (g.1,g.2))) t.jobs 0 (r,q)) λ i=>fin i λ (n:(List Int)×Bool)=>some (.next n.1)) [true,false] 0 p) λ j=>fin j λ (o:(List Int))=>some o
theorem OP (a:Tpl) (b:List Int) (c:List Hap):Le (IU a b c) (Gs a b c):=by
  unfold IU Gs
  repeat' (first|apply Ib|apply NY|apply Le.ite|apply Le.bnd|apply Le.fin|apply Le.rng|apply Le.rngN|apply Le.lop|exact Le.rf|intro _)
noncomputable def Js (g:Tpl) (w:List Lch) (p:Int) (x:List Int) (o:List Hap):Option ((List Int)×Err) :=
  bnd (HL g w p) λ q=>if q=true then some (([]:List Int),(⟨18⟩:Err)) else bnd (rng (ρ:=(List Int)×Err) (λ (r:Nat) (s:Hap) (G:Unit)=>bnd (rngN (ρ:=Ctl Unit ((List Int)×Err)) (λ (t:Nat) (H:Unit)=>bnd (o[t]?) λ u=>bnd (Jr g s u) λ v=>if v=true then some (.ret (.ret (([]:List Int),(⟨17⟩:Err)))) else some (.next ())) r ()) λ e=>fin e λ (y:Unit)=>some (.next ())) o 0 ()) λ f=>fin f λ (z:Unit)=>bnd (rng (ρ:=(List Int)×Err) (λ (A:Nat) (h:Hap) (B:Unit)=>bnd (IT g h) λ i=>bnd (Jq i x) λ j=>if j=true then some (.next ()) else some (.ret (([]:List Int),(⟨12⟩:Err)))) o 0 ()) λ b=>fin b λ (C:Unit)=>bnd (IU g x o) λ d=>bnd (rng (ρ:=(List Int)×Err) (λ (D:Nat) (a:Lch) (E:Unit)=>bnd (if a.tm<=p then (bnd (Gm g a) λ k=>if p < k then (bnd (atI g.jobs a.job) λ l=>bnd (Jq l.over d) λ m=>if m=true then some false else some true) else (some false)) else (some false):Option Bool) λ n=>if n=true then (some (.ret (([]:List Int),(⟨16⟩:Err)))) else (some (.next ()))) w 0 ()) λ c=>fin c λ (F:Unit)=>some (d,(⟨0⟩:Err))
theorem PD (a:Tpl) (b:List Lch) (c:Int) (d:List Int) (e:List Hap):Le (Js a b c d e) (GK a b c d e):=by
  unfold Js GK
  repeat' (first|apply Nj|apply OP|apply HQ|apply Mn|apply MR|apply OO|apply Le.ite|apply Le.bnd|apply Le.fin|apply Le.rng|apply Le.rngN|apply Le.lop|exact Le.rf|intro _)
noncomputable def HN (f:Tpl) (g:List Lch):Option Int :=
  bnd (rng (ρ:=Int) (λ (h:Nat) (b:Lch) (c:Int)=>bnd (Gm f b) λ d=>some (.next (max c d))) g 0 0) λ a=>fin a λ (e:Int)=>some e
theorem MS (a:Tpl) (b:List Lch):Le (HN a b) (Fp a b):=by
  unfold HN Fp
  repeat' (first|apply HQ|apply Le.ite|apply Le.bnd|apply Le.fin|apply Le.rng|apply Le.rngN|apply Le.lop|exact Le.rf|intro _)
noncomputable def HO (c:Tpl) (j:List Lch):Option (Int×Err) :=
  bnd (It c j) λ d=>if d.n≠0 then (some (0,(⟨d.n⟩:Err))) else (bnd (GY c j) λ e=>bnd (rng (ρ:=Int×Err) (λ (m:Nat) (f:Int) (k:(List Int))=>bnd (Js c j f k (V0 ([]:List Hap) e.1.l f)) λ a=>if a.2.n≠0 then (some (.ret (0,(⟨a.2.n⟩:Err)))) else (some (.next a.1))) e.2 0 c.init) λ b=>fin b λ (g:(List Int))=>bnd (Jq c.goal g) λ h=>if h=true then bnd (HN c j) λ i=>some (i,(⟨0⟩:Err)) else some (0,(⟨13⟩:Err)))
theorem MT (a:Tpl) (b:List Lch):Le (HO a b) (Fq a b):=by
  unfold HO Fq
  repeat' (first|apply Nj|apply NX|apply LW|apply MS|apply PD|apply Le.ite|apply Le.bnd|apply Le.fin|apply Le.rng|apply Le.rngN|apply Le.lop|exact Le.rf|intro _)
noncomputable def Hr (b:Fct) (c:Int):Option Bool :=
  bnd (if b.var=c then (some true) else (some false):Option Bool) λ a=>some a
theorem Mo (a:Fct) (b:Int):Le (Hr a b) (Er a b):=by
  unfold Hr Er
  repeat' (first|apply Le.ite|apply Le.bnd|apply Le.fin|apply Le.rng|apply Le.rngN|apply Le.lop|exact Le.rf|intro _)
noncomputable def CB (e:List Fct) (f:Int):Option Int :=
  bnd (rng (ρ:=Int) (λ (b:Nat) (c:Fct) (g:Unit)=>bnd (Hr c f) λ d=>if d=true then some (.ret (b:Int)) else some (.next ())) e 0 ()) λ a=>fin a λ (h:Unit)=>some (-1)
theorem Fh (a:List Fct) (b:Int):Le (CB a b) (Br a b):=by
  unfold CB Br
  repeat' (first|apply Mo|apply Le.ite|apply Le.bnd|apply Le.fin|apply Le.rng|apply Le.rngN|apply Le.lop|exact Le.rf|intro _)
noncomputable def Cs (b:List Fct) (c:Int):Option Bool :=
  bnd (bnd (CB b c) λ a=>if 0<=a then (some true) else (some false):Option Bool) λ d=>some d
theorem EP (a:List Fct) (b:Int):Le (Cs a b) (Bk a b):=by
  unfold Cs Bk
  repeat' (first|apply Fh|apply Le.ite|apply Le.bnd|apply Le.fin|apply Le.rng|apply Le.rngN|apply Le.lop|exact Le.rf|intro _)
noncomputable def DR (c:List Fct) (d:Int):Option Bool :=
  bnd (bnd (Cs c d) λ a=>if a=true then some true else some false:Option Bool) λ b=>some b
theorem Ic (a:List Fct) (b:Int):Le (DR a b) (CD a b):=by
  unfold DR CD
  repeat' (first|apply EP|apply Le.ite|apply Le.bnd|apply Le.fin|apply Le.rng|apply Le.rngN|apply Le.lop|exact Le.rf|intro _)
noncomputable def IV (d:Job) (e:Int):Option Bool :=
  bnd (bnd (DR d.atStart e) λ a=>if a=true then some true else bnd (DR d.atEnd e) λ b=>if b=true then some true else some false:Option Bool) λ c=>some c
theorem OQ (a:Job) (b:Int):Le (IV a b) (Fw a b):=by
  unfold IV Fw
  repeat' (first|apply Ic|apply Le.ite|apply Le.bnd|apply Le.fin|apply Le.rng|apply Le.rngN|apply Le.lop|exact Le.rf|intro _)
noncomputable def Da (e:List Job) (f:Int):Option Int :=
  bnd (rng (ρ:=Int) (λ (b:Nat) (c:Job) (g:Unit)=>bnd (IV c f) λ d=>if d=true then some (.ret (b:Int)) else some (.next ())) e 0 ()) λ a=>fin a λ (h:Unit)=>some (-1)
theorem FS (a:List Job) (b:Int):Le (Da a b) (BC a b):=by
  unfold Da BC
  repeat' (first|apply OQ|apply Le.ite|apply Le.bnd|apply Le.fin|apply Le.rng|apply Le.rngN|apply Le.lop|exact Le.rf|intro _)
noncomputable def CL (b:List Job) (c:Int):Option Bool :=
  bnd (bnd (Da b c) λ a=>if 0<=a then (some true) else (some false):Option Bool) λ d=>some d
theorem FD (a:List Job) (b:Int):Le (CL a b) (Bg a b):=by
  unfold CL Bg
  repeat' (first|apply FS|apply Le.ite|apply Le.bnd|apply Le.fin|apply Le.rng|apply Le.rngN|apply Le.lop|exact Le.rf|intro _)
noncomputable def IW (d:Job) (e:Int):Option Bool :=
  bnd (bnd (DR d.start e) λ a=>if a=true then some true else bnd (DR d.fin e) λ b=>if b=true then some true else some false:Option Bool) λ c=>some c
theorem OR (a:Job) (b:Int):Le (IW a b) (Fx a b):=by
  unfold IW Fx
  repeat' (first|apply Ic|apply Le.ite|apply Le.bnd|apply Le.fin|apply Le.rng|apply Le.rngN|apply Le.lop|exact Le.rf|intro _)
noncomputable def Db (e:List Job) (f:Int):Option Int :=
  bnd (rng (ρ:=Int) (λ (b:Nat) (c:Job) (g:Unit)=>bnd (IW c f) λ d=>if d=true then some (.ret (b:Int)) else some (.next ())) e 0 ()) λ a=>fin a λ (h:Unit)=>some (-1)
theorem FT (a:List Job) (b:Int):Le (Db a b) (BD a b):=by
  unfold Db BD
  repeat' (first|apply OR|apply Le.ite|apply Le.bnd|apply Le.fin|apply Le.rng|apply Le.rngN|apply Le.lop|exact Le.rf|intro _)
noncomputable def CM (b:List Job) (c:Int):Option Bool :=
  bnd (bnd (Db b c) λ a=>if 0<=a then (some true) else (some false):Option Bool) λ d=>some d
theorem FE (a:List Job) (b:Int):Le (CM a b) (Bh a b):=by
  unfold CM Bh
  repeat' (first|apply FT|apply Le.ite|apply Le.bnd|apply Le.fin|apply Le.rng|apply Le.rngN|apply Le.lop|exact Le.rf|intro _)
noncomputable def Kk (h:Tpl):Option Lay :=
  bnd (GB h.vars) λ u=>bnd (rng (ρ:=Lay) (λ (v:Nat) (i:Job) (j:(List Int))=>bnd (T4 (i.dur + 2)) λ k=>bnd (T5 8 j ([k,2]:List Int)) λ l=>some (.next l)) h.jobs 0 u) λ e=>fin e λ (m:(List Int))=>bnd (rng (ρ:=Lay) (λ (g:Nat) (w:Int) (a:(List Int)×(List Int)×(List Int))=>bnd (bnd (CL h.jobs (g:Int)) λ n=>if n=true then bnd (T5 8 a.2.2 [2]) λ c=>bnd (CM h.jobs (g:Int)) λ o=>if o=true then bnd (T5 8 c [2]) λ p=>some ((a.2.2.length:Int),(c.length:Int),p) else some ((a.2.2.length:Int),(-1),c) else some ((-1),(-1),a.2.2):Option (Int×Int×(List Int))) λ d=>bnd (T5 8 a.1 ([d.1]:List Int)) λ q=>bnd (T5 8 a.2.1 ([d.2.1]:List Int)) λ r=>some (.next (q,r,d.2.2))) h.vars 0 (([]:List Int),([]:List Int),m)) λ f=>fin f λ (b:(List Int)×(List Int)×(List Int))=>bnd (T4 ((h.jobs.length:Int) + 2)) λ s=>bnd (T5 8 b.2.2 [s]) λ t=>some (⟨(h.vars.length:Int),b.1,b.2.1,(b.2.2.length:Int),t⟩:Lay)
theorem QY (a:Tpl):Le (Kk a) (FO a):=by
  unfold Kk FO
  repeat' (first|apply Ib|apply FD|apply FE|apply Le.ite|apply Le.bnd|apply Le.fin|apply Le.rng|apply Le.rngN|apply Le.lop|exact Le.rf|intro _)
noncomputable def CH (c:Lay) (d:Int):Option Int :=
  bnd (T4 (2 * d)) λ a=>bnd (T4 (c.jobs + a)) λ b=>some b
theorem Im (a:Lay) (b:Int):Le (CH a b) (BP a b):=by
  unfold CH BP
  repeat' (first|apply Le.ite|apply Le.bnd|apply Le.fin|apply Le.rng|apply Le.rngN|apply Le.lop|exact Le.rf|intro _)
noncomputable def EL (d:Lay) (e:Int):Option Int :=
  bnd (T4 (2 * e)) λ a=>bnd (T4 (d.jobs + a)) λ b=>bnd (T4 (b + 1)) λ c=>some c
theorem ID (a:Lay) (b:Int):Le (EL a b) (CV a b):=by
  unfold EL CV
  repeat' (first|apply Le.ite|apply Le.bnd|apply Le.fin|apply Le.rng|apply Le.rngN|apply Le.lop|exact Le.rf|intro _)
noncomputable def GN (n:Lay) (s:List Fct) (t:List Fct):Option ((List Fct)×(List Eff)) :=
  bnd (rng (ρ:=(List Fct)×(List Eff)) (λ (b:Nat) (c:Int) (a:(List Fct)×(List Eff))=>bnd (DR t (b:Int)) λ o=>if o=true then bnd (T5 16 a.1 [(⟨c,0⟩:Fct)]) λ d=>bnd (bnd (n.read[b]?) λ g=>if 0<=g then (bnd (n.read[b]?) λ h=>bnd (T5 16 d [(⟨h,0⟩:Fct)]) λ i=>some i) else (some d):Option (List Fct)) λ j=>bnd (T5 40 a.2 [(⟨([]:List Fct),c,1⟩:Eff)]) λ k=>some (.next (j,k)) else bnd (bnd (DR s (b:Int)) λ p=>if p=true then if 0<=c then (some true) else (some false) else some false:Option Bool) λ q=>if q=true then (bnd (T5 16 a.1 [(⟨c,0⟩:Fct)]) λ r=>bnd (n.read[b]?) λ l=>bnd (T5 40 a.2 [(⟨([]:List Fct),l,1⟩:Eff)]) λ m=>some (.next (r,m))) else (some (.next (a.1,a.2)))) n.write 0 (([]:List Fct),([]:List Eff))) λ f=>fin f λ (e:(List Fct)×(List Eff))=>some (e.1,e.2)
theorem Lu (a:Lay) (b:List Fct) (c:List Fct):Le (GN a b c) (Du a b c):=by
  unfold GN Du
  repeat' (first|apply Ic|apply Le.ite|apply Le.bnd|apply Le.fin|apply Le.rng|apply Le.rngN|apply Le.lop|exact Le.rf|intro _)
noncomputable def ED (k:Lay) (n:ByteArray) (l:List Fct) (m:List Fct) (o:List Fct) (p:List Eff):Option Opr :=
  bnd (Eu [l,o,[(⟨k.phase,0⟩:Fct)]]) λ i=>bnd (rng (ρ:=Opr) (λ (q:Nat) (c:Fct) (j:(List Eff))=>bnd (T5 40 j [(⟨([]:List Fct),c.var,c.val⟩:Eff)]) λ d=>some (.next d)) m 0 ([]:List Eff)) λ b=>fin b λ (e:(List Eff))=>bnd (GN k l m) λ a=>bnd (T5 16 i a.1) λ f=>bnd (DT [e,p,a.2]) λ g=>bnd (AeR f) λ h=>some (⟨n,0,h,g⟩:Opr)
theorem JY (a:Lay) (b:ByteArray) (c:List Fct) (d:List Fct) (e:List Fct) (f:List Eff):Le (ED a b c d e f) (Cu a b c d e f):=by
  unfold ED Cu
  repeat' (first|apply Ij|apply HC|apply Lu|exact λ g h=>Zh h|apply Le.bnd|apply Le.fin|apply Le.rng|apply Le.ite|exact Le.rf|intro _)
noncomputable def GZ (b:Lay) (p:Job) (c:Int) (a:Int):Option Opr :=
  bnd (Z4 (⟨#[119,97,105,116,32]⟩:ByteArray) p.name) λ q=>bnd (Z4 q (⟨#[32]⟩:ByteArray)) λ r=>bnd (Mm a) λ s=>bnd (Z4 r s) λ t=>bnd (some ():Option Unit) λ w=>bnd (if 0 < a then (bnd (EB p.over) λ u=>some u) else (some ([]:List Fct)):Option (List Fct)) λ v=>bnd (T4 (c + 1)) λ d=>bnd (CH b c) λ e=>bnd (T5 16 v [(⟨e,a⟩:Fct),(⟨b.phase,d⟩:Fct)]) λ f=>bnd (if 1 < a then (bnd (T4 (a - 1)) λ g=>bnd (CH b c) λ h=>bnd (T5 40 ([]:List Eff) [(⟨([]:List Fct),h,g⟩:Eff)]) λ i=>some i) else (if a=1 then (bnd (T4 (p.dur + 1)) λ j=>bnd (CH b c) λ k=>bnd (T5 40 ([]:List Eff) [(⟨([]:List Fct),k,j⟩:Eff)]) λ l=>some l) else (some ([]:List Eff))):Option (List Eff)) λ m=>bnd (T4 (c + 2)) λ n=>bnd (T5 40 m [(⟨([]:List Fct),b.phase,n⟩:Eff)]) λ o=>some (⟨t,0,f,o⟩:Opr)
theorem LX (a:Lay) (b:Job) (c:Int) (d:Int):Le (GZ a b c d) (Dh a b c d):=by
  unfold GZ Dh
  repeat' (first|apply Im|apply FZ|apply Qw|apply Le.ite|apply Le.bnd|apply Le.fin|apply Le.rng|apply Le.rngN|apply Le.lop|exact Le.rf|intro _)
noncomputable def Gv (g:Lay) (u:Int):Option Opr :=
  bnd (T4 (u + 1)) λ n=>bnd (Y5 u) λ o=>bnd (rngN (ρ:=Opr) (λ (p:Nat) (q:(List Eff))=>bnd (EL g (p:Int)) λ r=>bnd (T5 40 q [(⟨([]:List Fct),r,0⟩:Eff)]) λ s=>some (.next s)) o ([]:List Eff)) λ e=>fin e λ (t:(List Eff))=>bnd (rng (ρ:=Opr) (λ (a:Nat) (b:Int) (c:(List Eff))=>bnd (if 0<=b then (bnd (T5 40 c [(⟨([]:List Fct),b,0⟩:Eff)]) λ h=>some h) else (some c):Option (List Eff)) λ d=>bnd (g.read[a]?) λ i=>if 0<=i then (bnd (g.read[a]?) λ j=>bnd (T5 40 d [(⟨([]:List Fct),j,0⟩:Eff)]) λ k=>some (.next k)) else (some (.next d))) g.write 0 t) λ f=>fin f λ (l:(List Eff))=>bnd (T5 40 l [(⟨([]:List Fct),g.phase,0⟩:Eff)]) λ m=>some (⟨(⟨#[97,100,118,97,110,99,101]⟩:ByteArray),1,[(⟨g.phase,n⟩:Fct)],m⟩:Opr)
theorem Kz (a:Lay) (b:Int):Le (Gv a b) (CK a b):=by
  unfold Gv CK
  repeat' (first|apply ID|apply Le.ite|apply Le.bnd|apply Le.fin|apply Le.rng|apply Le.rngN|apply Le.lop|exact Le.rf|intro _)
noncomputable def GO (i:Tpl):Option (Tsk×Err) :=
  bnd (Hq i) λ C=>if C.n≠0 then (some ((⟨([]:List Int),([]:List Int),([]:List Fct),([]:List Opr)⟩:Tsk),(⟨C.n⟩:Err))) else (bnd (Kk i) λ a=>bnd (mkI 8 (0:Int) (a.vars.length:Int)) λ D=>bnd (EB i.goal) λ R=>bnd (rng (ρ:=Tsk×Err) (λ (c:Nat) (b:Job) (k:(List Fct)×(List Opr))=>bnd (CH a (c:Int)) λ l=>bnd (EL a (c:Int)) λ E=>bnd (some ():Option Unit) λ S=>bnd (Z4 (⟨#[115,116,97,114,116,32]⟩:ByteArray) b.name) λ F=>bnd (CH a (c:Int)) λ G=>bnd (ED a F b.start b.atStart ([(⟨l,0⟩:Fct),(⟨E,0⟩:Fct)]:List Fct) ([(⟨([]:List Fct),G,b.dur⟩:Eff)]:List Eff)) λ H=>bnd (T5 72 k.2 [H]) λ I=>bnd (T4 (b.dur + 1)) λ J=>bnd (CH a (c:Int)) λ K=>bnd (Z4 (⟨#[101,110,100,32]⟩:ByteArray) b.name) λ L=>bnd (CH a (c:Int)) λ M=>bnd (EL a (c:Int)) λ N=>bnd (ED a L b.fin b.atEnd ([(⟨K,J⟩:Fct)]:List Fct) ([(⟨([]:List Fct),M,0⟩:Eff),(⟨([]:List Fct),N,1⟩:Eff)]:List Eff)) λ O=>bnd (T5 72 I [O]) λ P=>bnd (T5 16 k.1 [(⟨l,0⟩:Fct)]) λ Q=>some (.next (Q,P))) i.jobs 0 (R,([]:List Opr))) λ j=>fin j λ (d:(List Fct)×(List Opr))=>bnd (T5 16 d.1 [(⟨a.phase,0⟩:Fct)]) λ m=>bnd (if 0 < (i.jobs.length:Int) then (bnd (T5 72 d.2 [(⟨(⟨#[116,105,99,107]⟩:ByteArray),0,[(⟨a.phase,0⟩:Fct)],[(⟨([]:List Fct),a.phase,1⟩:Eff)]⟩:Opr)]) λ p=>bnd (rng (ρ:=(List Opr)) (λ (q:Nat) (e:Job) (r:(List Opr))=>bnd (T4 (e.dur + 1)) λ s=>bnd (Y5 s) λ t=>bnd (rngN (ρ:=Ctl (List Opr) (List Opr)) (λ (u:Nat) (v:(List Opr))=>bnd (GZ a e (q:Int) (u:Int)) λ w=>bnd (T5 72 v [w]) λ x=>some (.next x)) t r) λ f=>fin f λ (y:(List Opr))=>some (.next y)) i.jobs 0 p) λ g=>fin g λ (z:(List Opr))=>bnd (Gv a (i.jobs.length:Int)) λ A=>bnd (T5 72 z [A]) λ B=>some B) else (some d.2):Option (List Opr)) λ o=>bnd (NU (⟨a.vars,(cpyL D i.init),m,o⟩:Tsk)) λ h=>if h.n≠0 then (some ((⟨([]:List Int),([]:List Int),([]:List Fct),([]:List Opr)⟩:Tsk),(⟨h.n⟩:Err))) else (some ((⟨a.vars,(cpyL D i.init),m,o⟩:Tsk),(⟨0⟩:Err))))
theorem JZ (a:Tpl):Le (GO a) (DA a):=by
  unfold GO DA
  repeat' (first|apply QY|apply Kz|apply ID|apply JY|apply Im|apply LX|apply FZ|apply RW|apply Km|apply Le.ite|apply Le.bnd|apply Le.fin|apply Le.rng|apply Le.rngN|apply Le.lop|exact Le.rf|intro _)
noncomputable def DY (e:List Lch) (d:Lch):Option Int :=
  bnd (rng (ρ:=Int) (λ (c:Nat) (b:Lch) (f:Unit)=>if d.tm=b.tm/\d.job=b.job then (some (.ret (c:Int))) else (some (.next ()))) e 0 ()) λ a=>fin a λ (g:Unit)=>some (-1)
theorem HP (a:List Lch) (b:Lch):Le (DY a b) (CC a b):=by
  unfold DY CC
  repeat' (first|apply Le.ite|apply Le.bnd|apply Le.fin|apply Le.rng|apply Le.rngN|apply Le.lop|exact Le.rf|intro _)
noncomputable def DL (c:List Lch) (d:Lch):Option Bool :=
  bnd (bnd (DY c d) λ a=>if 0<=a then (some true) else (some false):Option Bool) λ b=>some b
theorem Hd (a:List Lch) (b:Lch):Le (DL a b) (Cm a b):=by
  unfold DL Cm
  repeat' (first|apply HP|apply Le.ite|apply Le.bnd|apply Le.fin|apply Le.rng|apply Le.rngN|apply Le.lop|exact Le.rf|intro _)
noncomputable def Ha (d:Wtr):Option Wtr :=
  bnd (T4 (2 * (d.t.jobs.length:Int))) λ m=>bnd (T5 8 d.out ([m]:List Int)) λ n=>bnd (rng (ρ:=Wtr) (λ (c:Nat) (p:Job) (b:Wtr)=>bnd (b.first[c]?) λ f=>bnd (b.left[c]?) λ g=>bnd (T4 (f + g)) λ h=>bnd (T5 8 b.out ([h]:List Int)) λ i=>bnd (b.left[c]?) λ j=>bnd (T4 (j - 1)) λ k=>bnd (b.left[c]?) λ o=>some (.next (⟨(⟨b.t.vars,b.t.init,b.t.goal,b.t.jobs⟩:Tpl),b.first,b.last,(b.left.set c (max 0 k)),i⟩:Wtr))) d.t.jobs 0 (⟨(⟨d.t.vars,d.t.init,d.t.goal,d.t.jobs⟩:Tpl),d.first,d.last,d.left,n⟩:Wtr)) λ e=>fin e λ (a:Wtr)=>bnd (T5 8 a.out ([a.last]:List Int)) λ l=>some (⟨(⟨a.t.vars,a.t.init,a.t.goal,a.t.jobs⟩:Tpl),a.first,a.last,a.left,l⟩:Wtr)
theorem LY (a:Wtr):Le (Ha a) (EJ a):=by
  unfold Ha EJ
  repeat' (first|apply Le.ite|apply Le.bnd|apply Le.fin|apply Le.rng|apply Le.rngN|apply Le.lop|exact Le.rf|intro _)
noncomputable def JF (e:Tpl) (O:List Lch):Option ((List Int)×Err) :=
  bnd (HO e O) λ f=>if f.2.n≠0 then (some (([]:List Int),(⟨f.2.n⟩:Err))) else (bnd (GO e) λ o=>if o.2.n≠0 then (some (([]:List Int),(⟨o.2.n⟩:Err))) else (bnd (T4 (2 * (O.length:Int))) λ P=>bnd (T4 ((e.jobs.length:Int) + 2)) λ Q=>bnd (T4 (f.1 * Q)) λ R=>bnd (T4 (P + R)) λ S=>if 65536 < S then (some (([]:List Int),(⟨5⟩:Err))) else (bnd (T4 ((o.1.ops.length:Int) - 1)) λ T=>bnd (mkI 8 (0:Int) (e.jobs.length:Int)) λ p=>bnd (T4 (2 * (e.jobs.length:Int))) λ q=>bnd (T4 (q + 1)) λ r=>bnd (rng (ρ:=(List Int)×Err) (λ (U:Nat) (s:Job) (a:Int×Wtr)=>bnd (T5 8 a.2.first [a.1]) λ u=>bnd (T4 (s.dur + 1)) λ v=>bnd (T4 (a.1 + v)) λ w=>some (.next (w,(⟨(⟨a.2.t.vars,a.2.t.init,a.2.t.goal,a.2.t.jobs⟩:Tpl),u,a.2.last,a.2.left,a.2.out⟩:Wtr)))) e.jobs 0 (r,(⟨(⟨e.vars,e.init,e.goal,e.jobs⟩:Tpl),([]:List Int),T,p,([]:List Int)⟩:Wtr))) λ h=>fin h λ (x:Int×Wtr)=>bnd (Li O) λ y=>bnd (T4 (f.1 + 1)) λ z=>bnd (Y5 z) λ A=>bnd (rngN (ρ:=(List Int)×Err) (λ (g:Nat) (B:Wtr)=>bnd (rng (ρ:=Ctl Wtr ((List Int)×Err)) (λ (l:Nat) (C:Job) (c:Wtr)=>bnd (T4 ((g:Int) - C.dur)) λ D=>bnd (DL O (⟨D,(l:Int)⟩:Lch)) λ E=>if E=true then bnd (T4 (2 * (l:Int))) λ F=>bnd (T4 (F + 1)) λ G=>bnd (T5 8 c.out [G]) λ H=>some (.next (⟨(⟨c.t.vars,c.t.init,c.t.goal,c.t.jobs⟩:Tpl),c.first,c.last,c.left,H⟩:Wtr)) else some (.next c)) e.jobs 0 B) λ i=>fin i λ (I:Wtr)=>bnd (rng (ρ:=Ctl Wtr ((List Int)×Err)) (λ (V:Nat) (d:Lch) (b:Wtr)=>if d.tm=(g:Int) then (bnd (T4 (2 * d.job)) λ J=>bnd (T5 8 b.out ([J]:List Int)) λ K=>bnd (atI e.jobs d.job) λ L=>bnd (atI b.left d.job) λ W=>some (.next (⟨(⟨b.t.vars,b.t.init,b.t.goal,b.t.jobs⟩:Tpl),b.first,b.last,(b.left.set (d.job:Int).toNat L.dur),K⟩:Wtr))) else (some (.next b))) y 0 I) λ j=>fin j λ (m:Wtr)=>if (g:Int) < f.1 then (bnd (Ha m) λ M=>some (.next M)) else (some (.next m))) A x.2) λ k=>fin k λ (N:Wtr)=>some (N.out,(⟨0⟩:Err)))))
theorem Qx (a:Tpl) (b:List Lch):Le (JF a b) (GU a b):=by
  unfold JF GU
  repeat' (first|apply JZ|apply OK|apply LY|apply Hd|apply MT|apply Le.ite|apply Le.bnd|apply Le.fin|apply Le.rng|apply Le.rngN|apply Le.lop|exact Le.rf|intro _)
noncomputable def Jt  : Option Tpl :=
  some (⟨([2]:List Int),([0]:List Int),[(⟨0,0⟩:Fct)],[(⟨(⟨#[108,105,103,104,116]⟩:ByteArray),3,[(⟨0,0⟩:Fct)],[(⟨0,1⟩:Fct)],([]:List Fct),[(⟨0,1⟩:Fct)],[(⟨0,0⟩:Fct)]⟩:Job)]⟩:Tpl)
theorem RY  : Le (Jt ) (GV ):=by
  unfold Jt GV
  repeat' (first|apply Le.ite|apply Le.bnd|apply Le.fin|apply Le.rng|apply Le.rngN|apply Le.lop|exact Le.rf|intro _)
noncomputable def Nk  : Option Bool :=
  bnd (Jt) λ g=>bnd (GO g) λ a=>bnd (Jt) λ f=>bnd (JF f [(⟨0,0⟩:Lch)]) λ b=>bnd (if a.2.n=0 then (if b.2.n=0 then (bnd (JQ a.1.vars ([2,5,2,2,2,3]:List Int)) λ c=>if c=true then bnd (JQ b.1 ([0,2,6,7,2,5,7,2,4,7,1]:List Int)) λ d=>if d=true then some true else some false else some false) else (some false)) else (some false):Option Bool) λ e=>some e
theorem QZ  : Le (Nk ) (FQ ):=by
  unfold Nk FQ
  repeat' (first|apply Tk|apply JZ|apply Qx|apply RY|apply Le.ite|apply Le.bnd|apply Le.fin|apply Le.rng|apply Le.rngN|apply Le.lop|exact Le.rf|intro _)
set_option maxRecDepth 100000 in
theorem AeJ:FQ=some true:=QZ true (by kernel_rfl)
end
section
section
variable {α σ ρ β : Type}
theorem Uz {f:σ->Option (Ctl σ ρ)} (I:σ->Prop) (g:σ->Prop) (R:ρ->Prop) (b:σ->Nat) (h:∀ s,I s->(∃ a,f s=some (.next a)/\I a/\b a < b s)\/(∃ a,f s=some (.brk a)/\g a)\/∃ i,f s=some (.ret i)/\R i) :
    ∀ s,I s->(∃ a,lop f s=some (.done a)/\g a)\/∃ i,lop f s=some (.ret i)/\R i:=by
  have c:∀ (n:Nat) s,I s->b s < n->(∃ a,lop f s=some (.done a)/\g a)\/∃ i,lop f s=some (.ret i)/\R i:=by
    intro n
    induction n with
    | zero=>intro s _ hn;omega
    | succ n e =>
      intro s d hn;rw [JS];rcases h s d with ⟨a,h1,h2,h3⟩|⟨a,h1,h2⟩|⟨i,h1,h2⟩
      . rw [h1];exact e a h2 (by omega)
      . rw [h1];exact .inl ⟨a,rfl,h2⟩
      . rw [h1];exact .inr ⟨i,rfl,h2⟩
  exact λ s d=>c (b s + 1) s d (by omega)
theorem Qy {f:σ->Option (Ctl σ ρ)} {s₀:σ} {k:Fin σ ρ->Option β} {P:β->Prop} (I:σ->Prop) (d:σ->Prop) (R:ρ->Prop) (b:σ->Nat) (c:I s₀)
    (h:∀ s,I s->(∃ a,f s=some (.next a)/\I a/\b a < b s)\/(∃ a,f s=some (.brk a)/\d a)\/∃ e,f s=some (.ret e)/\R e)
    (hb:∀ s,d s->∃ e,k (.done s)=some e/\P e) (hr:∀ q,R q->∃ e,k (.ret q)=some e/\P e):∃ e,bnd (lop f s₀) k=some e/\P e:=by
  rcases Uz I d R b h s₀ c with ⟨s,h1,h2⟩|⟨q,h1,h2⟩
  . rw [h1,At];exact hb s h2
  . rw [h1,At];exact hr q h2
theorem Zi {f:σ->Option (Ctl σ ρ)} {s₀:σ} {k:Fin σ ρ->Option β} {e:Option β} (I:σ->Prop) (g:σ->Prop) (b:σ->Nat) (c:I s₀)
    (h:∀ s,I s->(∃ a,f s=some (.next a)/\I a/\b a < b s)\/(∃ a,f s=some (.brk a)/\g a)) (hb:∀ s,g s->k (.done s)=e):bnd (lop f s₀) k=e:=by
  rcases Uz I g (λ _=>False) b (λ s d=>(h s d).imp id .inl) s₀ c with ⟨s,h1,h2⟩|⟨q,_,h2⟩
  . rw [h1,At];exact hb s h2
  . exact h2.elim
theorem Ga {f:Nat→α→σ→Option (Ctl σ ρ)} {xs:List α} {s₀:σ} {k:Fin σ ρ→Option β} {P:β→Prop} (I:Nat→σ→Prop) (R:ρ→Prop) (e:I 0 s₀)
    (h:∀ i x s,xs[i]?=some x->I i s->(∃ a,f i x s=some (.next a)/\I (i + 1) a)\/∃ q,f i x s=some (.ret q)/\R q)
    (hb:∀ s,I xs.length s->∃ m,k (.done s)=some m/\P m) (hr:∀ q,R q->∃ m,k (.ret q)=some m/\P m):∃ m,bnd (rng f xs 0 s₀) k=some m/\P m:=by
  have b:∀ (ys:List α) (j:Nat) (s:σ),(∀ i,ys[i]?=xs[j + i]?)->j + ys.length=xs.length->I j s->∃ m,bnd (rng f ys j s) k=some m/\P m:=by
    intro ys
    induction ys with
    | nil=>intro j s _ hl c;exact hb s (by simp at hl;rw [<- hl];exact c)
    | cons y ys g =>
      intro j s d hl c;have l:xs[j]?=some y:=(by have:=d 0;simpa using this.symm);simp only [rng];rcases h j y s l c with ⟨a,h1,h2⟩|⟨q,h1,h2⟩
      . rw [h1];exact g (j + 1) a (λ i=>by have:=d (i + 1);rw [show j + 1 + i=j + (i + 1) from by omega,<- this];simp) (by simp at hl;omega) h2
      . rw [h1,At];exact hr q h2
  exact b xs 0 s₀ (λ i=>by rw [R0]) (by omega) e
theorem UA {f:Nat->α->σ->Option (Ctl σ ρ)} {xs:List α} {s₀:σ} {k:Fin σ ρ->Option β} {c:Option β} (I:Nat->σ->Prop) (b:I 0 s₀)
    (h:∀ i x s,xs[i]?=some x->I i s->∃ a,f i x s=some (.next a)/\I (i + 1) a) (hb:∀ s,I xs.length s->k (.done s)=c):bnd (rng f xs 0 s₀) k=c:=by
  obtain ⟨s,h1,h2⟩:=Ut I b h;rw [h1,At];exact hb s h2
end
end
section
open Go Go.RowKit
theorem NZ {α ρ:Type} {f:Nat→α→Unit→Option (Ctl Unit ρ)} (p:α→Bool) (c:Nat→ρ):∀ (xs:List α) (b:Nat),(∀ k a,xs[k]?=some a→f (b + k) a ()=if p a=true then some (.ret (c (b + k))) else some (.next ())) →
    (xs.any p=true->∃ k,rng f xs b ()=some (.ret (c k))/\b<=k)/\(xs.any p=false->rng f xs b ()=some (.done ()))
  | [],b,_=>⟨λ h=>by simp at h,λ _=>rfl⟩
  | x :: xs,b,h=>by
    have d:=h 0 x rfl;rw [Q9] at d;have i:=NZ p c xs (b + 1) λ k a hk=>by
      have:=h (k + 1) a (by simpa using hk);rwa [show b + (k + 1)=b + 1 + k from by omega] at this
    by_cases g:p x=true
    . rw [if_pos g] at d;refine ⟨λ _=>⟨b,by rw [rng,d],R7 _⟩,λ hf=>?_⟩;simp [g] at hf
    . rw [if_neg g] at d;have e:p x=false:=(by simpa using g);refine ⟨λ j=>?_,λ hf=>?_⟩
      . obtain ⟨k,h1,h2⟩:=i.1 (by simpa [e] using j);exact ⟨k,by rw [rng,d];exact h1,by omega⟩
      . rw [rng,d];exact i.2 (by simpa [e] using hf)
theorem Hb {α ρ d:Type} {f:Nat->α->Unit->Option (Ctl Unit ρ)} {xs:List α} {K:Fin Unit ρ->Option d} (p:α->Bool) (c:ρ) (h:∀ k a,xs[k]?=some a->f k a ()=if p a=true then some (.ret c) else some (.next ())) :
    bnd (rng f xs 0 ()) K=if xs.any p=true then K (.ret c) else K (.done ()):=by
  have:=NZ (f:=f) p (λ _=>c) xs 0 (λ k a hk=>by rw [R0];exact h k a hk);by_cases b:xs.any p=true
  . obtain ⟨k,h1,_⟩:=this.1 b;rw [h1,At,if_pos b]
  . rw [this.2 (by simpa using b),At,if_neg b]
theorem OB {p q:Prop} [Decidable p] [Decidable q]:(if p then some true else if q then some true else some false:Option Bool)=some (decide p || decide q):=by
  by_cases a:p
  . simp [a]
  . by_cases b:q<;>simp [a,b]
def Ab0 (j:Job):List (List Fct):=[j.start,j.over,j.fin,j.atStart,j.atEnd]
def lsts (t:Tpl):List (List Fct):=t.goal :: t.jobs.flatMap Ab0
theorem Tl {t:Tpl} (h:t.jobs.length<=30):Eg t=some (lsts t):=by
  unfold Eg;have hl:∀ k,((t.jobs.take k).flatMap Ab0).length<=150:=λ k=>by
    have:∀ a:List Job,(a.flatMap Ab0).length=5 * a.length:=λ a=>by
      induction a with
      | nil=>rfl
      | cons j a b=>rw [K7,I5,b];simp [Ab0];omega
    rw [this,M3];omega
  rw [FR (λ k=>t.goal :: (t.jobs.take k).flatMap Ab0) (by simp) (λ k x hk=>by
    have c:=hl k;rw [Bn (by rw [L6];simp only [L6,N8];omega) (by rw [L6];simp only [L6,N8];omega),At,K4,hk];simp [Ab0]),At,Cg,M9]
  rfl
theorem Tm (t:Tpl):Hx t=Eg t:=rfl
theorem Tn (s:ByteArray):IK s=Dt s:=rfl
theorem WF (s:ByteArray):∃ b,Dt s=some b:=by
  unfold Dt;unfold rngN;rw [Hb (λ k:Nat=>match Z8 s (k:Int) with|some n=>decide (n < 32) || decide (126 < n)|none=>false) false (λ k a hk=>by
    have c:a < s.size:=by
      have:=G2 hk;simpa using this
    simp only [YP c,At,OB])]
  split
  . exact ⟨_,rfl⟩
  . rw [Cg];split
    . exact ⟨_,rfl⟩
    . exact ⟨_,rfl⟩
noncomputable def nmB (s:ByteArray):Bool:=(Dt s).getD false
theorem WG (s:ByteArray):Dt s=some (nmB s):=by
  obtain ⟨b,hb⟩:=WF s;unfold nmB;rw [hb];rfl
noncomputable def tck (t:Tpl):Int :=
  if (decide (64 < t.vars.length) || (decide (24 < t.jobs.length) || (lsts t).any λ l=>decide (64 < l.length)))=true then 5
  else if (t.vars.any λ n=>decide (n < 1) || decide (64 < n))=true then 1
  else if (t.jobs.any λ j=>decide (j.dur < 1) || decide (62 < j.dur))=true then 1
  else if bof (StateOk t.vars t.init)=true then
    (if ((lsts t).any λ l=>!bof (FactsOk t.vars l))=true then 2
     else if (t.jobs.any λ j=>!nmB j.name)=true then 8 else 0)
  else 2
theorem Lj {α:Type} {f:Nat->α->Unit->Option (Ctl Unit Int)} {xs:List α} (p:α->Bool) (h:∀ k a,xs[k]?=some a->f k a ()=if p a=true then some (.ret (k:Int)) else some (.next ())) :
    (bnd (bnd (bnd (rng f xs 0 ()) λ c=>fin c λ _=>some (-1)) λ q=>if 0<=q then (some true) else (some false):Option Bool) λ y=>some y)=some (xs.any p):=by
  have:=NZ (f:=f) p (λ k=>(k:Int)) xs 0 (λ k a hk=>by rw [R0];exact h k a hk);by_cases b:xs.any p=true
  . obtain ⟨k,h1,_⟩:=this.1 b;rw [h1,At,AbJ,At,if_pos (by omega),At,b]
  . rw [this.2 (by simpa using b),At,Cg,At,if_neg (by omega),At];rw [Bool.not_eq_true] at b;rw [b]
theorem Aeb (q:List (List Fct)):AZ q=some (q.any λ l=>decide (64 < l.length)):=by
  unfold AZ Bp;exact Lj _ λ k a hk=>by
    unfold Ey;by_cases h:64 < a.length
    . rw [if_pos (by omega:(64:Int) < (a.length:Int))];simp [h,At]
    . rw [if_neg (by omega:¬ (64:Int) < (a.length:Int))];simp [h,At]
theorem Ad6 (q:List (List Fct)) (t:Tpl):Ba q t=some (q.any λ l=>!bof (FactsOk t.vars l)):=by
  unfold Ba Bq;exact Lj _ λ k a hk=>by
    unfold Ez HX;rw [At];cases bof (FactsOk t.vars a)<;>rfl
theorem WH {t:Tpl} (h:t.jobs.length≤30):Eh t=some ⟨tck t⟩:=by
  unfold Eh;rw [Tl h,At,Aeb,At];have d:(if 64 < (t.vars.length:Int) then (some true) else (if 24 < (t.jobs.length:Int) then (some true) else (if ((lsts t).any λ l=>decide (64 < l.length))=true then some true else some false)):Option Bool)=some (decide (64 < t.vars.length) || (decide (24 < t.jobs.length) || (lsts t).any λ l=>decide (64 < l.length))):=by
    by_cases b:64 < t.vars.length
    . rw [if_pos (by omega)];simp [b]
    . rw [if_neg (by omega)];by_cases c:24 < t.jobs.length
      . rw [if_pos (by omega)];simp [c]
      . rw [if_neg (by omega)];cases (lsts t).any λ l=>decide (64 < l.length)<;>simp [b,c]
  rw [d,At];unfold tck;split
  . rfl
  rw [Hb (λ n:Int=>decide (n < 1) || decide (64 < n)) ⟨1⟩ (λ k a hk=>by rw [OB,At])];split
  . rfl
  rw [Cg,Hb (λ j:Job=>decide (j.dur < 1) || decide (62 < j.dur)) ⟨1⟩ (λ k a hk=>by rw [OB,At])];split
  . rfl
  rw [Cg];unfold Hw;rw [At];cases bof (StateOk t.vars t.init) with
  | false=>rfl
  | true =>
    rw [DE,DE,Ad6,At];cases (lsts t).any λ l=>!bof (FactsOk t.vars l) with
    | true=>rfl
    | false =>
      rw [Fe,Fe,At,Fe];rw [Hb (λ j:Job=>!nmB j.name) ⟨8⟩ (λ k a hk=>by
        rw [WG,At];cases nmB a.name<;>rfl)]
      split<;>rfl
theorem WI {t:Tpl} (h:t.jobs.length≤30):Hy t=some (tck t):=by
  unfold Hy;rw [Tm,Tl h];unfold tck;have d:(if 64 < (t.vars.length:Int) then (some true) else (if 24 < (t.jobs.length:Int) then (some true) else (some false)):Option Bool)=some (decide (64 < t.vars.length) || decide (24 < t.jobs.length)):=by
    by_cases b:64 < t.vars.length
    . rw [if_pos (by omega)];simp [b]
    . rw [if_neg (by omega)];by_cases c:24 < t.jobs.length
      . rw [if_pos (by omega)];simp [c]
      . rw [if_neg (by omega)];simp [b,c]
  rw [d,At,<- Bool.or_assoc];cases decide (64 < t.vars.length) || decide (24 < t.jobs.length) with
  | true=>rfl
  | false =>
    rw [Fe,Q4,At];rw [Hb (λ l:List Fct=>decide (64 < l.length)) 5 (λ k a hk=>by
      by_cases h:64 < a.length
      . rw [if_pos (by omega:(64:Int) < (a.length:Int))];simp [h]
      . rw [if_neg (by omega:¬ (64:Int) < (a.length:Int))];simp [h])]
    split
    . rfl
    rw [Cg,Hb (λ n:Int=>decide (n < 1) || decide (64 < n)) 1 (λ k a hk=>by rw [OB,At])];split
    . rfl
    rw [Cg,Hb (λ j:Job=>decide (j.dur < 1) || decide (62 < j.dur)) 1 (λ k a hk=>by rw [OB,At])];split
    . rfl
    rw [Cg];unfold KZ;rw [At];cases bof (StateOk t.vars t.init) with
    | false=>rfl
    | true =>
      rw [DE,DE,At];rw [Hb (λ l:List Fct=>!bof (FactsOk t.vars l)) 2 (λ k a hk=>by
        unfold Kj;rw [At];cases bof (FactsOk t.vars a)<;>rfl)]
      split
      . rfl
      rw [Cg,Hb (λ j:Job=>!nmB j.name) 8 (λ k a hk=>by
        rw [Tn,WG,At];cases nmB a.name<;>rfl)]
      split<;>rfl
structure TplOk (t:Tpl):Prop where
  nv:t.vars.length<=64
  nj:t.jobs.length<=24
  doms:∀ n∈t.vars,1<=n/\n<=64
  durs:∀ j∈t.jobs,1<=j.dur/\j.dur<=62
  init:StateOk t.vars t.init
  lists:∀ l∈lsts t,l.length<=64/\FactsOk t.vars l
theorem To {t:Tpl} (h:tck t=0):TplOk t:=by
  unfold tck at h;split at h
  . cases h
  rename_i h1;split at h
  . cases h
  rename_i h2;split at h
  . cases h
  rename_i h3;split at h
  . rename_i h4;split at h
    . cases h
    rename_i h5;simp only [N5,decide_eq_true_eq,M4,not_or,not_exists,not_and] at h1 h2 h3;simp only [M4,not_exists,not_and,Bool.not_eq_true',Bool.not_eq_false] at h5;refine ⟨by omega,by omega,λ n hn=>?_,λ j hj=>?_,JD.1 h4,λ l hl=>⟨?_,JD.1 (h5 l hl)⟩⟩
    . have:=h2 n hn;omega
    . have:=h3 j hj;omega
    . have:=h1.2.2 l hl;omega
  . cases h
end
section
open Go Go.RowKit
inductive PlanR (t:Tsk):List Int->List Int->List Int->Int->Prop
  | nil {s:List Int}:PlanR t s [] s 0
  | cons {s rest s':List Int} {k:Nat} {o:Opr} {C:Int}:t.ops[k]?=some o->holdsB o.pre s=true->PlanR t (succ o s) rest s' C->PlanR t s ((k:Int) :: rest) s' (o.cost + C)
theorem WJ (f:List Fct) (s:List Int):Ef f s=some (holdsB f s):=rfl
theorem WK {t:Tsk} (h:TaskOk t) {s a m:List Int} {C:Int} (hr:PlanR t s a m C):∀ (j:Nat) (c:Int),StateOk t.vars s->0<=c->c + a.length * 1048576<=1000000000000000 ->
    rng (ρ:=Int×Bool) (λ (_:Nat) (f:Int) (g:(List Int)×Int)=>bnd (EX t g.1 f) λ b=>if (!b.2)=true then (some (.ret (0,false))) else (bnd (atI t.ops f) λ d=>bnd (T4 (g.2 + d.cost)) λ e=>some (.next (b.1,e)))) a j (s,c)=some (.done (m,c + C)):=by
  induction hr with
  | nil=>intro j c _ _ _;simp [rng]
  | @cons s n m k o C l p hr q =>
    intro j c hs hc hb;simp only [L6] at hb;have i:=h.2.2.2.2.2 k o l;have u:=i.1;have v:=i.2.1;have r:(bnd (EX t s (k:Int)) λ b=>if (!b.2)=true then (some (.ret (0,false))) else (bnd (atI t.ops (k:Int)) λ d=>bnd (T4 (c + d.cost)) λ e=>some (.next (b.1,e))):Option (Ctl (List Int×Int) (Int×Bool)))=some (.next (succ o s,c + o.cost)):=by
      rw [WE h hs l,if_pos p,At,if_neg (by simp),CY,l,At,BN (by unfold T3;omega),At]
    simp only [rng,r];rw [q (j + 1) (c + o.cost) (Uv h hs l) (by omega) (by omega),Q5]
end
section
open Go Go.RowKit
def hasV (l:List Fct) (v:Int):Bool:=l.any λ f=>decide (f.var=v)
def wrT (t:Tpl) (v:Int):Bool:=t.jobs.any λ j=>hasV j.atStart v || hasV j.atEnd v
def rdT (t:Tpl) (v:Int):Bool:=t.jobs.any λ j=>hasV j.start v || hasV j.fin v
abbrev Ky:=Nat×Nat
def mkK (t:Tpl) (v:Nat):List Ky:=if wrT t (v:Int)=true then (3,v) :: (if rdT t (v:Int)=true then [(4,v)] else []) else []
def ksM (t:Tpl) (n:Nat):List Ky:=(List.range n).flatMap (mkK t)
def ksJ (n:Nat):List Ky:=(List.range n).flatMap λ i=>[(1,i),(2,i)]
def keys (t:Tpl):List Ky:=(List.range t.vars.length).map (λ v=>(0,v)) ++ (ksJ t.jobs.length ++ (ksM t t.vars.length ++ [(5,0)]))
def kpos (t:Tpl) (k:Ky):Nat :=
  if k.1=0 then k.2
  else if k.1=1 then t.vars.length + 2 * k.2
  else if k.1=2 then t.vars.length + 2 * k.2 + 1
  else if k.1=3 then t.vars.length + 2 * t.jobs.length + (ksM t k.2).length
  else if k.1=4 then t.vars.length + 2 * t.jobs.length + (ksM t k.2).length + 1
  else t.vars.length + 2 * t.jobs.length + (ksM t t.vars.length).length
theorem Ac4 (t:Tpl) (v:Nat):kpos t (0,v)=v:=rfl
theorem AcB (t:Tpl) (i:Nat):kpos t (1,i)=t.vars.length + 2 * i:=rfl
theorem Aew (t:Tpl) (i:Nat):kpos t (2,i)=t.vars.length + 2 * i + 1:=rfl
theorem AcO (t:Tpl) (v:Nat):kpos t (3,v)=t.vars.length + 2 * t.jobs.length + (ksM t v).length:=rfl
theorem AeD (t:Tpl) (v:Nat):kpos t (4,v)=t.vars.length + 2 * t.jobs.length + (ksM t v).length + 1:=rfl
theorem Ac3 (t:Tpl):kpos t (5,0)=t.vars.length + 2 * t.jobs.length + (ksM t t.vars.length).length:=rfl
theorem MU (t:Tpl) (n:Nat):ksM t (n + 1)=ksM t n ++ mkK t n:=by
  unfold ksM;rw [P8,I0];simp
theorem PE (n:Nat):ksJ (n + 1)=ksJ n ++ [(1,n),(2,n)]:=by
  unfold ksJ;rw [P8,I0];simp
theorem Mp:∀ n,(ksJ n).length=2 * n
  | 0=>rfl
  | n + 1=>by rw [PE,I5,Mp n];simp;omega
theorem Lk (t:Tpl):(keys t).length=t.vars.length + 2 * t.jobs.length + (ksM t t.vars.length).length + 1:=by
  unfold keys;simp [Mp];omega
def PosAt (t:Tpl) (l:List Ky) (o:Nat):Prop:=∀ i k,l[i]?=some k->kpos t k=o + i
theorem PosAt.app {t:Tpl} {a b:List Ky} {o:Nat} (c:PosAt t a o) (hb:PosAt t b (o + a.length)):PosAt t (a ++ b) o:=λ i k h=>by
  by_cases hi:i < a.length
  . rw [B8 hi] at h;exact c i k h
  . rw [B4 (by omega)] at h;have:=hb _ k h;omega
theorem Ae0 (t:Tpl):∀ n,PosAt t (ksM t n) (t.vars.length + 2 * t.jobs.length)
  | 0=>λ i k h=>by simp [ksM] at h
  | n + 1=>by
    rw [MU];refine (Ae0 t n).app λ i k h=>?_;unfold mkK at h;split at h
    . match i,h with
      | 0,h=>simp at h;subst h;rw [AcO];omega
      | 1,h =>
        split at h
        . simp at h;subst h;rw [AeD]
        . simp at h
      | i + 2,h =>
        split at h<;>simp at h
    . simp at h
theorem Ae1 (t:Tpl):∀ n,PosAt t (ksJ n) t.vars.length
  | 0=>λ i k h=>by simp [ksJ] at h
  | n + 1=>by
    rw [PE];refine (Ae1 t n).app λ i k h=>?_;rw [Mp]
    match i,h with
    | 0,h=>simp at h;subst h;rw [AcB];omega
    | 1,h=>simp at h;subst h;rw [Aew]
    | i + 2,h=>simp at h
theorem PF (t:Tpl):PosAt t (keys t) 0:=by
  unfold keys;refine PosAt.app (λ i k h=>?_) (PosAt.app ?_ (PosAt.app ?_ λ i k h=>?_))
  . rw [K1] at h;obtain ⟨v,hv,rfl⟩:=E3.1 h;obtain ⟨a,h2⟩:=B7.1 hv;simp at h2;rw [Ac4];omega
  . simpa using Ae1 t t.jobs.length
  . simpa [Mp] using Ae0 t t.vars.length
  . match i,h with
    | 0,h=>simp at h;subst h;rw [Ac3];simp [Mp]
    | i + 1,h=>simp at h
theorem IX {t:Tpl} {k:Ky} (h:k∈keys t):(keys t)[kpos t k]?=some k:=by
  obtain ⟨i,hi⟩:=G6 h;have:=PF t i k hi;rw [this,R0];exact hi
theorem Zj {t:Tpl} {k:Ky} (h:k∈keys t):kpos t k < (keys t).length:=AO (IX h)
theorem XN {t:Tpl} {k a:Ky} (h:k∈keys t) (c:a∈keys t) (e:kpos t k=kpos t a):k=a:=by
  have b:=IX h;have d:=IX c;rw [e,d] at b;exact (N4 b).symm
theorem KD {t:Tpl} {v:Nat} {k:Ky}:k∈mkK t v↔(k=(3,v)/\wrT t (v:Int)=true)\/(k=(4,v)/\wrT t (v:Int)=true/\rdT t (v:Int)=true):=by
  unfold mkK;by_cases a:wrT t (v:Int)=true
  . by_cases b:rdT t (v:Int)=true
    . simp [a,b]
    . simp [a,b]
  . simp [a]
theorem Ew {t:Tpl} {k:Ky}:k∈keys t↔(k.1=0/\k.2 < t.vars.length)\/((k.1=1\/k.1=2)/\k.2 < t.jobs.length)\/(k.1=3/\k.2 < t.vars.length/\wrT t (k.2:Int)=true)\/(k.1=4/\k.2 < t.vars.length/\wrT t (k.2:Int)=true/\rdT t (k.2:Int)=true)\/k=(5,0):=by
  unfold keys ksJ ksM;simp only [N1,R3,P9,M5,Q1,List.not_mem_nil,or_false,KD];obtain ⟨a,b⟩:=k;constructor
  . rintro (⟨v,h,e⟩|⟨i,h,e|e⟩|⟨v,h,⟨e,h1⟩|⟨e,h1,h2⟩⟩|e)
    . cases e;exact .inl ⟨rfl,h⟩
    . cases e;exact .inr (.inl ⟨.inl rfl,h⟩)
    . cases e;exact .inr (.inl ⟨.inr rfl,h⟩)
    . cases e;exact .inr (.inr (.inl ⟨rfl,h,h1⟩))
    . cases e;exact .inr (.inr (.inr (.inl ⟨rfl,h,h1,h2⟩)))
    . exact .inr (.inr (.inr (.inr e)))
  . rintro (⟨rfl,h⟩|⟨rfl|rfl,h⟩|⟨rfl,h,h1⟩|⟨rfl,h,h1,h2⟩|e)
    . exact .inl ⟨b,h,rfl⟩
    . exact .inr (.inl ⟨b,h,.inl rfl⟩)
    . exact .inr (.inl ⟨b,h,.inr rfl⟩)
    . exact .inr (.inr (.inl ⟨b,h,.inl ⟨rfl,h1⟩⟩))
    . exact .inr (.inr (.inl ⟨b,h,.inr ⟨rfl,h1,h2⟩⟩))
    . exact .inr (.inr (.inr e))
abbrev KSt:=Ky->Int
def AcV (σ:KSt) (k:Ky) (c:Int):KSt:=λ a=>if a=k then c else σ a
theorem JG (σ:KSt) (k:Ky) (c:Int):AcV σ k c k=c:=if_pos rfl
theorem KE {σ:KSt} {k a:Ky} {c:Int} (h:a≠k):AcV σ k c a=σ a:=if_neg h
def enc (t:Tpl) (σ:KSt):List Int:=(keys t).map σ
theorem Zk (t:Tpl) (σ:KSt):(enc t σ).length=(keys t).length:=P6 ..
theorem UB {t:Tpl} {k:Ky} (σ:KSt) (h:k∈keys t):(enc t σ)[kpos t k]?=some (σ k):=by
  unfold enc;rw [K1,IX h];rfl
theorem Zl {t:Tpl} {k:Ky} (σ:KSt) (c:Int) (h:k∈keys t):(enc t σ).set (kpos t k) c=enc t (AcV σ k c):=by
  refine K0 λ i=>?_;unfold enc;rw [K2,K1,K1];by_cases hi:kpos t k=i
  . subst hi;rw [if_pos rfl,if_pos (by rw [P6];exact Zj h),IX h];simp [JG]
  . rw [if_neg hi];cases hk:(keys t)[i]? with
    | none=>rfl
    | some b =>
      have:=PF t i b hk;have a:b≠k:=(by rintro rfl;omega);simp [KE a]
abbrev KF:=Ky×Int
def toF (t:Tpl) (x:KF):Fct:=⟨(kpos t x.1:Int),x.2⟩
def toE (t:Tpl) (x:KF):Eff:=⟨[],(kpos t x.1:Int),x.2⟩
theorem UC {t:Tpl} {x:KF} (σ:KSt) (h:x.1∈keys t):hasB (enc t σ) (toF t x)=decide (σ x.1=x.2):=by
  unfold hasB toF;simp only [L2,UB σ h,J8];rw [decide_eq_true (by omega:(0:Int)<=(kpos t x.1:Int)),Bool.true_and]
theorem Ru {t:Tpl} {σ:KSt} {l:List KF} (h:∀ x∈l,x.1∈keys t):holdsB (l.map (toF t)) (enc t σ)=true↔∀ x∈l,σ x.1=x.2:=by
  unfold holdsB;rw [M0];constructor
  . intro b x a;have:=b _ (H8 a);rw [UC σ (h x a)] at this;exact of_decide_eq_true this
  . intro b f hf;obtain ⟨x,a,rfl⟩:=R3.1 hf;rw [UC σ (h x a)];exact decide_eq_true (b x a)
def X3 (σ:KSt) (l:List KF):KSt:=l.foldl (λ σ x=>AcV σ x.1 x.2) σ
theorem MV (σ:KSt):X3 σ []=σ:=rfl
theorem Id (σ:KSt) (x:KF) (l:List KF):X3 σ (x :: l)=X3 (AcV σ x.1 x.2) l:=rfl
theorem Tp (σ:KSt) (a b:List KF):X3 σ (a ++ b)=X3 (X3 σ a) b:=L0
theorem Ea {k:Ky}:∀ {l:List KF} {σ:KSt},(∀ x∈l,x.1≠k)->X3 σ l k=σ k
  | [],_,_=>rfl
  | x :: l,σ,h=>by
    rw [Id,Ea λ y a=>h y (G1 _ a),KE λ e=>h x J0 e.symm]
theorem IY {k:Ky} {c:Int}:∀ {l:List KF} {σ:KSt},(∀ x∈l,x.1=k→x.2=c)→(∃ x∈l,x.1=k)→X3 σ l k=c
  | [],_,_,h=>by obtain ⟨x,b,_⟩:=h;cases b
  | x :: l,σ,h,b=>by
    rw [Id];by_cases hl:∃ y∈l,y.1=k
    . exact IY (λ y hy=>h y (G1 _ hy)) hl
    . have a:∀ y∈l,y.1≠k:=λ y hy e=>hl ⟨y,hy,e⟩;obtain ⟨y,hy,e⟩:=b;rcases Q1.1 hy with rfl|hy
      . rw [Ea a,<- e,JG];exact h y J0 e
      . exact absurd e (a y hy)
theorem Tq {t:Tpl} (s:List Int):∀ {l:List KF} {σ:KSt},(∀ x∈l,x.1∈keys t)->effsOn s (l.map (toE t)) (enc t σ)=enc t (X3 σ l)
  | [],_,_=>rfl
  | x :: l,σ,h=>by
    show effsOn s (l.map (toE t)) (if holdsB [] s=true then (enc t σ).set (kpos t x.1:Int).toNat x.2 else enc t σ)=_;rw [if_pos (show holdsB [] s=true from rfl),L2,Zl σ x.2 (h x J0),Id];exact Tq s λ y a=>h y (G1 _ a)
end
section
open Go Go.RowKit
theorem V3 {a:List Int} {f:List Fct}:FactsOk a f↔(∀ x∈f,X1 a x)/\f.Pairwise λ x y=>x.var < y.var:=by
  constructor
  . intro h;refine ⟨λ x b=>?_,C3.2 λ i j hi hj c=>Kt h j i _ _ c (C4 hi) (C4 hj)⟩;obtain ⟨i,hi,rfl⟩:=I2 b;exact h.1 i _ (C4 hi)
  . rintro ⟨d,h2⟩;refine ⟨λ i x b=>d x (G2 b),λ i x y b e=>?_⟩;obtain ⟨hi,rfl⟩:=B7.1 b;obtain ⟨hj,rfl⟩:=B7.1 e;exact C3.1 h2 i (i + 1) hi hj (M2 i)
theorem Gn {a:List Int} {x:Fct} (h:X1 a x):0<=x.var/\x.var < a.length:=by
  obtain ⟨b,_,y,h3,_⟩:=h;have:=AO h3;omega
theorem TplOk.goal {t:Tpl} (h:TplOk t):t.goal.length<=64/\FactsOk t.vars t.goal:=h.lists _ J0
theorem IZ {l:List Fct} {v:Int}:hasV l v=true↔∃ f∈l,f.var=v:=by
  unfold hasV;rw [M4];simp
def jb (t:Tpl) (i:Nat):Job:=match t.jobs[i]? with|some j=>j|none=>⟨⟨#[]⟩,1,[],[],[],[],[]⟩
theorem Qz {t:Tpl} {i:Nat} {j:Job} (h:t.jobs[i]?=some j):jb t i=j:=by unfold jb;rw [h]
theorem QA {t:Tpl} {i:Nat} (h:i < t.jobs.length):jb t i∈t.jobs:=by
  unfold jb;rw [C4 h];exact List.getElem_mem h
theorem AaN {t:Tpl} {i:Nat} (h:i < t.jobs.length):t.jobs[i]?=some (jb t i):=by
  unfold jb;rw [C4 h]
def factsK (l:List Fct):List KF:=l.map λ f=>((0,f.var.toNat),f.val)
def V9 (t:Tpl) (a w:List Fct) (v:Nat):List KF :=
  if hasV w (v:Int)=true then ((3,v),0) :: (if rdT t (v:Int)=true then [((4,v),0)] else [])
  else if hasV a (v:Int)=true/\wrT t (v:Int)=true then [((3,v),0)] else []
def Y9 (t:Tpl) (a w:List Fct) (v:Nat):List KF :=
  if hasV w (v:Int)=true then [((3,v),1)]
  else if hasV a (v:Int)=true/\wrT t (v:Int)=true then [((4,v),1)] else []
def needK (t:Tpl) (a w:List Fct) (n:Nat):List KF:=(List.range n).flatMap (V9 t a w)
def Acb (t:Tpl) (a w:List Fct) (n:Nat):List KF:=(List.range n).flatMap (Y9 t a w)
abbrev Hh:=Nat×Bool
def hR (t:Tpl) (h:Hh):List Fct:=if h.2=true then (jb t h.1).fin else (jb t h.1).start
def hW (t:Tpl) (h:Hh):List Fct:=if h.2=true then (jb t h.1).atEnd else (jb t h.1).atStart
structure KO where
  name:ByteArray
  cost:Int
  pre:List KF
  effs:List KF
def stN:ByteArray:=⟨#[115,116,97,114,116,32]⟩
def enN:ByteArray:=⟨#[101,110,100,32]⟩
def waN:ByteArray:=⟨#[119,97,105,116,32]⟩
def spN:ByteArray:=⟨#[32]⟩
def tiN:ByteArray:=⟨#[116,105,99,107]⟩
def adN:ByteArray:=⟨#[97,100,118,97,110,99,101]⟩
def ownP (t:Tpl) (h:Hh):List KF:=if h.2=true then [((1,h.1),(jb t h.1).dur + 1)] else [((1,h.1),0),((2,h.1),0)]
def Z5 (t:Tpl) (h:Hh):List KF:=if h.2=true then [((1,h.1),0),((2,h.1),1)] else [((1,h.1),(jb t h.1).dur)]
def hapO (t:Tpl) (h:Hh):KO:=⟨(if h.2=true then enN else stN) ++ (jb t h.1).name,0,factsK (hR t h) ++ ownP t h ++ [((5,0),0)] ++ needK t (hR t h) (hW t h) t.vars.length,factsK (hW t h) ++ Z5 t h ++ Acb t (hR t h) (hW t h) t.vars.length⟩
def W9:KO:=⟨tiN,0,[((5,0),0)],[((5,0),1)]⟩
def waitE (t:Tpl) (i:Nat) (k:Nat):List KF:=if 1 < k then [((1,i),(k:Int) - 1)] else if k=1 then [((1,i),(jb t i).dur + 1)] else []
def waitO (t:Tpl) (i:Nat) (k:Nat):KO:=⟨waN ++ (jb t i).name ++ spN ++ Y1 k,0,(if 0 < k then factsK (jb t i).over else []) ++ [((1,i),(k:Int)),((5,0),(i:Int) + 1)],waitE t i k ++ [((5,0),(i:Int) + 2)]⟩
def Z1 (t:Tpl):KO:=⟨adN,1,[((5,0),(t.jobs.length:Int) + 1)],(List.range t.jobs.length).map (λ i=>((2,i),0)) ++ ((ksM t t.vars.length).map λ k=>(k,0)) ++ [((5,0),0)]⟩
def AbV (t:Tpl) (n:Nat):List KO:=(List.range n).flatMap λ i=>[hapO t (i,false),hapO t (i,true)]
def V2 (t:Tpl) (n:Nat):List KO:=(List.range n).flatMap λ i=>(List.range ((jb t i).dur.toNat + 1)).map (waitO t i)
def W7 (t:Tpl):List KO:=AbV t t.jobs.length ++ (if t.jobs.length=0 then [] else W9 :: (V2 t t.jobs.length ++ [Z1 t]))
def wNo (t:Tpl) (i:Nat):Nat:=2 * t.jobs.length + 1 + (V2 t i).length
theorem Oa (t:Tpl) (n:Nat):AbV t (n + 1)=AbV t n ++ [hapO t (n,false),hapO t (n,true)]:=by
  unfold AbV;rw [P8,I0];simp
theorem DU (t:Tpl):∀ n,(AbV t n).length=2 * n
  | 0=>rfl
  | n + 1=>by rw [Oa,I5,DU t n];simp;omega
theorem MW (t:Tpl) (n:Nat):V2 t (n + 1)=V2 t n ++ (List.range ((jb t n).dur.toNat + 1)).map (waitO t n):=by
  unfold V2;rw [P8,I0];simp
theorem Ka (t:Tpl) (n:Nat):(V2 t (n + 1)).length=(V2 t n).length + (jb t n).dur.toNat + 1:=by
  rw [MW,I5];simp;omega
theorem VD (t:Tpl) {a b:Nat} (h:a<=b):(V2 t a).length<=(V2 t b).length:=by
  induction b with
  | zero => have:a=0:=by omega
            subst this;exact R7 _
  | succ b c =>
    by_cases he:a=b + 1
    . subst he;exact R7 _
    . have:=c (by omega);rw [Ka];omega
theorem Ts (t:Tpl):∀ (n i:Nat) (e:Bool),i < n->(AbV t n)[2 * i + (if e=true then 1 else 0)]?=some (hapO t (i,e))
  | 0,i,e,h=>by omega
  | n + 1,i,e,h=>by
    rw [Oa];by_cases hi:i < n
    . rw [B8 (by rw [DU];split<;>omega)];exact Ts t n i e hi
    . have:i=n:=(by omega);subst this;rw [B4 (by rw [DU];omega),DU];cases e<;>simp
theorem Rv (t:Tpl):∀ (n i k:Nat),i < n->k<=(jb t i).dur.toNat->(V2 t n)[(V2 t i).length + k]?=some (waitO t i k)
  | 0,i,k,h,_=>by omega
  | n + 1,i,k,h,hk=>by
    rw [MW];by_cases hi:i < n
    . have c:=VD t (a:=i + 1) (b:=n) (by omega);rw [Ka] at c;rw [B8 (by omega)];exact Rv t n i k hi hk
    . have:i=n:=(by omega);subst this;rw [B4 (by omega),K1];rw [show (V2 t i).length + k - (V2 t i).length=k from by omega,I1 (by omega)];rfl
theorem Rx (t:Tpl):∀ (n p:Nat),p < (V2 t n).length->∃ i k,i < n/\k<=(jb t i).dur.toNat/\p=(V2 t i).length + k
  | 0,p,h=>by simp [V2] at h
  | n + 1,p,h=>by
    by_cases a:p < (V2 t n).length
    . obtain ⟨i,k,h1,h2,h3⟩:=Rx t n p a;exact ⟨i,k,by omega,h2,h3⟩
    . rw [Ka] at h;exact ⟨n,p - (V2 t n).length,by omega,by omega,by omega⟩
def hNo (h:Hh):Nat:=2 * h.1 + (if h.2=true then 1 else 0)
theorem Mq {t:Tpl} {h:Hh} (hi:h.1 < t.jobs.length):(W7 t)[hNo h]?=some (hapO t h):=by
  unfold W7 hNo;rw [B8 (by rw [DU];split<;>omega)];exact Ts t _ h.1 h.2 hi
theorem Ll {t:Tpl} (h:0 < t.jobs.length):(W7 t)[2 * t.jobs.length]?=some W9:=by
  unfold W7;rw [B4 (by rw [DU];omega),DU,if_neg (by omega),Nat.sub_self];rfl
theorem Lm {t:Tpl} {i k:Nat} (h:i < t.jobs.length) (hk:k<=(jb t i).dur.toNat):(W7 t)[wNo t i + k]?=some (waitO t i k):=by
  unfold W7 wNo;rw [B4 (by rw [DU];omega),DU,if_neg (by omega)];rw [show 2 * t.jobs.length + 1 + (V2 t i).length + k - 2 * t.jobs.length=((V2 t i).length + k) + 1 from by omega,List.getElem?_cons_succ];have:=Rv t _ i k h hk;rw [B8 (AO this)];exact this
theorem Mr {t:Tpl} (h:0 < t.jobs.length):(W7 t)[wNo t t.jobs.length]?=some (Z1 t):=by
  unfold W7 wNo;rw [B4 (by rw [DU];omega),DU,if_neg (by omega)];rw [show 2 * t.jobs.length + 1 + (V2 t t.jobs.length).length - 2 * t.jobs.length=(V2 t t.jobs.length).length + 1 from by omega,List.getElem?_cons_succ];simp
theorem Tt (t:Tpl) (h:0 < t.jobs.length):(W7 t).length=wNo t t.jobs.length + 1:=by
  unfold W7 wNo;rw [if_neg (by omega)];simp [DU];omega
theorem Tu {t:Tpl} (h:t.jobs.length=0):W7 t=[]:=by
  unfold W7;rw [if_pos h,N7,h];rfl
theorem OC {t:Tpl} {p:Nat} (h:p < (W7 t).length):(∃ b:Hh,b.1 < t.jobs.length∧p=hNo b)∨(0 < t.jobs.length∧(p=2 * t.jobs.length∨(∃ i k,i < t.jobs.length∧k≤(jb t i).dur.toNat∧p=wNo t i + k)∨p=wNo t t.jobs.length)):=by
  by_cases d:t.jobs.length=0
  . rw [Tu d] at h;simp at h
  . rw [Tt t (by omega)] at h;by_cases e:p < 2 * t.jobs.length
    . refine .inl ⟨(p / 2,decide (p % 2=1)),by simp;omega,?_⟩;unfold hNo;by_cases a:p % 2=1
      . simp [a];omega
      . simp [a];omega
    . refine .inr ⟨by omega,?_⟩;by_cases a:p=2 * t.jobs.length
      . exact .inl a
      . by_cases c:p=wNo t t.jobs.length
        . exact .inr (.inr c)
        . unfold wNo at h c;obtain ⟨i,k,g1,g2,g3⟩:=Rx t t.jobs.length (p - (2 * t.jobs.length + 1)) (by omega);exact .inr (.inl ⟨i,k,g1,g2,by unfold wNo;omega⟩)
end
section
open Go Go.RowKit
theorem Zm (t:Tpl) (l:List Lch):∃ b,IB t l=some b/\(b=true->t.vars.length<=70/\t.jobs.length<=30/\l.length<=12/\t.goal.length<=80/\∀ j∈t.jobs,j.name.size<=300):=by
  unfold IB;by_cases c:70 < (t.vars.length:Int)
  . rw [if_pos c,At,DE];exact ⟨_,rfl,λ h=>by cases h⟩
  rw [if_neg c];by_cases d:30 < (t.jobs.length:Int)
  . rw [if_pos d,At,DE];exact ⟨_,rfl,λ h=>by cases h⟩
  rw [if_neg d];by_cases e:12 < (l.length:Int)
  . rw [if_pos e,At,DE];exact ⟨_,rfl,λ h=>by cases h⟩
  rw [if_neg e];by_cases f:80 < (t.goal.length:Int)
  . rw [if_pos f,At,DE];exact ⟨_,rfl,λ h=>by cases h⟩
  rw [if_neg f,At,Fe];rw [Hb (λ j:Job=>decide (100 < wr (wr (wr (wr ((j.start.length:Int) + (j.over.length:Int)) + (j.fin.length:Int)) + (j.atStart.length:Int)) + (j.atEnd.length:Int))) || decide (300 < (j.name.size:Int))) false (λ k a hk=>by rw [OB,At])];split
  . exact ⟨_,rfl,λ h=>by cases h⟩
  . rename_i h5;refine ⟨_,rfl,λ _=>⟨by omega,by omega,by omega,by omega,λ j hj=>?_⟩⟩;simp only [M4,not_exists,not_and,N5,decide_eq_true_eq,not_or] at h5;have:=(h5 j hj).2;omega
theorem Zn {l:List Int} (h:l.length<=1000):Cx l=some l:=if_pos ⟨by omega,by omega⟩
theorem Tv {l:List Fct} (h:l.length<=1000):BU l=some l:=if_pos ⟨by omega,by omega⟩
end
section
open Go Go.RowKit
section
variable {t : Tpl}
theorem YI {i:Nat} (h:¬ i < t.jobs.length):jb t i=⟨⟨#[]⟩,1,[],[],[],[],[]⟩:=by
  unfold jb;rw [E8 (by omega)]
theorem AdF (a:List Int):FactsOk a []:=⟨λ i x b=>by simp at b,λ i x y b=>by simp at b⟩
theorem TplOk.job (a:TplOk t) (i:Nat) {l:List Fct} (hl:l∈Ab0 (jb t i)):FactsOk t.vars l:=by
  by_cases h:i < t.jobs.length
  . exact (a.lists l (G1 _ (M5.2 ⟨_,QA h,hl⟩))).2
  . rw [YI h] at hl;have:l=[]:=(by simpa [Ab0] using hl);subst this;exact AdF _
theorem TplOk.hR (a:TplOk t) (h:Hh):FactsOk t.vars (hR t h):=by
  unfold Go.Proofs.YtllibjejncelhaaGreatDoor.hR;split
  . exact a.job h.1 (by simp [Ab0])
  . exact a.job h.1 (by simp [Ab0])
theorem TplOk.hW (a:TplOk t) (h:Hh):FactsOk t.vars (hW t h):=by
  unfold Go.Proofs.YtllibjejncelhaaGreatDoor.hW;split
  . exact a.job h.1 (by simp [Ab0])
  . exact a.job h.1 (by simp [Ab0])
theorem TplOk.over (a:TplOk t) (i:Nat):FactsOk t.vars (jb t i).over:=a.job i (by simp [Ab0])
theorem TplOk.dur (a:TplOk t) (i:Nat):1<=(jb t i).dur/\(jb t i).dur<=62:=by
  by_cases h:i < t.jobs.length
  . exact a.durs _ (QA h)
  . rw [YI h];exact ⟨by decide,by decide⟩
theorem Ln {h:Hh} (hi:h.1 < t.jobs.length) {v:Int} (a:hasV (hW t h) v=true):wrT t v=true:=by
  unfold wrT;rw [M4];refine ⟨_,QA hi,?_⟩;unfold Go.Proofs.YtllibjejncelhaaGreatDoor.hW at a;split at a<;>simp [a]
theorem Tw {h:Hh} (hi:h.1 < t.jobs.length) {v:Int} (a:hasV (hR t h) v=true):rdT t v=true:=by
  unfold rdT;rw [M4];refine ⟨_,QA hi,?_⟩;unfold Go.Proofs.YtllibjejncelhaaGreatDoor.hR at a;split at a<;>simp [a]
theorem UD {l:List Fct} (hl:FactsOk t.vars l) {v:Int} (h:hasV l v=true):0<=v/\v < t.vars.length:=by
  obtain ⟨f,hf,rfl⟩:=IZ.1 h;exact Gn ((V3.1 hl).1 f hf)
def IntF (t:Tpl) (a b:Hh):Prop:=∃ v:Int,(hasV (hW t a) v=true/\(hasV (hW t b) v=true\/hasV (hR t b) v=true))\/(hasV (hR t a) v=true/\hasV (hW t b) v=true)
theorem IntF.symm {a b:Hh} (h:IntF t a b):IntF t b a:=by
  obtain ⟨v,⟨c,h2|h2⟩|⟨c,h2⟩⟩:=h
  . exact ⟨v,.inl ⟨h2,.inl c⟩⟩
  . exact ⟨v,.inr ⟨h2,c⟩⟩
  . exact ⟨v,.inl ⟨h2,.inr c⟩⟩
def wrL (s:List Int) (l:List Fct):List Int:=l.foldl (λ s f=>s.set f.var.toNat f.val) s
theorem Ms:∀ (l:List Fct) (s:List Int),(wrL s l).length=s.length
  | [],_=>rfl
  | f :: l,s=>by show (wrL (s.set _ _) l).length=_;rw [Ms l,N9]
theorem Mt:∀ {l:List Fct} {s:List Int} {v:Nat},(∀ f∈l,f.var.toNat≠v)->(wrL s l)[v]?=s[v]?
  | [],_,_,_=>rfl
  | f :: l,s,v,h=>by
    show (wrL (s.set _ _) l)[v]?=_;rw [Mt λ g a=>h g (G1 _ a),H1 (h f J0)]
theorem Lo {l:List Fct} (hl:FactsOk t.vars l) {v:Nat} (h:hasV l (v:Int)=false):∀ f∈l,f.var.toNat≠v:=by
  intro f hf e;have a:=(Gn ((V3.1 hl).1 f hf)).1;have:hasV l (v:Int)=true:=IZ.2 ⟨f,hf,by omega⟩;rw [h] at this;cases this
def afH (t:Tpl) (s:List Int) (hs:List Hh):List Int:=hs.foldl (λ s h=>wrL s (hW t h)) s
theorem UE (s:List Int) (a b:List Hh):afH t s (a ++ b)=afH t (afH t s a) b:=L0
theorem Hc:∀ (hs:List Hh) (s:List Int),(afH t s hs).length=s.length
  | [],_=>rfl
  | h :: hs,s=>by show (afH t (wrL s _) hs).length=_;rw [Hc hs,Ms]
theorem WL (a:TplOk t) {v:Nat}:∀ {hs:List Hh} {s:List Int},(∀ h∈hs,hasV (hW t h) (v:Int)=false)->(afH t s hs)[v]?=s[v]?
  | [],_,_=>rfl
  | h :: hs,s,hh=>by
    show (afH t (wrL s _) hs)[v]?=_;rw [WL a λ g b=>hh g (G1 _ b),Mt (Lo (a.hW h) (hh h J0))]
def Adw (t:Tpl) (q:Nat->Int) (h:Hh):Nat->Int:=λ i=>if i=h.1 then (if h.2=true then 0 else (jb t i).dur) else q i
def stA (t:Tpl) (q:Nat->Int) (hs:List Hh):Nat->Int:=hs.foldl (Adw t) q
theorem Zo (q:Nat->Int) (a b:List Hh):stA t q (a ++ b)=stA t (stA t q a) b:=L0
theorem IE {i:Nat}:∀ {hs:List Hh} {q:Nat->Int},(∀ h∈hs,h.1≠i)->stA t q hs i=q i
  | [],_,_=>rfl
  | h :: hs,q,hh=>by
    show stA t (Adw t q h) hs i=_;rw [IE λ g a=>hh g (G1 _ a)];exact if_neg λ e=>hh h J0 e.symm
theorem Kb {h:Hh}:∀ {hs:List Hh} {q:Nat->Int},(hs.map (·.1)).Nodup->h∈hs->stA t q hs h.1=if h.2=true then 0 else (jb t h.1).dur
  | [],_,_,h=>by cases h
  | g :: hs,q,hn,hm=>by
    rw [Q0,P5] at hn;show stA t (Adw t q g) hs h.1=_;rcases Q1.1 hm with rfl|hm
    . rw [IE λ k hk e=>hn.1 (by rw [<- e];exact H8 hk)];exact if_pos rfl
    . exact Kb hn.2 hm
structure HBok (t:Tpl) (s:List Int) (q:Nat->Int) (hs:List Hh):Prop where
  jobs:∀ h∈hs,h.1 < t.jobs.length
  non:hs.Pairwise λ a b=>¬ IntF t a b
  nod:(hs.map (·.1)).Nodup
  own:∀ h∈hs,q h.1=if h.2=true then (jb t h.1).dur + 1 else 0
  reads:∀ h∈hs,holdsB (hR t h) s=true
theorem HBok.nil (s:List Int) (q:Nat->Int):HBok t s q []:=⟨λ _ h=>(by cases h),.nil,.nil,λ _ h=>(by cases h),λ _ h=>(by cases h)⟩
theorem HBok.prefix {s:List Int} {q:Nat->Int} {a b:List Hh} (h:HBok t s q (a ++ b)):HBok t s q a :=
  ⟨λ x c=>h.jobs x (G0 _ c),(H2.1 h.non).1,by have:=h.nod;rw [P3] at this;exact (K3.1 this).1,λ x c=>h.own x (G0 _ c),λ x c=>h.reads x (G0 _ c)⟩
def gst (t:Tpl) (s:List Int) (q:Nat->Int) (hs:List Hh) (p:Int):KSt:=λ k =>
  if k.1=0 then (s[k.2]?).getD 0
  else if k.1=1 then q k.2
  else if k.1=2 then (if (k.2,true)∈hs then 1 else 0)
  else if k.1=3 then (if hs.any (λ h=>hasV (hW t h) (k.2:Int))=true then 1 else 0)
  else if k.1=4 then (if hs.any (λ h=>hasV (hR t h) (k.2:Int) && !hasV (hW t h) (k.2:Int))=true then 1 else 0)
  else p
section
variable {s : List Int} {q : Nat → Int} {hs : List Hh} {p : Int}
theorem AdV (v:Nat):gst t s q hs p (0,v)=(s[v]?).getD 0:=rfl
theorem Ac0 (i:Nat):gst t s q hs p (1,i)=q i:=rfl
theorem AdH (i:Nat):gst t s q hs p (2,i)=if (i,true)∈hs then 1 else 0:=rfl
theorem Ade (v:Nat):gst t s q hs p (3,v)=if hs.any (λ h=>hasV (hW t h) (v:Int))=true then 1 else 0:=rfl
theorem AdQ (v:Nat):gst t s q hs p (4,v)=if hs.any (λ h=>hasV (hR t h) (v:Int) && !hasV (hW t h) (v:Int))=true then 1 else 0:=rfl
theorem Aco:gst t s q hs p (5,0)=p:=rfl
theorem Ju {l:List Fct} {x:KF}:x∈factsK l↔∃ f∈l,x=((0,f.var.toNat),f.val):=by
  unfold factsK;rw [R3];exact ⟨λ ⟨f,h1,h2⟩=>⟨f,h1,h2.symm⟩,λ ⟨f,h1,h2⟩=>⟨f,h1,h2.symm⟩⟩
theorem LE {l:List Fct} (hl:FactsOk t.vars l) (c:s.length=t.vars.length):(∀ x∈factsK l,gst t s q hs p x.1=x.2)↔holdsB l s=true:=by
  unfold holdsB;rw [M0];have a:∀ f∈l,(gst t s q hs p (0,f.var.toNat)=f.val↔hasB s f=true):=λ f hf=>by
    have d:=Gn ((V3.1 hl).1 f hf);obtain ⟨x,b⟩:=AL (l:=s) (k:=f.var.toNat) (by omega);rw [AdV];unfold hasB;rw [b];simp [d.1]
  constructor
  . intro h f hf;exact (a f hf).1 (h _ (Ju.2 ⟨f,hf,rfl⟩))
  . intro h x b;obtain ⟨f,hf,rfl⟩:=Ju.1 b;exact (a f hf).2 (h f hf)
theorem XO (l:TplOk t) {h:Hh} (hj:∀ g∈hs,g.1 < t.jobs.length) (hi:h.1 < t.jobs.length) :
    (∀ x∈needK t (hR t h) (hW t h) t.vars.length,gst t s q hs p x.1=x.2)↔∀ g∈hs,¬ IntF t g h:=by
  unfold needK;simp only [M5,P9];constructor
  . intro o g c ⟨v,hv⟩;have hw:hasV (hW t h) v=true\/hasV (hR t h) v=true:=by
      rcases hv with ⟨_,hv|hv⟩|⟨_,hv⟩
      . exact .inl hv
      . exact .inr hv
      . exact .inl hv
    have i:0<=v/\v < t.vars.length:=by
      rcases hw with hw|hw
      . exact UD (l.hW h) hw
      . exact UD (l.hR h) hw
    obtain ⟨n,rfl⟩:=D1 i.1;have hn:n < t.vars.length:=(by omega);by_cases d:hasV (hW t h) (n:Int)=true
    . have e:=o ((3,n),0) ⟨n,hn,by unfold V9;rw [if_pos d];simp⟩;simp only [Ade] at e;by_cases b:hasV (hW t g) (n:Int)=true
      . rw [if_pos (M4.2 ⟨g,c,b⟩)] at e;cases e
      . have m:hasV (hR t g) (n:Int)=true:=by
          rcases hv with ⟨a,_⟩|⟨a,_⟩
          . exact absurd a b
          . exact a
        have hr:=Tw (hj g c) m;have j:=o ((4,n),0) ⟨n,hn,by unfold V9;rw [if_pos d,if_pos hr];simp⟩;simp only [AdQ] at j;rw [if_pos (M4.2 ⟨g,c,by simp [b,m]⟩)] at j;cases j
    . have k:hasV (hR t h) (n:Int)=true:=hw.resolve_left d;have b:hasV (hW t g) (n:Int)=true:=by
        rcases hv with ⟨a,_⟩|⟨_,a⟩
        . exact a
        . exact absurd a d
      have hr:=Ln (hj g c) b;have e:=o ((3,n),0) ⟨n,hn,by unfold V9;rw [if_neg d,if_pos ⟨k,hr⟩];simp⟩;simp only [Ade] at e;rw [if_pos (M4.2 ⟨g,c,b⟩)] at e;cases e
  . rintro o x ⟨v,hv,hx⟩;unfold V9 at hx;by_cases d:hasV (hW t h) (v:Int)=true
    . rw [if_pos d] at hx;rcases Q1.1 hx with rfl|hx
      . rw [Ade,if_neg];intro f;obtain ⟨g,c,b⟩:=M4.1 f;exact o g c ⟨_,.inl ⟨b,.inl d⟩⟩
      . split at hx
        . have:x=((4,v),0):=(by simpa using hx);subst this;rw [AdQ,if_neg];intro f;obtain ⟨g,c,b⟩:=M4.1 f;rw [L9] at b;exact o g c ⟨_,.inr ⟨b.1,d⟩⟩
        . cases hx
    . rw [if_neg d] at hx;split at hx
      . rename_i k;have:x=((3,v),0):=(by simpa using hx);subst this;rw [Ade,if_neg];intro f;obtain ⟨g,c,b⟩:=M4.1 f;exact o g c ⟨_,.inl ⟨b,.inr k.1⟩⟩
      . cases hx
theorem QB {α:Type} {p q:α->Bool}:∀ {l:List α},(∀ x∈l,p x=q x)->l.all p=l.all q
  | [],_=>rfl
  | x :: l,h=>by rw [Q3,Q3,h x J0,QB λ y a=>h y (G1 _ a)]
theorem Tx (a:TplOk t) {l:List Fct} (hl:FactsOk t.vars l) (h:∀ f∈l,∀ g∈hs,hasV (hW t g) f.var=false):holdsB l (afH t s hs)=holdsB l s:=by
  unfold holdsB;refine QB λ f hf=>?_;have c:=(Gn ((V3.1 hl).1 f hf)).1;unfold hasB;rw [WL a λ g b=>by
    have:=h f hf g b;rwa [show ((f.var.toNat:Nat):Int)=f.var from by omega]]
theorem UF (k:TplOk t) (r:s.length=t.vars.length) (hb:HBok t s q hs) {h:Hh} (hi:h.1 < t.jobs.length) :
    (∀ x∈(hapO t h).pre,gst t (afH t s hs) (stA t q hs) hs 0 x.1=x.2)↔HBok t s q (hs ++ [h]):=by
  unfold hapO;simp only [N1,or_imp,forall_and];rw [LE (k.hR h) (by rw [Hc];exact r),XO k hb.jobs hi];have hd:=k.dur h.1;have i:(∀ x∈ownP t h,gst t (afH t s hs) (stA t q hs) hs 0 x.1=x.2)↔(∀ g∈hs,g.1≠h.1)/\q h.1=if h.2=true then (jb t h.1).dur + 1 else 0:=by
    constructor
    . intro B;have c:∀ g∈hs,g.1≠h.1:=by
        intro g hg e;have l:=Kb (t:=t) (q:=q) hb.nod hg;rw [e] at l;unfold ownP at B;by_cases d:h.2=true
        . rw [if_pos d] at B;have:=B ((1,h.1),(jb t h.1).dur + 1) (by simp);simp only [Ac0] at this;rw [l] at this;split at this<;>omega
        . rw [if_neg d] at B;have m:=B ((1,h.1),0) (by simp);have u:=B ((2,h.1),0) (by simp);simp only [Ac0,AdH] at m u;rw [l] at m;by_cases z:g.2=true
          . rw [if_pos (by rw [<- e,<- z];exact hg)] at u;cases u
          . rw [if_neg z] at m;omega
      refine ⟨c,?_⟩;unfold ownP at B;by_cases d:h.2=true
      . rw [if_pos d] at B;have:=B ((1,h.1),(jb t h.1).dur + 1) (by simp);simp only [Ac0] at this;rw [IE c] at this;rw [if_pos d];exact this
      . rw [if_neg d] at B;have m:=B ((1,h.1),0) (by simp);simp only [Ac0] at m;rw [IE c] at m;rw [if_neg d];exact m
    . rintro ⟨c,hq⟩ x n;unfold ownP at n;by_cases d:h.2=true
      . rw [if_pos d] at n hq;have:x=((1,h.1),(jb t h.1).dur + 1):=(by simpa using n);subst this;rw [Ac0,IE c];exact hq
      . rw [if_neg d] at n hq;have:x=((1,h.1),0)\/x=((2,h.1),0):=(by simpa using n);rcases this with rfl|rfl
        . rw [Ac0,IE c];exact hq
        . rw [AdH,if_neg (λ hm:(h.1,true)∈hs=>c _ hm rfl)]
  rw [i];constructor
  . rintro ⟨⟨⟨A,d,h3⟩,_⟩,h4⟩;refine ⟨λ g hg=>?_,?_,?_,λ g hg=>?_,λ g hg=>?_⟩
    . rcases N1.1 hg with hg|hg
      . exact hb.jobs g hg
      . have:g=h:=(by simpa using hg);subst this;exact hi
    . rw [H2];exact ⟨hb.non,D5 _ _,λ a v b o=>by
        have:b=h:=(by simpa using o);subst this;exact h4 a v⟩
    . rw [P3,K3];refine ⟨hb.nod,by simp,λ a v b o=>?_⟩;obtain ⟨g,hg,rfl⟩:=R3.1 v;have:b=h.1:=(by simpa using o);subst this;exact d g hg
    . rcases N1.1 hg with hg|hg
      . exact hb.own g hg
      . have:g=h:=(by simpa using hg);subst this;exact h3
    . rcases N1.1 hg with hg|hg
      . exact hb.reads g hg
      . have:g=h:=(by simpa using hg);subst this;rw [<- A,Tx k (k.hR g)];intro f hf w p;rw [K5];intro y;exact h4 w p ⟨f.var,.inl ⟨y,.inr (IZ.2 ⟨f,hf,rfl⟩)⟩⟩
  . intro B;have hm:h∈hs ++ [h]:=(by simp);have j:∀ g∈hs,¬ IntF t g h:=λ g hg=>(H2.1 B.non).2.2 g hg h (by simp);refine ⟨⟨⟨?_,λ g hg e=>?_,B.own h hm⟩,λ x n=>?_⟩,j⟩
    . rw [Tx k (k.hR h)]
      . exact B.reads h hm
      . intro f hf w p;rw [K5];intro y;exact j w p ⟨f.var,.inl ⟨y,.inr (IZ.2 ⟨f,hf,rfl⟩)⟩⟩
    . have:=B.nod;rw [P3,K3] at this;exact this.2.2 g.1 (H8 hg) h.1 (by simp) e
    . have:x=((5,0),0):=(by simpa using n);subst this;rfl
end
end
end
section
open Go Go.RowKit
section
variable {t : Tpl} {s : List Int} {q : Nat → Int} {hs : List Hh} {p : Int}
theorem PG {k:Ky} {c:Int} {l:List KF} {σ:KSt} (P:Prop) [Decidable P] (d:∀ x∈l,x.1=k->x.2=c) (b:P↔∃ x∈l,x.1=k):X3 σ l k=if P then c else σ k:=by
  by_cases a:P
  . rw [if_pos a];exact IY d (b.1 a)
  . rw [if_neg a];exact Ea λ x f e=>a (b.2 ⟨x,f,e⟩)
theorem Gf {l:List Fct} {x:KF} (h:x∈factsK l):x.1.1=0:=by
  obtain ⟨f,_,rfl⟩:=Ju.1 h;rfl
theorem Ht {b w:List Fct} {n:Nat} {x:KF}:x∈Acb t b w n↔∃ v,v < n/\((x=((3,v),1)/\hasV w (v:Int)=true)\/(x=((4,v),1)/\hasV w (v:Int)=false/\hasV b (v:Int)=true/\wrT t (v:Int)=true)):=by
  unfold Acb;simp only [M5,P9];constructor
  . rintro ⟨v,hv,a⟩;refine ⟨v,hv,?_⟩;unfold Y9 at a;split at a
    . rename_i h1;exact .inl ⟨by simpa using a,h1⟩
    . rename_i h1;split at a
      . rename_i h2;exact .inr ⟨by simpa using a,by simpa using h1,h2⟩
      . cases a
  . rintro ⟨v,hv,⟨rfl,h1⟩|⟨rfl,h1,h2⟩⟩
    . exact ⟨v,hv,by unfold Y9;rw [if_pos h1];simp⟩
    . exact ⟨v,hv,by unfold Y9;rw [if_neg (by rw [h1];decide),if_pos h2];simp⟩
theorem MX {a w:List Fct} {n:Nat} {x:KF} (h:x∈Acb t a w n):x.1.1=3\/x.1.1=4:=by
  obtain ⟨v,_,⟨rfl,_⟩|⟨rfl,_⟩⟩:=Ht.1 h
  . exact .inl rfl
  . exact .inr rfl
theorem LF {b w:List Fct} {n:Nat} {x:KF} (h:x∈needK t b w n):∃ v,v < n/\(((x=((3,v),0)\/(x=((4,v),0)/\rdT t (v:Int)=true))/\hasV w (v:Int)=true)\/(x=((3,v),0)/\hasV b (v:Int)=true/\wrT t (v:Int)=true)):=by
  unfold needK at h;simp only [M5,P9] at h;obtain ⟨v,hv,a⟩:=h;refine ⟨v,hv,?_⟩;unfold V9 at a;split at a
  . rename_i h1;refine .inl ⟨?_,h1⟩;rcases Q1.1 a with h|h
    . exact .inl h
    . split at h
      . rename_i h2;exact .inr ⟨by simpa using h,h2⟩
      . cases h
  . split at a
    . rename_i h2;exact .inr ⟨by simpa using a,h2⟩
    . cases a
theorem JH {h:Hh} {x:KF} (a:x∈Z5 t h):(x.1.1=1\/x.1.1=2)/\x.1.2=h.1:=by
  unfold Z5 at a;split at a
  . have:x=((1,h.1),0)\/x=((2,h.1),1):=(by simpa using a);rcases this with rfl|rfl
    . exact ⟨.inl rfl,rfl⟩
    . exact ⟨.inr rfl,rfl⟩
  . have:x=((1,h.1),(jb t h.1).dur):=(by simpa using a);subst this;exact ⟨.inl rfl,rfl⟩
theorem QC:∀ {w:List Fct} {σ:KSt} {s:List Int},(∀ f∈w,f.var.toNat < s.length)->(∀ v,σ (0,v)=(s[v]?).getD 0)->∀ v,X3 σ (factsK w) (0,v)=((wrL s w)[v]?).getD 0
  | [],_,_,_,h,v=>h v
  | f :: w,σ,s,hl,h,v=>by
    show X3 (AcV σ (0,f.var.toNat) f.val) (factsK w) (0,v)=((wrL (s.set f.var.toNat f.val) w)[v]?).getD 0;refine QC (λ g a=>by rw [N9];exact hl g (G1 _ a)) (λ u=>?_) v;rw [K2];by_cases he:f.var.toNat=u
    . subst he;rw [if_pos rfl,if_pos (hl f J0),JG];rfl
    . rw [if_neg he,KE (by intro e;exact he (by injection e with _ e;exact e.symm)),h]
theorem AbK (a:TplOk t) (h:Hh) (b:s.length=t.vars.length):∀ f∈hW t h,f.var.toNat < s.length:=λ f hf=>by
  have:=Gn ((V3.1 (a.hW h)).1 f hf);omega
theorem Mu {σ a:KSt} (h:∀ k∈keys t,σ k=a k):enc t σ=enc t a:=by
  unfold enc;exact I3 h
theorem XP (j:TplOk t) (g:s.length=t.vars.length) {h:Hh} :
    enc t (X3 (gst t s q hs p) (hapO t h).effs)=enc t (gst t (wrL s (hW t h)) (Adw t q h) (hs ++ [h]) p):=by
  refine Mu λ k hk=>?_;unfold hapO;simp only [Tp];rcases Ew.1 hk with ⟨h1,f⟩|⟨h1|h1,f⟩|⟨h1,f,h3⟩|⟨h1,f,h3,h4⟩|h1
  . obtain ⟨a,v⟩:=k;simp only at h1;subst h1;rw [Ea (λ x d e=>by have:=MX d;rw [e] at this;simp at this),Ea (λ x d e=>by have:=(JH d).1;rw [e] at this;simp at this)];rw [QC (AbK j h g) (λ v=>AdV v),AdV]
  . obtain ⟨a,i⟩:=k;simp only at h1;subst h1;rw [Ea (λ x d e=>by have:=MX d;rw [e] at this;simp at this)];rw [Ac0];unfold Z5 Adw;by_cases hi:i=h.1
    . subst hi;rw [if_pos rfl];by_cases f:h.2=true
      . rw [if_pos f,if_pos f,Id,Id,MV,KE (by intro e;cases e),JG]
      . rw [if_neg f,if_neg f,Id,MV,JG]
    . rw [if_neg hi];rw [Ea (λ x d e=>by have:=(JH (t:=t) (h:=h) (by unfold Z5;exact d)).2;rw [e] at this;exact hi this),Ea (λ x d e=>by have:=Gf d;rw [e] at this;cases this)];rfl
  . obtain ⟨a,i⟩:=k;simp only at h1;subst h1;rw [Ea (λ x d e=>by have:=MX d;rw [e] at this;simp at this)];have l  : ∀ σ:KSt,X3 σ (Z5 t h) (2,i)=if h=(i,true) then 1 else σ (2,i):=λ σ=>by
      refine PG _ (λ x d e=>?_) ?_
      . unfold Z5 at d;split at d
        . have:x=((1,h.1),0)\/x=((2,h.1),1):=(by simpa using d);rcases this with rfl|rfl
          . cases e
          . rfl
        . have:x=((1,h.1),(jb t h.1).dur):=(by simpa using d);subst this;cases e
      . constructor
        . rintro rfl;exact ⟨((2,i),1),by unfold Z5;simp,rfl⟩
        . rintro ⟨x,d,e⟩;unfold Z5 at d;split at d
          . rename_i hh2;have:x=((1,h.1),0)\/x=((2,h.1),1):=(by simpa using d);rcases this with rfl|rfl
            . cases e
            . injection e with _ e;obtain ⟨a,b⟩:=h;simp only at e hh2;subst e;subst hh2;rfl
          . have:x=((1,h.1),(jb t h.1).dur):=(by simpa using d);subst this;cases e
    rw [l,Ea (λ x d e=>by have:=Gf d;rw [e] at this;cases this),AdH,AdH];by_cases hm:(i,true)∈hs
    . rw [if_pos hm,if_pos (G0 _ hm)];split<;>rfl
    . rw [if_neg hm];by_cases he:h=(i,true)
      . rw [if_pos he,if_pos (F2 _ (by rw [he];simp))]
      . rw [if_neg he,if_neg (by
          intro hh;rcases N1.1 hh with hh|hh
          . exact hm hh
          . exact he (J3.1 hh).symm)]
  . obtain ⟨a,v⟩:=k;simp only at h1 f h3;subst h1;rw [PG (c:=1) (hasV (hW t h) (v:Int)=true) (λ x d e=>by
      obtain ⟨u,_,⟨rfl,_⟩|⟨rfl,_⟩⟩:=Ht.1 d
      . rfl
      . cases e) ⟨λ hh=>⟨((3,v),1),Ht.2 ⟨v,f,.inl ⟨rfl,hh⟩⟩,rfl⟩,λ ⟨x,d,e⟩=>by
        obtain ⟨u,_,⟨rfl,hu⟩|⟨rfl,_⟩⟩:=Ht.1 d
        . injection e with _ e;subst e;exact hu
        . cases e⟩]
    rw [Ea (λ x d e=>by have:=(JH d).1;rw [e] at this;simp at this),Ea (λ x d e=>by have:=Gf d;rw [e] at this;cases this),Ade,Ade,List.any_append];simp only [List.any_cons,List.any_nil,Bool.or_false];cases hs.any (λ h=>hasV (hW t h) (v:Int))<;>cases hasV (hW t h) (v:Int)<;>simp
  . obtain ⟨a,v⟩:=k;simp only at h1 f h3;subst h1;rw [PG (c:=1) (hasV (hW t h) (v:Int)=false/\hasV (hR t h) (v:Int)=true) (λ x d e=>by
      obtain ⟨u,_,⟨rfl,_⟩|⟨rfl,_⟩⟩:=Ht.1 d
      . cases e
      . rfl) ⟨λ hh=>⟨((4,v),1),Ht.2 ⟨v,f,.inr ⟨rfl,hh.1,hh.2,h3⟩⟩,rfl⟩,λ ⟨x,d,e⟩=>by
        obtain ⟨u,_,⟨rfl,hu⟩|⟨rfl,hu⟩⟩:=Ht.1 d
        . cases e
        . injection e with _ e;subst e;exact ⟨hu.1,hu.2.1⟩⟩]
    rw [Ea (λ x d e=>by have:=(JH d).1;rw [e] at this;simp at this),Ea (λ x d e=>by have:=Gf d;rw [e] at this;cases this),AdQ,AdQ,List.any_append];simp only [List.any_cons,List.any_nil,Bool.or_false];cases hs.any (λ h=>hasV (hR t h) (v:Int) && !hasV (hW t h) (v:Int))<;>cases hasV (hW t h) (v:Int)<;>cases hasV (hR t h) (v:Int)<;>simp
  . subst h1;rw [Ea (λ x d e=>by have:=MX d;rw [e] at this;simp at this),Ea (λ x d e=>by have:=(JH d).1;rw [e] at this;simp at this),Ea (λ x d e=>by have:=Gf d;rw [e] at this;cases this)];rfl
theorem Ry:enc t (X3 (gst t s q hs p) W9.effs)=enc t (gst t s q hs 1):=by
  refine Mu λ k hk=>?_;show AcV (gst t s q hs p) (5,0) 1 k=_;by_cases h:k=(5,0)
  . subst h;rw [JG];rfl
  . rw [KE h];rcases Ew.1 hk with ⟨h1,_⟩|⟨h1|h1,_⟩|⟨h1,_⟩|⟨h1,_⟩|h1;(iterate 5 (obtain ⟨a,v⟩:=k;simp only at h1;subst h1;rfl));exact absurd h1 h
def nxc (a c:Int):Int:=if 1 < c then c - 1 else if c=1 then a + 1 else 0
def AcD (q:Nat->Int) (i:Nat) (c:Int):Nat->Int:=λ k=>if k=i then c else q k
theorem Rz {i k:Nat} (hk:q i=(k:Int)):enc t (X3 (gst t s q hs p) (waitO t i k).effs)=enc t (gst t s (AcD q i (nxc (jb t i).dur (k:Int))) hs ((i:Int) + 2)):=by
  refine Mu λ y j=>?_;show X3 (gst t s q hs p) (waitE t i k ++ [((5,0),(i:Int) + 2)]) y=_;rw [Tp,Id,MV];have d:∀ x∈waitE t i k,x.1=(1,i)/\x.2=nxc (jb t i).dur (k:Int):=λ x b=>by
    unfold waitE at b;unfold nxc;split at b
    . have:x=((1,i),(k:Int) - 1):=(by simpa using b);subst this;rw [if_pos (by omega)];exact ⟨rfl,rfl⟩
    . split at b
      . have:x=((1,i),(jb t i).dur + 1):=(by simpa using b);subst this;rw [if_neg (by omega),if_pos (by omega)];exact ⟨rfl,rfl⟩
      . cases b
  by_cases h:y=(5,0)
  . subst h;rw [JG];rfl
  rw [KE h];by_cases f:y=(1,i)
  . subst f;by_cases l:k=0
    . have:waitE t i k=[]:=(by unfold waitE;rw [if_neg (by omega),if_neg (by omega)]);rw [this,MV];show q i=AcD q i _ i;unfold AcD nxc;rw [if_pos rfl,hk,l];rfl
    . rw [IY (c:=nxc (jb t i).dur (k:Int)) (λ x b _=>(d x b).2) (by
        unfold waitE;by_cases g:1 < k
        . rw [if_pos g];exact ⟨_,J3.2 rfl,rfl⟩
        . rw [if_neg g,if_pos (by omega)];exact ⟨_,J3.2 rfl,rfl⟩)]
      show _=AcD q i _ i;unfold AcD;rw [if_pos rfl]
  . rw [Ea λ x b e=>f (by rw [<- e];exact (d x b).1)];rcases Ew.1 j with ⟨g1,_⟩|⟨g1|g1,_⟩|⟨g1,_⟩|⟨g1,_⟩|g1
    . obtain ⟨a,v⟩:=y;simp only at g1;subst g1;rfl
    . obtain ⟨a,v⟩:=y;simp only at g1;subst g1;show q v=AcD q i _ v;unfold AcD;rw [if_neg (by rintro rfl;exact f rfl)]
    (iterate 3 (obtain ⟨a,v⟩:=y;simp only at g1;subst g1;rfl));exact absurd g1 h
theorem Ty (d:TplOk t) (a:s.length=t.vars.length) {i k:Nat}:(∀ x∈(waitO t i k).pre,gst t s q hs p x.1=x.2)↔(0 < k->holdsB (jb t i).over s=true)/\q i=(k:Int)/\p=(i:Int) + 1:=by
  unfold waitO;simp only [N1,or_imp,forall_and];constructor
  . rintro ⟨c,h2⟩;refine ⟨λ hk=>?_,h2 ((1,i),(k:Int)) (by simp),h2 ((5,0),(i:Int) + 1) (by simp)⟩;rw [if_pos hk] at c;exact (LE (d.over i) a).1 c
  . rintro ⟨c,h2,h3⟩;refine ⟨λ x b=>?_,λ x b=>?_⟩
    . split at b
      . rename_i hk;exact (LE (d.over i) a).2 (c hk) x b
      . cases b
    . have:x=((1,i),(k:Int))\/x=((5,0),(i:Int) + 1):=(by simpa using b);rcases this with rfl|rfl
      . exact h2
      . exact h3
theorem Tz:enc t (X3 (gst t s q hs p) (Z1 t).effs)=enc t (gst t s q [] 0):=by
  refine Mu λ k hk=>?_;show X3 (gst t s q hs p) ((List.range t.jobs.length).map (λ i=>((2,i),(0:Int))) ++ ((ksM t t.vars.length).map λ k=>(k,(0:Int))) ++ [((5,0),0)]) k=_;have b:∀ x∈(List.range t.jobs.length).map (λ i=>(((2,i):Ky),(0:Int))) ++ ((ksM t t.vars.length).map λ k=>(k,(0:Int))) ++ [((5,0),0)],x.1.1≠0/\x.1.1≠1/\x.2=0:=λ x hx=>by
    rw [N1,N1,R3,R3] at hx;rcases hx with (⟨i,_,rfl⟩|⟨y,d,rfl⟩)|hx
    . exact ⟨by simp,by simp,rfl⟩
    . unfold ksM at d;obtain ⟨v,_,d⟩:=M5.1 d;rcases KD.1 d with ⟨rfl,_⟩|⟨rfl,_⟩
      . exact ⟨by simp,by simp,rfl⟩
      . exact ⟨by simp,by simp,rfl⟩
    . have:x=((5,0),0):=(by simpa using hx);subst this;exact ⟨by simp,by simp,rfl⟩
  rcases Ew.1 hk with ⟨h1,_⟩|⟨h1|h1,h2⟩|⟨h1,h2,h3⟩|⟨h1,h2,h3,h4⟩|h1
  . rw [Ea λ x hx e=>(b x hx).1 (by rw [e];exact h1)];obtain ⟨a,v⟩:=k;simp only at h1;subst h1;rfl
  . rw [Ea λ x hx e=>(b x hx).2.1 (by rw [e];exact h1)];obtain ⟨a,v⟩:=k;simp only at h1;subst h1;rfl
  . rw [IY (c:=0) (λ x hx _=>(b x hx).2.2) ⟨(k,0),by
      obtain ⟨a,v⟩:=k;simp only at h1 h2;subst h1;simp [h2],rfl⟩]
    obtain ⟨a,v⟩:=k;simp only at h1;subst h1;rfl
  . rw [IY (c:=0) (λ x hx _=>(b x hx).2.2) ⟨(k,0),by
      obtain ⟨a,v⟩:=k;simp only at h1 h2 h3;subst h1;rw [N1,N1,R3,R3];exact .inl (.inr ⟨(3,v),M5.2 ⟨v,P9.2 h2,KD.2 (.inl ⟨rfl,h3⟩)⟩,rfl⟩),rfl⟩]
    obtain ⟨a,v⟩:=k;simp only at h1;subst h1;rfl
  . rw [IY (c:=0) (λ x hx _=>(b x hx).2.2) ⟨(k,0),by
      obtain ⟨a,v⟩:=k;simp only at h1 h2 h3 h4;subst h1;rw [N1,N1,R3,R3];exact .inl (.inr ⟨(4,v),M5.2 ⟨v,P9.2 h2,KD.2 (.inr ⟨rfl,h3,h4⟩)⟩,rfl⟩),rfl⟩]
    obtain ⟨a,v⟩:=k;simp only at h1;subst h1;rfl
  . subst h1;rw [IY (c:=0) (λ x hx _=>(b x hx).2.2) ⟨((5,0),0),by simp,rfl⟩];rfl
end
end
section
open Go Go.RowKit
structure Cmd (t:Tpl) (u:Tsk):Prop where
  len:u.ops.length=(W7 t).length
  ops:∀ (k:Nat) o,(W7 t)[k]?=some o->∃ p,u.ops[k]?=some p/\p.cost=o.cost/\p.pre.Perm (o.pre.map (toF t))/\p.effs=o.effs.map (toE t)
  init:u.init=enc t (gst t t.init (λ _=>0) [] 0)
  goal:u.goal=(factsK t.goal ++ (List.range t.jobs.length).map (λ i=>(((1,i):Ky),(0:Int))) ++ [((5,0),0)]).map (toF t)
  ok:TaskOk u
section
variable {t : Tpl} {s : List Int} {q : Nat → Int} {hs : List Hh} {p : Int} {u : Tsk}
theorem Adz (b:TplOk t) {l:List Fct} (hl:FactsOk t.vars l) {x:KF} (a:x∈factsK l):x.1∈keys t:=by
  obtain ⟨f,hf,rfl⟩:=Ju.1 a;have:=Gn ((V3.1 hl).1 f hf);exact Ew.2 (.inl ⟨rfl,by simp only;omega⟩)
theorem Acg {i:Nat} (h:i < t.jobs.length):((1,i):Ky)∈keys t:=Ew.2 (.inr (.inl ⟨.inl rfl,h⟩))
theorem AdE {i:Nat} (h:i < t.jobs.length):((2,i):Ky)∈keys t:=Ew.2 (.inr (.inl ⟨.inr rfl,h⟩))
theorem Add {v:Nat} (h:v < t.vars.length) (a:wrT t (v:Int)=true):((3,v):Ky)∈keys t:=Ew.2 (.inr (.inr (.inl ⟨rfl,h,a⟩)))
theorem AdM {v:Nat} (h:v < t.vars.length) (a:wrT t (v:Int)=true) (hr:rdT t (v:Int)=true):((4,v):Ky)∈keys t:=Ew.2 (.inr (.inr (.inr (.inl ⟨rfl,h,a,hr⟩))))
theorem AbX:((5,0):Ky)∈keys t:=Ew.2 (.inr (.inr (.inr (.inr rfl))))
def KOk (t:Tpl) (o:KO):Prop:=(∀ x∈o.pre,x.1∈keys t)/\∀ x∈o.effs,x.1∈keys t
theorem Mv (g:TplOk t) {h:Hh} (hi:h.1 < t.jobs.length):KOk t (hapO t h):=by
  unfold KOk hapO;simp only [N1,or_imp,forall_and];refine ⟨⟨⟨⟨λ x d=>Adz g (g.hR h) d,λ x d=>?_⟩,λ x d=>?_⟩,λ x d=>?_⟩,⟨λ x d=>Adz g (g.hW h) d,λ x d=>?_⟩,λ x d=>?_⟩
  . unfold ownP at d;split at d
    . have:x=((1,h.1),(jb t h.1).dur + 1):=(by simpa using d);subst this;exact Acg hi
    . have:x=((1,h.1),0)\/x=((2,h.1),0):=(by simpa using d);rcases this with rfl|rfl
      . exact Acg hi
      . exact AdE hi
  . have:x=((5,0),0):=(by simpa using d);subst this;exact AbX
  . obtain ⟨v,hv,⟨f|⟨f,h2⟩,e⟩|⟨f,e,h2⟩⟩:=LF d
    . subst f;exact Add hv (Ln hi e)
    . subst f;exact AdM hv (Ln hi e) h2
    . subst f;exact Add hv h2
  . obtain ⟨e,h2⟩:=JH d;obtain ⟨⟨a,b⟩,c⟩:=x;simp only at e h2;subst h2;rcases e with rfl|rfl
    . exact Acg hi
    . exact AdE hi
  . obtain ⟨v,hv,⟨rfl,e⟩|⟨rfl,_,e,h2⟩⟩:=Ht.1 d
    . exact Add hv (Ln hi e)
    . exact AdM hv h2 (Tw hi e)
theorem Lp:KOk t W9:=⟨λ x a=>(by have:x=((5,0),0):=(by simpa [W9] using a);subst this;exact AbX),λ x a=>(by have:x=((5,0),1):=(by simpa [W9] using a);subst this;exact AbX)⟩
theorem Lq (b:TplOk t) {i k:Nat} (hi:i < t.jobs.length):KOk t (waitO t i k):=by
  unfold KOk waitO;simp only [N1,or_imp,forall_and];refine ⟨⟨λ x a=>?_,λ x a=>?_⟩,λ x a=>?_,λ x a=>?_⟩
  . split at a
    . exact Adz b (b.over i) a
    . cases a
  . have:x=((1,i),(k:Int))\/x=((5,0),(i:Int) + 1):=(by simpa using a);rcases this with rfl|rfl
    . exact Acg hi
    . exact AbX
  . unfold waitE at a;split at a
    . have:x=((1,i),(k:Int) - 1):=(by simpa using a);subst this;exact Acg hi
    . split at a
      . have:x=((1,i),(jb t i).dur + 1):=(by simpa using a);subst this;exact Acg hi
      . cases a
  . have:x=((5,0),(i:Int) + 2):=(by simpa using a);subst this;exact AbX
theorem KG:KOk t (Z1 t):=by
  unfold KOk Z1;simp only [N1,or_imp,forall_and,R3,P9];refine ⟨λ x a=>?_,⟨λ x a=>?_,λ x a=>?_⟩,λ x a=>?_⟩
  . have:x=((5,0),(t.jobs.length:Int) + 1):=(by simpa using a);subst this;exact AbX
  . obtain ⟨i,hi,rfl⟩:=a;exact AdE hi
  . obtain ⟨y,b,rfl⟩:=a;unfold ksM at b;obtain ⟨v,c,b⟩:=M5.1 b;have c:=P9.1 c;rcases KD.1 b with ⟨rfl,h1⟩|⟨rfl,h1,h2⟩
    . exact Add c h1
    . exact AdM c h1 h2
  . have:x=((5,0),0):=(by simpa using a);subst this;exact AbX
theorem VE {a b:List Fct} (h:a.Perm b) (s:List Int):holdsB a s=holdsB b s:=by
  unfold holdsB;rw [P7,M0,M0];exact ⟨λ c x d=>c x (h.mem_iff.2 d),λ c x d=>c x (h.mem_iff.1 d)⟩
theorem Cmd.at (c:Cmd t u) {k:Nat} {o:KO} (a:(W7 t)[k]?=some o) (hk:KOk t o):∃ p,u.ops[k]?=some p/\p.cost=o.cost/\∀ σ,(holdsB p.pre (enc t σ)=true↔∀ x∈o.pre,σ x.1=x.2)/\Go.Proofs.YtllibjejncelhaaGreatDoor.succ p (enc t σ)=enc t (X3 σ o.effs):=by
  obtain ⟨p,h1,h2,h3,h4⟩:=c.ops k o a;refine ⟨p,h1,h2,λ σ=>⟨?_,?_⟩⟩
  . rw [VE h3];exact Ru hk.1
  . unfold Go.Proofs.YtllibjejncelhaaGreatDoor.succ;rw [h4];exact Tq _ hk.2
theorem Jg {a b x y z:List Int} {C g:Int} (h:PlanR u x a y C):PlanR u y b z g->PlanR u x (a ++ b) z (C + g):=by
  induction h with
  | nil=>intro c;rw [R6];exact c
  | cons d c _ e=>intro f;rw [Q5];exact .cons d c (e f)
theorem LG (c:Cmd t u) {k:Nat} {o:KO} (a:(W7 t)[k]?=some o) (hk:KOk t o) {σ:KSt} (b:∀ x∈o.pre,σ x.1=x.2):PlanR u (enc t σ) [(k:Int)] (enc t (X3 σ o.effs)) o.cost:=by
  obtain ⟨p,h1,h2,h3⟩:=c.at a hk;have:=PlanR.cons h1 ((h3 σ).1.2 b) (.nil (t:=u) (s:=Go.Proofs.YtllibjejncelhaaGreatDoor.succ p (enc t σ)));rw [(h3 σ).2,h2,Int.add_zero] at this;exact this
def Mdt (t:Tpl) (s:List Int) (q:Nat->Int) (hs:List Hh):List Int:=enc t (gst t (afH t s hs) (stA t q hs) hs 0)
def AdJ (h:Hh):Int:=(hNo h:Int)
theorem TA (b:TplOk t) (a:s.length=t.vars.length) (h:Hh):enc t (X3 (gst t (afH t s hs) (stA t q hs) hs 0) (hapO t h).effs)=Mdt t s q (hs ++ [h]):=by
  rw [XP b (by rw [Hc];exact a)];unfold Mdt;rw [UE,Zo];rfl
theorem PH (c:Cmd t u) (f:TplOk t) (d:s.length=t.vars.length):∀ (b a:List Hh),HBok t s q (a ++ b)->PlanR u (Mdt t s q a) (b.map AdJ) (Mdt t s q (a ++ b)) 0
  | [],a,_=>by rw [N7];exact .nil
  | h :: b,a,hb=>by
    have e:a ++ h :: b=(a ++ [h]) ++ b:=(by simp);have g:HBok t s q (a ++ [h]):=HBok.prefix (b:=b) (by rw [<- e];exact hb);have hi:=g.jobs h (by simp);have i:=LG c (Mq hi) (Mv f hi) ((UF f d g.prefix hi).2 g);rw [TA f d] at i;have:=Jg i (PH c f d b (a ++ [h]) (by rw [<- e];exact hb));rw [<- e] at this;have j:(hapO t h).cost + 0=0:=rfl;rw [j] at this;exact this
def Aem (t:Tpl) (s:List Int) (q:Nat->Int):Prop:=0 < t.jobs.length/\∀ i,i < t.jobs.length->0<=q i/\q i<=(jb t i).dur/\(0 < q i->holdsB (jb t i).over s=true)
def nxq (t:Tpl) (q:Nat->Int):Nat->Int:=λ i=>nxc (jb t i).dur (q i)
def qW (t:Tpl) (q:Nat->Int) (i:Nat):Nat->Int:=λ k=>if k < i then nxc (jb t k).dur (q k) else q k
def Acv (t:Tpl) (q:Nat->Int) (i m:Nat):List Int:=(List.range' i m).map λ k=>((wNo t k + (q k).toNat:Nat):Int)
def AdI (t:Tpl) (q:Nat->Int):List Int:=((2 * t.jobs.length:Nat):Int) :: (Acv t q 0 t.jobs.length ++ [((wNo t t.jobs.length:Nat):Int)])
theorem YJ {b:Nat->Int} (h:∀ i,i < t.jobs.length->q i=b i):enc t (gst t s q hs p)=enc t (gst t s b hs p):=by
  refine Mu λ y c=>?_;rcases Ew.1 c with ⟨g1,_⟩|⟨g1|g1,g2⟩|⟨g1,_⟩|⟨g1,_⟩|g1
  . obtain ⟨a,v⟩:=y;simp only at g1;subst g1;rfl
  . obtain ⟨a,v⟩:=y;simp only at g1 g2;subst g1;exact h v g2
  (iterate 3 (obtain ⟨a,v⟩:=y;simp only at g1;subst g1;rfl));subst g1;rfl
theorem UG {i:Nat}:AcD (qW t q i) i (nxc (jb t i).dur (q i))=qW t q (i + 1):=by
  funext k;unfold AcD qW;by_cases h:k=i
  . subst h;rw [if_pos rfl,if_pos (M2 _)]
  . rw [if_neg h];by_cases a:k < i
    . rw [if_pos a,if_pos (by omega)]
    . rw [if_neg a,if_neg (by omega)]
theorem Sj {i:Nat}:qW t q i i=q i:=if_neg (Q2 _)
theorem RB (c:Cmd t u) (b:TplOk t) (a:s.length=t.vars.length) (g:Aem t s q):∀ (m i:Nat),i + m=t.jobs.length->PlanR u (enc t (gst t s (qW t q i) hs ((i:Int) + 1))) (Acv t q i m) (enc t (gst t s (nxq t q) hs ((t.jobs.length:Int) + 1))) 0
  | 0,i,h=>by
    have:i=t.jobs.length:=(by omega);subst this;have e:enc t (gst t s (qW t q t.jobs.length) hs ((t.jobs.length:Int) + 1))=enc t (gst t s (nxq t q) hs ((t.jobs.length:Int) + 1)):=YJ λ i hi=>(by unfold qW nxq;rw [if_pos hi]);rw [e];exact .nil
  | m + 1,i,h=>by
    obtain ⟨k,h2,h3⟩:=g.2 i (by omega);have hd:=b.dur i;have hk:(jb t i).dur.toNat ≥ (q i).toNat:=(by omega);have d:((q i).toNat:Int)=q i:=(by omega);have j:=LG c (Lm (t:=t) (i:=i) (by omega) hk) (Lq b (by omega)) (σ:=gst t s (qW t q i) hs ((i:Int) + 1)) ((Ty b a).2 ⟨λ l=>h3 (by omega),by rw [Sj,d],rfl⟩);rw [Rz (by rw [Sj,d]),d,UG] at j;have f:=Jg j (by have:=RB c b a g m (i + 1) (by omega);rw [show (((i + 1:Nat)):Int) + 1=(i:Int) + 2 from by omega] at this;exact this);rw [show (waitO t i (q i).toNat).cost + 0=0 from rfl] at f;unfold Acv at f ⊢;rw [List.range'_succ,Q0];exact f
theorem XQ (c:Cmd t u) (h:TplOk t) (a:s.length=t.vars.length) (b:Aem t s q):PlanR u (enc t (gst t s q hs 0)) (AdI t q) (enc t (gst t s (nxq t q) [] 0)) 1:=by
  have e:=LG c (Ll b.1) Lp (σ:=gst t s q hs 0) (λ x d=>by
    have:x=((5,0),0):=(by simpa [W9] using d);subst this;rfl)
  rw [Ry] at e;have f:=RB c h a b (hs:=hs) t.jobs.length 0 (by omega);have i:qW t q 0=q:=(by funext k;unfold qW;rw [if_neg (by omega)]);rw [i,show (((0:Nat)):Int) + 1=1 from rfl] at f;have g:=LG c (Mr b.1) KG (σ:=gst t s (nxq t q) hs ((t.jobs.length:Int) + 1)) (λ x d=>by
    have:x=((5,0),(t.jobs.length:Int) + 1):=(by simpa [Z1] using d);subst this;rfl)
  rw [Tz] at g;exact Jg e (Jg f g)
inductive Trc (t:Tpl):List Int->(Nat->Int)->List Hh->List (List Hh)->List Int->(Nat->Int)->Prop
  | last {s:List Int} {q:Nat->Int} {b:List Hh}:HBok t s q b->Trc t s q b [] (afH t s b) (stA t q b)
  | more {s:List Int} {q:Nat->Int} {b b':List Hh} {bs:List (List Hh)} {s':List Int} {q':Nat->Int}:HBok t s q b->Aem t (afH t s b) (stA t q b)->Trc t (afH t s b) (nxq t (stA t q b)) b' bs s' q'->Trc t s q b (b' :: bs) s' q'
def plR (t:Tpl):(Nat->Int)->List (List Hh)->List Int
  | _,[]=>[]
  | q,b :: bs=>AdI t q ++ (b.map AdJ ++ plR t (stA t (nxq t q) b) bs)
def pl (t:Tpl) (q:Nat->Int) (b:List Hh) (bs:List (List Hh)):List Int:=b.map AdJ ++ plR t (stA t q b) bs
theorem Trc.len {b:List Hh} {bs:List (List Hh)} {a:List Int} {c:Nat->Int} (h:Trc t s q b bs a c):a.length=s.length:=by
  induction h with
  | last _=>exact Hc _ _
  | more _ _ _ d=>rw [d,Hc]
theorem Zp (c:Cmd t u) (d:TplOk t) {b:List Hh} {bs:List (List Hh)} {e:List Int} {f:Nat->Int} (h:Trc t s q b bs e f):s.length=t.vars.length->∃ hl,PlanR u (enc t (gst t s q [] 0)) (pl t q b bs) (enc t (gst t e f hl 0)) bs.length:=by
  induction h with
  | @last s q b hb =>
    intro a;refine ⟨b,?_⟩;have:=PH c d a b [] hb;unfold pl plR;rw [N7];exact this
  | @more s q b g bs e f hb i _ j =>
    intro a;obtain ⟨hl,h2⟩:=j (by rw [Hc];exact a);have k:=PH c d a b [] hb;have l:=XQ c d (hs:=b) (by rw [Hc];exact a) i;refine ⟨hl,?_⟩;have:=Jg k (Jg l h2);rw [show (0:Int) + (1 + (bs.length:Int))=((g :: bs).length:Int) from by simp;omega] at this;exact this
theorem WM (t:Tpl) (σ:KSt):(enc t σ)[kpos t (5,0)]?=some (σ (5,0)):=UB σ AbX
theorem Zq (c:Cmd t u) (r:TplOk t) (y:s.length=t.vars.length) {x:List Int} (v:x[kpos t (5,0)]?=some 0):∀ (m i:Nat) (g:List Int) (C:Int),i + m=t.jobs.length→0 < t.jobs.length→PlanR u (enc t (gst t s (qW t q i) hs ((i:Int) + 1))) g x C →
    ∃ f H,g=Acv t q i m ++ (((wNo t t.jobs.length:Nat):Int) :: f)/\C=1 + H/\PlanR u (enc t (gst t s (nxq t q) [] 0)) f x H/\∀ k,i<=k->k < t.jobs.length->0<=q k/\q k<=(jb t k).dur/\(0 < q k->holdsB (jb t k).over s=true):=by
  intro m
  induction m with
  | zero =>
    intro i g C hi w hr;have:i=t.jobs.length:=(by omega);subst this;have e:enc t (gst t s (qW t q t.jobs.length) hs ((t.jobs.length:Int) + 1))=enc t (gst t s (nxq t q) hs ((t.jobs.length:Int) + 1)):=YJ λ i hi=>(by unfold qW nxq;rw [if_pos hi]);rw [e] at hr;generalize hz:enc t (gst t s (nxq t q) hs ((t.jobs.length:Int) + 1))=z at hr;cases hr with
    | nil=>rw [<- hz,WM,Aco] at v;injection v with v;omega
    | @cons _ f _ k o H j a b =>
      subst hz;rcases OC (t:=t) (p:=k) (by rw [<- c.len];exact AO j) with ⟨h,hi,rfl⟩|⟨_,rfl|⟨l,k',hi',hk',rfl⟩|rfl⟩
      . obtain ⟨p,d,g2,g3⟩:=c.at (Mq hi) (Mv r hi);rw [j] at d;cases d;have:=(g3 _).1.1 a ((5,0),0) (by unfold hapO;simp);rw [Aco] at this;simp only at this;omega
      . obtain ⟨p,d,g2,g3⟩:=c.at (Ll w) Lp;rw [j] at d;cases d;have:=(g3 _).1.1 a ((5,0),0) (by unfold W9;simp);rw [Aco] at this;simp only at this;omega
      . obtain ⟨p,d,g2,g3⟩:=c.at (Lm hi' hk') (Lq r hi');rw [j] at d;cases d;have:=(g3 _).1.1 a ((5,0),(l:Int) + 1) (by unfold waitO;simp);rw [Aco] at this;simp only at this;omega
      . obtain ⟨p,d,g2,g3⟩:=c.at (Mr w) KG;rw [j] at d;cases d;rw [(g3 _).2,Tz] at b;exact ⟨f,H,rfl,by rw [g2];rfl,b,λ k E D=>by omega⟩
  | succ m F =>
    intro i g C hi w hr;generalize hz:enc t (gst t s (qW t q i) hs ((i:Int) + 1))=z at hr;cases hr with
    | nil=>rw [<- hz,WM,Aco] at v;injection v with v;omega
    | @cons _ f _ k o H j a b =>
      subst hz;rcases OC (t:=t) (p:=k) (by rw [<- c.len];exact AO j) with ⟨h,hi,rfl⟩|⟨_,rfl|⟨l,k',hi',hk',rfl⟩|rfl⟩
      . obtain ⟨p,d,g2,g3⟩:=c.at (Mq hi) (Mv r hi);rw [j] at d;cases d;have:=(g3 _).1.1 a ((5,0),0) (by unfold hapO;simp);rw [Aco] at this;simp only at this;omega
      . obtain ⟨p,d,g2,g3⟩:=c.at (Ll w) Lp;rw [j] at d;cases d;have:=(g3 _).1.1 a ((5,0),0) (by unfold W9;simp);rw [Aco] at this;simp only at this;omega
      . obtain ⟨p,d,g2,g3⟩:=c.at (Lm hi' hk') (Lq r hi');rw [j] at d;cases d;obtain ⟨G,w2,w3⟩:=(Ty r y).1 ((g3 _).1.1 a);have A:l=i:=(by omega);subst A;rw [Sj] at w2;have B:(q l).toNat=k':=(by omega);rw [(g3 _).2,Rz (by rw [Sj];exact w2),<- w2,UG,show (l:Int) + 2=((l + 1:Nat):Int) + 1 from by omega] at b;obtain ⟨n,D',r1,r2,r3,r4⟩:=F (l + 1) f H (by omega) w b;refine ⟨n,D',?_,?_,r3,λ k E D=>?_⟩
        . unfold Acv;rw [List.range'_succ,Q0,L7];unfold Acv at r1;rw [r1,B]
        . rw [g2,r2];show (0:Int) + _=_;rw [R6]
        . by_cases he:k=l
          . subst he;have:=r.dur k;exact ⟨by omega,by omega,λ h=>G (by omega)⟩
          . exact r4 k (by omega) D
      . obtain ⟨p,d,g2,g3⟩:=c.at (Mr w) KG;rw [j] at d;cases d;have:=(g3 _).1.1 a ((5,0),(t.jobs.length:Int) + 1) (by unfold Z1;simp);rw [Aco] at this;simp only at this;omega
theorem Zr (c:Cmd t u) (m:TplOk t) {x:List Int} (E:x[kpos t (5,0)]?=some 0):∀ (N:Nat) (b:List Int),b.length≤N→∀ (s:List Int) (q:Nat→Int) (hs:List Hh) (C:Int),s.length=t.vars.length→HBok t s q hs→PlanR u (Mdt t s q hs) b x C →
    ∃ d bs v A w,Trc t s q (hs ++ d) bs (afH t v w) (stA t A w)/\b=d.map AdJ ++ plR t (stA t q (hs ++ d)) bs/\x=Mdt t v A w/\HBok t v A w/\v.length=t.vars.length/\C=bs.length:=by
  intro N
  induction N with
  | zero =>
    intro b hl s q hs C e hb hr;have:b=[]:=D6.1 (by omega);subst this;cases hr with
    | nil=>exact ⟨[],[],s,q,hs,by rw [N7];exact .last hb,by rw [N7];rfl,rfl,hb,e,rfl⟩
  | succ N D =>
    intro b hl s q hs C e hb hr;generalize hz:Mdt t s q hs=z at hr;cases hr with
    | nil=>subst hz;exact ⟨[],[],s,q,hs,by rw [N7];exact .last hb,by rw [N7];rfl,rfl,hb,e,rfl⟩
    | @cons _ l _ k o H n f a =>
      subst hz;simp only [L6] at hl;rcases OC (t:=t) (p:=k) (by rw [<- c.len];exact AO n) with ⟨h,hi,rfl⟩|⟨y,rfl|⟨F,k',hi',hk',rfl⟩|rfl⟩
      . obtain ⟨p,g,g2,g3⟩:=c.at (Mq hi) (Mv m hi);rw [n] at g;cases g;have B:=(UF m e hb hi).1 ((g3 _).1.1 f);unfold Mdt at a;rw [(g3 _).2,TA m e] at a;obtain ⟨d,bs,s',q',hl',r1,r2,r3,r5,r6,r4⟩:=D l (by omega) s q (hs ++ [h]) H e B a;refine ⟨h :: d,bs,s',q',hl',by rw [List.append_cons];exact r1,?_,r3,r5,r6,?_⟩
        . rw [r2,show hs ++ h :: d=hs ++ [h] ++ d from by simp];rfl
        . rw [g2,r4];show (0:Int) + _=_;rw [R6]
      . obtain ⟨p,g,g2,g3⟩:=c.at (Ll y) Lp;rw [n] at g;cases g;unfold Mdt at a;rw [(g3 _).2,Ry] at a;have G:qW t (stA t q hs) 0=stA t q hs:=(by funext k;unfold qW;rw [if_neg (by omega)]);rw [<- G] at a;obtain ⟨j,D',r1,r2,r3,r4⟩:=Zq c m (by rw [Hc];exact e) E t.jobs.length 0 l H (by omega) y a;have r:j.length<=N:=by
          rw [r1] at hl;simp at hl;omega
        obtain ⟨d,bs,s',q',hl',p1,p2,p3,p5,p6,p4⟩:=D j r (afH t s hs) (nxq t (stA t q hs)) [] D' (by rw [Hc];exact e) (HBok.nil _ _) r3;rw [N6] at p1 p2;refine ⟨[],d :: bs,s',q',hl',by rw [N7];exact .more hb ⟨y,λ i hi=>r4 i (S0 _) hi⟩ p1,?_,p3,p5,p6,?_⟩
        . rw [N7,List.map_nil,N6,plR,r1,p2];unfold AdI;simp
        . rw [g2,r2,p4];show (0:Int) + _=_;simp;omega
      . obtain ⟨p,g,g2,g3⟩:=c.at (Lm hi' hk') (Lq m hi');rw [n] at g;cases g;have:=(g3 _).1.1 f ((5,0),(F:Int) + 1) (by unfold waitO;simp);rw [Aco] at this;simp only at this;omega
      . obtain ⟨p,g,g2,g3⟩:=c.at (Mr y) KG;rw [n] at g;cases g;have:=(g3 _).1.1 f ((5,0),(t.jobs.length:Int) + 1) (by unfold Z1;simp);rw [Aco] at this;simp only at this;omega
theorem TB (c:Cmd t u) (b:TplOk t) (d:s.length=t.vars.length):holdsB u.goal (enc t (gst t s q hs p))=true↔holdsB t.goal s=true/\(∀ i,i < t.jobs.length->q i=0)/\p=0:=by
  rw [c.goal,Ru (by
    simp only [N1,or_imp,forall_and,R3,P9];refine ⟨⟨λ x a=>Adz b b.goal.2 a,λ x a=>?_⟩,λ x a=>?_⟩
    . obtain ⟨i,hi,rfl⟩:=a;exact Acg hi
    . have:x=((5,0),0):=(by simpa using a);subst this;exact AbX)]
  simp only [N1,or_imp,forall_and,R3,P9];rw [LE b.goal.2 d,and_assoc];constructor
  . rintro ⟨e,h2,h3⟩;exact ⟨e,λ i hi=>h2 ((1,i),0) ⟨i,hi,rfl⟩,h3 ((5,0),0) (by simp)⟩
  . rintro ⟨e,h2,h3⟩;refine ⟨e,λ x a=>?_,λ x a=>?_⟩
    . obtain ⟨i,hi,rfl⟩:=a;exact h2 i hi
    . have:x=((5,0),0):=(by simpa using a);subst this;exact h3
end
end
section
open Go Go.RowKit
section
variable {t : Tpl} {s : List Int} {q : Nat → Int} {l : List Lch}
theorem TC:∀ {w:List Fct} {s a:List Int} {v:Nat},s.length=a.length->s[v]?=a[v]?->(wrL s w)[v]?=(wrL a w)[v]?
  | [],_,_,_,_,h=>h
  | f :: w,s,a,v,hl,h=>by
    show (wrL (s.set f.var.toNat f.val) w)[v]?=(wrL (a.set f.var.toNat f.val) w)[v]?
    refine TC (by simp [hl]) ?_;rw [K2,K2,hl,h]
theorem Zs (d:TplOk t) {a b:Hh} (h:¬ IntF t a b) (s:List Int):wrL (wrL s (hW t a)) (hW t b)=wrL (wrL s (hW t b)) (hW t a):=by
  refine K0 λ v=>?_;by_cases c:hasV (hW t a) (v:Int)=true
  . have hb:hasV (hW t b) (v:Int)=false:=by
      rw [K5];intro hb;exact h ⟨_,.inl ⟨c,.inl hb⟩⟩
    rw [Mt (Lo (d.hW b) hb)];exact TC (Ms _ _).symm (Mt (Lo (d.hW b) hb)).symm
  . have c:=K5.2 c;rw [Mt (s:=wrL s (hW t b)) (Lo (d.hW a) c)];exact TC (Ms _ _) (Mt (Lo (d.hW a) c))
theorem XR (f:TplOk t) {a b:List Hh} (g:a.Perm b) (hn:a.Pairwise λ x y=>¬ IntF t x y) (s:List Int):afH t s a=afH t s b:=by
  have c:∀ x∈a,∀ y∈a,x=y\/¬ IntF t x y:=by
    intro x d y e;obtain ⟨i,hi,rfl⟩:=I2 d;obtain ⟨j,hj,rfl⟩:=I2 e;rcases L1 i j with h|h|h
    . exact .inr (C3.1 hn i j hi hj h)
    . subst h;exact .inl rfl
    . exact .inr λ k=>C3.1 hn j i hj hi h k.symm
  unfold afH;refine g.foldl_eq' (λ x d y e z=>?_) s;rcases c x d y e with rfl|h
  . rfl
  . exact Zs f h z
end
end
section
section
variable {α : Type}
inductive WkN (nx:α->Nat->α->Prop) (m:Nat) (b:α):Nat->α->Prop
  | zero:WkN nx m b 0 b
  | succ {n k:Nat} {x y:α}:WkN nx m b n x->k < m->nx x k y->WkN nx m b (n + 1) y
inductive Wlf (nx:α->Nat->α->Prop) (gl:α->Nat->Prop) (m:Nat):α->Nat->Prop
  | goal {x:α} {k:Nat}:k < m->gl x k->Wlf nx gl m x 0
  | more {x y:α} {n k:Nat}:k < m->nx x k y->Wlf nx gl m y n->Wlf nx gl m x (n + 1)
variable {nx : α → Nat → α → Prop} {gl : α → Nat → Prop} {m : Nat} {b : α}
theorem WkN.to {n:Nat} {x:α} (h:WkN nx m b n x):∀ j,Wlf nx gl m x j->Wlf nx gl m b (n + j):=by
  induction h with
  | zero=>intro j hj;rw [R0];exact hj
  | @succ n k x y _ hk hn a =>
    intro j hj;have:=a (j + 1) (.more hk hn hj);rwa [show n + 1 + j=n + (j + 1) from by omega]
theorem Wlf.out {x:α} {j:Nat} (h:Wlf nx gl m x j):∀ n,WkN nx m b n x->∃ y k,WkN nx m b (n + j) y/\k < m/\gl y k:=by
  induction h with
  | goal hk a=>exact λ n hn=>⟨_,_,hn,hk,a⟩
  | @more x y j k hk hn _ c =>
    intro n d;have:=c (n + 1) (.succ d hk hn);rwa [show n + 1 + j=n + (j + 1) from by omega] at this
structure LyI (nx:α->Nat->α->Prop) (gl:α->Nat->Prop) (m:Nat) (b:α) (T:Nat) (seen layer:List α):Prop where
  nod:seen.Nodup
  mem:∀ y,y∈seen↔∃ n,n<=T/\WkN nx m b n y
  lay:∀ y∈layer,WkN nx m b T y
  cov:∀ y,WkN nx m b T y->y∈layer\/∃ n,n < T/\WkN nx m b n y
  nog:∀ n,n < T->¬ Wlf nx gl m b n
  big:layer=[]\/T < seen.length
structure InI (nx:α->Nat->α->Prop) (gl:α->Nat->Prop) (m:Nat) (b:α) (T:Nat) (seen0 layer:List α) (a kk:Nat) (seen next:List α):Prop where
  nod:seen.Nodup
  mem:∀ y,y∈seen↔y∈seen0\/y∈next
  nxt:∀ y∈next,WkN nx m b (T + 1) y
  done:∀ (i k:Nat) x y,(i < a/\k < m\/i=a/\k < kk)->layer[i]?=some x->nx x k y->y∈seen
  nog:∀ (i k:Nat) x,(i < a/\k < m\/i=a/\k < kk)->layer[i]?=some x->¬ gl x k
  len:seen.length=seen0.length + next.length
variable {T : Nat} {seen0 layer seen next : List α} {a kk : Nat}
theorem LyI.init:LyI nx gl m b 0 [b] [b]:=by
  refine ⟨by simp,λ y=>?_,λ y a=>?_,λ y a=>?_,λ n hn=>by omega,.inr (by simp)⟩
  . rw [J3];constructor
    . rintro rfl;exact ⟨0,R7 _,.zero⟩
    . rintro ⟨n,hn,c⟩;cases c with
      | zero=>rfl
      | succ=>omega
  . rw [J3] at a;subst a;exact .zero
  . left;cases a;simp
theorem LyI.start (h:LyI nx gl m b T seen layer):InI nx gl m b T seen layer 0 0 seen [] :=
  ⟨h.nod,λ y=>by simp,λ y a=>by simp at a,λ i k x y c=>by omega,λ i k x c=>by omega,by simp⟩
theorem InI.row (h:InI nx gl m b T seen0 layer a m seen next):InI nx gl m b T seen0 layer (a + 1) 0 seen next :=
  { h with done:=λ i k x y c=>h.done i k x y (by omega),nog:=λ i k x c=>h.nog i k x (by omega) }
theorem InI.skip (h:InI nx gl m b T seen0 layer a kk seen next) {x:α} (f:layer[a]?=some x) (hn:∀ y,nx x kk y→y∈seen) (g:¬ gl x kk):InI nx gl m b T seen0 layer a (kk + 1) seen next :=
  { h with
    done:=λ i k d y j hi c=>by
      by_cases e:i=a/\k=kk
      . obtain ⟨rfl,rfl⟩:=e;rw [f] at hi;cases hi;exact hn y c
      . exact h.done i k d y (by omega) hi c
    nog := λ i k d j hi c=>by
      by_cases e:i=a/\k=kk
      . obtain ⟨rfl,rfl⟩:=e;rw [f] at hi;cases hi;exact g c
      . exact h.nog i k d (by omega) hi c }
theorem InI.add (h:InI nx gl m b T seen0 layer a kk seen next) {y:α} (hn:y ∉ seen) (d:WkN nx m b (T + 1) y):InI nx gl m b T seen0 layer a kk (seen ++ [y]) (next ++ [y]):=by
  refine ⟨?_,λ z=>?_,λ z hz=>?_,λ i k x z f hi hz=>G0 _ (h.done i k x z f hi hz),h.nog,by simp [h.len];omega⟩
  . rw [K3];exact ⟨h.nod,by simp,λ u hu v c=>by rw [J3] at c;subst c;exact λ e=>hn (e ▸ hu)⟩
  . rw [N1,N1,h.mem z,or_assoc]
  . rcases N1.1 hz with hz|hz
    . exact h.nxt z hz
    . rw [J3] at hz;subst hz;exact d
theorem InI.goal (hl:LyI nx gl m b T seen0 layer) {x:α} (c:layer[a]?=some x) (hk:kk < m) (d:gl x kk):Wlf nx gl m b T/\∀ n,Wlf nx gl m b n->T<=n :=
  ⟨by have:=(hl.lay x (G2 c)).to 0 (.goal hk d);rwa [Q9] at this,λ n hn=>N0 λ hlt=>hl.nog n hlt hn⟩
theorem LyI.nogT (hl:LyI nx gl m b T seen0 layer) (h:InI nx gl m b T seen0 layer layer.length 0 seen next):¬ Wlf nx gl m b T:=λ d=>by
  obtain ⟨y,k,c,w2,w3⟩:=d.out 0 .zero;rw [R0] at c;rcases hl.cov y c with a|⟨n,hn,a⟩
  . obtain ⟨i,hi⟩:=G6 a;exact h.nog i k y (.inl ⟨(B7.1 hi).1,w2⟩) hi w3
  . exact hl.nog n hn (by have:=a.to 0 (.goal w2 w3);rwa [Q9] at this)
theorem InI.fin (hl:LyI nx gl m b T seen0 layer) (d:layer≠[]) (h:InI nx gl m b T seen0 layer layer.length 0 seen next):LyI nx gl m b (T + 1) seen next:=by
  have a:∀ y,WkN nx m b (T + 1) y->y∈seen:=λ y hy=>by
    cases hy with
    | @succ _ k x _ f hk hn =>
      rcases hl.cov x f with hm|⟨n,h1,h2⟩
      . obtain ⟨i,hi⟩:=G6 hm;exact h.done i k x y (.inl ⟨(B7.1 hi).1,hk⟩) hi hn
      . exact (h.mem y).2 (.inl ((hl.mem y).2 ⟨n + 1,by omega,.succ h2 hk hn⟩))
  refine ⟨h.nod,λ y=>?_,h.nxt,λ y hy=>?_,λ n hn=>?_,?_⟩
  . constructor
    . intro hy;rcases (h.mem y).1 hy with hy|hy
      . obtain ⟨n,h1,h2⟩:=(hl.mem y).1 hy;exact ⟨n,by omega,h2⟩
      . exact ⟨T + 1,R7 _,h.nxt y hy⟩
    . rintro ⟨n,h1,h2⟩;by_cases e:n=T + 1
      . subst e;exact a y h2
      . exact (h.mem y).2 (.inl ((hl.mem y).2 ⟨n,by omega,h2⟩))
  . rcases (h.mem y).1 (a y hy) with hy|hy
    . obtain ⟨n,h1,h2⟩:=(hl.mem y).1 hy;exact .inr ⟨n,by omega,h2⟩
    . exact .inl hy
  . by_cases e:n=T
    . subst e;exact hl.nogT h
    . exact hl.nog n (by omega)
  . have hb:=hl.big.resolve_left d;have c:=h.len;cases next with
    | nil=>exact .inl rfl
    | cons x l=>right;simp only [L6] at c;omega
theorem LyI.stop (hl:LyI nx gl m b T seen []):∀ n,¬ Wlf nx gl m b n:=by
  have a:∀ n y,WkN nx m b n y->∃ j,j < T/\WkN nx m b j y:=by
    intro n y c;have d:∀ y,WkN nx m b T y->∃ j,j < T/\WkN nx m b j y:=λ y c=>(hl.cov y c).resolve_left (by simp)
    induction c with
    | zero =>
      by_cases e:0 < T
      . exact ⟨0,e,.zero⟩
      . have:T=0:=(by omega);subst this;exact d _ .zero
    | succ _ hk hn g =>
      obtain ⟨j,j1,j2⟩:=g;have f:=WkN.succ j2 hk hn;by_cases e:j + 1 < T
      . exact ⟨j + 1,e,f⟩
      . have:j + 1=T:=(by omega);subst this;exact d _ f
  intro n h;obtain ⟨y,k,w1,w2,w3⟩:=h.out 0 .zero;obtain ⟨j,j1,j2⟩:=a _ _ w1;exact hl.nog j j1 (by have:=j2.to 0 (.goal w2 w3);rwa [Q9] at this)
end
end
section
open Go Go.RowKit
section
variable {t : Tpl} {s : List Int} {q : Nat → Int} {l : List Int} {k : Nat}
def lq (a v:Int):Int:=if v=0 then a + 1 else if v < 0 then 0 else v
def lAt (l:List Int) (i:Nat):Int:=match l[i]? with|some v=>v|none=>-1
def qL (t:Tpl) (l:List Int) (i:Nat):Int:=lq (jb t i).dur (lAt l i)
def Ab8 (l:List Int) (k i:Nat):List Hh:=if k.testBit i=true then [(i,false)] else if lAt l i=0 then [(i,true)] else []
def Y0 (l:List Int) (k n:Nat):List Hh:=(List.range n).flatMap (Ab8 l k)
def lft (t:Tpl) (l:List Int) (k i:Nat):Int:=if k.testBit i=true then (jb t i).dur else if lAt l i=0 then -1 else lAt l i
def X4 (v:Int):Int:=if 0 < v then v - 1 else v
def lfL (t:Tpl) (l:List Int) (k:Nat):List Int:=(List.range t.jobs.length).map (lft t l k)
def blk (t:Tpl) (l:List Int) (k:Nat):List Hh:=Y0 l k t.jobs.length
structure StK (t:Tpl) (s l:List Int) (k:Nat):Prop where
  beg:∀ i,i < t.jobs.length->k.testBit i=true->lAt l i < 0
  reads:∀ h∈blk t l k,holdsB (hR t h) s=true
  non:(blk t l k).Pairwise λ a b=>¬ IntF t a b
  over:∀ i,i < t.jobs.length->0<=lft t l k i->holdsB (jb t i).over (afH t s (blk t l k))=true
structure NdW (t:Tpl) (s l:List Int):Prop where
  st:StateOk t.vars s
  len:l.length=t.jobs.length
  rng:∀ i,i < t.jobs.length->-1<=lAt l i/\lAt l i < (jb t i).dur
theorem Jh (n:Nat):Y0 l k (n + 1)=Y0 l k n ++ Ab8 l k n:=by
  unfold Y0;rw [P8,I0];simp
theorem PI {i:Nat} {h:Hh}:h∈Ab8 l k i↔h.1=i/\(h.2=false/\k.testBit i=true\/h.2=true/\¬ k.testBit i=true/\lAt l i=0):=by
  obtain ⟨a,b⟩:=h;unfold Ab8;by_cases c:k.testBit i=true
  . rw [if_pos c];simp [c]
  . rw [if_neg c];by_cases d:lAt l i=0
    . rw [if_pos d];simp [c,d]
    . rw [if_neg d];simp [c,d]
theorem Ie {n:Nat} {h:Hh}:h∈Y0 l k n↔h.1 < n/\(h.2=false/\k.testBit h.1=true\/h.2=true/\¬ k.testBit h.1=true/\lAt l h.1=0):=by
  unfold Y0;rw [M5];constructor
  . rintro ⟨i,hi,hh⟩;obtain ⟨rfl,h2⟩:=PI.1 hh;exact ⟨P9.1 hi,h2⟩
  . rintro ⟨a,h2⟩;exact ⟨h.1,P9.2 a,PI.2 ⟨rfl,h2⟩⟩
theorem Lr:∀ n,((Y0 l k n).map (·.1)).Nodup
  | 0=>by simp [Y0]
  | n + 1=>by
    rw [Jh,P3,K3];refine ⟨Lr n,?_,λ a c b hb=>?_⟩
    . unfold Ab8;split
      . simp
      . split<;>simp
    . obtain ⟨x,hx,rfl⟩:=R3.1 c;obtain ⟨y,hy,rfl⟩:=R3.1 hb;have d:=(Ie.1 hx).1;have e:=(PI.1 hy).1;omega
theorem Zt {i:Nat} (hi:i < t.jobs.length):stA t q (blk t l k) i=if k.testBit i=true then (jb t i).dur else if lAt l i=0 then 0 else q i:=by
  unfold blk;by_cases a:k.testBit i=true
  . rw [if_pos a];have:=Kb (t:=t) (q:=q) (Lr t.jobs.length) (Ie (l:=l) (h:=(i,false)).2 ⟨hi,.inl ⟨rfl,a⟩⟩);simpa using this
  . rw [if_neg a];by_cases b:lAt l i=0
    . rw [if_pos b];have:=Kb (t:=t) (q:=q) (Lr t.jobs.length) (Ie (l:=l) (h:=(i,true)).2 ⟨hi,.inr ⟨rfl,a,b⟩⟩);simpa using this
    . rw [if_neg b];refine IE λ h c he=>?_;obtain ⟨_,h3|h3⟩:=Ie.1 c
      . rw [he] at h3;exact a h3.2
      . rw [he] at h3;exact b h3.2.2
def Ps2 (t:Tpl) (s:List Int) (q:Nat->Int):Prop:=∀ i,i < t.jobs.length->0<=q i/\q i<=(jb t i).dur/\(0 < q i->holdsB (jb t i).over s=true)
theorem MY (d:TplOk t) {i:Nat} (hi:i < t.jobs.length) (e:NdW t s l) (f:q i=qL t l i):stA t q (blk t l k) i=(if lft t l k i < 0 then 0 else lft t l k i)∧-1≤lft t l k i∧lft t l k i≤(jb t i).dur∧lft t l k i≠0:=by
  have hd:=d.dur i;have hr:=e.rng i hi;rw [Zt hi,f];unfold lft qL lq;by_cases b:k.testBit i=true
  . rw [if_pos b,if_pos b,if_neg (by omega)];exact ⟨rfl,by omega,by omega,by omega⟩
  . rw [if_neg b,if_neg b];by_cases a:lAt l i=0
    . rw [if_pos a,if_pos a,if_pos (by omega)];exact ⟨rfl,by omega,by omega,by omega⟩
    . rw [if_neg a,if_neg a,if_neg a];by_cases c:lAt l i < 0
      . rw [if_pos c];exact ⟨rfl,by omega,by omega,by omega⟩
      . rw [if_neg c];exact ⟨rfl,by omega,by omega,by omega⟩
theorem UH {f:Nat->Int} {n i:Nat} (hi:i < n):lAt ((List.range n).map f) i=f i:=by
  unfold lAt;rw [K1,I1 hi];rfl
theorem WN {a:List Int}:∀ {w:List Fct} {s:List Int},(∀ f∈w,X1 a f)->StateOk a s->StateOk a (wrL s w)
  | [],_,_,h=>h
  | f :: w,s,hw,h=>by
    refine WN (s:=s.set f.var.toNat f.val) (λ g j=>hw g (G1 _ j)) ⟨by rw [N9];exact h.1,λ i x y b c=>?_⟩;obtain ⟨k,h2,z,d,h4⟩:=hw f J0;by_cases e:f.var.toNat=i
    . subst e;rw [c] at d;cases d;rw [E6 (by rw [h.1];exact AO c)] at b;cases b;exact ⟨h2,h4⟩
    . rw [H1 e] at b;exact h.2 i x y b c
theorem WO (a:TplOk t):∀ {hs:List Hh} {s:List Int},StateOk t.vars s->StateOk t.vars (afH t s hs)
  | [],_,h=>h
  | x :: hs,s,h=>WO a (hs:=hs) (WN (V3.1 (a.hW x)).1 h)
theorem Sk (a:TplOk t) (b:NdW t s l):NdW t (afH t s (blk t l k)) ((lfL t l k).map X4):=by
  refine ⟨WO a b.st,by unfold lfL;simp,λ i hi=>?_⟩;have h:=(MY a (k:=k) hi b rfl).2;have hd:=a.dur i;unfold lfL;rw [R5,UH hi];show -1<=X4 (lft t l k i)/\X4 (lft t l k i) < _;unfold X4;split<;>omega
theorem YK (b:TplOk t) (c:NdW t s l) {i:Nat} (hi:i < t.jobs.length) (d:q i=qL t l i):nxq t (stA t q (blk t l k)) i=qL t ((lfL t l k).map X4) i:=by
  obtain ⟨f,h2,h3,h4⟩:=MY b (k:=k) hi c d;have hd:=b.dur i;unfold nxq qL lfL;rw [R5,UH hi,f];show _=lq _ (X4 (lft t l k i));generalize lft t l k i=v at *
  by_cases a:v < 0
  . have e:X4 v=v:=if_neg (by omega);rw [if_pos a,e];unfold nxc lq;rw [if_neg (by omega),if_neg (by omega),if_neg h4,if_pos a]
  . have e:X4 v=v - 1:=if_pos (by omega);rw [if_neg a,e];unfold nxc lq;by_cases g:v=1
    . subst g;rw [if_neg (by omega),if_pos rfl,if_pos (by omega)]
    . rw [if_pos (by omega),if_neg (by omega),if_neg (by omega)]
theorem StK.hb (d:NdW t s l) (hk:StK t s l k) (c:∀ i,i < t.jobs.length->q i=qL t l i):HBok t s q (blk t l k):=by
  refine ⟨λ h a=>(Ie.1 a).1,hk.non,Lr _,λ h a=>?_,hk.reads⟩;obtain ⟨b,h2|h2⟩:=Ie.1 a
  . have:=hk.beg h.1 b h2.2;rw [c _ b,h2.1];unfold qL lq;rw [if_neg (by omega),if_pos this];rfl
  . rw [c _ b,h2.1];unfold qL lq;rw [if_pos h2.2.2,if_pos rfl]
theorem StK.ps (a:TplOk t) (b:NdW t s l) (hk:StK t s l k) (d:∀ i,i < t.jobs.length->q i=qL t l i):Ps2 t (afH t s (blk t l k)) (stA t q (blk t l k)):=λ i hi=>by
  obtain ⟨e,h2,h3,h4⟩:=MY a (k:=k) hi b (d i hi);have hd:=a.dur i;rw [e];by_cases c:lft t l k i < 0
  . rw [if_pos c];exact ⟨by omega,by omega,λ f=>by omega⟩
  . rw [if_neg c];exact ⟨by omega,by omega,λ _=>hk.over i hi (by omega)⟩
theorem Zu (P:Nat→Bool):∀ n,∃ k,k < 2 ^ n∧∀ i,i < n→k.testBit i=P i:=by
  intro n
  induction n generalizing P with
  | zero=>exact ⟨0,by simp,λ i hi=>by omega⟩
  | succ n a =>
    obtain ⟨k,h1,h2⟩:=a (λ i=>P (i + 1));refine ⟨2 * k + (P 0).toNat,?_,λ i hi=>?_⟩
    . have:(P 0).toNat<=1:=(by cases P 0<;>decide);rw [Nat.pow_succ];omega
    . cases i with
      | zero =>
        rw [Nat.testBit_zero];cases P 0<;>simp [Nat.add_mod]
      | succ i =>
        rw [Nat.testBit_succ,show (2 * k + (P 0).toNat) / 2=k from by cases P 0<;>simp<;>omega];exact h2 i (by omega)
theorem HBok.permL {a b:List Hh} (h:HBok t s q a) (c:a.Perm b):HBok t s q b :=
  ⟨λ x d=>h.jobs x (c.mem_iff.2 d),(c.pairwise_iff λ {a b} (e:¬ IntF t a b) h2=>e h2.symm).1 h.non,((c.map _).nodup_iff).1 h.nod,λ x d=>h.own x (c.mem_iff.2 d),λ x d=>h.reads x (c.mem_iff.2 d)⟩
theorem Oc {α a:Type} {f:α->a}:∀ {l:List α},(l.map f).Nodup->l.Nodup
  | [],_=>.nil
  | x :: l,h=>by
    rw [Q0,P5] at h;exact P5.2 ⟨λ hm=>h.1 (H8 hm),Oc h.2⟩
theorem Zv {α:Type} [DecidableEq α] {a b:List α} (c:a.Nodup) (hb:b.Nodup) (h:∀ x,x∈a↔x∈b):a.Perm b:=by
  rw [List.perm_iff_count];intro x;rw [c.count,hb.count];simp only [h x]
theorem WP (n:TplOk t) (w:NdW t s l) (v:∀ i,i < t.jobs.length→q i=qL t l i) {b:List Hh} (hb:HBok t s q b) (B:Ps2 t (afH t s b) (stA t q b)):∃ k,k < 2 ^ t.jobs.length∧StK t s l k∧b.Perm (blk t l k)∧afH t s b=afH t s (blk t l k)∧∀ i,i < t.jobs.length→stA t q b i=stA t q (blk t l k) i:=by
  obtain ⟨k,hk,hbit⟩:=Zu (λ i=>decide ((i,false)∈b)) t.jobs.length;have c    : ∀ h,h∈b↔h∈blk t l k:=λ h=>by
    unfold blk;rw [Ie];constructor
    . intro d;have hi:=hb.jobs h d;refine ⟨hi,?_⟩;rw [hbit _ hi];obtain ⟨i,e⟩:=h;cases e with
      | false=>exact .inl ⟨rfl,by simpa using d⟩
      | true =>
        refine .inr ⟨rfl,λ x=>?_,?_⟩
        . have g:(i,false)∈b:=(by simpa using x);have o:=Kb (t:=t) (q:=q) hb.nod d;have y:=Kb (t:=t) (q:=q) hb.nod g;have hd:=n.dur i;simp only at o y;rw [o] at y;simp at y;omega
        . have p:=hb.own _ d;rw [v _ hi,if_pos rfl] at p;have hr:=w.rng i hi;have hd:=n.dur i;unfold qL lq at p;simp only at p hi ⊢;split at p
          . assumption
          . split at p<;>omega
    . rintro ⟨hi,g⟩;rw [hbit _ hi] at g;obtain ⟨i,e⟩:=h;rcases g with ⟨rfl,g⟩|⟨rfl,g,o⟩
      . simpa using g
      . simp only at hi g o ⊢;by_cases a:(i,true)∈b
        . exact a
        . exfalso;have z:(i,false) ∉ b:=(by simpa using g);have A:stA t q b i=q i:=IE λ h d he=>by
            obtain ⟨j,e⟩:=h;simp only at he;subst he;cases e
            . exact z d
            . exact a d
          have:=B i hi;rw [A,v _ hi] at this;unfold qL lq at this;rw [if_pos o] at this;omega
  have f:b.Perm (blk t l k):=Zv (Oc hb.nod) (Oc (Lr _)) c;have r:=XR n f hb.non s;have m:=hb.permL f;have u:∀ i,i < t.jobs.length->stA t q b i=stA t q (blk t l k) i:=λ i hi=>by
    by_cases a:∃ e,(i,e)∈b
    . obtain ⟨e,he⟩:=a;rw [Kb (t:=t) (q:=q) hb.nod he,Kb (t:=t) (q:=q) m.nod ((c _).1 he)]
    . rw [IE λ h d he=>a ⟨h.2,by rw [<- he];exact d⟩,IE λ h d he=>a ⟨h.2,by rw [<- he];exact (c _).2 d⟩]
  refine ⟨k,hk,⟨λ i hi C=>?_,m.reads,m.non,λ i hi C=>?_⟩,f,r,u⟩
  . have this:q i=0:=m.own (i,false) (Ie.2 ⟨hi,.inl ⟨rfl,C⟩⟩);rw [v _ hi] at this;have hr:=w.rng i hi;have hd:=n.dur i;unfold qL lq at this;split at this
    . omega
    . split at this<;>omega
  . rw [<- r];obtain ⟨D,g2,g3,g4⟩:=MY n (k:=k) hi w (v i hi);refine (B i hi).2.2 ?_;rw [u i hi,D,if_neg (by omega)];omega
end
end
section
open Go Go.RowKit
inductive Walk (t:Tsk):List Int->Int->Prop
  | goal {s:List Int}:holdsB t.goal s=true->Walk t s 0
  | step {s:List Int} {k:Nat} {o:Opr} {c:Int}:t.ops[k]?=some o->holdsB o.pre s=true->Walk t (succ o s) c->Walk t s (c + o.cost)
def Inf:Int:=1125899906842624
theorem XS {α:Type} {l:List α} {k:Nat} {x y:α} (h:l[k]?=some x):y∈l.take (k + 1)↔y∈l.take k\/y=x:=by
  rw [K4,h,N1];simp
end
section
open Go Go.RowKit
structure QEn where
  key:Int
  tie:Int
  item:Int
  number:Int
theorem RC {α:Type} {l:List α} {m i:Nat} {x:α} (h:(l.take m)[i]?=some x):l[i]?=some x:=by
  by_cases hi:i < m
  . rwa [List.getElem?_take_of_lt hi] at h
  . rw [List.getElem?_take_eq_none (by omega)] at h;cases h
def bfr (x y:QEn):Prop:=x.key < y.key\/(x.key=y.key/\(x.tie < y.tie\/(x.tie=y.tie/\x.number < y.number)))
instance (x y:QEn):Decidable (bfr x y):=by unfold bfr;infer_instance
def nb (x y:QEn):Prop:=¬ bfr x y
theorem MZ {x y z:QEn} (a:nb x y) (b:nb y z):nb x z:=by unfold nb bfr at *;omega
theorem Sl {x y:QEn} (h:bfr x y):nb y x:=by unfold nb bfr at *;omega
theorem QD (x:QEn):nb x x:=by unfold nb bfr;omega
theorem TD {x y:QEn} (h:nb x y):y.key<=x.key:=by unfold nb bfr at h;omega
def W4 (l:List QEn):Prop:=∀ (j:Nat) x y,0 < j->l[j]?=some x->l[(j - 1) / 2]?=some y->nb x y
def AeS (l:List QEn) (i:Nat):Prop:=∀ (j:Nat) x y,0 < i->0 < j->(j - 1) / 2=i->l[j]?=some x->l[(i - 1) / 2]?=some y->nb x y
def UpI (l:List QEn) (i:Nat):Prop:=(∀ (j:Nat) x y,0 < j->j≠i->l[j]?=some x->l[(j - 1) / 2]?=some y->nb x y)/\AeS l i
def DownI (l:List QEn) (i:Nat):Prop:=(∀ (j:Nat) x y,0 < j->(j - 1) / 2≠i->l[j]?=some x->l[(j - 1) / 2]?=some y->nb x y)/\AeS l i
theorem Mw {l:List QEn} {i j:Nat} {a b:QEn} (hi:l[i]?=some a) (hj:l[j]?=some b) (e:i≠j) (k:Nat):((l.set i b).set j a)[k]?=if k=j then some a else if k=i then some b else l[k]?:=by
  by_cases c:k=j
  . subst c;rw [if_pos rfl,E6 (by simpa using AO hj)]
  . rw [if_neg c,H1 (by omega)];by_cases d:k=i
    . subst d;rw [if_pos rfl,E6 (AO hi)]
    . rw [if_neg d,H1 (by omega)]
theorem TE {l:List QEn} {i j:Nat} {a b:QEn} (hi:l[i]?=some a) (hj:l[j]?=some b):((l.set i b).set j a).Perm l:=by
  have c:=AO hi;have d:=AO hj;have e:l[i]=a:=(by rw [C4 c] at hi;exact N4 hi);have f:l[j]=b:=(by rw [C4 d] at hj;exact N4 hj);rw [<- e,<- f];exact List.set_set_perm c d
theorem UpI.step {l:List QEn} {i:Nat} {a b:QEn} (h:UpI l i) (q:0 < i) (hi:l[i]?=some a) (hj:l[(i - 1) / 2]?=some b) (hb:bfr a b):UpI ((l.set i b).set ((i - 1) / 2) a) ((i - 1) / 2):=by
  have g:i≠(i - 1) / 2:=(by omega);constructor
  . intro j x y e k c d;rw [Mw hi hj g,if_neg k] at c;rw [Mw hi hj g] at d;by_cases f:j=i
    . subst f;rw [if_pos rfl] at c d;obtain rfl:=N4 c;obtain rfl:=N4 d;exact Sl hb
    . rw [if_neg f] at c;by_cases n:(j - 1) / 2=(i - 1) / 2
      . rw [if_pos n] at d;obtain rfl:=N4 d;have:=h.1 j x b e f c (by rw [n];exact hj);exact MZ this (Sl hb)
      . rw [if_neg n] at d;by_cases o:(j - 1) / 2=i
        . rw [if_pos o] at d;obtain rfl:=N4 d;exact h.2 j x b q e o c hj
        . rw [if_neg o] at d;exact h.1 j x y e f c d
  . intro j x y p e k c d;rw [Mw hi hj g] at c d;have r:((i - 1) / 2 - 1) / 2≠(i - 1) / 2:=(by omega);have n2:((i - 1) / 2 - 1) / 2≠i:=(by omega);rw [if_neg r,if_neg n2] at d;have m:=h.1 ((i - 1) / 2) b y p (by omega) hj d;rw [if_neg (by omega)] at c;by_cases f:j=i
    . subst f;rw [if_pos rfl] at c;obtain rfl:=N4 c;exact m
    . rw [if_neg f] at c;exact MZ (h.1 j x b e f c (by rw [k];exact hj)) m
theorem UpI.heap {l:List QEn} {i:Nat} (h:UpI l i) (hi:i=0\/∀ x y,l[i]?=some x->l[(i - 1) / 2]?=some y->nb x y):W4 l:=λ j x y hj a b=>by
  by_cases e:j=i
  . subst e;rcases hi with c|h1
    . omega
    . exact h1 x y a b
  . exact h.1 j x y hj e a b
theorem DownI.step {l:List QEn} {i c:Nat} {a b:QEn} (h:DownI l i) (hc:c=2 * i + 1∨c=2 * i + 2) (hi:l[i]?=some a) (hj:l[c]?=some b) (hb:bfr b a) (hs:∀ (j:Nat) x,0 < j→(j - 1) / 2=i→l[j]?=some x→nb x b):DownI ((l.set i b).set c a) c:=by
  have k:i≠c:=(by omega);have g:(c - 1) / 2=i:=(by omega);constructor
  . intro j x y f n e d;rw [Mw hi hj k] at e d;rw [if_neg n] at d;by_cases p:j=c
    . subst p;rw [if_pos rfl] at e;rw [if_pos g] at d;obtain rfl:=N4 e;obtain rfl:=N4 d;exact Sl hb
    . rw [if_neg p] at e;by_cases q:j=i
      . subst q;rw [if_pos rfl] at e;rw [if_neg (by omega)] at d;obtain rfl:=N4 e;exact h.2 c _ y f (by omega) g hj d
      . rw [if_neg q] at e;by_cases m:(j - 1) / 2=i
        . rw [if_pos m] at d;obtain rfl:=N4 d;exact hs j x f m e
        . rw [if_neg m] at d;exact h.1 j x y f m e d
  . intro j x y r f o e d;rw [Mw hi hj k] at e d;rw [if_neg (by omega),if_neg (by omega)] at e;rw [if_neg (by omega),if_pos g] at d;obtain rfl:=N4 d;exact h.1 j x _ f (by omega) e (by rw [o];exact hj)
theorem DownI.heap {l:List QEn} {i:Nat} (h:DownI l i) (hi:∀ (j:Nat) x y,0 < j->(j - 1) / 2=i->l[j]?=some x->l[i]?=some y->nb x y):W4 l:=λ j x y hj a b=>by
  by_cases e:(j - 1) / 2=i
  . exact hi j x y hj e a (by rw [<- e];exact b)
  . exact h.1 j x y hj e a b
theorem WQ {l:List QEn} (h:W4 l) {e:QEn} (he:l[0]?=some e):∀ x∈l,nb x e:=by
  have b:∀ (n j:Nat) x,j<=n->l[j]?=some x->nb x e:=by
    intro n
    induction n with
    | zero =>
      intro j x hj a;have c:j=0:=(by omega);rw [c,he] at a;rw [<- N4 a];exact QD _
    | succ n d =>
      intro j x hj a;by_cases f:j=0
      . exact d j x (by omega) a
      . obtain ⟨y,hy⟩:=AL (l:=l) (k:=(j - 1) / 2) (by have:=AO a;omega);exact MZ (h j x y (by omega) a hy) (d ((j - 1) / 2) y (by omega) hy)
  intro x a;obtain ⟨j,hj⟩:=G6 a;exact b j j x (by omega) hj
end
end Go.Proofs.YtllibjejncelhaaGreatDoor

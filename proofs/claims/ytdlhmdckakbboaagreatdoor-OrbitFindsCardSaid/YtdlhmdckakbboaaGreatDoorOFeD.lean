/- Own text: what the proof of orbitFinds_holds uses, part 4: rules, models and their proofs, plain laws. -/
import Derived.Test.YtdlhmdckakbboaaGreatDoorOFeC
set_option linter.unusedVariables false
set_option linter.unusedSimpArgs false
namespace Go.Proofs.YtdlhmdckakbboaaGreatDoor
open Go Go.RowKit Go.Proofs.Tryz
section
open Go Go.RowKit Go.ChangeShapes Go.WideShapes Go.Deep
theorem Acf {cs:List Value} (c:cs.length=2):∃ a b,cs=[a,b]:=by
  match cs,c with
  | [a,b],_=>exact ⟨a,b,rfl⟩
theorem Acb {cs:List Value} (d:cs.length=3):∃ a b c,cs=[a,b,c]:=by
  match cs,d with
  | [a,b,c],_=>exact ⟨a,b,c,rfl⟩
theorem AbX {cs:List Value} (e:cs.length=4):∃ a b c d,cs=[a,b,c,d]:=by
  match cs,e with
  | [a,b,c,d],_=>exact ⟨a,b,c,d,rfl⟩
theorem LO:prog.cellsOf 3=1:=by kernel_rfl
theorem Zh:prog.cellsOf 9=1:=by kernel_rfl
theorem TI:prog.cellsOf 22=1:=by kernel_rfl
theorem Oe:prog.cellsOf 23=1:=by kernel_rfl
theorem Yo:prog.cellsOf 41=1:=by kernel_rfl
theorem Zi:prog.cellsOf 24=1:=by kernel_rfl
theorem TJ:prog.cellsOf 45=2:=by kernel_rfl
theorem Wx:prog.cellsOf 47=3:=by kernel_rfl
theorem Yp:prog.cellsOf 43=4:=by kernel_rfl
theorem Yq:prog.cellsOf 26=4:=by kernel_rfl
theorem ZE {i:Type} {enc:TypeId×Value->i} {P:Program} {w:World} {t:TypeId} {b:Array Field} {n:Nat} {cs:List Value} {x:DataW i×List MemPlace} (d:P.underlying t=some (.struct b)) (k:DataW.trod enc P w 0 (λ _=>true) true n t cs=some x) :
    cs.length=P.cellsOf t/\∃ m,∀ (j ty off c:Nat),(b[j]?).map (λ f=>(f.type,f.offset))=some (ty,off)->P.cellsOf ty=c->∃ y,DataW.trod enc P w 0 (λ _=>true) true m ty ((cs.drop off).take c)=some y:=by
  obtain ⟨xs,m,_,_,hl,hx,hf⟩:=DataW.trod_struct d k
  refine ⟨hl,m,λ j ty off c hj hc=>?_⟩
  obtain ⟨e,h1,h2⟩:=D6.1 hj
  injection h2 with g h
  subst g;subst h;subst hc
  have a:j < xs.length:=by rw [hx];exact (Array.getElem?_eq_some_iff.1 h1).1
  exact ⟨xs[j],(hf j e h1).trans (C4 a)⟩
instance:Reads prog 3 Int:=Abm underlying3
instance:Reads prog 22 (List Int):=ZI underlying22 LO
instance:Reads prog 45 Fct:=⟨λ {e enc w n cs x} f=>by
  obtain ⟨hl,m,hf⟩:=ZE underlying45 f
  obtain ⟨a,v1,rfl⟩:=Acf (hl.trans TJ)
  obtain ⟨c,g0⟩:=hf 0 3 0 1 rfl LO
  replace g0:DataW.trod enc prog w 0 (λ _=>true) true m 3 [a]=some c:=g0
  obtain ⟨d,g1⟩:=hf 1 3 1 1 rfl LO
  replace g1:DataW.trod enc prog w 0 (λ _=>true) true m 3 [v1]=some d:=g1
  obtain ⟨z0,e0,q0⟩:=(inferInstance:Reads prog 3 Int).of g0
  obtain rfl:a=.int .i64 z0:=by simpa using e0
  obtain ⟨b,e1,q1⟩:=(inferInstance:Reads prog 3 Int).of g1
  obtain rfl:v1=.int .i64 b:=by simpa using e1
  exact ⟨⟨z0,b⟩,rfl,q0,q1⟩⟩
instance:Reads prog 23 (List Fct):=ZI underlying23 TJ
instance:Reads prog 47 Eff:=⟨λ {g enc w n cs x} h=>by
  obtain ⟨hl,m,hf⟩:=ZE underlying47 h
  obtain ⟨a,v1,v2,rfl⟩:=Acb (hl.trans Wx)
  obtain ⟨d,g0⟩:=hf 0 23 0 1 rfl Oe
  replace g0:DataW.trod enc prog w 0 (λ _=>true) true m 23 [a]=some d:=g0
  obtain ⟨e,g1⟩:=hf 1 3 1 1 rfl LO
  replace g1:DataW.trod enc prog w 0 (λ _=>true) true m 3 [v1]=some e:=g1
  obtain ⟨f,g2⟩:=hf 2 3 2 1 rfl LO
  replace g2:DataW.trod enc prog w 0 (λ _=>true) true m 3 [v2]=some f:=g2
  obtain ⟨z0,q0⟩:=(inferInstance:Reads prog 23 (List Fct)).of g0
  obtain ⟨b,e1,q1⟩:=(inferInstance:Reads prog 3 Int).of g1
  obtain rfl:v1=.int .i64 b:=by simpa using e1
  obtain ⟨c,e2,q2⟩:=(inferInstance:Reads prog 3 Int).of g2
  obtain rfl:v2=.int .i64 c:=by simpa using e2
  exact ⟨⟨z0,b,c⟩,a,rfl,q0,q1,q2⟩⟩
instance:Reads prog 41 (List Eff):=ZI underlying41 Wx
instance:Reads prog 43 Opr:=⟨λ {i enc w n cs x} j=>by
  obtain ⟨hl,m,hf⟩:=ZE underlying43 j
  obtain ⟨a,v1,v2,v3,rfl⟩:=AbX (hl.trans Yp)
  obtain ⟨c,g0⟩:=hf 0 9 0 1 rfl Zh
  replace g0:DataW.trod enc prog w 0 (λ _=>true) true m 9 [a]=some c:=g0
  obtain ⟨d,g1⟩:=hf 1 3 1 1 rfl LO
  replace g1:DataW.trod enc prog w 0 (λ _=>true) true m 3 [v1]=some d:=g1
  obtain ⟨e,g2⟩:=hf 2 23 2 1 rfl Oe
  replace g2:DataW.trod enc prog w 0 (λ _=>true) true m 23 [v2]=some e:=g2
  obtain ⟨f,g3⟩:=hf 3 41 3 1 rfl Yo
  replace g3:DataW.trod enc prog w 0 (λ _=>true) true m 41 [v3]=some f:=g3
  obtain ⟨z0,e0,_,q0⟩:=DataW.trod_string underlying9 g0
  obtain rfl:a=.string z0:=by simpa using e0
  obtain ⟨b,e1,q1⟩:=(inferInstance:Reads prog 3 Int).of g1
  obtain rfl:v1=.int .i64 b:=by simpa using e1
  obtain ⟨g,q2⟩:=(inferInstance:Reads prog 23 (List Fct)).of g2
  obtain ⟨h,q3⟩:=(inferInstance:Reads prog 41 (List Eff)).of g3
  exact ⟨⟨z0,b,g,h⟩,v2,v3,rfl,q2,q3,q1,by simpa [maxLen] using q0⟩⟩
instance:Reads prog 24 (List Opr):=ZI underlying24 Yp
instance:Reads prog 26 Tsk:=⟨λ {i enc w n cs x} j=>by
  obtain ⟨hl,m,hf⟩:=ZE underlying26 j
  obtain ⟨a,v1,v2,v3,rfl⟩:=AbX (hl.trans Yq)
  obtain ⟨b,g0⟩:=hf 0 22 0 1 rfl TI
  replace g0:DataW.trod enc prog w 0 (λ _=>true) true m 22 [a]=some b:=g0
  obtain ⟨c,g1⟩:=hf 1 22 1 1 rfl TI
  replace g1:DataW.trod enc prog w 0 (λ _=>true) true m 22 [v1]=some c:=g1
  obtain ⟨d,g2⟩:=hf 2 23 2 1 rfl Oe
  replace g2:DataW.trod enc prog w 0 (λ _=>true) true m 23 [v2]=some d:=g2
  obtain ⟨e,g3⟩:=hf 3 24 3 1 rfl Zi
  replace g3:DataW.trod enc prog w 0 (λ _=>true) true m 24 [v3]=some e:=g3
  obtain ⟨z0,q0⟩:=(inferInstance:Reads prog 22 (List Int)).of g0
  obtain ⟨f,q1⟩:=(inferInstance:Reads prog 22 (List Int)).of g1
  obtain ⟨g,q2⟩:=(inferInstance:Reads prog 23 (List Fct)).of g2
  obtain ⟨h,q3⟩:=(inferInstance:Reads prog 24 (List Opr)).of g3
  exact ⟨⟨z0,f,g,h⟩,a,v1,v2,v3,rfl,q0,q1,q2,q3⟩⟩
theorem AbC {e:Type} {enc:TypeId×Value->e} {P:Program} {w:World} {t:TypeId} {α:Type} [Rp α] [hr:Reads P t α] {v:Value} {d:DataW e} {p:List MemPlace} (b:Rp.isAgg α=true->∃ cs,v=.agg cs) (c:Rp.isAgg α=false->v.cells.toList=[v])
    (f:DataW.Trod enc P w 0 (λ _=>true) true t v d p):∃ a:α,V w v a:=by
  obtain ⟨n,f⟩:=f
  obtain ⟨a,ha⟩:=hr.of f
  refine ⟨a,?_⟩
  unfold V Vb
  cases hb:Rp.isAgg α with
  | true =>
    obtain ⟨cs,rfl⟩:=b hb
    exact ⟨cs.toList,by simp,ha⟩
  | false =>
    rw [c hb] at ha
    exact ha
end
section
open Go Go.RowKit Go.ChangeShapes Go.WideShapes Go.Deep
theorem Abp {P:Program} {w:World} {t:TypeId} [a:TOne P t] {base:Nat} {v:Value} (hv:Value.okWide P w .any base t v):v.cells.toList=[v]:=by
  obtain ⟨k,hk,hm⟩:=a.eq
  cases v with
  | agg cs=>cases k<;>first|(simp at hm;done)|(simp only [Value.okWide,hk,Cell.okWide] at hv;simp_all [Cell.ok];done)
  | _=>rfl
theorem Abz {P:Program} {w:World} {t:TypeId} [a:TAgg P t] {base:Nat} {v:Value} (hv:Value.okWide P w .any base t v):∃ cs,v=.agg cs:=by
  obtain ⟨k,hk,hm⟩:=a.eq
  cases k<;>first|(simp at hm;done)|(simp only [Value.okWide,hk] at hv;obtain ⟨cs,rfl,_⟩:=hv;exact ⟨cs,rfl⟩)
theorem openOne {b:Type} {enc:TypeId×Value->b} {P:Program} {w:World} {t:TypeId} {α:Type} [Rp α] [Reads P t α] [TOne P t] {base:Nat} {v:Value} {d:DataW b} {p:List MemPlace} (hb:Rp.isAgg α=false) (hv:Value.okWide P w .any base t v)
    (c:DataW.Trod enc P w 0 (λ _=>true) true t v d p):∃ a:α,V w v a :=
  AbC (fun c => by rw [hb] at c; cases c) (fun _ => Abp hv) c
theorem openAgg {b:Type} {enc:TypeId×Value->b} {P:Program} {w:World} {t:TypeId} {α:Type} [Rp α] [Reads P t α] [TAgg P t] {base:Nat} {v:Value} {d:DataW b} {p:List MemPlace} (hb:Rp.isAgg α=true) (hv:Value.okWide P w .any base t v)
    (c:DataW.Trod enc P w 0 (λ _=>true) true t v d p):∃ a:α,V w v a :=
  AbC (fun _ => Abz hv) (fun c => by rw [hb] at c; cases c) c
theorem AbV:ownKnob prog.godebug=none:=by kernel_rfl
theorem AbI:Kids prog (· < prog.types.size):=kids_rows (by kernel_rfl) (by kernel_rfl)
theorem AbO:∀ t e,t < prog.types.size->prog.underlying t=some (.slice e)->0 < prog.cellsOf e:=slices_full_of prog (by kernel_rfl)
theorem AaD {o:Type} {enc:TypeId×Value->o} {q W':World} (h:Ext q W') {i:Nat->Bool}:∀ {f:List TypeId} {vs:List Value} {j:List (DataW o)} {ps:List MemPlace},(∀ t∈f,t < prog.types.size) ->
    DataW.TrodAll enc prog q 0 (λ _=>true) true f vs j ps->(∀ p∈ps,i p.block=true)->DataW.TrodAll enc prog W' 0 i true f vs j ps
  | [],_,_,_,_,r,_=>by
    obtain ⟨rfl,rfl,rfl⟩:=trodAll_nil r
    exact rfl
  | t :: f,_,_,_,k,r,hs=>by
    obtain ⟨v,vs1,d,ds1,a,b,rfl,rfl,rfl,⟨n,l⟩,h2⟩:=trodAll_cons r
    refine ⟨a,b,⟨n,DataW.trod_stays AbI (λ {t e}=>AbO t e) (λ r=>by cases r) (k t H8) l (λ p c=>h.same (DataW.trod_lt n _ _ _ l p c)) (λ p c=>hs p (List.mem_append_left _ c))⟩,
      AaD h (λ m g=>k m (F8 _ g)) h2 (λ p c=>hs p (List.mem_append_right _ c)),rfl⟩
set_option maxRecDepth 100000 in
theorem AbJ {I:Type} {enc:TypeId×Value->I} {f:FuncId} {c:Func} {s:ChangeSpec} {k:Bool} {J:World} {args:Array Value} {h D:List (DataW I)} {g:List MemPlace}
    (a:s.vars=[]) (n:c.resultTypes=#[4]) (z:∀ t∈c.params.toList,t < prog.types.size) (C:DataW.Whole enc prog c.params.toList s.vars false J args.toList h D g)
    (hs:∀ p,DataW.TrodAll enc prog J 0 (λ _=>true) true c.params.toList args.toList h p->s.fn I (h ++ [])={ results:=[.lit (.bool true)],args:=h })
    (hc:∀ p,DataW.TrodAll enc prog J 0 (λ _=>true) true c.params.toList args.toList h p->Fn prog f args.toList J λ v w'=>v=.bool true/\Ext J w') :
    Calls prog f args J λ e W'=>∃ v,e=.returned v/\s.post enc prog c false true false k J args v W':=by
  have o:=C
  obtain ⟨p,q,hA,hV,rfl,hfz,hnd⟩:=C
  rw [a] at hV
  obtain ⟨rfl,rfl⟩:=trodVars_none hV
  have A:=hc p hA J.drawn
  rw [WA] at A
  refine A.mono λ e W' ⟨v,w₀,d',he,hw,hv,hE⟩=>?_
  subst he;subst hv
  refine ⟨_,rfl,?_⟩
  have l:Ext J W':=by
    subst hw
    exact ⟨hE.os,hE.tape,hE.output,hE.size,hE.block⟩
  clear hE A hw
  have m:=hs p hA
  have hlt:=o.lt
  have u:∀ q∈p ++ [],(λ b=>decide (b < J.heap.size)) q.block=true:=λ q w=>by simpa using hlt q w
  have d:∀ x:Nat->Bool,(∀ q∈p,x q.block=true)->DataW.TrodAll enc prog W' 0 x true c.params.toList args.toList h p:=λ x K=>AaD l z hA K
  have i:∀ (b:Nat) (x:Nat->Bool) (hd:Bool),DataW.TrodAll enc prog W' b x hd c.resultTypes.toList ((Value.bool true).resultList c.resultTypes.size) [.lit (.bool true)] []:=λ _ _ _=>by
    rw [n];exact trodAll_mk1 (shut_bool underlying4 _)
  have hk:J.keptBut W' (λ q=>q∈p ++ []/\(q∈([]:List MemPlace)\/q∈p\/q∈([]:List MemPlace))):=Below.frame l _
  have B:∀ (j:Nat) (t:TypeId) (r:Value),c.resultTypes[j]?=some t->((Value.bool true).resultList c.resultTypes.size)[j]?=some r->Value.okWide prog W' .any 0 t r:=by
    have E:Value.okWide prog W' .any 0 4 (.bool true):=okWide_bool_mk underlying4 true
    have F:(Value.bool true).resultList 1=[Value.bool true]:=by unfold Value.resultList;rfl
    exact ok_one (P:=prog) (W':=W') (f:=c) (v:=.bool true) (t:=4) n F E
  refine ⟨h,[],p ++ [],[],p,[],o,?_,?_,?_,hk,λ _=>⟨B,[.lit (.bool true)] ++ h,[],([] ++ p) ++ [],⟨[] ++ p,[],?_,?_,rfl,?_,?_⟩,?_⟩⟩
  . rw [m];exact i _ _ _
  . rw [m];exact d _ (λ q w=>u q (by simpa using w))
  . rw [m,a];rfl
  . exact trodAll_append (d _ (λ _ _=>rfl)) (i _ _ _)
  . rw [a];rfl
  . intro b off G
    have y:MemPlace.cell b off∈p ++ []:=by simpa using G
    rw [l.frozen (p:=⟨b,off,none⟩) (hlt _ y)]
    exact hfz b off y
  . intro H;cases H
  . intro q w _;simpa using w
end
section
open Go Go.RowKit
structure Cx where
  ty:TypeId
  pre:List Value
  post:List Value
structure BxC (cx:Cx) (e:TypeId) (α:Type) where
  l:List α
def BxR.c (cx:Cx) {t e:TypeId} {α:Type} (x:BxR t e α):BxC cx e α:=⟨x.l⟩
instance {cx:Cx} {e:TypeId} {α:Type} [Rp α]:Ow (BxC cx e α) where
  R w F M v x:=∃ (g:Nat) (c:Lab) (c0:Value),v=.pointer (some ⟨g,cx.pre.length,none⟩)/\Blk w g cx.ty (cx.pre ++ c0 :: cx.post)/\M g/\c g=0/\RwM w F (λ k=>M k/\c k=1) e c0 x.l
  agree:=by rintro w w' F M v x ⟨g,c,c0,rfl,hb,hM,hL,h0⟩ a1 a2;exact ⟨g,c,c0,rfl,hb.keep (a2 g hM),hM,hL,h0.agree a1 λ k hk=>a2 k hk.1⟩
  mono:=by rintro w F M a b v x ⟨g,c,c0,rfl,hb,hM,hL,h0⟩ a1 a2 a3;exact ⟨g,c,c0,rfl,hb,a2 g hM,hL,h0.mono a1 (λ k hk=>⟨a2 k hk.1,hk.2⟩) λ k hf hm=>a3 k hf hm.1⟩
theorem BxC.opn {cx:Cx} {t e:TypeId} {α:Type} [Rp α] {i:Nat} {w:World} {O:Lab} {p:Nat} {x:BxR t e α} (b:Ob i w O (.pointer (some ⟨p,cx.pre.length,none⟩)) (BxR.c cx x)) (l0 l1:Nat) (hl:l0≠0/\l1≠0):∃ (a:Lab) (c0:Value),St (eT i) w O w a/\(∀ k,Fr i w O k->∃ q,q∈[l0,l1]/\Fr q w a k)/\Lc l0 w a p cx.ty (cx.pre ++ c0 :: cx.post)/\Rw l1 w a e c0 x.l:=by
  obtain ⟨⟨g,L,c0,hv,hb,hM,hL,h0⟩,hi⟩:=b
  obtain rfl:p=g:=by injection hv with hv;injection hv with hv;injection hv
  exact ⟨part O i L [l0,l1],c0,JH hi,IO (by simp),⟨hb,(Em (j:=0) rfl p ⟨hM,hL⟩).2⟩,h0.rw (CQ hi) (Em (j:=1) rfl) hl.2⟩
theorem BxC.shut {cx:Cx} {t e:TypeId} {α:Type} [Rp α] {w:World} {O:Lab} {p:Nat} {x:BxR t e α} {l0 l1:Nat} {c0:Value} (hd:¬ 0∈[l0,l1]/\[l0,l1].idxOf l0=0/\[l0,l1].idxOf l1=1) (hb:Lc l0 w O p cx.ty (cx.pre ++ c0 :: cx.post)) (h:Rw l1 w O e c0 x.l):∃ f,St (·∈[l0,l1]) w O w f/\(∀ k,Fr 0 w O k->Fr 0 w f k)/\(∀ q,q∈[l0,l1]->∀ k,Fr q w O k->Fr l0 w f k)/\Ob l0 w f (.pointer (some ⟨p,cx.pre.length,none⟩)) (BxR.c cx x):=by
  have d:l0≠0:=λ e=>hd.1 (by simp [e])
  have g:=DN (i:=l0) hd.2.1 (by simp) p ⟨hb.1.lt,hb.2⟩
  exact ⟨X2 O l0 [l0,l1],IP,BX hd.1,Id,⟨p,λ k=>[l0,l1].idxOf (O k),c0,rfl,hb.1,g.1,g.2,h.m (BX hd.1) (DN hd.2.2 (by simp)) (λ k a b=>S4 d k a b.1)⟩,d⟩
theorem X1 {cx:Cx} {w:World} {g:Nat} {c:Value} (a:Blk w g cx.ty (cx.pre ++ c :: cx.post)):w.cell? ⟨g,cx.pre.length,none⟩=some c:=a.cell (by simp)
theorem RS {α:Type} (v c:α) (a:List α):∀ (b:List α),(b ++ c :: a).set b.length v=b ++ v :: a
  | []=>rfl
  | x :: b=>by simp [RS v c a b]
section
variable {P : Program} {n : Nat} {ops : Array Oper} {Q : Q8} {rest : List Oper} {l : Env} {w : World} {ty : TypeId} {pos : String} {aft : Array Edge}
theorem Qc {i:Nat} {O:Lab} {cx:Cx} {t:TypeId} {z:Value} {bytes:Nat} [TInfo P t z 1 bytes] {x y:Operand} {g:Nat} {c v:Value} (d:Lc i w O g cx.ty (cx.pre ++ c :: cx.post)) (f:opv l x=some (.pointer (some ⟨g,cx.pre.length,none⟩))) (h:opv l y=some v)
    (a:v.cells.toList=[v]) (j:∀ u∈v.cells.toList,u.oneCell'=true)
    (m:∀ w',St (eT i) w O w' O->Lc i w' O g cx.ty (cx.pre ++ v :: cx.post)->owp P n ops Q rest l w'):owp P n ops Q (⟨none,.store t x y,ty,pos,aft,none⟩ :: rest) l w:=by
  refine AT d f h (by rw [a];rfl) (by simp) j λ w' k b=>m w' k ?_
  rw [a] at b
  have e:Q6 (cx.pre ++ c :: cx.post) cx.pre.length [v]=cx.pre ++ v :: cx.post:=by
    show (cx.pre ++ c :: cx.post).set cx.pre.length v=_
    rw [RS]
  rwa [e] at b
end
end
section
open Go Go.RowKit
attribute [local irreducible] ewp owp hwp hwq hws Ev Evg Fn Q4 R7 R2 Q9
attribute [local irreducible] hwx U0
structure OEn where
  cost:Int
  number:Int
  node:Int
instance:Rp OEn where
  isAgg:=true
  size:=3
  R w F cs x:=cs=[.int .i64 x.cost,.int .i64 x.number,.int .i64 x.node]/\P9 x.cost/\P9 x.number/\P9 x.node
  len:=by rintro w F cs x ⟨rfl,h0,h1,h2⟩;rfl
  one:=by rintro w F cs x ⟨rfl,h0,h1,h2⟩ u hu;simp at hu;rcases hu with rfl|rfl|rfl<;>first|rfl|exact Vb.one rfl (by assumption)
  agree:=by rintro w w' F cs x ⟨rfl,h0,h1,h2⟩ ha;exact ⟨rfl,h0,h1,h2⟩
  mono:=by rintro w F G cs x ⟨rfl,h0,h1,h2⟩ ha;exact ⟨rfl,h0,h1,h2⟩
instance:Ec OEn λ B a w O i b o x G=>P9 x.cost->P9 x.number->P9 x.node->Al B (.C i b o [(.int .i64 x.cost),(.int .i64 x.number),(.int .i64 x.node)] :: .V (.agg #[(.int .i64 x.cost),(.int .i64 x.number),(.int .i64 x.node)]) x :: a) w O->G:=⟨λ {_ _ _ _ _ _ _ x _ _} d c hc e k=>by
  have hv:=Vb.ofAgg (x:=x) rfl e
  obtain ⟨rfl,r1,r2,r3⟩:=e
  exact k r1 r2 r3 ⟨⟨c,hc⟩,hv,d⟩⟩
instance : TMth prog 80 "Len" 21 false := ⟨by kernel_rfl⟩
instance : TMth prog 80 "Less" 186 false := ⟨by kernel_rfl⟩
instance : TMth prog 80 "Pop" 188 true := ⟨by kernel_rfl⟩
instance : TMth prog 80 "Push" 189 true := ⟨by kernel_rfl⟩
instance : TMth prog 80 "Swap" 187 false := ⟨by kernel_rfl⟩
noncomputable def CH (a:List OEn):Option Int :=
  some (a.length:Int)
section
attribute [local irreducible] Vb Lc Rw Ob
theorem Hl {w:World} {A:Nat->Prop} (hA:∀ k,A k->k < w.heap.size) {a:Value} {b:List OEn} (c:Vb w A a b) {r:Int} (hm:CH b=some r) :
    Fn prog 21 [a] w λ v w'=>Ext w w'/\Vb w' (upA A w w') v r:=by
 obtain ⟨_,_,_⟩:=CW hA
 apply Cj c;intros
 refine AK func21 rfl ntmps21 ?_
 unfold CH at hm
 refine Am (Ah (Au rfl (o_z (Am (Ah (At rfl (AU rfl (Au rfl (o_z (AM ?_))))))))))
 obtain rfl:=sm hm
 exact Cl
end
noncomputable def CO (a:List OEn) (b:Int) (c:Int):Option Bool :=
  bnd (atI a b) λ k=>bnd (atI a c) λ d=>if k.cost≠d.cost then (bnd (bnd (atI a b) λ e=>bnd (atI a c) λ f=>if e.cost < f.cost then (some true) else (some false):Option Bool) λ g=>some g) else (bnd (bnd (atI a b) λ h=>bnd (atI a c) λ i=>if h.number < i.number then (some true) else (some false):Option Bool) λ j=>some j)
section
attribute [local irreducible] Vb Lc Rw Ob
theorem GP {w:World} {A:Nat->Prop} (hA:∀ k,A k->k < w.heap.size) {c:Value} {j:List OEn} (l:Vb w A c j) {d:Int} (m:P9 d) {e:Int} (n:P9 e) {r:Bool} (hm:CO j d e=some r) :
    Fn prog 186 [c,(.int .i64 d),(.int .i64 e)] w λ v w'=>Ext w w'/\Vb w' (upA A w w') v r:=by
 obtain ⟨_,_,_⟩:=CW hA
 apply Cj l;intros
 refine AK func186 rfl ntmps186 ?_
 unfold CO at hm
 refine Am (Ah (Au rfl (o_z (Am (Am (NZ (AX (CR 0 11)) ?_))))))
 refine AJ rfl rfl (AJ rfl rfl ?_)
 obtain ⟨o,e8,hm⟩:=bs hm
 refine Fb rfl ?_;intros
 refine AL rfl rfl (LL rfl (AJ rfl rfl (AJ rfl rfl ?_)))
 obtain ⟨p,j0,hm⟩:=bs hm
 refine Fb rfl ?_;intros
 refine AL rfl rfl (LL rfl (SC rfl rfl rfl rfl (λ c0=>?_) λ c0=>?_))
 ·
  replace hm:=ip hm c0
  refine h_z (Aj rfl (Am (DE (X:=Unit) hm [] [] [] [] (λ _ _ f _ t=>(6,.bool f) :: t) (λ _ _ _ _ t=>t) ?_ ?_)))
  ·
   intro f a
   refine NZ (AX (CR 0 12)) ?_
   refine AJ rfl rfl (AJ rfl rfl ?_)
   obtain ⟨q,l0,a⟩:=bs a
   refine Fb rfl ?_;intros
   refine AL rfl rfl (LL rfl (AJ rfl rfl (AJ rfl rfl ?_)))
   obtain ⟨s,n0,a⟩:=bs a
   refine Fb rfl ?_;intros
   refine AL rfl rfl (LL rfl (GJ rfl rfl rfl (λ g=>?_) λ g=>?_))
   ·
    replace a:=ip a g
    refine Ei rfl rfl (h_z ?_)
    obtain rfl:=sm a
    exact BA ()
   replace a:=im a g
   refine Ei rfl rfl (h_z ?_)
   obtain rfl:=sm a
   exact BA ()
  intro f _ _ _ _ hm;intros
  refine BY ?_
  refine AM ?_
  obtain rfl:=sm hm
  exact Cl
 replace hm:=im hm c0
 refine h_z (Ae rfl (AN (Am (DE (X:=Unit) hm [] [] [] [] (λ _ _ h _ t=>(6,.bool h) :: t) (λ _ _ _ _ t=>t) ?_ ?_))))
 ·
  intro h b
  refine NZ (AX (CR 0 12)) ?_
  refine AJ rfl rfl (AJ rfl rfl ?_)
  obtain ⟨u,p0,b⟩:=bs b
  refine Fb rfl ?_;intros
  refine AL rfl rfl (LL rfl (AJ rfl rfl (AJ rfl rfl ?_)))
  obtain ⟨x,r0,b⟩:=bs b
  refine Fb rfl ?_;intros
  refine AL rfl rfl (LL rfl (GJ rfl rfl rfl (λ i=>?_) λ i=>?_))
  ·
   replace b:=ip b i
   refine Ei rfl rfl (h_z ?_)
   obtain rfl:=sm b
   exact BA ()
  replace b:=im b i
  refine Ei rfl rfl (h_z ?_)
  obtain rfl:=sm b
  exact BA ()
 intro h _ _ _ _ hm;intros
 refine BY ?_
 refine AM ?_
 obtain rfl:=sm hm
 exact Cl
end
noncomputable def Ct (a:List OEn) (b:Int) (c:Int):Option (List OEn) :=
  bnd (atI a c) λ e=>bnd (atI a b) λ d=>bnd (atI a b) λ f=>bnd (atI (a.set (b:Int).toNat e) c) λ g=>some ((a.set (b:Int).toNat e).set (c:Int).toNat d)
theorem GQ {w:World} {O:Lab} {k:Option Addr} {e c0 f:Nat} {l:List OEn} (g:Rw f w O 77 (.slice k e c0) l) {m:Int} (t:P9 m) {n:Int} (u:P9 n) {r:(List OEn)} (hm:Ct l m n=some r) :
    Fn prog 187 [(.slice k e c0),(.int .i64 m),(.int .i64 n)] w λ v w'=>∃ h,St (eT f) w O w' h/\Rw f w' h 77 (.slice k e c0) r:=by
 obtain ⟨o,hE,u0,v0⟩:=V0 (w:=w) (O:=O) g.2.2
 obtain rfl:e=l.length:=g.len.1
 have b:=Rw.leave g u0 v0 (j:=2) (by decide)
 have p:Bm w o w o:=Bm.refl
 refine AK func187 rfl ntmps187 ?_
 unfold Ct at hm
 refine Bl [(13,[2])] o ?_
 refine AH (fuel:=5) [] (AX [0,1,4,5,6,7,8,9,10,11,12]) rfl (AJ rfl rfl (AJ rfl rfl (AJ rfl rfl (AJ rfl rfl ?_))))
 obtain ⟨c,e5,hm⟩:=bs hm
 obtain ⟨y,x6⟩:=Br e5
 obtain ⟨E,o9,w0,f0,g0,h0,j0,rfl,y0,z0,a1⟩:=b.elemF x6
 refine BT (hA:=f0) (hj:=y) (hlt:=h0) rfl rfl rfl (Dm (hl:=rfl) (hb:=Hi g0 j0) rfl rfl (AJ rfl rfl (AJ rfl rfl ?_)))
 obtain ⟨d,b1,hm⟩:=bs hm
 obtain ⟨z,d1⟩:=Br b1
 obtain ⟨F,u1,e1,k0,l0,n0,o0,rfl,f1,g1,h1⟩:=b.elemF d1
 refine BT (hA:=k0) (hj:=z) (hlt:=n0) rfl rfl rfl (Dm (hl:=rfl) (hb:=Hi l0 o0) rfl rfl ?_)
 obtain ⟨G,i1,hm⟩:=bs hm
 obtain ⟨A,r0⟩:=Br i1
 obtain ⟨H,y1,k1,d0,l1,p0,m1,rfl,z1,a2,b2⟩:=b.elemF r0
 refine BT (hA:=d0) (hj:=A) (hlt:=p0) rfl rfl rfl (AC ?_)
 refine AH (fuel:=3) [2] (AX [2,3]) rfl (AJ rfl rfl (AJ rfl rfl (AC (AF (i:=13) rfl ?_))))
 refine Fi rfl b (a:=c) (Vb.ofAgg (cs:=[(.int .i64 c.cost),(.int .i64 c.number),(.int .i64 c.node)]) (x:=c) rfl ⟨rfl,y0,z0,a1⟩) d0 rfl rfl (AD r0) λ I s b=>?_
 have B:=s.lst [2] (λ _ M=>by cases M;decide)
 refine AV [] B ?_
 refine AH (fuel:=1) [] [(14,true)] rfl ?_
 obtain ⟨J,n1,hm⟩:=bs hm
 obtain ⟨C,t0⟩:=Br n1
 obtain ⟨K,f2,p1,e0,q1,q0,r1,rfl,g2,h2,i2⟩:=b.elemF t0
 refine BT (hA:=e0) (hj:=C) (hlt:=q0) rfl rfl rfl (AC (AF (i:=15) rfl ?_))
 refine Fi rfl b (a:=d) (Vb.ofAgg (cs:=[(.int .i64 d.cost),(.int .i64 d.number),(.int .i64 d.node)]) (x:=d) rfl ⟨rfl,f1,g1,h1⟩) e0 rfl rfl (AD t0) λ L D b=>?_
 refine Bz (Ba ?_)
 obtain rfl:=sm hm
 replace p:=(p.st s).st D
 obtain ⟨h,hS',hz,hl⟩:=hE.leave (λ q=>if q=2 then f else 0) rfl p
 exact W3 rfl  ⟨h,hS',(Rw.leave b hz (hl 2 (by decide) (by decide)) g.2.2)⟩
noncomputable def FU (b:BxR 71 77 OEn) (c:An 77 OEn):Option (BxR 71 77 OEn) :=
  bnd (R8 24 b.l [c.x]) λ a=>some (⟨a⟩:BxR 71 77 OEn)
theorem Ma {w:World} {O:Lab} {cx:Cx} {l g:Nat} {y:BxR 71 77 OEn} (m:Ob g w O (.pointer (some ⟨l,cx.pre.length,none⟩)) (BxR.c cx y)) {e:Value} {a:An 77 OEn} (n:Vb w (Fr 0 w O) e a) {r:(BxR 71 77 OEn)} (hm:FU y a=some r) :
    Fn prog 189 [(.pointer (some ⟨l,cx.pre.length,none⟩)),e] w λ v w'=>∃ f,St (eT g) w O w' f/\Ob g w' f (.pointer (some ⟨l,cx.pre.length,none⟩)) (BxR.c cx r):=by
 obtain ⟨o,hE,k0,s0⟩:=V0 (w:=w) (O:=O) m.2
 have b:=Ob.leave m k0 s0 (j:=2) (by decide)
 have p:Bm w o w o:=Bm.refl
 replace n:=n.mono k0
 obtain ⟨E,rfl,h4⟩:=n.any
 obtain ⟨F,rfl,rfl,r6,r7,r8⟩:=h4
 refine AK func189 rfl ntmps189 ?_
 unfold FU at hm
 refine Am (Ah (At rfl (Ws rfl rfl (At rfl (CK rfl rfl (CK rfl rfl ?_))))))
 refine BL 3 o λ G H I z c0=>?_
 refine AT c0 rfl rfl rfl (Bf) (allOne) λ J n0 c0=>?_
 refine Au rfl (o_z (Am (Ah (At rfl (o_z (Aj rfl ?_))))))
 replace b:=(b.st z).st n0
 obtain ⟨A,h1,q0,t0,d,d0⟩:=BxC.opn b 2 4 (by decide)
 obtain ⟨K,j1,rfl⟩:=d0.form
 refine Bl [(6,[4])] A ?_
 refine AH (fuel:=5) [] (AX [1,2,3,4]) rfl (AJ rfl rfl (BG rfl rfl (AZ (hc:=λ w' ⟨f,hq⟩=>X1 ((d.st hq (by decide)).1)) rfl rfl ?_)))
 replace c0:=c0.st q0
 refine Dm (hl:=rfl) (hb:=Gl c0) rfl rfl (AC ?_)
 refine AH (fuel:=4) [4] [(0,true)] rfl (AJ rfl rfl (AC (AF (i:=5) rfl ?_)))
 refine DW 5 A (xs:=([a.x]:List OEn)) rfl rfl rfl ⟨(Vb.ofAgg (cs:=[(.int .i64 a.x.cost),(.int .i64 a.x.number),(.int .i64 a.x.node)]) (x:=a.x) rfl ⟨rfl,r6,r7,r8⟩),trivial⟩ rfl λ L l1 M h C=>?_
 have s:=lZ h
 refine AV [(6,[4])] s (AF (i:=6) rfl ?_)
 obtain ⟨D,t,hm⟩:=bs hm
 obtain ⟨t,w0,y0⟩:=Bt t
 replace d0:=d0.st h
 refine EL rfl d0 (C.rd) rfl rfl w0 y0 rfl λ N P Q R u k=>?_
 rw [<- t] at k ⊢
 have s:=u.lst [4] (λ _ U=>by cases U;decide)
 refine AV [] s ?_
 refine AH (fuel:=1) [] [(7,true)] rfl (BG rfl rfl (AC (AF (i:=8) rfl ?_)))
 replace d:=(d.st h).st u
 refine Qc d rfl rfl rfl (allOne) λ S B d=>?_
 refine Bz (Ba ?_)
 replace k:=k.st B
 obtain ⟨T,z0,a1,b1,c1⟩:=BxC.shut (x:=(⟨D⟩:BxR 71 77 OEn)) (l0:=2) (by decide) d k
 obtain rfl:=sm hm
 replace p:=((((((p.st z).st n0).st q0).st h).st u).st B).st z0
 obtain ⟨f,hS',hz,hl⟩:=hE.leave (λ q=>if q=2 then g else 0) rfl p
 exact W3 rfl  ⟨f,hS',(Ob.leave c1 hz (hl 2 (by decide) (by decide)) m.2)⟩
noncomputable def Gm (a:BxR 71 77 OEn):Option ((An 77 OEn)×(BxR 71 77 OEn)) :=
  bnd (Q1 ((a.l.length:Int) - 1)) λ b=>bnd (atI a.l b) λ c=>bnd (Q1 ((a.l.length:Int) - 1)) λ d=>bnd (Aau a.l 0 d) λ e=>some ((⟨c⟩:An 77 OEn),(⟨e⟩:BxR 71 77 OEn))
theorem MB {w:World} {O:Lab} {cx:Cx} {f e:Nat} {o:BxR 71 77 OEn} (g:Ob e w O (.pointer (some ⟨f,cx.pre.length,none⟩)) (BxR.c cx o)) {r:(An 77 OEn)×(BxR 71 77 OEn)} (hm:Gm o=some r) :
    Fn prog 188 [(.pointer (some ⟨f,cx.pre.length,none⟩))] w λ v w'=>∃ b,St (eT e) w O w' b/\Ob e w' b (.pointer (some ⟨f,cx.pre.length,none⟩)) (BxR.c cx r.2)/\Vb w' (Fr 0 w' b) v r.1:=by
 obtain ⟨p,hE,o0,q0⟩:=V0 (w:=w) (O:=O) g.2
 have h:=Ob.leave g o0 q0 (j:=2) (by decide)
 have i:Bm w p w p:=Bm.refl
 refine AK func188 rfl ntmps188 ?_
 unfold Gm at hm
 refine Am (Ah (Au rfl (o_z (Am (Ah (At rfl (CV rfl ?_)))))))
 obtain ⟨s,v6,S3,i1,a,h7⟩:=BxC.opn h 2 3 (by decide)
 obtain ⟨A,c9,rfl⟩:=h7.form
 refine AQ (hc:=X1 (a.1)) rfl (Au rfl (o_z (Am (Ah (At rfl (At rfl (AU rfl ?_)))))))
 have t:=Cv h7.len
 have B:=rngNat t
 obtain ⟨C,m0,hm⟩:=bs hm
 have l1:=(BE m0)
 refine Hf (he:=m0) rfl rfl ?_
 obtain ⟨c0,s0,hm⟩:=bs hm
 obtain ⟨u,u0⟩:=Br s0
 obtain ⟨D,n1,v0,d0,e0,f0,rfl,w0,y0,z0⟩:=h7.elem u0
 refine CZ (hA:=d0) (hj:=u) (hlt:=e0) rfl rfl (BH (hl:=rfl) (hc:=f0) rfl ?_)
 refine BL 4 s λ E F G k d=>?_
 refine AT d rfl rfl rfl (Bf) (allOne) λ H l d=>?_
 refine o_z (Am (Ah (At rfl (At rfl (At rfl (AU rfl ?_))))))
 replace h7:=(h7.st k).st l
 have y:=Cv h7.len
 have I:=rngNat y
 obtain ⟨J,n0,hm⟩:=bs hm
 have K:=(BE n0)
 refine Hf (he:=n0) rfl rfl ?_
 obtain ⟨z,c1,hm⟩:=bs hm
 obtain ⟨m,d1⟩:=Ab6 h7 c1
 refine XZ (hc:=d1) rfl rfl rfl (CV rfl ?_)
 replace a:=(a.st k).st l
 refine Qc a rfl rfl rfl (allOne) λ L n a=>?_
 refine o_z (Am (Ah ?_))
 replace d:=d.st n
 refine BH (hl:=rfl) (hc:=(d.1).cellsAt) rfl (Wq rfl rfl (Au rfl (o_z (AM ?_))))
 replace m:=m.st n
 obtain ⟨M,e1,f1,g1,h1⟩:=BxC.shut (x:=(⟨z⟩:BxR 71 77 OEn)) (l0:=2) (by decide) a m
 obtain rfl:=sm hm
 replace i:=((((i.st S3).st k).st l).st n).st e1
 obtain ⟨b,hS',hz,hl⟩:=hE.leave (λ q=>if q=2 then e else 0) rfl i
 exact T8 rfl (Bc rfl) ⟨b,hS',(Ob.leave h1 hz (hl 2 (by decide) (by decide)) g.2),(AaV (Vb.ofAgg (cs:=[(.int .i64 c0.cost),(.int .i64 c0.number),(.int .i64 c0.node)]) (x:=c0) rfl ⟨rfl,w0,y0,z0⟩))⟩
noncomputable def Eu (h:BxR 71 77 OEn) (i:Int):Option (BxR 71 77 OEn) :=
  bnd (lop (ρ:=(BxR 71 77 OEn)) (λ (b:Int×(BxR 71 77 OEn))=>bnd (Q1 (b.1 - 1)) λ c=>bnd (Z5 c 2) λ a=>bnd (if a=b.1 then (some true) else (bnd (CO b.2.l b.1 a) λ d=>if d=true then some false else some true):Option Bool) λ e=>if e=true then (some (.brk (b.1,b.2))) else (bnd (Ct b.2.l a b.1) λ f=>some (.next (a,(⟨f⟩:BxR 71 77 OEn))))) (i,h)) λ res3=>fin res3 λ (g:Int×(BxR 71 77 OEn))=>some g.2
theorem KN {w:World} {O:Lab} {cx:Cx} {p0 i0:Nat} {x0:BxR 71 77 OEn} (h0:Ob i0 w O (.pointer (some ⟨p0,cx.pre.length,none⟩)) (BxR.c cx x0)) {x1:Int} (rx1:P9 x1) {r:(BxR 71 77 OEn)} (hm:Eu x0 x1=some r) :
    Fn prog 86 [(.iface 80 (.pointer (some ⟨p0,cx.pre.length,none⟩))),(.int .i64 x1)] w λ v w'=>∃ O',St (eT i0) w O w' O'/\Ob i0 w' O' (.pointer (some ⟨p0,cx.pre.length,none⟩)) (BxR.c cx r):=by
 obtain ⟨O0,hE,c1,d1⟩:=V0 (w:=w) (O:=O) h0.2
 have h0':=Ob.leave h0 c1 d1 (j:=2) (by decide)
 have hB:Bm w O0 w O0:=Bm.refl
 refine AK func86 rfl ntmps86 ?_
 unfold Eu at hm
 obtain ⟨m0,e1,hm⟩:=bs hm
 refine Bi (aft m0 (λ (s5:Int×(BxR 71 77 OEn)) (x6:Unit)=>[]) (λ s5 x6 w'=>∃ O':Lab,Bm w O0 w' O'/\Ob 2 w' O' (.pointer (some ⟨p0,cx.pre.length,none⟩)) (BxR.c cx s5.2)/\P9 s5.1)) ?_ ?_
 ·
  refine Bx (Ex (σ:=Int×(BxR 71 77 OEn)) (X:=Unit) e1 (λ (s5:Int×(BxR 71 77 OEn)) (x6:Unit)=>[(0,(.iface 80 (.pointer (some ⟨p0,cx.pre.length,none⟩)))),(1,(.int .i64 s5.1))]) _ (λ s5 x6 w'=>∃ O':Lab,Bm w O0 w' O'/\Ob 2 w' O' (.pointer (some ⟨p0,cx.pre.length,none⟩)) (BxR.c cx s5.2)/\P9 s5.1) _ () ⟨O0,hB,h0',rx1⟩ ⟨rfl,rfl,trivial⟩ ?_)
  rintro s5 x6 w9 f1 ⟨g2,hB,d0,j0⟩ a0 n0 e0
  refine Bx (Am (Ah (At rfl ?_)))
  obtain ⟨h2,t0,a0⟩:=bs a0
  have u0:=(BE t0)
  refine Hf (he:=t0) rfl rfl ?_
  obtain ⟨g1,v0,a0⟩:=bs a0
  have o0:=RM v0 u0
  refine YU (he:=v0) (hr:=u0) rfl rfl rfl (Au rfl (o_z (Am (Am ?_))))
  obtain ⟨h1,b0,a0⟩:=bs a0
  refine Bi (λ l' w'=>∃ (i1:Unit) (O':Lab),Q2 l' [(0,(.iface 80 (.pointer (some ⟨p0,cx.pre.length,none⟩)))),(1,(.int .i64 s5.1)),(4,(.int .i64 g1)),(17,(.bool h1))]/\Bm w O0 w' O'/\Ob 2 w' O' (.pointer (some ⟨p0,cx.pre.length,none⟩)) (BxR.c cx s5.2)) ?_ ?_
  ·
   refine Ah (At rfl (At rfl (FD rfl rfl (λ q0=>?_) λ q0=>?_)))
   ·
    replace b0:=ip b0 q0
    refine At rfl (AA rfl rfl (AA rfl rfl (AA rfl rfl (AA rfl rfl (AA rfl rfl (BJ rfl rfl (o_z ?_)))))))
    obtain rfl:=sm b0
    exact ⟨(),_,⟨rfl,rfl,rfl,rfl,trivial⟩,hB,d0⟩
   replace b0:=im b0 q0
   refine At rfl (AB rfl rfl (At rfl (AB rfl rfl (At rfl (AB rfl rfl (At rfl (AB rfl rfl ?_)))))))
   obtain ⟨j1,i2,w0,k1,f0,c0⟩:=BxC.opn d0 2 3 (by decide)
   obtain ⟨j2,k2,rfl⟩:=c0.form
   obtain ⟨y0,l1,b0⟩:=bs b0
   refine KY (O:=j1) (A:=All w9) (R:=λ w' F v=>Vb w' F v y0) (GP (λ _ h=>h) (c0).all j0 o0 l1) (Ho (X1 f0.1)) rfl rfl rfl λ l2 m2 n2 g0 m1=>?_
   obtain rfl:=m1.bool
   cases y0
   case false =>
    replace b0:=iF b0
    refine AB rfl rfl (DB rfl (BK rfl rfl (o_z ?_)))
    replace f0:=f0.st g0
    replace c0:=c0.st g0
    obtain ⟨o2,n1,o1,p1,q1⟩:=BxC.shut (x:=s5.2) (l0:=2) (by decide) f0 c0
    obtain rfl:=sm b0
    exact ⟨(),_,⟨rfl,rfl,rfl,rfl,trivial⟩,((hB.st w0).st g0).st n1,q1⟩
   replace b0:=iT b0
   refine AB rfl rfl (DA rfl (BK rfl rfl (o_z ?_)))
   replace f0:=f0.st g0
   replace c0:=c0.st g0
   obtain ⟨p2,r1,s1,t1,u1⟩:=BxC.shut (x:=s5.2) (l0:=2) (by decide) f0 c0
   obtain rfl:=sm b0
   exact ⟨(),_,⟨rfl,rfl,rfl,rfl,trivial⟩,((hB.st w0).st g0).st r1,u1⟩
  rintro q2 r2 ⟨i1,s2,r0,hB,d0⟩
  refine Bg _ r0 ?_
  refine BP rfl (λ s0=>?_) (λ s0=>?_)
  ·
   replace a0:=ip a0 s0
   refine Cq ?_
   obtain rfl:=sm a0
   exact show Exists _ from ⟨_,(),e0 _ rfl,trivial,_,hB,d0,j0⟩
  replace a0:=im' a0 s0
  refine AN (Am (Ah (At rfl (At rfl (At rfl ?_)))))
  obtain ⟨v1,t2,w1,y1,k0,z0⟩:=BxC.opn d0 2 3 (by decide)
  obtain ⟨u2,v2,rfl⟩:=z0.form
  obtain ⟨z1,a2,a0⟩:=bs a0
  refine KX (O:=v1) (GQ z0 o0 j0 a2) (Ho (X1 k0.1)) rfl rfl rfl λ w2 x2 y2 a1 b1=>?_
  refine o_z (Ah (At rfl (Au rfl (o_z ?_))))
  replace k0:=k0.st a1
  obtain ⟨z2,b2,c2,d2,e2⟩:=BxC.shut (x:=(⟨z1⟩:BxR 71 77 OEn)) (l0:=2) (by decide) (by have q:=k0;rw [<- b1.len.1.symm] at q;exact q) b1.relen
  obtain rfl:=sm a0
  exact show Exists _ from ⟨_,(),rfl,⟨rfl,rfl,trivial⟩,_,((hB.st w1).st a1).st b2,e2,o0⟩
 rintro a3 b3 ⟨c3,d3,rfl,f2,e3,hB,d0,j0⟩
 replace hm:=BF hm
 obtain rfl:=sm hm
 obtain ⟨O',hS',hz,hl⟩:=hE.leave (λ q=>if q=2 then i0 else 0) rfl hB
 exact W3 rfl  ⟨O',hS',(Ob.leave d0 hz (hl 2 (by decide) (by decide)) h0.2)⟩
noncomputable def Ed (q:BxR 71 77 OEn) (o:Int) (p:Int):Option (Bool×(BxR 71 77 OEn)) :=
  bnd (lop (ρ:=Bool×(BxR 71 77 OEn)) (λ (b:Int×(BxR 71 77 OEn))=>bnd (Q1 (2 * b.1)) λ i=>bnd (Q1 (i + 1)) λ a=>bnd (if p<=a then (some true) else (if a < 0 then (some true) else (some false)):Option Bool) λ j=>if j=true then (some (.brk (b.1,b.2))) else (bnd (bnd (Q1 (a + 1)) λ d=>bnd (if d < p then (bnd (CO b.2.l d a) λ k=>if k=true then some true else some false) else (some false):Option Bool) λ m=>if m=true then (some d) else (some a):Option Int) λ e=>bnd (CO b.2.l e b.1) λ n=>if n=true then bnd (Ct b.2.l b.1 e) λ f=>some (.next (e,(⟨f⟩:BxR 71 77 OEn))) else some (.brk (b.1,b.2)))) (o,q)) λ g=>fin g λ (c:Int×(BxR 71 77 OEn))=>bnd (if o < c.1 then (some true) else (some false):Option Bool) λ h=>some (h,c.2)
theorem JK {w:World} {O:Lab} {cx:Cx} {p0 i0:Nat} {x0:BxR 71 77 OEn} (r0:Ob i0 w O (.pointer (some ⟨p0,cx.pre.length,none⟩)) (BxR.c cx x0)) {x1:Int} (rx1:P9 x1) {x2:Int} (rx2:P9 x2) {r:Bool×(BxR 71 77 OEn)} (hm:Ed x0 x1 x2=some r) :
    Fn prog 51 [(.iface 80 (.pointer (some ⟨p0,cx.pre.length,none⟩))),(.int .i64 x1),(.int .i64 x2)] w λ v w'=>∃ O',St (eT i0) w O w' O'/\Ob i0 w' O' (.pointer (some ⟨p0,cx.pre.length,none⟩)) (BxR.c cx r.2)/\Vb w' (Fr 0 w' O') v r.1:=by
 obtain ⟨O0,hE,l2,m2⟩:=V0 (w:=w) (O:=O) r0.2
 have r0':=Ob.leave r0 l2 m2 (j:=2) (by decide)
 have hB:Bm w O0 w O0:=Bm.refl
 refine AK func51 rfl ntmps51 ?_
 unfold Ed at hm
 refine Am (Ah (Au rfl (o_z (Am (Ah (At rfl (Au rfl (o_z (Am ?_)))))))))
 obtain ⟨z0,n2,hm⟩:=bs hm
 refine Bi (aft z0 (λ (s6:Int×(BxR 71 77 OEn)) (x7:Unit)=>[(1,(.int .i64 x1)),(7,(.int .i64 s6.1))]) (λ s6 x7 w'=>∃ O':Lab,Bm w O0 w' O'/\Ob 2 w' O' (.pointer (some ⟨p0,cx.pre.length,none⟩)) (BxR.c cx s6.2)/\P9 s6.1)) ?_ ?_
 ·
  refine Bx (Ex (σ:=Int×(BxR 71 77 OEn)) (X:=Unit) n2 (λ (s6:Int×(BxR 71 77 OEn)) (x7:Unit)=>[(0,(.iface 80 (.pointer (some ⟨p0,cx.pre.length,none⟩)))),(1,(.int .i64 x1)),(2,(.int .i64 x2)),(7,(.int .i64 s6.1))]) _ (λ s6 x7 w'=>∃ O':Lab,Bm w O0 w' O'/\Ob 2 w' O' (.pointer (some ⟨p0,cx.pre.length,none⟩)) (BxR.c cx s6.2)/\P9 s6.1) _ () ⟨O0,hB,r0',rx1⟩ ⟨rfl,rfl,rfl,rfl,trivial⟩ ?_)
  rintro s6 x7 a4 o2 ⟨b4,hB,g0,s0⟩ a0 a1 h0
  refine Bx (Am (Ah (At rfl ?_)))
  obtain ⟨c4,v1,a0⟩:=bs a0
  have d4:=(BE v1)
  refine Nj (he:=v1) rfl rfl rfl ?_
  obtain ⟨w1,y1,a0⟩:=bs a0
  have z1:=(BE y1)
  refine Fu (he:=y1) rfl rfl (Au rfl (o_z (Am (Am ?_))))
  obtain ⟨p2,c0,a0⟩:=bs a0
  refine Bi (λ l' w'=>∃ (q2:Unit) (O':Lab),Q2 l' [(0,(.iface 80 (.pointer (some ⟨p0,cx.pre.length,none⟩)))),(1,(.int .i64 x1)),(2,(.int .i64 x2)),(7,(.int .i64 s6.1)),(8,(.int .i64 w1)),(21,(.bool p2))]/\Bm w O0 w' O'/\Ob 2 w' O' (.pointer (some ⟨p0,cx.pre.length,none⟩)) (BxR.c cx s6.2)) ?_ ?_
  ·
   refine Ah (At rfl (At rfl (GH rfl rfl (λ b1=>?_) λ b1=>?_)))
   ·
    replace c0:=ip c0 b1
    refine At rfl (AA rfl rfl (AA rfl rfl (BJ rfl rfl (o_z ?_))))
    obtain rfl:=sm c0
    exact ⟨(),_,⟨rfl,rfl,rfl,rfl,rfl,rfl,trivial⟩,hB,g0⟩
   replace c0:=im c0 b1
   refine At rfl (AB rfl rfl (At rfl (AB rfl rfl (Eq rfl rfl (λ c1=>?_) λ c1=>?_))))
   ·
    replace c0:=ip c0 c1
    refine BK rfl rfl (o_z ?_)
    obtain rfl:=sm c0
    exact ⟨(),_,⟨rfl,rfl,rfl,rfl,rfl,rfl,trivial⟩,hB,g0⟩
   replace c0:=im c0 c1
   refine BK rfl rfl (o_z ?_)
   obtain rfl:=sm c0
   exact ⟨(),_,⟨rfl,rfl,rfl,rfl,rfl,rfl,trivial⟩,hB,g0⟩
  rintro e4 r2 ⟨q2,f4,d1,hB,g0⟩
  refine Bg _ d1 ?_
  refine BP rfl (λ e1=>?_) (λ e1=>?_)
  ·
   replace a0:=ip a0 e1
   refine Cq ?_
   obtain rfl:=sm a0
   exact show Exists _ from ⟨_,(),h0 _ rfl,⟨rfl,rfl,trivial⟩,_,hB,g0,s0⟩
  replace a0:=im' a0 e1
  refine AN (Am (Ah (At rfl (Au rfl (o_z (Am ?_))))))
  obtain ⟨a2,d0,a0⟩:=bs a0
  refine Bi (λ l' w'=>∃ (s2:Unit) (O':Lab),Q2 l' [(0,(.iface 80 (.pointer (some ⟨p0,cx.pre.length,none⟩)))),(1,(.int .i64 x1)),(2,(.int .i64 x2)),(7,(.int .i64 s6.1)),(9,(.int .i64 a2))]/\Bm w O0 w' O'/\Ob 2 w' O' (.pointer (some ⟨p0,cx.pre.length,none⟩)) (BxR.c cx s6.2)/\P9 a2) ?_ ?_
  ·
   refine Am (Ah (At rfl ?_))
   obtain ⟨t2,b2,d0⟩:=bs d0
   have c2:=(BE b2)
   refine Fu (he:=b2) rfl rfl (Au rfl (o_z (Am ?_)))
   obtain ⟨u2,b0,d0⟩:=bs d0
   refine Bi (λ l' w'=>∃ (v2:Unit) (O':Lab),Q2 l' [(0,(.iface 80 (.pointer (some ⟨p0,cx.pre.length,none⟩)))),(1,(.int .i64 x1)),(2,(.int .i64 x2)),(7,(.int .i64 s6.1)),(9,(.int .i64 w1)),(10,(.int .i64 t2)),(33,(.bool u2))]/\Bm w O0 w' O'/\Ob 2 w' O' (.pointer (some ⟨p0,cx.pre.length,none⟩)) (BxR.c cx s6.2)) ?_ ?_
   ·
    refine Ah (At rfl (At rfl (Eq rfl rfl (λ f1=>?_) λ f1=>?_)))
    ·
     replace b0:=ip b0 f1
     refine At rfl (AB rfl rfl (At rfl (AB rfl rfl (At rfl (AB rfl rfl (At rfl (AB rfl rfl ?_)))))))
     obtain ⟨w2,g4,d2,y2,n0,k0⟩:=BxC.opn g0 2 3 (by decide)
     obtain ⟨h4,i4,rfl⟩:=k0.form
     obtain ⟨e2,z2,b0⟩:=bs b0
     refine KY (O:=w2) (A:=All r2) (R:=λ w' F v=>Vb w' F v e2) (GP (λ _ h=>h) (k0).all c2 z1 z2) (Ho (X1 n0.1)) rfl rfl rfl λ j4 k4 l4 q0 y0=>?_
     obtain rfl:=y0.bool
     cases e2
     case false =>
      replace b0:=iF b0
      refine BJ rfl rfl (o_z ?_)
      replace n0:=n0.st q0
      replace k0:=k0.st q0
      obtain ⟨m4,a3,b3,c3,d3⟩:=BxC.shut (x:=s6.2) (l0:=2) (by decide) n0 k0
      obtain rfl:=sm b0
      exact ⟨(),_,⟨rfl,rfl,rfl,rfl,rfl,rfl,rfl,trivial⟩,((hB.st d2).st q0).st a3,d3⟩
     replace b0:=iT b0
     refine BJ rfl rfl (o_z ?_)
     replace n0:=n0.st q0
     replace k0:=k0.st q0
     obtain ⟨n4,e3,f3,g3,h3⟩:=BxC.shut (x:=s6.2) (l0:=2) (by decide) n0 k0
     obtain rfl:=sm b0
     exact ⟨(),_,⟨rfl,rfl,rfl,rfl,rfl,rfl,rfl,trivial⟩,((hB.st d2).st q0).st e3,h3⟩
    replace b0:=im b0 f1
    refine At rfl (AA rfl rfl (AA rfl rfl (AA rfl rfl (AA rfl rfl (BK rfl rfl (o_z ?_))))))
    obtain rfl:=sm b0
    exact ⟨(),_,⟨rfl,rfl,rfl,rfl,rfl,rfl,rfl,trivial⟩,hB,g0⟩
   rintro o4 p4 ⟨v2,q4,g1,hB,y0⟩
   refine Bg _ g1 ?_
   refine BP rfl (λ h1=>?_) (λ h1=>?_)
   ·
    replace d0:=ip d0 h1
    refine Ah (At rfl (Au rfl (o_z ?_)))
    obtain rfl:=sm d0
    exact ⟨(),_,⟨rfl,rfl,rfl,rfl,rfl,trivial⟩,hB,y0,c2⟩
   replace d0:=im' d0 h1
   refine AN ?_
   obtain rfl:=sm d0
   exact ⟨(),_,⟨rfl,rfl,rfl,rfl,rfl,trivial⟩,hB,y0,z1⟩
  rintro r4 i3 ⟨s2,s4,i1,hB,j3,j1⟩
  refine Bg _ i1 ?_
  refine Am (Am (Ah (At rfl (At rfl (At rfl ?_)))))
  obtain ⟨k3,t4,f2,l3,j0,m0⟩:=BxC.opn j3 2 3 (by decide)
  obtain ⟨u4,v4,rfl⟩:=m0.form
  obtain ⟨g2,m3,a0⟩:=bs a0
  refine KY (O:=k3) (A:=All i3) (R:=λ w' F v=>Vb w' F v g2) (GP (λ _ h=>h) (m0).all j1 s0 m3) (Ho (X1 j0.1)) rfl rfl rfl λ n3 w4 k1 f0 l1=>?_
  obtain rfl:=l1.bool
  cases g2
  case false =>
   replace a0:=iF a0
   refine DB rfl (o_z (Aj rfl (Cq ?_)))
   replace j0:=j0.st f0
   replace m0:=m0.st f0
   obtain ⟨o3,m1,h2,i2,n1⟩:=BxC.shut (x:=s6.2) (l0:=2) (by decide) j0 m0
   obtain rfl:=sm a0
   exact show Exists _ from ⟨_,(),h0 _ rfl,⟨rfl,rfl,trivial⟩,_,((hB.st f2).st f0).st m1,n1,s0⟩
  replace a0:=iT a0
  refine DA rfl (o_z (Ae rfl (AN (Am (Ah (At rfl (At rfl (At rfl ?_))))))))
  obtain ⟨o1,p1,a0⟩:=bs a0
  replace j0:=j0.st f0
  replace m0:=m0.st f0
  refine KX (O:=k1) (GQ m0 s0 j1 p1) (Ho (X1 j0.1)) rfl rfl rfl λ p3 q3 r3 t0 u0=>?_
  refine o_z (Ah (At rfl (Au rfl (o_z ?_))))
  replace j0:=j0.st t0
  obtain ⟨s3,q1,j2,k2,r1⟩:=BxC.shut (x:=(⟨o1⟩:BxR 71 77 OEn)) (l0:=2) (by decide) (by have q:=j0;rw [<- u0.len.1.symm] at q;exact q) u0.relen
  obtain rfl:=sm a0
  exact show Exists _ from ⟨_,(),rfl,⟨rfl,rfl,rfl,rfl,trivial⟩,_,(((hB.st f2).st f0).st t0).st q1,r1,j1⟩
 rintro t3 u3 ⟨s1,v3,rfl,v0,w3,hB,g0,s0⟩
 replace hm:=BF hm
 refine Bg _ v0 ?_
 refine Am ?_
 obtain ⟨t1,e0,hm⟩:=bs hm
 refine Bi (λ l' w'=>∃ (u1:Unit) (O':Lab),Q2 l' [(6,(.bool t1))]/\Bm w O0 w' O'/\Ob 2 w' O' (.pointer (some ⟨p0,cx.pre.length,none⟩)) (BxR.c cx s1.2)) ?_ ?_
 ·
  refine Ah (At rfl (At rfl (Er rfl rfl (λ o0=>?_) λ o0=>?_)))
  ·
   replace e0:=ip e0 o0
   refine Au rfl (o_z ?_)
   obtain rfl:=sm e0
   exact ⟨(),_,⟨rfl,trivial⟩,hB,g0⟩
  replace e0:=im e0 o0
  refine Au rfl (o_z ?_)
  obtain rfl:=sm e0
  exact ⟨(),_,⟨rfl,trivial⟩,hB,g0⟩
 rintro x3 y3 ⟨u1,z3,w0,hB,g0⟩
 refine Bg _ w0 ?_
 refine AM ?_
 obtain rfl:=sm hm
 obtain ⟨O',hS',hz,hl⟩:=hE.leave (λ q=>if q=2 then i0 else 0) rfl hB
 exact T8 rfl (Bc rfl) ⟨O',hS',(Ob.leave g0 hz (hl 2 (by decide) (by decide)) r0.2),vBool⟩
noncomputable def DC (e:BxR 71 77 OEn) (f:An 77 OEn):Option (BxR 71 77 OEn) :=
  bnd (FU e (⟨f.x⟩:An 77 OEn)) λ d=>bnd (CH d.l) λ a=>bnd (Q1 (a - 1)) λ b=>bnd (Eu d b) λ c=>some c
theorem JL {w:World} {O:Lab} {cx:Cx} {f d:Nat} {n:BxR 71 77 OEn} (g:Ob d w O (.pointer (some ⟨f,cx.pre.length,none⟩)) (BxR.c cx n)) {b:Value} {a:An 77 OEn} (h:Vb w (Fr 0 w O) b a) {r:(BxR 71 77 OEn)} (hm:DC n a=some r) :
    Fn prog 50 [(.iface 80 (.pointer (some ⟨f,cx.pre.length,none⟩))),b] w λ v w'=>∃ e,St (eT d) w O w' e/\Ob d w' e (.pointer (some ⟨f,cx.pre.length,none⟩)) (BxR.c cx r):=by
 obtain ⟨i,hE,f0,h0⟩:=V0 (w:=w) (O:=O) g.2
 have k:=Ob.leave g f0 h0 (j:=2) (by decide)
 have l:Bm w i w i:=Bm.refl
 replace h:=h.mono f0
 obtain ⟨E,rfl,h4⟩:=h.any
 obtain ⟨G,rfl,rfl,r6,r7,r8⟩:=h4
 refine AK func50 rfl ntmps50 ?_
 unfold DC at hm
 refine Am (Ah (At rfl (At rfl ?_)))
 obtain ⟨o,j0,hm⟩:=bs hm
 refine KX (O:=i) (Ma k (AaV (Vb.ofAgg (cs:=[(.int .i64 a.x.cost),(.int .i64 a.x.number),(.int .i64 a.x.node)]) (x:=a.x) rfl ⟨rfl,r6,r7,r8⟩)) j0) RK rfl rfl rfl λ H p I s n0=>?_
 refine o_z (Ah (At rfl (At rfl ?_)))
 obtain ⟨t,i1,q0,r0,c0,b0⟩:=BxC.opn n0 2 3 (by decide)
 obtain ⟨J,k1,rfl⟩:=b0.form
 obtain ⟨u,t0,hm⟩:=bs hm
 refine KY (O:=t) (A:=All p) (R:=λ w' F v=>Vb w' F v u) (Hl (λ _ T=>T) (b0).all t0) (Ho (X1 c0.1)) rfl rfl rfl λ l1 K L m y=>?_
 obtain ⟨rfl,o1⟩:=y.int
 obtain ⟨M,g0,hm⟩:=bs hm
 have z:=(BE g0)
 refine Hf (he:=g0) rfl rfl ?_
 replace c0:=c0.st m
 replace b0:=b0.st m
 obtain ⟨B,y0,z0,a1,b1⟩:=BxC.shut (x:=o) (l0:=2) (by decide) c0 b0
 obtain ⟨N,c1,hm⟩:=bs hm
 refine Cg (O:=B) (KN b1 z c1) rfl λ P Q S C D=>?_
 refine o_z ?_
 obtain rfl:=sm hm
 replace l:=((((l.st s).st q0).st m).st y0).st C
 obtain ⟨e,hS',hz,hl⟩:=hE.leave (λ q=>if q=2 then d else 0) rfl l
 exact W3 rfl  ⟨e,hS',(Ob.leave D hz (hl 2 (by decide) (by decide)) g.2)⟩
noncomputable def DL (f:BxR 71 77 OEn):Option ((An 77 OEn)×(BxR 71 77 OEn)) :=
  bnd (CH f.l) λ c=>bnd (Q1 (c - 1)) λ a=>bnd (Ct f.l 0 a) λ d=>bnd (Ed (⟨d⟩:BxR 71 77 OEn) 0 a) λ e=>bnd (Gm e.2) λ b=>some ((⟨b.1.x⟩:An 77 OEn),b.2)
theorem Kk {w:World} {O:Lab} {cx:Cx} {e b:Nat} {i:BxR 71 77 OEn} (f:Ob b w O (.pointer (some ⟨e,cx.pre.length,none⟩)) (BxR.c cx i)) {r:(An 77 OEn)×(BxR 71 77 OEn)} (hm:DL i=some r) :
    Fn prog 22 [(.iface 80 (.pointer (some ⟨e,cx.pre.length,none⟩)))] w λ v w'=>∃ a,St (eT b) w O w' a/\Ob b w' a (.pointer (some ⟨e,cx.pre.length,none⟩)) (BxR.c cx r.2)/\Vb w' (Fr 0 w' a) v r.1:=by
 obtain ⟨k,hE,h0,j0⟩:=V0 (w:=w) (O:=O) f.2
 have g:=Ob.leave f h0 j0 (j:=2) (by decide)
 have h:Bm w k w k:=Bm.refl
 refine AK func22 rfl ntmps22 ?_
 unfold DL at hm
 refine Am (Ah (Au rfl (o_z (Am (Ah (At rfl ?_))))))
 obtain ⟨o,v6,S3,o1,h4,h7⟩:=BxC.opn g 2 3 (by decide)
 obtain ⟨G,c9,rfl⟩:=h7.form
 obtain ⟨p,m0,hm⟩:=bs hm
 refine KY (O:=o) (A:=All w) (R:=λ w' F v=>Vb w' F v p) (Hl (λ _ X=>X) (h7).all m0) (Ho (X1 h4.1)) rfl rfl rfl λ H I n0 c0 s=>?_
 obtain ⟨rfl,r1⟩:=s.int
 obtain ⟨J,d0,hm⟩:=bs hm
 have l:=(BE d0)
 refine Hf (he:=d0) rfl rfl (Au rfl (o_z (Am (Ah (At rfl (At rfl ?_))))))
 obtain ⟨t,r0,hm⟩:=bs hm
 replace h4:=h4.st c0
 replace h7:=h7.st c0
 refine KX (O:=n0) (GQ h7 (R0 0) l r0) (Ho (X1 h4.1)) rfl rfl rfl λ K L M m n=>?_
 refine o_z (Am (Ah (At rfl (At rfl ?_))))
 replace h4:=h4.st m
 obtain ⟨u,t0,u0,v0,w0⟩:=BxC.shut (x:=(⟨t⟩:BxR 71 77 OEn)) (l0:=2) (by decide) (by have q:=h4;rw [<- n.len.1.symm] at q;exact q) n.relen
 obtain ⟨N,y0,hm⟩:=bs hm
 refine Cg (O:=u) (JK w0 (R0 0) l y0) rfl λ P Q z0 y z=>?_
 obtain ⟨B,d1⟩:=z
 obtain rfl:=d1.bool
 refine o_z (Am (Ah (At rfl ?_)))
 obtain ⟨d,e1,hm⟩:=bs hm
 refine KX (O:=z0) (MB B e1) RK rfl rfl rfl λ S T U C D=>?_
 obtain ⟨E,i1⟩:=D
 obtain ⟨V,rfl,j1⟩:=i1.any
 obtain ⟨W,rfl,rfl,l1,m1,n1⟩:=j1
 refine Au rfl (o_z (AM ?_))
 obtain rfl:=sm hm
 replace h:=(((((h.st S3).st c0).st m).st t0).st y).st C
 obtain ⟨a,hS',hz,hl⟩:=hE.leave (λ q=>if q=2 then b else 0) rfl h
 exact T8 rfl (Bc rfl) ⟨a,hS',(Ob.leave E hz (hl 2 (by decide) (by decide)) f.2),(AaV (Vb.ofAgg (cs:=[(.int .i64 d.1.x.cost),(.int .i64 d.1.x.number),(.int .i64 d.1.x.node)]) (x:=d.1.x) rfl ⟨rfl,l1,m1,n1⟩))⟩
end
section
open Go Go.RowKit
attribute [local irreducible] ewp owp hwp hwq hws Ev Evg Fn Q4 R7 R2 Q9
def X0 (n:Nat) (s:List Int):List (List Int):=(List.range n).map λ x:Nat=>s ++ [(x:Int)]
def Z8 (a:List (List Int)) (k:Int):List (List Int):=a.flatMap (X0 k.toNat)
def statesL (vars:List Int):List (List Int):=vars.foldl Z8 [[]]
theorem HA {vars:List Int} {k:Nat} {n:Int} (a:vars[k]?=some n):statesL (vars.take (k + 1))=Z8 (statesL (vars.take k)) n:=by
  unfold statesL
  rw [I6,a,List.foldl_append];rfl
theorem TK (n:Nat) (s:List Int):X0 (n + 1) s=X0 n s ++ [s ++ [(n:Int)]]:=by unfold X0;rw [M0];simp
theorem HL (n:Nat) (s:List Int):(X0 n s).length=n:=by simp [X0]
theorem Ld (n:Nat):∀ l:List (List Int),(l.flatMap (X0 n)).length=l.length * n
  | []=>by simp
  | s :: l=>by rw [I7,H2,HL,Ld n l,J5,P2];omega
theorem TL {α β:Type} (f:α->List β) {l:List α} {k:Nat} {x:α} (a:l[k]?=some x):(l.take (k + 1)).flatMap f=(l.take k).flatMap f ++ f x:=by
  rw [I6,a];simp
theorem Rl (vars:List Int):∀ (k:Nat),k<=vars.length->∀ s∈statesL (vars.take k),s.length=k:=by
  intro k
  induction k with
  | zero=>intro _ s hs;simp [statesL] at hs;simp [hs]
  | succ k a =>
    intro hk s hs
    obtain ⟨n,hn⟩:∃ n,vars[k]?=some n:=⟨vars[k],C4 (by omega)⟩
    rw [HA hn] at hs
    obtain ⟨b,h1,h2⟩:=K2.1 hs
    obtain ⟨x,_,rfl⟩:=N8.1 h2
    simp [a (by omega) b h1]
end
section
open Go Go.RowKit
def ZP:List Int->Nat->Nat
  | [],n=>n
  | k :: r,n=>ZP r (n * k.toNat)
theorem Jl:∀ (vars:List Int) (a:List (List Int)),(vars.foldl Z8 a).length=ZP vars a.length
  | [],_=>rfl
  | k :: r,a=>by
    simp only [L0,ZP]
    rw [Jl r,Z8,Ld]
theorem Rm (vars:List Int):(statesL vars).length=ZP vars 1:=Jl vars [[]]
theorem OH {most:Nat}:∀ (vars:List Int) (n:Nat),(∀ x∈vars,1≤x)→1≤n→ZG most vars (n:Int)≤most→∀ k,ZP (vars.take k) n≤most
  | [],n,_,_,h,k=>by simp only [List.take_nil,ZP];simp only [ZG] at h;omega
  | x :: r,n,hx,hn,h,k=>by
    have d:1<=x:=hx x H8
    simp only [ZG] at h
    have a:max x 0=x:=by omega
    rw [a] at h
    obtain ⟨m,rfl⟩:∃ m:Nat,x=(m:Int):=⟨x.toNat,by omega⟩
    by_cases hm:(m:Int)<=most
    . rw [show min (m:Int) (most + 1)=(m:Int) from by omega,<- Int.natCast_mul] at h
      have b:n<=n * m:=D1 n (by omega)
      by_cases hc:(most:Int) < ((n * m:Nat):Int)
      . rw [if_pos hc] at h;omega
      . rw [if_neg hc] at h
        cases k with
        | zero=>simp only [List.take_zero,ZP];omega
        | succ k =>
          simp only [List.take_succ_cons,ZP,I9]
          exact OH r (n * m) (λ y c=>hx y (F8 _ c)) (by omega) h k
    . exfalso
      rw [show min (m:Int) (most + 1)=((most + 1:Nat):Int) from by omega,<- Int.natCast_mul] at h
      have:most + 1<=n * (most + 1):=E4 _ hn
      rw [if_pos (by omega)] at h
      omega
theorem Le {y x:Int} {vs s:List Int}:StateOk (y :: vs) (x :: s)↔(0<=x/\x < y)/\StateOk vs s:=by
  constructor
  . intro e
    exact ⟨e.2 0 x y rfl rfl,by have:=e.1;simpa using this,λ i a b c hb=>e.2 (i + 1) a b (by simpa using c) (by simpa using hb)⟩
  . rintro ⟨d,h2,h3⟩
    refine ⟨by simpa using h2,λ i a b c hb=>?_⟩
    cases i with
    | zero=>simp at c hb;subst c;subst hb;exact d
    | succ i=>exact h3 i a b (by simpa using c) (by simpa using hb)
theorem Rn:StateOk [] []:=⟨rfl,λ i a b c=>by simp at c⟩
theorem Qd {n:Nat} {s t:List Int}:t∈X0 n s↔∃ x:Nat,x < n/\t=s ++ [(x:Int)]:=by
  unfold X0
  rw [N8]
  constructor
  . rintro ⟨x,hx,rfl⟩;exact ⟨x,M4.1 hx,rfl⟩
  . rintro ⟨x,hx,rfl⟩;exact ⟨x,M4.2 hx,rfl⟩
theorem Jm:∀ (vars:List Int) (a:List (List Int)) (s:List Int),s∈vars.foldl Z8 a↔∃ b∈a,∃ r,s=b ++ r∧StateOk vars r
  | [],a,s=>by
    constructor
    . intro e;exact ⟨s,e,[],by simp,Rn⟩
    . rintro ⟨b,e,r,rfl,hr⟩
      have:r=[]:=B0 hr.1
      subst this;simpa using e
  | k :: vs,a,s=>by
    simp only [L0]
    rw [Jm vs (Z8 a k) s]
    constructor
    . rintro ⟨d,c,r,rfl,hr⟩
      obtain ⟨b,h0,h2⟩:=K2.1 c
      obtain ⟨x,hx,rfl⟩:=Qd.1 h2
      exact ⟨b,h0,(x:Int) :: r,by simp,Le.2 ⟨⟨by omega,by omega⟩,hr⟩⟩
    . rintro ⟨b,h0,r,rfl,hr⟩
      cases r with
      | nil=>have:=hr.1;simp at this
      | cons x r =>
        obtain ⟨⟨c,h2⟩,h3⟩:=Le.1 hr
        exact ⟨b ++ [x],K2.2 ⟨b,h0,Qd.2 ⟨x.toNat,by omega,by rw [show ((x.toNat:Nat):Int)=x from by omega]⟩⟩,r,by simp,h3⟩
theorem GY {vars s:List Int}:s∈statesL vars↔StateOk vars s:=by
  unfold statesL
  rw [Jm]
  constructor
  . rintro ⟨a,h0,r,rfl,hr⟩
    have:a=[]:=by simpa using h0
    subst this;exact hr
  . intro b;exact ⟨[],by simp,s,rfl,b⟩
theorem SmallOk.ok {t:Tsk} (a:SmallOk t):TaskOk t:=a.2.2.2.1
theorem SmallOk.states {t:Tsk} (b:SmallOk t):∀ k,(statesL (t.vars.take k)).length<=512:=λ k=>by
  rw [Rm]
  refine OH (most:=512) t.vars 1 (λ x a=>?_) (P1 _) b.2.2.2.2 k
  obtain ⟨i,hi,rfl⟩:=List.getElem_of_mem a
  exact (b.ok.vars i _ (C4 hi)).1
theorem SmallOk.many {t:Tsk} (a:SmallOk t):(statesL t.vars).length<=512:=by
  have:=a.states t.vars.length
  rwa [K4] at this
structure Mid (t:Tsk):Prop where
  ok:TaskOk t
  states:∀ k,(statesL (t.vars.take k)).length<=600
  ops:t.ops.length<=80
theorem SmallOk.mid {t:Tsk} (a:SmallOk t):Mid t:=⟨a.ok,λ k=>by have:=a.states k;omega,by have:=a.2.1;omega⟩
end
section
open Go Go.RowKit
attribute [local irreducible] ewp owp hwp hwq hws Ev Evg Fn Q4 R7 R2 Q9
structure Edg where
  src:Int
  op:Int
  dst:Int
instance:Rp Edg where
  isAgg:=true
  size:=3
  R w F cs x:=cs=[.int .i64 x.src,.int .i64 x.op,.int .i64 x.dst]/\P9 x.src/\P9 x.op/\P9 x.dst
  len:=by rintro w F cs x ⟨rfl,h0,h1,h2⟩;rfl
  one:=by rintro w F cs x ⟨rfl,h0,h1,h2⟩ u hu;simp at hu;rcases hu with rfl|rfl|rfl<;>first|rfl|exact Vb.one rfl (by assumption)
  agree:=by rintro w w' F cs x ⟨rfl,h0,h1,h2⟩ ha;exact ⟨rfl,h0,h1,h2⟩
  mono:=by rintro w F G cs x ⟨rfl,h0,h1,h2⟩ ha;exact ⟨rfl,h0,h1,h2⟩
instance:Ec Edg λ B a w O i b o x G=>P9 x.src->P9 x.op->P9 x.dst->Al B (.C i b o [(.int .i64 x.src),(.int .i64 x.op),(.int .i64 x.dst)] :: .V (.agg #[(.int .i64 x.src),(.int .i64 x.op),(.int .i64 x.dst)]) x :: a) w O->G:=⟨λ {_ _ _ _ _ _ _ x _ _} d c hc e k=>by
  have hv:=Vb.ofAgg (x:=x) rfl e
  obtain ⟨rfl,r1,r2,r3⟩:=e
  exact k r1 r2 r3 ⟨⟨c,hc⟩,hv,d⟩⟩
noncomputable def ES (q:List Int):Option (List (List Int)) :=
  bnd (rng (ρ:=(List (List Int))) (λ (r:Nat) (h:Int) (i:(List (List Int)))=>bnd (rng (ρ:=Ctl (List (List Int)) (List (List Int))) (λ (s:Nat) (j:List Int) (k:(List (List Int)))=>bnd (Aab h) λ l=>bnd (ZA (ρ:=Ctl (List (List Int)) (Ctl (List (List Int)) (List (List Int)))) (λ (m:Nat) (n:(List (List Int)))=>bnd (R8 8 ([]:List Int) j) λ o=>bnd (R8 8 o [(m:Int)]) λ p=>bnd (R8 24 n [p]) λ d=>some (.next d)) l k) λ a=>fin a λ (e:(List (List Int)))=>some (.next e)) i 0 ([]:List (List Int))) λ b=>fin b λ (f:(List (List Int)))=>some (.next f)) q 0 [([]:List Int)]) λ c=>fin c λ (g:(List (List Int)))=>some g
section
attribute [local irreducible] Vb Lc Rw Ob
theorem KG {w:World} {A:Nat->Prop} (hA:∀ k,A k->k < w.heap.size) {b:Value} {j:List Int} (n0:Vb w A b j) {r:(List (List Int))} (hm:ES j=some r) :
    Fn prog 60 [b] w λ v w'=>Ext w w'/\Vb w' (upA A w w') v r:=by
 obtain ⟨_,_,_⟩:=CW hA
 apply Cj n0;intros
 refine AK func60 rfl ntmps60 ?_
 unfold ES at hm
 refine Am (Ah (Au rfl (o_z (Am (Ah (Gx 2 (([]:List Int):List Int) ?_))))));intros
 refine Fv 2 ?_;intros
 refine Gx 3 ([([]:List Int)]:List (List Int)) ?_;intros
 refine Au rfl (o_z (Am (Am (Ah (At rfl (AU rfl (At rfl (o_z (Fv 3 ?_)))))))));intros
 refine DT (X:=(Option Addr×Nat)) hm [12] [] [4,5] [] (λ _ _ c f t=>(3,sv f c) :: t) (λ _ _ c f t=>fV f c :: t) (_,_) ?_ ?_
 ·
  intro m z0 c _ _ _ _ g n _ o;intros
  refine Am (Ah (Ep ?_));intros
  refine EZ (Au rfl (o_z (Am (Ah (Au rfl (o_z (Am (Am (Ah (At rfl (AU rfl (At rfl (o_z ?_)))))))))))))
  refine DT (X:=(Option Addr×Nat)) g [5,12,13,14,18] [] [4,5] [] (λ _ _ d h t=>(6,sv h d) :: t) (λ _ _ d h t=>fR 5 22 h d :: t) (_,_) ?_ ?_
  ·
   intro p q d _ _ _ _ c0 s _ u;intros
   refine Am (Ah (Ep ?_));intros
   refine EZ (Au rfl (o_z (Am (Ah (At rfl (At rfl (o_z ?_)))))))
   refine Yi (X:=(Option Addr×Nat)) c0 [5,8,12,13,14,18,19,20] [] [4,5] [] (λ _ _ e i t=>(6,sv i e) :: t) (λ _ _ e i t=>fR 5 22 i e :: t) (_,_) ?_ ?_
   ·
    intro l x e _ _ _ _ a _ _ _ l0;intros
    refine Am (Ah (At rfl (Au rfl (o_z (Ah (At rfl (Gx 4 (([]:List Int):List Int) ?_)))))));intros
    refine ad ?_
    obtain ⟨y,r0,a⟩:=bs a
    refine NY r0 ?_;intros
    refine ad ?_
    obtain ⟨z,s0,a⟩:=bs a
    refine PT s0 ?_;intros
    refine Fv 4 ?_;intros
    obtain ⟨B,m0,a⟩:=bs a
    refine PT m0 ?_;intros
    refine Au rfl (o_z ?_)
    exact DF (_,_) a
   intro l C _ _ _ _ c0;intros
   exact DF (_,_) c0
  intro D _ _ _ _ g;intros
  refine BY ?_
  refine Ah (At rfl (Au rfl (o_z (Fv 5 ?_))));intros
  exact DF (_,_) g
 intro E _ _ _ _ hm;intros
 refine BY ?_
 refine Am (Ah (At rfl (Au rfl (o_z (AM ?_)))))
 obtain rfl:=sm hm
 exact Cl
end
noncomputable def Ds (g:Tsk) (h:List Int) (f:Int):Option ((List Int)×Bool) :=
  bnd (if f < 0 then (some true) else (if (g.ops.length:Int)<=f then (some true) else (bnd (atI g.ops f) λ i=>bnd (EF i.pre h) λ j=>if j=true then some false else some true)):Option Bool) λ k=>if k=true then (some (([]:List Int),false)) else (bnd (R8 8 ([]:List Int) h) λ l=>bnd (atI g.ops f) λ m=>bnd (rng (ρ:=(List Int)×Bool) (λ (o:Nat) (a:Eff) (b:(List Int))=>bnd (EF a.cond h) λ d=>if d=true then bnd (atI b a.var) λ n=>some (.next (b.set (a.var:Int).toNat a.val)) else some (.next b)) m.effs 0 l) λ c=>fin c λ (e:(List Int))=>some (e,true))
section
attribute [local irreducible] Vb Lc Rw Ob
theorem Lf {w:World} {A:Nat->Prop} (hA:∀ k,A k->k < w.heap.size) {c:Value} {i:Tsk} (m:Vb w A c i) {d:Value} {j:List Int} (l0:Vb w A d j) {e:Int} (n:P9 e) {r:(List Int)×Bool} (hm:Ds i j e=some r) :
    Fn prog 58 [c,d,(.int .i64 e)] w λ v w'=>Ext w w'/\T2 w' (upA A w w') v r:=by
 obtain ⟨_,_,_⟩:=CW hA
 apply Cj m;intros
 apply Cj l0;intros
 refine AK func58 rfl ntmps58 ?_
 unfold Ds at hm
 refine Am (Ah (Dt 2 ?_));intros
 refine Au rfl (Au rfl (o_z (Am (Am (DE (X:=Unit) hm [1,2,3] [] [] [] (λ _ _ c0 _ t=>(30,.bool c0) :: t) (λ _ _ _ _ t=>t) ?_ ?_)))))
 ·
  intro c0 a
  refine Ah (At rfl (Eq rfl rfl (λ f=>?_) λ f=>?_))
  ·
   replace a:=ip a f
   refine At rfl (AA rfl rfl (AA rfl rfl (AA rfl rfl (AA rfl rfl (AA rfl rfl (BJ rfl rfl (At rfl (AA rfl rfl (AA rfl rfl (AA rfl rfl (AA rfl rfl (AA rfl rfl (AA rfl rfl (AA rfl rfl ?_))))))))))))))
   refine AA rfl rfl (AA rfl rfl (BJ rfl rfl (o_z ?_)))
   obtain rfl:=sm a
   exact BA ()
  replace a:=im a f
  refine At rfl (AB rfl rfl (At rfl (AB rfl rfl (AO rfl (AB rfl rfl (CF (AB rfl rfl (AU rfl (AB rfl rfl (GH rfl rfl (λ g=>?_) λ g=>?_))))))))))
  ·
   replace a:=ip a g
   refine BK rfl rfl (At rfl (AA rfl rfl (AA rfl rfl (AA rfl rfl (AA rfl rfl (AA rfl rfl (AA rfl rfl (AA rfl rfl (AA rfl rfl (AA rfl rfl (BJ rfl rfl (o_z ?_))))))))))))
   obtain rfl:=sm a
   exact BA ()
  replace a:=im a g
  refine BK rfl rfl (At rfl (AB rfl rfl (AO rfl (AB rfl rfl (CF (AB rfl rfl (At rfl (AB rfl rfl ?_))))))))
  obtain ⟨s,u0,a⟩:=bs a
  refine Jw ?_;intros
  refine AB rfl rfl (AO rfl (AB rfl rfl (SG (AB rfl rfl (At rfl (AB rfl rfl ?_))))))
  obtain ⟨p,n0,a⟩:=bs a
  refine DO rfl (Hy (λ _ E=>E) zA zA n0) ?_;intros
  cases p
  case false =>
   replace a:=iF a
   refine AB rfl rfl (DB rfl (BK rfl rfl (o_z ?_)))
   obtain rfl:=sm a
   exact BA ()
  replace a:=iT a
  refine AB rfl rfl (DA rfl (BK rfl rfl (o_z ?_)))
  obtain rfl:=sm a
  exact BA ()
 intro c0 _ _ _ _ hm;intros
 refine BY ?_
 refine BP rfl (λ h=>?_) (λ h=>?_)
 ·
  replace hm:=ip hm h
  refine Am (Ah (Au rfl (Au rfl (o_z (AM ?_)))))
  obtain rfl:=sm hm
  exact Jx
 replace hm:=im' hm h
 refine AN (Am (Ah (Gx 3 (([]:List Int):List Int) ?_)));intros
 refine ad ?_
 obtain ⟨u,o0,hm⟩:=bs hm
 refine NY o0 ?_;intros
 refine Au rfl (o_z (Am (Am (Ah (AO rfl (CF (At rfl ?_)))))))
 obtain ⟨x,y0,hm⟩:=bs hm
 refine Jw ?_;intros
 refine AO rfl (SG (AU rfl (At rfl (o_z ?_))))
 refine DT (X:=Unit) hm [1,8,39] [] [3,4] [3] (λ _ _ _ _ t=>t) (λ _ o l _ t=>uR (o 3) 3 l :: t) () ?_ ?_
 ·
  intro z0 y l _ _ _ _ b z _ B;intros
  refine Am (Ah (Ep ?_));intros
  refine Jh ?_
  refine Ck 4 ?_;intros
  refine BN ?_;intros
  refine o_z (Am (Ah (AO rfl (CF (At rfl ?_)))))
  obtain ⟨q,i0,b⟩:=bs b
  refine DO rfl (Hy (λ _ E=>E) zA zA i0) ?_;intros
  cases q
  case false =>
   replace b:=iF b
   refine o_z (Ae rfl (AN ?_))
   exact DF () b
  replace b:=iT b
  refine o_z (Aj rfl (Ah (At rfl (AO rfl (CF (AO rfl ?_))))))
  refine CF ?_
  obtain ⟨C,r0,b⟩:=bs b
  refine Jw ?_;intros
  refine GU ?_;intros
  refine o_z ?_
  exact DF () b
 intro D _ _ _ _ hm;intros
 refine BY ?_
 refine Am (Ah (At rfl (Au rfl (Au rfl (o_z (AM (Fv 3 ?_)))))));intros
 obtain rfl:=sm hm
 exact Jx
end
noncomputable def Fe (i:List Int) (j:List Int):Option Int :=
  bnd (rng (ρ:=Int) (λ (b:Nat) (c:Int) (d:Int)=>bnd (i[b]?) λ e=>bnd (Q1 (d * e)) λ f=>bnd (Q1 (f + c)) λ g=>some (.next g)) j 0 0) λ a=>fin a λ (h:Int)=>some h
section
attribute [local irreducible] Vb Lc Rw Ob
theorem Mi {w:World} {A:Nat->Prop} (hA:∀ k,A k->k < w.heap.size) {b:Value} {e:List Int} (g:Vb w A b e) {c:Value} {f:List Int} (h:Vb w A c f) {r:Int} (hm:Fe e f=some r) :
    Fn prog 28 [b,c] w λ v w'=>Ext w w'/\Vb w' (upA A w w') v r:=by
 obtain ⟨_,_,_⟩:=CW hA
 apply Cj g;intros
 apply Cj h;intros
 refine AK func28 rfl ntmps28 ?_
 unfold Fe at hm
 refine Am (Ah (Au rfl (o_z (Am (Ah (Au rfl (o_z (Am (Am (Ah (At rfl (AU rfl (At rfl (o_z ?_))))))))))))))
 refine DT (X:=Unit) hm [0,1] [] [] [] (λ _ _ d _ t=>(5,.int .i64 d) :: t) (λ _ _ d _ t=>fI d :: t) () ?_ ?_
 ·
  intro i j d _ _ _ _ a l _ c0;intros
  refine Am (Ah (At rfl (Au rfl (o_z (NZ (AX (CR 0 12)) ?_)))))
  refine AJ rfl rfl (AJ rfl rfl (AJ rfl rfl ?_))
  obtain ⟨m,l0,a⟩:=bs a
  refine HU rfl ?_;intros
  refine EE rfl ?_
  obtain ⟨n,g0,a⟩:=bs a
  refine YS (he:=g0) rfl rfl rfl rfl (AJ rfl rfl (AJ rfl rfl (HU rfl ?_)));intros
  refine EE rfl ?_
  obtain ⟨n0,h0,a⟩:=bs a
  refine LK (he:=h0) rfl rfl rfl rfl (Ei rfl rfl (h_z ?_))
  exact DF () a
 intro o _ _ _ _ hm;intros
 refine BY ?_
 refine Am (Ah (At rfl (Au rfl (o_z (AM ?_)))))
 obtain rfl:=sm hm
 exact Cl
end
noncomputable def GB (g:Tsk):Option (List Edg) :=
  bnd (ES g.vars) λ h=>bnd (rng (ρ:=(List Edg)) (λ (i:Nat) (j:List Int) (k:(List Edg))=>bnd (rng (ρ:=Ctl (List Edg) (List Edg)) (λ (c:Nat) (o:Opr) (d:(List Edg))=>bnd (Ds g j (c:Int)) λ e=>if e.2=true then (bnd (Fe g.vars e.1) λ l=>bnd (R8 24 d [(⟨(i:Int),(c:Int),l⟩:Edg)]) λ m=>some (.next m)) else (some (.next d))) g.ops 0 k) λ a=>fin a λ (n:(List Edg))=>some (.next n)) h 0 ([]:List Edg)) λ b=>fin b λ (f:(List Edg))=>some f
section
attribute [local irreducible] Vb Lc Rw Ob
theorem Qe {w:World} {A:Nat->Prop} (hA:∀ k,A k->k < w.heap.size) {b:Value} {h:Tsk} (i:Vb w A b h) {r:(List Edg)} (hm:GB h=some r) :
    Fn prog 61 [b] w λ v w'=>Ext w w'/\Vb w' (upA A w w') v r:=by
 obtain ⟨_,_,_⟩:=CW hA
 apply Cj i;intros
 refine AK func61 rfl ntmps61 ?_
 unfold GB at hm
 refine Am (Ah (Dt 2 ?_));intros
 refine Au rfl (o_z (Am (Ah (Au rfl (o_z (Am (Am (Ah (AO rfl (CF ?_))))))))))
 obtain ⟨m,k0,hm⟩:=bs hm
 refine Dn rfl (KG Fr.lt zV k0) ?_;intros
 refine AU rfl (At rfl (o_z (DT (X:=(Option Addr×Nat)) hm [1,11] [] [3] [] (λ _ _ c0 d t=>(3,sv d c0) :: t) (λ _ _ c0 d t=>fR 3 134 d c0 :: t) (_,_) ?_ ?_)))
 ·
  intro n o c0 _ _ _ _ e l0 _ p;intros
  refine Am (Ah (At rfl (Ep ?_)));intros
  refine EZ (Au rfl (Au rfl (o_z (Am (Ah (AO rfl ?_))))))
  refine CF (AU rfl (At rfl (o_z ?_)))
  refine DT (X:=(Option Addr×Nat)) e [1,4,5,11,12,13] [] [3] [] (λ _ _ c f t=>(3,sv f c) :: t) (λ _ _ c f t=>fR 3 134 f c :: t) (_,_) ?_ ?_
  ·
   intro q s c _ _ _ _ a u _ x;intros
   refine Am (Ah (At rfl (Au rfl (o_z (Am (Ah (EY (At rfl (At rfl ?_)))))))))
   obtain ⟨z0,n0,a⟩:=bs a
   refine UU rfl (Lf Fr.lt zV zV zI n0) λ _ _ _ _ _ j l=>?_
   apply KZ j;intros
   apply KZ l;intros
   refine At rfl (CK rfl rfl (CK rfl rfl (Au rfl (Au rfl (o_z (Am (Ah (At rfl (o_z (BP rfl (λ g=>?_) (λ g=>?_)))))))))))
   ·
    replace a:=ip a g
    refine Ah (At rfl (At rfl (At rfl (AO rfl (CF (At rfl ?_))))))
    obtain ⟨y,q0,a⟩:=bs a
    refine DO rfl (Mi (λ _ D=>D) zA zA q0) ?_;intros
    refine DU rfl rfl ?_
    obtain ⟨z,r0,a⟩:=bs a
    refine PT r0 ?_;intros
    refine Au rfl (o_z ?_)
    exact DF (_,_) a
   replace a:=im' a g
   refine AN ?_
   exact DF (_,_) a
  intro B _ _ _ _ e;intros
  exact DF (_,_) e
 intro C _ _ _ _ hm;intros
 refine BY ?_
 refine Am (Ah (At rfl (Au rfl (o_z (AM (Fv 3 ?_))))));intros
 obtain rfl:=sm hm
 exact Cl
end
noncomputable def Fm (t:Tsk):Option (List Int) :=
  bnd (ES t.vars) λ k=>bnd (mkI 8 (0:Int) (k.length:Int)) λ u=>bnd (rng (ρ:=(List Int)) (λ (c:Nat) (v:List Int) (d:(List Int))=>bnd (d[c]?) λ B=>bnd (EF t.goal v) λ w=>if w=true then bnd ((d.set c 1125899906842624)[c]?) λ C=>some (.next ((d.set c 1125899906842624).set c 0)) else some (.next (d.set c 1125899906842624))) k 0 u) λ i=>fin i λ (x:(List Int))=>bnd (GB t) λ y=>bnd (lop (ρ:=(List Int)) (λ (e:(List Int)×Bool)=>if e.2=true then (bnd (rng (ρ:=Ctl ((List Int)×Bool) (List Int)) (λ (z:Nat) (b:Edg) (a:(List Int)×Bool)=>bnd (atI t.ops b.op) λ g=>bnd (bnd (atI a.1 b.dst) λ l=>if l < 1125899906842624 then (bnd (atI a.1 b.dst) λ m=>bnd (Q1 (m + g.cost)) λ n=>bnd (atI a.1 b.src) λ o=>if n < o then (some true) else (some false)) else (some false):Option Bool) λ p=>if p=true then (bnd (atI a.1 b.dst) λ q=>bnd (Q1 (q + g.cost)) λ r=>bnd (atI a.1 b.src) λ A=>some (.next ((a.1.set (b.src:Int).toNat r),true))) else (some (.next (a.1,a.2)))) y 0 (e.1,false)) λ f=>fin f λ (h:(List Int)×Bool)=>some (.next (h.1,h.2))) else (some (.brk (e.1,e.2)))) (x,true)) λ j=>fin j λ (s:(List Int)×Bool)=>some s.1
section
attribute [local irreducible] Vb Lc Rw Ob
theorem MC {w:World} {A:Nat->Prop} (hA:∀ k,A k->k < w.heap.size) {d:Value} {n:Tsk} (q:Vb w A d n) {r:(List Int)} (hm:Fm n=some r) :
    Fn prog 27 [d,(.slice none 0 0)] w λ v w'=>Ext w w'/\Vb w' (upA A w w') v r:=by
 obtain ⟨_,_,_⟩:=CW hA
 apply Cj q;intros
 refine AK func27 rfl ntmps27 ?_
 unfold Fm at hm
 refine Am (Ah (Dt 2 ?_));intros
 refine Au rfl (o_z (Am (Ah (AO rfl (CF ?_)))))
 obtain ⟨u,t0,hm⟩:=bs hm
 refine Dn rfl (KG Fr.lt zV t0) ?_;intros
 refine Au rfl (o_z (Am (Ah (At rfl (AU rfl ?_)))))
 obtain ⟨x,u0,hm⟩:=bs hm
 refine Fj 3 u0 ?_;intros
 refine Au rfl (o_z (Am (Am (Ah (At rfl (AU rfl (At rfl (o_z (DT (X:=Unit) hm [1,2,6,20] [] [3] [3] (λ _ _ _ _ t=>t) (λ _ o p _ t=>uR (o 3) 3 p :: t) () ?_ ?_)))))))))
 ·
  intro y z p _ _ _ _ c0 B _ C;intros
  refine Am (Ah (At rfl (Ep ?_)));intros
  refine EZ (Au rfl (Au rfl (o_z (Am (Ah (At rfl (At rfl ?_)))))))
  obtain ⟨D,x1,c0⟩:=bs c0
  refine Ep ?_;intros
  refine GU ?_;intros
  refine o_z (Am (Ah (AO rfl (CF (At rfl ?_)))))
  obtain ⟨s,y0,c0⟩:=bs c0
  refine DO rfl (Hy (λ _ T=>T) zA zA y0) ?_;intros
  cases s
  case false =>
   replace c0:=iF c0
   refine o_z (Ae rfl (AN ?_))
   exact DF () c0
  replace c0:=iT c0
  refine o_z (Aj rfl (Ah (At rfl (At rfl ?_))))
  obtain ⟨E,z1,c0⟩:=bs c0
  refine Ep ?_;intros
  refine GU ?_;intros
  refine o_z ?_
  exact DF () c0
 intro F _ _ _ _ hm;intros
 refine BY ?_
 refine Am (Ah (EY ?_))
 obtain ⟨G,z0,hm⟩:=bs hm
 refine Dn rfl (Qe Fr.lt zV z0) ?_;intros
 refine Au rfl (o_z (Am (Am (Ah (Au rfl (o_z (SH (X:=Unit) hm [1,2,6,9] [] [3,4] [3] (λ _ _ e _ t=>(10,.bool e.2) :: t) (λ _ o e _ t=>uR (o 3) 3 e.1 :: t) [6] (λ _ _ _ _ t=>t) () ?_ ?_)))))))
 ·
  intro e _ _ _ _ c n0;intros
  refine Am (Am (Ah (At rfl (o_z (BP rfl (λ g=>?_) (λ g=>?_))))))
  ·
   replace c:=ip c g
   refine AN (Bx (Am (Ah (Au rfl (o_z (Am (Ah (At rfl (AU rfl (At rfl (o_z (DT (X:=Unit) c [1,2,6,9,41] [] [3,4] [3] (λ _ _ f _ t=>(10,.bool f.2) :: t) (λ _ o f _ t=>uR (o 3) 3 f.1 :: t) () ?_ ?_))))))))))))
   ·
    intro H I f _ _ _ _ b J _ l0;intros
    refine Am (Ah (Ep ?_));intros
    refine Jh ?_
    refine Ck 4 ?_;intros
    refine BN ?_;intros
    refine o_z (Am (Ah (AO rfl (CF (AO rfl ?_)))))
    refine CF ?_
    obtain ⟨K,d1,b⟩:=bs b
    refine Jw ?_;intros
    refine AO rfl (SG (Au rfl (o_z (Am (Am (Ah (At rfl (Zo rfl rfl (o_z (Ae rfl (AN (Am ?_))))))))))))
    refine DE (X:=Unit) b [1,2,6,9,10,12,13,41,42,43] [] [] [] (λ _ _ h _ t=>(81,.bool h) :: t) (λ _ _ _ _ t=>t) ?_ ?_
    ·
     intro h a
     refine NZ (AX (CR 0 21)) ?_
     refine AJ rfl rfl (AL rfl rfl (Cp rfl ?_))
     obtain ⟨L,f1,a⟩:=bs a
     refine Fb rfl ?_;intros
     refine EE rfl (GJ rfl rfl rfl (λ j=>?_) λ j=>?_)
     ·
      replace a:=ip a j
      refine AJ rfl rfl (Az rfl (Aw rfl rfl (Ce rfl (Az rfl (Aw rfl rfl (BM rfl (Az rfl (Aw rfl rfl (Ke (Az rfl (Aw rfl rfl ?_)))))))))))
      obtain ⟨M,h1,a⟩:=bs a
      refine Wt ?_;intros
      refine Az rfl (Aw rfl rfl (PR (Az rfl (Aw rfl rfl (Ce rfl (Az rfl (Aw rfl rfl ?_)))))))
      obtain ⟨N,o0,a⟩:=bs a
      refine YQ (he:=o0) rfl rfl rfl (Az rfl (Aw rfl rfl (Ce rfl (Az rfl (Aw rfl rfl (BM rfl (Az rfl (Aw rfl rfl (Ke (Az rfl (Aw rfl rfl ?_)))))))))))
      obtain ⟨O,k1,a⟩:=bs a
      refine Wt ?_;intros
      refine Az rfl (Aw rfl rfl (PR (Az rfl (Aw rfl rfl (Bj (λ _ _=>Di rfl rfl) (λ l=>?_) (λ l=>?_))))))
      ·
       replace a:=ip a l
       refine CL rfl rfl rfl (h_z ?_)
       obtain rfl:=sm a
       exact BA ()
      replace a:=im a l
      refine CL rfl rfl rfl (h_z ?_)
      obtain rfl:=sm a
      exact BA ()
     replace a:=im a j
     refine AJ rfl rfl (AW rfl rfl rfl (AW rfl rfl rfl (AW rfl rfl rfl (AW rfl rfl rfl (AW rfl rfl rfl (AW rfl rfl rfl (AW rfl rfl rfl (AW rfl rfl rfl (AW rfl rfl rfl (AW rfl rfl rfl (AW rfl rfl rfl (AW rfl rfl rfl (AW rfl rfl rfl (CE rfl rfl rfl ?_))))))))))))))
     refine h_z ?_
     obtain rfl:=sm a
     exact BA ()
    intro h _ _ _ _ b;intros
    refine BY ?_
    refine BP rfl (λ m=>?_) (λ m=>?_)
    ·
     replace b:=ip b m
     refine Am (Hj [] ?_)
     refine AH (fuel:=1) [] (AX (CR 0 11)) rfl (AJ rfl rfl (AL rfl rfl (Cp rfl (AJ rfl rfl (AL rfl rfl ?_)))))
     refine Cp rfl ?_
     obtain ⟨l1,m1,b⟩:=bs b
     refine Fb rfl ?_;intros
     refine EE rfl (AJ rfl rfl ?_)
     obtain ⟨P,p0,b⟩:=bs b
     refine LK (he:=p0) rfl rfl rfl rfl ?_
     obtain ⟨Q,p1,b⟩:=bs b
     refine Fb rfl ?_;intros
     refine AC (AF (i:=11) rfl (GU ?_));intros
     refine Bz (Ba (Ah (Au rfl (o_z ?_))))
     exact DF () b
    replace b:=im' b m
    refine AN ?_
    exact DF () b
   intro R _ _ _ _ c;intros
   exact DF () c
  replace c:=im' c g
  refine Cq ?_
  exact UV () c
 intro S _ _ _ _ hm;intros
 refine BY ?_
 refine Am (Ah (At rfl (Au rfl (o_z (AM (Fv 3 ?_))))));intros
 obtain rfl:=sm hm
 exact Cl
end
noncomputable def GZ (f:Tsk) (k:List Int) (l:List Int):Option (Int×Bool) :=
  bnd (rng (ρ:=Int×Bool) (λ (m:Nat) (b:Int) (c:(List Int)×Int)=>bnd (Ds f c.1 b) λ d=>if (!d.2)=true then (some (.ret (0,false))) else (bnd (atI f.ops b) λ g=>bnd (Q1 (c.2 + g.cost)) λ h=>some (.next (d.1,h)))) l 0 (k,0)) λ a=>fin a λ (e:(List Int)×Int)=>bnd (bnd (EF f.goal e.1) λ i=>if i=true then some true else some false:Option Bool) λ j=>some (e.2,j)
section
attribute [local irreducible] Vb Lc Rw Ob
theorem Ro {w:World} {A:Nat->Prop} (hA:∀ k,A k->k < w.heap.size) {d:Value} {j:Tsk} (n:Vb w A d j) {e:Value} {l:List Int} (o:Vb w A e l) {f:Value} {m:List Int} (p:Vb w A f m) {r:Int×Bool} (hm:GZ j l m=some r) :
    Fn prog 26 [d,e,f] w λ v w'=>Ext w w'/\T2 w' (upA A w w') v r:=by
 obtain ⟨_,_,_⟩:=CW hA
 apply Cj n;intros
 apply Cj o;intros
 apply Cj p;intros
 refine AK func26 rfl ntmps26 ?_
 unfold GZ at hm
 refine Am (Ah (Dt 2 ?_));intros
 refine Au rfl (Au rfl (o_z (Am (Ah (Au rfl (o_z (Am (Am (Ah (At rfl (AU rfl (At rfl (o_z (DT (X:=(Option Addr×Nat)) hm [3,13] [] [] [] (λ _ _ c g t=>(1,sv g c.1) :: (8,.int .i64 c.2) :: t) (λ _ _ c g t=>fV g c.1 :: fI c.2 :: t) (_,_) ?_ ?_))))))))))))))
 ·
  intro x y c _ _ _ _ a z _ c0;intros
  refine Am (Ah (Ep ?_));intros
  refine EZ (Au rfl (o_z (Am (Ah ?_))))
  refine EY (At rfl (At rfl ?_))
  obtain ⟨B,l0,a⟩:=bs a
  refine UU rfl (Lf Fr.lt zV zV zI l0) λ _ _ _ _ _ q n0=>?_
  apply KZ q;intros
  apply KZ n0;intros
  refine At rfl (CK rfl rfl (CK rfl rfl (Au rfl (Au rfl (o_z (Am (Am (Ah (At rfl (Eh rfl (o_z (BP rfl (λ h=>?_) (λ h=>?_)))))))))))))
  ·
   replace a:=ip a h
   refine Am (Ah (Au rfl (Au rfl (o_z (AM ?_)))))
   obtain rfl:=sm a
   obtain rfl:=c0 _ rfl
   exact Jx
  replace a:=im' a h
  refine AN (Am (Ah (At rfl (Au rfl (o_z (Ah (At rfl (AO rfl (CF (At rfl ?_))))))))))
  obtain ⟨C,w0,a⟩:=bs a
  refine Jw ?_;intros
  refine AO rfl (SG ?_)
  obtain ⟨D,o0,a⟩:=bs a
  refine Fu (he:=o0) rfl rfl (Au rfl (o_z ?_))
  exact DF (_,_) a
 intro s _ _ _ _ hm;intros
 refine BY ?_
 refine Am (DE (X:=Unit) hm [] [] [] [] (λ _ _ i _ t=>(6,.int .i64 s.2) :: (7,.bool i) :: t) (λ _ _ _ _ t=>t) ?_ ?_)
 ·
  intro i b
  refine Ah (At rfl (AO rfl (CF (At rfl ?_))))
  obtain ⟨u,r0,b⟩:=bs b
  refine DO rfl (Hy (λ _ E=>E) zA zA r0) ?_;intros
  cases u
  case false =>
   replace b:=iF b
   refine Au rfl (Au rfl (o_z ?_))
   obtain rfl:=sm b
   exact BA ()
  replace b:=iT b
  refine Au rfl (Au rfl (o_z ?_))
  obtain rfl:=sm b
  exact BA ()
 intro i _ _ _ _ hm;intros
 refine BY ?_
 refine AM ?_
 obtain rfl:=sm hm
 exact Jx
end
end
section
open Go Go.RowKit
attribute [local irreducible] ewp owp hwp hwq hws Ev Evg Fn Q4 R7 R2 Q9
noncomputable def DS (g:Tsk):Option (Swp×Err) :=
  bnd (By g ([]:List Swp)) λ b=>if b.n≠0 then (some ((⟨([]:List Int),([]:List (List Int)),([]:List Int)⟩:Swp),(⟨b.n⟩:Err))) else (bnd (Ej (g.vars.length:Int)) λ h=>bnd (Ej (g.ops.length:Int)) λ i=>bnd (some (h,i):Option ((List Int)×(List Int))) λ c=>bnd (rng (ρ:=Swp×Err) (λ (l:Nat) (j:Int) (k:(List (List Int)))=>bnd (Ej j) λ d=>bnd (R8 24 k [d]) λ e=>some (.next e)) g.vars 0 ([]:List (List Int))) λ a=>fin a λ (f:(List (List Int)))=>some ((⟨c.1,f,c.2⟩:Swp),(⟨0⟩:Err)))
section
attribute [local irreducible] Vb Lc Rw Ob
theorem KO {w:World} {A:Nat->Prop} (hA:∀ k,A k->k < w.heap.size) {c:Value} {g:Tsk} (l:Vb w A c g) {r:Swp×Err} (hm:DS g=some r) :
    Fn prog 53 [c] w λ v w'=>Ext w w'/\T2 w' (upA A w w') v r:=by
 obtain ⟨_,_,_⟩:=CW hA
 apply Cj l;intros
 refine AK func53 rfl ntmps53 ?_
 unfold DS at hm
 refine Am (Ah (Dt 2 ?_));intros
 refine Ck 3 ?_;intros
 refine Au rfl (o_z (Am (Am (Ah (EY ?_)))))
 obtain ⟨n,p0,hm⟩:=bs hm
 refine DO rfl (EU (λ _ B=>B) zA zA p0) ?_;intros
 refine Au rfl (o_z (Am (Ah (At rfl (FS rfl (λ e=>?_) λ e=>?_)))))
 ·
  replace hm:=ip hm e
  refine o_z (Aj rfl (Am (Ah (DU rfl rfl ?_))))
  refine At rfl (BN ?_);intros
  refine Au rfl (o_z (AM ?_))
  obtain rfl:=sm hm
  exact Jx
 replace hm:=im hm e
 refine o_z (Ae rfl (AN (Am ?_)))
 obtain ⟨p,l0,hm⟩:=bs hm
 obtain ⟨q,g0,hm⟩:=bs hm
 refine DE (X:=Nat×(Option Addr×Nat)×(Option Addr×Nat)) hm [1,2] [] [4] [] (λ _ _ _ a t=>(5,pv a.1) :: t) (λ _ _ b a t=>fV a.2.1 b.1 :: fV a.2.2 b.2 :: .L 4 a.1 55 [sv a.2.1 b.1,.slice none 0 0,sv a.2.2 b.2] :: t) ?_ ?_
 ·
  intro b c0
  refine Hj [] ?_
  refine AH (fuel:=5) [] (AX [0,1,2,4,5,6]) rfl (AL rfl rfl (Cp rfl (Hu rfl rfl (AL rfl rfl ?_))))
  refine Cp rfl (Hu rfl rfl (AC ?_))
  refine DQ (i:=3) (j:=9) rfl rfl ?_ ?_
  ·
   refine q_S [] ?_;intros
   refine Dn rfl (EK Fr.lt zI l0) ?_;intros
   refine Bv [] ?_
   refine DQ (i:=7) (j:=9) rfl rfl ?_ ?_
   ·
    refine q_S [] ?_;intros
    refine Dn rfl (EK Fr.lt zI g0) ?_;intros
    refine Bv [] ?_
    refine AH (fuel:=2) [] [(8,true)] rfl (Ew rfl rfl rfl ?_)
    refine AC (AF (i:=9) rfl (q_S [] ?_));intros
    refine Ck 4 ?_;intros
    refine Bv [] ?_
    refine AF (i:=10) rfl (BN ?_);intros
    refine Bz (Ba ?_)
    obtain rfl:=sm c0
    exact BA (_,(_,_),(_,_))
   refine q_S [] ?_;intros
   refine Ck 4 ?_;intros
   refine Bv [] ?_
   refine AF (i:=7) rfl (q_S [] ?_);intros
   refine Dn rfl (EK Fr.lt zI g0) ?_;intros
   refine Bv [] ?_
   refine AH (fuel:=1) [] [(8,true)] rfl (Ew rfl rfl rfl ?_)
   refine AC (AF (i:=10) rfl (BN ?_));intros
   refine Bz (Ba ?_)
   obtain rfl:=sm c0
   exact BA (_,(_,_),(_,_))
  refine q_S [] ?_;intros
  refine Ck 4 ?_;intros
  refine Bv [] ?_
  refine AF (i:=3) rfl (q_S [] ?_);intros
  refine Dn rfl (EK Fr.lt zI l0) ?_;intros
  refine Bv [] ?_
  refine AF (i:=7) rfl (q_S [] ?_);intros
  refine Dn rfl (EK Fr.lt zI g0) ?_;intros
  refine Bv [] ?_
  refine AH (fuel:=1) [] [(8,true)] rfl (Ew rfl rfl rfl ?_)
  refine AC (AF (i:=10) rfl (BN ?_));intros
  refine Bz (Ba ?_)
  obtain rfl:=sm c0
  exact BA (_,(_,_),(_,_))
 intro b _ _ _ _ hm;intros
 refine BY ?_
 refine Am (Am (Ah (AO rfl (CF (AU rfl (At rfl (o_z ?_)))))))
 refine DT (X:=(Option Addr×Nat)) hm [2,5,24] [] [4,6] [4] (λ _ _ _ _ t=>t) (λ _ o f h t=>fR 6 22 h f :: uL (o 4) 4 55 [(1,sv h f)] :: t) (_,_) ?_ ?_
 ·
  intro s u f _ _ _ _ d n0 _ x;intros
  refine Am (Ah (Ep ?_));intros
  refine EZ (Au rfl (o_z ?_))
  refine Hj [(5,[6])] ?_
  refine AH (fuel:=5) [] (AX [0,1,2]) rfl (AL rfl rfl (Cp rfl (AJ rfl rfl (AC (AF (i:=3) rfl ?_)))))
  refine q_S [] ?_;intros
  obtain ⟨m,j0,d⟩:=bs d
  refine Dn rfl (EK Fr.lt zI j0) ?_;intros
  refine Bv [(5,[6])] ?_
  refine AF (i:=4) rfl (q_S [] ?_);intros
  refine Gx 5 ([m]:List (List Int)) ?_;intros
  refine Bv [(5,[6])] ?_
  refine AF (i:=5) rfl (q_S [6] ?_);intros
  obtain ⟨y,k0,d⟩:=bs d
  refine NY k0 ?_;intros
  refine Bv [] ?_
  refine AH (fuel:=1) [] [(6,true)] rfl (AL rfl rfl (AC (AF (i:=7) rfl (BN ?_))));intros
  refine Bz (Ba ?_)
  exact DF (_,_) d
 intro z _ _ _ _ hm;intros
 refine BY ?_
 refine Am (Ah (EY ?_))
 refine BN ?_;intros
 refine Au rfl (o_z (AM (Fv 6 ?_)));intros
 obtain rfl:=sm hm
 exact Jx
end
noncomputable def CX (q:Tsk) (b:Swp) (m:Swp):Option (Swp×Err) :=
  bnd (By q [b,m]) λ c=>if c.n≠0 then (some ((⟨([]:List Int),([]:List (List Int)),([]:List Int)⟩:Swp),(⟨c.n⟩:Err))) else (bnd (DX b.vars m.vars) λ o=>bnd (DX b.ops m.ops) λ p=>bnd (some (o,p):Option ((List Int)×(List Int))) λ d=>bnd (rng (ρ:=Swp×Err) (λ (e:Nat) (f:List Int) (g:(List (List Int)))=>bnd (b.vars[e]?) λ h=>bnd (atI m.vals h) λ i=>bnd (DX f i) λ j=>bnd (R8 24 g [j]) λ k=>some (.next k)) b.vals 0 ([]:List (List Int))) λ a=>fin a λ (l:(List (List Int)))=>some ((⟨d.1,l,d.2⟩:Swp),(⟨0⟩:Err)))
section
attribute [local irreducible] Vb Lc Rw Ob
theorem Lg {w:World} {A:Nat->Prop} (hA:∀ k,A k->k < w.heap.size) {d:Value} {n:Tsk} (q:Vb w A d n) {e:Value} {g:Swp} (s:Vb w A e g) {f:Value} {h:Swp} (u:Vb w A f h) {r:Swp×Err} (hm:CX n g h=some r) :
    Fn prog 55 [d,e,f] w λ v w'=>Ext w w'/\T2 w' (upA A w w') v r:=by
 obtain ⟨_,_,_⟩:=CW hA
 apply Cj q;intros
 apply Cj s;intros
 apply Cj u;intros
 refine AK func55 rfl ntmps55 ?_
 unfold CX at hm
 refine Am (Ah (Dt 2 ?_));intros
 refine Dt 3 ?_;intros
 refine Dt 4 ?_;intros
 refine Ck 5 ?_;intros
 refine Au rfl (o_z (Am (Am (Ah (EY ?_)))))
 refine EY ?_
 refine EY ?_
 refine Gx 6 ([g,h]:List Swp) ?_;intros
 obtain ⟨y,r0,hm⟩:=bs hm
 refine DO rfl (EU (λ _ I=>I) zA zAr r0) ?_;intros
 refine Au rfl (o_z (Am (Ah (At rfl (FS rfl (λ l=>?_) λ l=>?_)))))
 ·
  replace hm:=ip hm l
  refine o_z (Aj rfl (Am (Ah (DU rfl rfl ?_))))
  refine At rfl (BN ?_);intros
  refine Au rfl (o_z (AM ?_))
  obtain rfl:=sm hm
  exact Jx
 replace hm:=im hm l
 refine o_z (Ae rfl (AN (Am ?_)))
 obtain ⟨z,m0,hm⟩:=bs hm
 obtain ⟨B,i0,hm⟩:=bs hm
 refine DE (X:=Nat×(Option Addr×Nat)×(Option Addr×Nat)) hm [4,5,6] [] [7] [] (λ _ _ _ b t=>(9,pv b.1) :: t) (λ _ _ c b t=>fV b.2.1 c.1 :: fV b.2.2 c.2 :: .L 7 b.1 55 [sv b.2.1 c.1,.slice none 0 0,sv b.2.2 c.2] :: t) ?_ ?_
 ·
  intro c c0
  refine Hj [] ?_
  refine AH (fuel:=5) [] (AX [0,1,2,3,5,6,7,8]) rfl (AL rfl rfl (Cp rfl (AL rfl rfl ?_)))
  refine Cp rfl (AL rfl rfl ?_)
  refine Cp rfl (AL rfl rfl ?_)
  refine Cp rfl (AC ?_)
  refine DQ (i:=4) (j:=11) rfl rfl ?_ ?_
  ·
   refine q_S [] ?_;intros
   refine Dn rfl (Ey Fr.lt zV zV m0) ?_;intros
   refine Bv [] ?_
   refine DQ (i:=9) (j:=11) rfl rfl ?_ ?_
   ·
    refine q_S [] ?_;intros
    refine Dn rfl (Ey Fr.lt zV zV i0) ?_;intros
    refine Bv [] ?_
    refine AH (fuel:=2) [] [(10,true)] rfl (Ew rfl rfl rfl ?_)
    refine AC (AF (i:=11) rfl (q_S [] ?_));intros
    refine Ck 7 ?_;intros
    refine Bv [] ?_
    refine AF (i:=12) rfl (BN ?_);intros
    refine Bz (Ba ?_)
    obtain rfl:=sm c0
    exact BA (_,(_,_),(_,_))
   refine q_S [] ?_;intros
   refine Ck 7 ?_;intros
   refine Bv [] ?_
   refine AF (i:=9) rfl (q_S [] ?_);intros
   refine Dn rfl (Ey Fr.lt zV zV i0) ?_;intros
   refine Bv [] ?_
   refine AH (fuel:=1) [] [(10,true)] rfl (Ew rfl rfl rfl ?_)
   refine AC (AF (i:=12) rfl (BN ?_));intros
   refine Bz (Ba ?_)
   obtain rfl:=sm c0
   exact BA (_,(_,_),(_,_))
  refine q_S [] ?_;intros
  refine Ck 7 ?_;intros
  refine Bv [] ?_
  refine AF (i:=4) rfl (q_S [] ?_);intros
  refine Dn rfl (Ey Fr.lt zV zV m0) ?_;intros
  refine Bv [] ?_
  refine AF (i:=9) rfl (q_S [] ?_);intros
  refine Dn rfl (Ey Fr.lt zV zV i0) ?_;intros
  refine Bv [] ?_
  refine AH (fuel:=1) [] [(10,true)] rfl (Ew rfl rfl rfl ?_)
  refine AC (AF (i:=12) rfl (BN ?_));intros
  refine Bz (Ba ?_)
  obtain rfl:=sm c0
  exact BA (_,(_,_),(_,_))
 intro c _ _ _ _ hm;intros
 refine BY ?_
 refine Am (Am (Ah (AO rfl (CF (AU rfl (At rfl (o_z ?_)))))))
 refine DT (X:=(Option Addr×Nat)) hm [4,5,6,9,33] [] [7,9] [7] (λ _ _ _ _ t=>t) (λ _ o m p t=>fR 9 22 p m :: uL (o 7) 7 55 [(1,sv p m)] :: t) (_,_) ?_ ?_
 ·
  intro C D m _ _ _ _ a n0 _ E;intros
  refine Am (Ah (At rfl (Ep ?_)));intros
  refine EZ (Au rfl (Au rfl (o_z ?_)))
  refine Hj [(14,[9])] ?_
  refine AH (fuel:=5) [] (AX (CR 0 12)) rfl (AL rfl rfl (Cp rfl (AJ rfl rfl (AL rfl rfl ?_))))
  refine Cp rfl (AL rfl rfl ?_)
  refine Cp rfl (AJ rfl rfl ?_)
  obtain ⟨F,v0,a⟩:=bs a
  refine HU rfl ?_;intros
  refine EE rfl ?_
  obtain ⟨G,y0,a⟩:=bs a
  refine Fb rfl ?_;intros
  refine EE rfl (AC (AF (i:=12) rfl ?_))
  refine q_S [] ?_;intros
  obtain ⟨x,k0,a⟩:=bs a
  refine Dn rfl (Ey Fr.lt zV zV k0) ?_;intros
  refine Bv [(14,[9])] ?_
  refine AF (i:=13) rfl (q_S [] ?_);intros
  refine Gx 8 ([x]:List (List Int)) ?_;intros
  refine Bv [(14,[9])] ?_
  refine AF (i:=14) rfl (q_S [9] ?_);intros
  obtain ⟨z0,l0,a⟩:=bs a
  refine NY l0 ?_;intros
  refine Bv [] ?_
  refine AH (fuel:=1) [] [(15,true)] rfl (AL rfl rfl (AC (AF (i:=16) rfl (BN ?_))));intros
  refine Bz (Ba ?_)
  exact DF (_,_) a
 intro H _ _ _ _ hm;intros
 refine BY ?_
 refine Am (Ah (EY ?_))
 refine BN ?_;intros
 refine Au rfl (o_z (AM (Fv 9 ?_)));intros
 obtain rfl:=sm hm
 exact Jx
end
noncomputable def DK (p:Tsk) (e:Swp):Option (Swp×Err) :=
  bnd (By p [e]) λ f=>if f.n≠0 then (some ((⟨([]:List Int),([]:List (List Int)),([]:List Int)⟩:Swp),(⟨f.n⟩:Err))) else (bnd (Dh e.vars) λ k=>bnd (Dh e.ops) λ l=>bnd (mkI 24 (([]:List Int):List Int) (e.vals.length:Int)) λ m=>bnd (some (k,m,l):Option ((List Int)×(List (List Int))×(List Int))) λ d=>bnd (rng (ρ:=Swp×Err) (λ (g:Nat) (h:List Int) (b:(List (List Int)))=>bnd (e.vars[g]?) λ c=>bnd (Dh h) λ i=>bnd (atI b c) λ o=>some (.next (b.set (c:Int).toNat i))) e.vals 0 d.2.1) λ a=>fin a λ (j:(List (List Int)))=>some ((⟨d.1,j,d.2.2⟩:Swp),(⟨0⟩:Err)))
section
attribute [local irreducible] Vb Lc Rw Ob
theorem If {w:World} {A:Nat->Prop} (hA:∀ k,A k->k < w.heap.size) {e:Value} {l:Tsk} (n:Vb w A e l) {f:Value} {g:Swp} (n0:Vb w A f g) {r:Swp×Err} (hm:DK l g=some r) :
    Fn prog 54 [e,f] w λ v w'=>Ext w w'/\T2 w' (upA A w w') v r:=by
 obtain ⟨_,_,_⟩:=CW hA
 apply Cj n;intros
 apply Cj n0;intros
 refine AK func54 rfl ntmps54 ?_
 unfold DK at hm
 refine Am (Ah (Dt 2 ?_));intros
 refine Dt 3 ?_;intros
 refine Ck 4 ?_;intros
 refine Au rfl (o_z (Am (Am (Ah (EY ?_)))))
 refine EY ?_
 refine Gx 5 ([g]:List Swp) ?_;intros
 obtain ⟨p,o0,hm⟩:=bs hm
 refine DO rfl (EU (λ _ E=>E) zA zAr o0) ?_;intros
 refine Au rfl (o_z (Am (Ah (At rfl (FS rfl (λ h=>?_) λ h=>?_)))))
 ·
  replace hm:=ip hm h
  refine o_z (Aj rfl (Am (Ah (DU rfl rfl ?_))))
  refine At rfl (BN ?_);intros
  refine Au rfl (o_z (AM ?_))
  obtain rfl:=sm hm
  exact Jx
 replace hm:=im hm h
 refine o_z (Ae rfl (AN (Am ?_)))
 obtain ⟨z0,g0,hm⟩:=bs hm
 obtain ⟨q,c0,hm⟩:=bs hm
 obtain ⟨s,d0,hm⟩:=bs hm
 refine DE (X:=Nat×(Option Addr×Nat)×(Option Addr×Nat)×(Option Addr×Nat)) hm [3,4] [] [6,7] [] (λ _ _ _ b t=>(7,pv b.1) :: t) (λ _ _ c b t=>fV b.2.1 c.1 :: fR 6 22 b.2.2.1 c.2.1 :: fV b.2.2.2 c.2.2 :: .L 7 b.1 55 [sv b.2.1 c.1,sv b.2.2.1 c.2.1,sv b.2.2.2 c.2.2] :: t) ?_ ?_
 ·
  intro c a
  refine Hj [] ?_
  refine AH (fuel:=6) [] (AX [0,1,3,4,6,7,8]) rfl (AL rfl rfl (Cp rfl (AL rfl rfl ?_)))
  refine Cp rfl (AL rfl rfl ?_)
  refine Cp rfl (Hu rfl rfl (AC (RI (i:=2) (j:=9) (k:=11) rfl rfl rfl ?_ ?_ ?_)))
  ·
   refine q_S [] ?_;intros
   refine Dn rfl (BR Fr.lt zV g0) ?_;intros
   refine Bv [] ?_
   refine RI (i:=5) (j:=9) (k:=11) rfl rfl rfl ?_ ?_ ?_
   ·
    refine q_S [] ?_;intros
    refine Dn rfl (BR Fr.lt zV c0) ?_;intros
    refine Bv [] ?_
    refine DQ (i:=9) (j:=11) rfl rfl ?_ ?_
    ·
     refine q_S [] ?_;intros
     refine Fj 6 d0 ?_;intros
     refine Bv [] ?_
     refine AH (fuel:=2) [] [(10,true)] rfl (Ew rfl rfl rfl ?_)
     refine AC (AF (i:=11) rfl (q_S [] ?_));intros
     refine Ck 7 ?_;intros
     refine Bv [] ?_
     refine AF (i:=12) rfl (BN ?_);intros
     refine Bz (Ba ?_)
     obtain rfl:=sm a
     exact BA (_,(_,_),(_,_),(_,_))
    refine q_S [] ?_;intros
    refine Ck 7 ?_;intros
    refine Bv [] ?_
    refine AF (i:=9) rfl (q_S [] ?_);intros
    refine Fj 6 d0 ?_;intros
    refine Bv [] ?_
    refine AH (fuel:=1) [] [(10,true)] rfl (Ew rfl rfl rfl ?_)
    refine AC (AF (i:=12) rfl (BN ?_));intros
    refine Bz (Ba ?_)
    obtain rfl:=sm a
    exact BA (_,(_,_),(_,_),(_,_))
   ·
    refine q_S [] ?_;intros
    refine Fj 6 d0 ?_;intros
    refine Bv [] ?_
    refine DQ (i:=5) (j:=11) rfl rfl ?_ ?_
    ·
     refine q_S [] ?_;intros
     refine Dn rfl (BR Fr.lt zV c0) ?_;intros
     refine Bv [] ?_
     refine AH (fuel:=2) [] [(10,true)] rfl (Ew rfl rfl rfl ?_)
     refine AC (AF (i:=11) rfl (q_S [] ?_));intros
     refine Ck 7 ?_;intros
     refine Bv [] ?_
     refine AF (i:=12) rfl (BN ?_);intros
     refine Bz (Ba ?_)
     obtain rfl:=sm a
     exact BA (_,(_,_),(_,_),(_,_))
    refine q_S [] ?_;intros
    refine Ck 7 ?_;intros
    refine Bv [] ?_
    refine AF (i:=5) rfl (q_S [] ?_);intros
    refine Dn rfl (BR Fr.lt zV c0) ?_;intros
    refine Bv [] ?_
    refine AH (fuel:=1) [] [(10,true)] rfl (Ew rfl rfl rfl ?_)
    refine AC (AF (i:=12) rfl (BN ?_));intros
    refine Bz (Ba ?_)
    obtain rfl:=sm a
    exact BA (_,(_,_),(_,_),(_,_))
   refine q_S [] ?_;intros
   refine Ck 7 ?_;intros
   refine Bv [] ?_
   refine DQ (i:=5) (j:=9) rfl rfl ?_ ?_
   ·
    refine q_S [] ?_;intros
    refine Dn rfl (BR Fr.lt zV c0) ?_;intros
    refine Bv [] ?_
    refine AF (i:=9) rfl (q_S [] ?_);intros
    refine Fj 6 d0 ?_;intros
    refine Bv [] ?_
    refine AH (fuel:=1) [] [(10,true)] rfl (Ew rfl rfl rfl ?_)
    refine AC (AF (i:=12) rfl (BN ?_));intros
    refine Bz (Ba ?_)
    obtain rfl:=sm a
    exact BA (_,(_,_),(_,_),(_,_))
   refine q_S [] ?_;intros
   refine Fj 6 d0 ?_;intros
   refine Bv [] ?_
   refine AF (i:=5) rfl (q_S [] ?_);intros
   refine Dn rfl (BR Fr.lt zV c0) ?_;intros
   refine Bv [] ?_
   refine AH (fuel:=1) [] [(10,true)] rfl (Ew rfl rfl rfl ?_)
   refine AC (AF (i:=12) rfl (BN ?_));intros
   refine Bz (Ba ?_)
   obtain rfl:=sm a
   exact BA (_,(_,_),(_,_),(_,_))
  ·
   refine q_S [] ?_;intros
   refine Fj 6 d0 ?_;intros
   refine Bv [] ?_
   refine DQ (i:=2) (j:=11) rfl rfl ?_ ?_
   ·
    refine q_S [] ?_;intros
    refine Dn rfl (BR Fr.lt zV g0) ?_;intros
    refine Bv [] ?_
    refine DQ (i:=5) (j:=11) rfl rfl ?_ ?_
    ·
     refine q_S [] ?_;intros
     refine Dn rfl (BR Fr.lt zV c0) ?_;intros
     refine Bv [] ?_
     refine AH (fuel:=2) [] [(10,true)] rfl (Ew rfl rfl rfl ?_)
     refine AC (AF (i:=11) rfl (q_S [] ?_));intros
     refine Ck 7 ?_;intros
     refine Bv [] ?_
     refine AF (i:=12) rfl (BN ?_);intros
     refine Bz (Ba ?_)
     obtain rfl:=sm a
     exact BA (_,(_,_),(_,_),(_,_))
    refine q_S [] ?_;intros
    refine Ck 7 ?_;intros
    refine Bv [] ?_
    refine AF (i:=5) rfl (q_S [] ?_);intros
    refine Dn rfl (BR Fr.lt zV c0) ?_;intros
    refine Bv [] ?_
    refine AH (fuel:=1) [] [(10,true)] rfl (Ew rfl rfl rfl ?_)
    refine AC (AF (i:=12) rfl (BN ?_));intros
    refine Bz (Ba ?_)
    obtain rfl:=sm a
    exact BA (_,(_,_),(_,_),(_,_))
   refine q_S [] ?_;intros
   refine Ck 7 ?_;intros
   refine Bv [] ?_
   refine AF (i:=2) rfl (q_S [] ?_);intros
   refine Dn rfl (BR Fr.lt zV g0) ?_;intros
   refine Bv [] ?_
   refine AF (i:=5) rfl (q_S [] ?_);intros
   refine Dn rfl (BR Fr.lt zV c0) ?_;intros
   refine Bv [] ?_
   refine AH (fuel:=1) [] [(10,true)] rfl (Ew rfl rfl rfl ?_)
   refine AC (AF (i:=12) rfl (BN ?_));intros
   refine Bz (Ba ?_)
   obtain rfl:=sm a
   exact BA (_,(_,_),(_,_),(_,_))
  refine q_S [] ?_;intros
  refine Ck 7 ?_;intros
  refine Bv [] ?_
  refine DQ (i:=2) (j:=9) rfl rfl ?_ ?_
  ·
   refine q_S [] ?_;intros
   refine Dn rfl (BR Fr.lt zV g0) ?_;intros
   refine Bv [] ?_
   refine DQ (i:=5) (j:=9) rfl rfl ?_ ?_
   ·
    refine q_S [] ?_;intros
    refine Dn rfl (BR Fr.lt zV c0) ?_;intros
    refine Bv [] ?_
    refine AF (i:=9) rfl (q_S [] ?_);intros
    refine Fj 6 d0 ?_;intros
    refine Bv [] ?_
    refine AH (fuel:=1) [] [(10,true)] rfl (Ew rfl rfl rfl ?_)
    refine AC (AF (i:=12) rfl (BN ?_));intros
    refine Bz (Ba ?_)
    obtain rfl:=sm a
    exact BA (_,(_,_),(_,_),(_,_))
   refine q_S [] ?_;intros
   refine Fj 6 d0 ?_;intros
   refine Bv [] ?_
   refine AF (i:=5) rfl (q_S [] ?_);intros
   refine Dn rfl (BR Fr.lt zV c0) ?_;intros
   refine Bv [] ?_
   refine AH (fuel:=1) [] [(10,true)] rfl (Ew rfl rfl rfl ?_)
   refine AC (AF (i:=12) rfl (BN ?_));intros
   refine Bz (Ba ?_)
   obtain rfl:=sm a
   exact BA (_,(_,_),(_,_),(_,_))
  refine q_S [] ?_;intros
  refine Fj 6 d0 ?_;intros
  refine Bv [] ?_
  refine AF (i:=2) rfl (q_S [] ?_);intros
  refine Dn rfl (BR Fr.lt zV g0) ?_;intros
  refine Bv [] ?_
  refine AF (i:=5) rfl (q_S [] ?_);intros
  refine Dn rfl (BR Fr.lt zV c0) ?_;intros
  refine Bv [] ?_
  refine AH (fuel:=1) [] [(10,true)] rfl (Ew rfl rfl rfl ?_)
  refine AC (AF (i:=12) rfl (BN ?_));intros
  refine Bz (Ba ?_)
  obtain rfl:=sm a
  exact BA (_,(_,_),(_,_),(_,_))
 intro c _ _ _ _ hm;intros
 refine BY ?_
 refine Am (Am (Ah (AO rfl (CF (AU rfl (At rfl (o_z ?_)))))))
 refine DT (X:=Unit) hm [3,4,7,30] [] [6] [6] (λ _ _ _ _ t=>t) (λ _ o m _ t=>uR (o 6) 6 m :: t) () ?_ ?_
 ·
  intro u x m _ _ _ _ d l0 _ y;intros
  refine Am (Ah (At rfl (Ep ?_)));intros
  refine EZ (Au rfl (Au rfl (o_z ?_)))
  refine Hj [] ?_
  refine AH (fuel:=3) [] (AX (CR 0 8)) rfl (AL rfl rfl (Cp rfl (AL rfl rfl ?_)))
  refine Cp rfl (AJ rfl rfl ?_)
  obtain ⟨z,s0,d⟩:=bs d
  refine HU rfl ?_;intros
  refine EE rfl (AJ rfl rfl (AC (AF (i:=8) rfl ?_)))
  refine q_S [] ?_;intros
  obtain ⟨B,k0,d⟩:=bs d
  refine Dn rfl (BR Fr.lt zV k0) ?_;intros
  refine Bv [] ?_
  refine AH (fuel:=1) [] [(9,true)] rfl ?_
  obtain ⟨C,v0,d⟩:=bs d
  refine Fb rfl ?_;intros
  refine AC (AF (i:=10) rfl (GU ?_));intros
  refine Bz (Ba ?_)
  exact DF () d
 intro D _ _ _ _ hm;intros
 refine BY ?_
 refine Am (Ah (EY ?_))
 refine BN ?_;intros
 refine Au rfl (o_z (AM (Fv 6 ?_)));intros
 obtain rfl:=sm hm
 exact Jx
end
end
section
open Go Go.RowKit Go.Lib Go.Sort
def cfL:List Int->List Int->Int
  | [],[]=>0
  | [],_ :: _=>-1
  | _ :: _,[]=>1
  | x :: xs,y :: ys=>if Lib.compareInt x y≠0 then Lib.compareInt x y else cfL xs ys
theorem HM {α:Type} {l:List α} {k:Nat} (a:k < l.length):∃ x,l[k]?=some x:=⟨l[k],C4 a⟩
theorem Qf {α:Type} {l:List α} {k:Nat} (a:l.length<=k):l.drop k=[]:=List.drop_eq_nil_of_le a
theorem Vc {xs ys:List Int} {k:Nat} {x y:Int} (a:xs[k]?=some x) (b:ys[k]?=some y):cfL (xs.drop k) (ys.drop k)=if Lib.compareInt x y≠0 then Lib.compareInt x y else cfL (xs.drop (k + 1)) (ys.drop (k + 1)):=by
  have c:xs.drop k=x :: xs.drop (k + 1):=by
    rw [B7 (AD a)]
    rw [C4 (AD a)] at a
    rw [L1 a]
  have d:ys.drop k=y :: ys.drop (k + 1):=by
    rw [B7 (AD b)]
    rw [C4 (AD b)] at b
    rw [L1 b]
  rw [c,d]
  rfl
end
section
open Go Go.RowKit Go.Lib Go.Sort
theorem GC (x y:Int):(x < y/\Lib.compareInt x y=-1)\/(x=y/\Lib.compareInt x y=0)\/(y < x/\Lib.compareInt x y=1):=by
  unfold Lib.compareInt
  by_cases b:x < y
  . simp [b]
  . by_cases a:y < x
    . simp [b,a]
    . right;left;simp [b,a];omega
theorem TM:∀ {x y:List Int},cfL x y=0->x=y
  | [],[],_=>rfl
  | [],_ :: _,h=>by simp [cfL] at h
  | _ :: _,[],h=>by simp [cfL] at h
  | a :: x,b :: y,h=>by
    simp only [cfL] at h
    rcases GC a b with ⟨_,h2⟩|⟨c,h2⟩|⟨_,h2⟩
    . rw [h2] at h;simp at h
    . rw [h2] at h;simp at h;rw [c,TM h]
    . rw [h2] at h;simp at h
theorem MD:∀ x:List Int,cfL x x=0
  | []=>rfl
  | a :: x=>by
    simp only [cfL]
    rcases GC a a with ⟨b,_⟩|⟨_,h2⟩|⟨b,_⟩
    . omega
    . rw [h2];simp [MD x]
    . omega
theorem RT:∀ x y:List Int,cfL y x=- cfL x y
  | [],[]=>rfl
  | [],_ :: _=>rfl
  | _ :: _,[]=>rfl
  | a :: x,b :: y=>by
    simp only [cfL]
    have f:=RT x y
    rcases GC a b with ⟨d,c⟩|⟨d,c⟩|⟨d,c⟩<;>rcases GC b a with ⟨e,g2⟩|⟨e,g2⟩|⟨e,g2⟩<;>first|omega|(rw [c,g2];simp [f])
theorem Lh:∀ {x y z:List Int},cfL x y<=0->cfL y z<=0->cfL x z<=0
  | [],_,[],_,_=>by simp [cfL]
  | [],_,_ :: _,_,_=>by simp [cfL]
  | _ :: _,[],_,h,_=>by simp [cfL] at h
  | _ :: _,_ :: _,[],_,h=>by simp [cfL] at h
  | a :: x,b :: y,c :: z,d,e=>by
    simp only [cfL] at d e ⊢
    have j:=@Lh x y z
    rcases GC a b with ⟨f,p2⟩|⟨f,p2⟩|⟨f,p2⟩<;>rcases GC b c with ⟨g,q2⟩|⟨g,q2⟩|⟨g,q2⟩<;>rcases GC a c with ⟨i,r2⟩|⟨i,r2⟩|⟨i,r2⟩<;>rw [p2] at d<;>rw [q2] at e<;>rw [r2]<;>simp at d e ⊢<;>first|omega|exact j d e
end
section
open Go Go.RowKit
attribute [local irreducible] ewp owp hwp hwq hws Ev Evg Fn Q4 R7 R2 Q9
attribute [local irreducible] hwx U0
noncomputable def Cy (g:List Int) (d:List Int):Option Int :=
  bnd (rng (ρ:=Int) (λ (a:Nat) (e:Int) (h:Unit)=>if (d.length:Int)<=(a:Int) then (some (.ret 1)) else (bnd (d[a]?) λ f=>bnd (CM e f) λ b=>if b≠0 then (some (.ret b)) else (some (.next ())))) g 0 ()) λ c=>fin c λ (i:Unit)=>if (g.length:Int) < (d.length:Int) then (some (-1)) else (some 0)
section
attribute [local irreducible] Vb Lc Rw Ob
theorem Iz {w:World} {A:Nat->Prop} (hA:∀ k,A k->k < w.heap.size) {b:Value} {f:List Int} (i:Vb w A b f) {c:Value} {g:List Int} (j:Vb w A c g) {r:Int} (hm:Cy f g=some r) :
    Fn prog 85 [b,c] w λ v w'=>Ext w w'/\Vb w' (upA A w w') v r:=by
 obtain ⟨_,_,_⟩:=CW hA
 apply Cj i;intros
 apply Cj j;intros
 refine AK func85 rfl ntmps85 ?_
 unfold Cy at hm
 refine Am (Ah (Au rfl (o_z (Am (Am (Ah (At rfl (AU rfl (At rfl (o_z (DT (X:=Unit) hm [0,1,9] [] [] [] (λ _ _ _ _ t=>t) (λ _ _ _ _ t=>t) () ?_ ?_)))))))))))
 ·
  intro l m l0 _ _ _ _ a n _ h;intros
  refine Am (Ah (At rfl (Ep ?_)));intros
  refine EZ (Au rfl (Au rfl (o_z (Am (Am (Ah (At rfl (At rfl (AU rfl (GH rfl rfl (λ c0=>?_) λ c0=>?_))))))))))
  ·
   replace a:=ip a c0
   refine o_z (Aj rfl (Am (Ah (Au rfl (o_z (AM ?_))))))
   obtain rfl:=sm a
   obtain rfl:=h _ rfl
   exact Cl
  replace a:=im a c0
  refine o_z (Ae rfl (AN (Am (Ah (At rfl (At rfl ?_))))))
  obtain ⟨o,n0,a⟩:=bs a
  refine Ep ?_;intros
  refine EZ (Au rfl (o_z (Am (Ah (At rfl (At rfl ?_))))))
  obtain ⟨p,i0,a⟩:=bs a
  refine DO rfl (FT (λ _ s=>s) zI zI i0) ?_;intros
  refine Au rfl (o_z (Am (Ah (At rfl (JZ rfl rfl (λ d=>?_) λ d=>?_)))))
  ·
   replace a:=ip a d
   refine o_z (Aj rfl (Am (Ah (At rfl (Au rfl (o_z (AM ?_)))))))
   obtain rfl:=sm a
   obtain rfl:=h _ rfl
   exact Cl
  replace a:=im a d
  refine o_z (Ae rfl (AN ?_))
  exact DF () a
 intro q _ _ _ _ hm;intros
 refine BY ?_
 refine Am (Am (Ah (At rfl (AU rfl (At rfl (AU rfl (Eq rfl rfl (λ e=>?_) λ e=>?_)))))))
 ·
  replace hm:=ip hm e
  refine o_z (Aj rfl (Am (Ah (Au rfl (o_z (AM ?_))))))
  obtain rfl:=sm hm
  exact Cl
 replace hm:=im hm e
 refine o_z (Ae rfl (AN (Am (Ah (Au rfl (o_z (AM ?_)))))))
 obtain rfl:=sm hm
 exact Cl
end
noncomputable def Cz (m:Tsk) (g:List Swp) (o:List Int):Option ((List Int)×(List Int)×Err) :=
  bnd (By m g) λ d=>if d.n≠0 then (some (([]:List Int),([]:List Int),(⟨d.n⟩:Err))) else (bnd (Hg m.vars o) λ h=>if h=true then bnd (BW o) λ i=>bnd (lop (ρ:=(List Int)×(List Int)×Err) (λ (a:(List Int)×(List Int)×Int)=>if a.2.2 < (g.length:Int) then (bnd (atI g a.2.2) λ j=>bnd (DG j a.1) λ e=>bnd (Cy e a.1) λ k=>if 0<=k then (bnd (Q1 (a.2.2 + 1)) λ l=>some (.next (a.1,a.2.1,l))) else (bnd (R8 8 a.2.1 [a.2.2]) λ f=>some (.next (e,f,0)))) else (some (.brk (a.1,a.2.1,a.2.2)))) (i,([]:List Int),0)) λ c=>fin c λ (b:(List Int)×(List Int)×Int)=>some (b.1,b.2.1,(⟨0⟩:Err)) else some (([]:List Int),([]:List Int),(⟨2⟩:Err)))
section
attribute [local irreducible] Vb Lc Rw Ob
theorem Kl {w:World} {A:Nat->Prop} (hA:∀ k,A k->k < w.heap.size) {c:Value} {i:Tsk} (m:Vb w A c i) {d:Value} {j:List Swp} (n:Vb w A d j) {e:Value} {l:List Int} (l0:Vb w A e l) {r:(List Int)×(List Int)×Err} (hm:Cz i j l=some r) :
    Fn prog 48 [c,d,e] w λ v w'=>Ext w w'/\T3 w' (upA A w w') v r:=by
 obtain ⟨_,_,_⟩:=CW hA
 apply Cj m;intros
 apply Cj n;intros
 apply Cj l0;intros
 refine AK func48 rfl ntmps48 ?_
 unfold Cz at hm
 refine Am (Ah (Dt 2 ?_));intros
 refine Au rfl (Au rfl (Au rfl (o_z (Am (Am (Ah (EY (At rfl ?_))))))))
 obtain ⟨o,m0,hm⟩:=bs hm
 refine DO rfl (EU (λ _ B=>B) zA zA m0) ?_;intros
 refine Au rfl (o_z (Am (Ah (At rfl (FS rfl (λ f=>?_) λ f=>?_)))))
 ·
  replace hm:=ip hm f
  refine o_z (Aj rfl (Am (Ah (At rfl (Au rfl (Au rfl (Au rfl (o_z (AM ?_)))))))))
  obtain rfl:=sm hm
  exact UW
 replace hm:=im hm f
 refine o_z (Ae rfl (AN (Am (Am (Ah (AO rfl (CF (At rfl ?_))))))))
 obtain ⟨n0,o0,hm⟩:=bs hm
 refine DO rfl (Pq (λ _ B=>B) zA zA o0) ?_;intros
 cases n0
 case false =>
  replace hm:=iF hm
  refine DB rfl (o_z (Aj rfl (Am (Ah (Pw rfl rfl (Au rfl (Au rfl (Au rfl (o_z (AM ?_))))))))))
  obtain rfl:=sm hm
  exact UW
 replace hm:=iT hm
 refine DA rfl (o_z (Ae rfl (AN (Am (Ah (At rfl ?_))))))
 obtain ⟨p,p0,hm⟩:=bs hm
 refine Zr 3 rfl (Es Fr.lt zV p0) ?_;intros
 refine Au rfl (o_z (Am (Ah (Au rfl (o_z (Am (Am (Ah (Au rfl (o_z (Fv 3 ?_)))))))))));intros
 refine SH (X:=(Option Addr×Nat)×(Option Addr×Nat)) hm [1] [] [4] [] (λ _ _ b c0 t=>(10,sv c0.1 b.1) :: (11,sv c0.2 b.2.1) :: (12,.int .i64 b.2.2) :: t) (λ _ _ b c0 t=>fV c0.1 b.1 :: fR 4 3 c0.2 b.2.1 :: fI b.2.2 :: t) [] (λ _ _ b c0 t=>(10,sv c0.1 b.1) :: (11,sv c0.2 b.2.1) :: t) ((_,_),(_,_)) ?_ ?_
 ·
  intro b _ _ _ _ a q;intros
  refine Am (Am (Ah (At rfl (At rfl (AU rfl (Eq rfl rfl (λ g=>?_) λ g=>?_))))))
  ·
   replace a:=ip a g
   refine o_z (Aj rfl (AN (Bx (Am (Ah (At rfl (At rfl ?_)))))))
   obtain ⟨s,y0,a⟩:=bs a
   refine Jw ?_;intros
   refine Jh (At rfl ?_)
   obtain ⟨z0,q0,a⟩:=bs a
   refine Dn rfl (Mx Fr.lt zV zV q0) ?_;intros
   refine Au rfl (o_z (Am (Am (Ah (At rfl (At rfl ?_))))))
   obtain ⟨u,r0,a⟩:=bs a
   refine DO rfl (Iz (λ _ B=>B) zA zA r0) ?_;intros
   refine GH rfl rfl (λ h=>?_) λ h=>?_
   ·
    replace a:=ip a h
    refine o_z (Aj rfl (Am (Ah (At rfl ?_))))
    obtain ⟨x,h0,a⟩:=bs a
    refine Fu (he:=h0) rfl rfl (Au rfl (o_z (Cq ?_)))
    exact DF ((_,_),(_,_)) a
   replace a:=im a h
   refine o_z (Ae rfl (AN (Ah (At rfl (At rfl (At rfl ?_))))))
   obtain ⟨y,i0,a⟩:=bs a
   refine PT i0 ?_;intros
   refine Au rfl (Au rfl (Au rfl (o_z ?_)))
   exact DF ((_,_),(_,_)) a
  replace a:=im a g
  refine o_z (Ae rfl (Cq ?_))
  exact UV ((_,_),(_,_)) a
 intro z _ _ _ _ hm;intros
 refine BY ?_
 refine Am (Ah (At rfl (At rfl (Au rfl (Au rfl (Au rfl (o_z (AM (Fv 4 ?_)))))))));intros
 obtain rfl:=sm hm
 exact UW
end
end
section
open Go Go.RowKit
def effsOn (s:List Int):List Eff->List Int->List Int
  | [],a=>a
  | e :: r,a=>effsOn s r (if holdsB e.cond s=true then a.set e.var.toNat e.val else a)
theorem KH (s:List Int):∀ (a b:List Eff) (c:List Int),effsOn s (a ++ b) c=effsOn s b (effsOn s a c)
  | [],_,_=>rfl
  | e :: a,b,c=>by simp [effsOn,KH s a b]
theorem KI (s:List Int):∀ (a:List Eff) (b:List Int),(effsOn s a b).length=b.length
  | [],_=>rfl
  | e :: a,b=>by
    rw [effsOn,KI s a]
    split<;>simp
theorem Rq (s:List Int) {l:List Eff} {k:Nat} {e:Eff} (b:l[k]?=some e) (a:List Int):effsOn s (l.take (k + 1)) a=if holdsB e.cond s=true then (effsOn s (l.take k) a).set e.var.toNat e.val else effsOn s (l.take k) a:=by
  rw [I6,b,KH];rfl
def AaL (s:List Int) (l:List Eff):Prop:=∀ (i:Nat) e,l[i]?=some e->0<=e.var/\e.var < s.length
def succ (o:Opr) (s:List Int):List Int:=effsOn s o.effs s
end
section
open Go Go.RowKit
attribute [local irreducible] ewp owp hwp hwq hws Ev Evg Fn Q4 R7 R2 Q9
theorem Aa9 {w:World} {sv:Value} {xs:List Int} (hs:V w sv xs) (hl:xs.length * 8<=140737488355328) :
    Fn prog 57 [sv] w λ v w'=>Own w' w.heap.size (All w) 3 v xs/\Ext w w':=by
  obtain ⟨A,c,rfl⟩:=hs.form
  refine AK func57 rfl ntmps57 ?_
  cases A with
  | none =>
    have e:xs=[]:=by
      cases xs with
      | nil=>rfl
      | cons x xs=>obtain ⟨_,_,_,m,_⟩:=hs.elem (k:=0) (x:=x) rfl;cases m
    subst e
    refine aW ?_<;>refine ae ?_
    exact Q5 rfl rfl ⟨Own.nil _ _ _ _,P7 _ _⟩
  | some i =>
    refine aW ?_<;>refine ab ?_
    refine Fc rfl rfl (by simp) rfl λ f d=>?_
    have b:=d.ext
    have a:Own f w.heap.size (All w) 3 (.slice (some ⟨w.heap.size,0,none⟩) 0 0) ([]:List Int):=Own.made d rfl rfl (M9 _) (by decide)
    refine ad ?_
    refine Js rfl rfl rfl a (λ k hk=>H3 hk b.size) b.size (Vb.agree hs (b.agree λ _ m=>m)) (by simpa using hl) (by simp;omega) rfl λ j l g h=>?_
    refine af ?_
    refine ab ?_
    refine Q5 rfl rfl ⟨by simpa using g,b.trans (a.fits (P1 _) b.size h)⟩
theorem Aa2 {w:World} {sv:Value} {xs:List Fct} (hs:V w sv xs) (hl:xs.length * 16<=140737488355328) :
    Fn prog 80 [sv] w λ v w'=>Own w' w.heap.size (All w) 45 v xs/\Ext w w':=by
  obtain ⟨A,c,rfl⟩:=hs.form
  refine AK func80 rfl ntmps80 ?_
  cases A with
  | none =>
    have e:xs=[]:=by
      cases xs with
      | nil=>rfl
      | cons x xs=>obtain ⟨_,_,_,m,_⟩:=hs.elem (k:=0) (x:=x) rfl;cases m
    subst e
    refine aW ?_<;>refine ae ?_
    exact Q5 rfl rfl ⟨Own.nil _ _ _ _,P7 _ _⟩
  | some i =>
    refine aW ?_<;>refine ab ?_
    refine Fc rfl rfl (by simp) rfl λ f d=>?_
    have b:=d.ext
    have a:Own f w.heap.size (All w) 45 (.slice (some ⟨w.heap.size,0,none⟩) 0 0) ([]:List Fct):=Own.made d rfl rfl (M9 _) (by decide)
    refine ad ?_
    refine Js rfl rfl rfl a (λ k hk=>H3 hk b.size) b.size (Vb.agree hs (b.agree λ _ m=>m)) (by simpa using hl) (by simp;omega) rfl λ j l g h=>?_
    refine af ?_
    refine ab ?_
    refine Q5 rfl rfl ⟨by simpa using g,b.trans (a.fits (P1 _) b.size h)⟩
def Aaf (t:Tsk) (s:List Int) (k:Nat):List Int:=((List.range k).filter λ i=>match t.ops[i]? with|some o=>holdsB o.pre s|none=>false).map λ i:Nat=>(i:Int)
def W4 (t:Tsk) (s:List Int):List Int:=Aaf t s t.ops.length
theorem TN (t:Tsk) (s:List Int) (k:Nat):(Aaf t s k).length<=k:=by
  unfold Aaf
  rw [L7]
  exact N6 (F5 _ _) (by simp)
end
section
open Go Go.RowKit
attribute [local irreducible] ewp owp hwp hwq hws Ev Evg Fn Q4 R7 R2 Q9
inductive Tr where
  | nil
  | leaf (ops:List Int)
  | node (nx many:Nat) (vals:Nat->Tr) (rest:Tr)
def TrR (w:World) (F:Nat->Prop):Tr->Value->Prop
  | .nil,p=>p=.pointer none
  | .leaf ops,p=>∃ g e,p=.pointer (some ⟨g,0,none⟩)/\F g/\Blk w g 163 [e,.bool true,.int .i64 0,.slice none 0 0,.pointer none]/\Vb w F e ops
  | .node h k a d,p=>∃ g A c f,p=.pointer (some ⟨g,0,none⟩)/\F g/\Blk w g 163 [.slice none 0 0,.bool false,.int .i64 (h:Int),.slice A k c,.pointer f]/\TrR w F d (.pointer f) /\
      ∀ i,i < k->∃ b o q,A=some ⟨b,o,none⟩/\F b/\w.cell? ⟨b,o + i,none⟩=some (.pointer q)/\TrR w F (a i) (.pointer q)
theorem TrR.agree {w w':World} {F:Nat->Prop} (a:Agree F w w'):∀ {T:Tr} {p:Value},TrR w F T p->TrR w' F T p
  | .nil,_,h=>h
  | .leaf ops,_,⟨g,ov,h1,h2,h3,h4⟩=>⟨g,ov,h1,h2,h3.keep (a g h2),h4.agree a⟩
  | .node f k d e,_,⟨g,A,c,rp,h1,h2,h3,h4,h5⟩=>⟨g,A,c,rp,h1,h2,h3.keep (a g h2),TrR.agree a h4,λ i hi=>by
      obtain ⟨b,o,q,g1,g2,g3,g4⟩:=h5 i hi
      exact ⟨b,o,q,g1,g2,(a.cell g2).trans g3,TrR.agree a g4⟩⟩
theorem TrR.mono {w:World} {F G:Nat->Prop} (hk:∀ k,F k->G k):∀ {T:Tr} {p:Value},TrR w F T p->TrR w G T p
  | .nil,_,h=>h
  | .leaf ops,_,⟨g,ov,h1,h2,h3,h4⟩=>⟨g,ov,h1,hk _ h2,h3,h4.mono hk⟩
  | .node e k a d,_,⟨g,A,c,rp,h1,h2,h3,h4,h5⟩=>⟨g,A,c,rp,h1,hk _ h2,h3,TrR.mono hk h4,λ i hi=>by
      obtain ⟨b,o,q,g1,g2,g3,g4⟩:=h5 i hi
      exact ⟨b,o,q,g1,hk _ g2,g3,TrR.mono hk g4⟩⟩
theorem TrR.form {w:World} {F:Nat->Prop}:∀ {T:Tr} {p:Value},TrR w F T p->∃ q,p=.pointer q
  | .nil,_,h=>⟨none,h⟩
  | .leaf _,_,⟨_,_,h,_⟩=>⟨_,h⟩
  | .node ..,_,⟨_,_,_,_,h,_⟩=>⟨_,h⟩
def atN (s:List Int) (i:Nat):Nat:=(s[i]?.getD 0).toNat
def W1 (s:List Int):Tr->List Int
  | .nil=>[]
  | .leaf ops=>ops
  | .node c _ a b=>W1 s (a (atN s c)) ++ W1 s b
def ZB (s:List Int):Tr->List Bool->List Bool
  | .nil,l=>l
  | .leaf _,l=>l
  | .node c _ a b,l=>ZB s b (ZB s (a (atN s c)) (l.set c true))
def Aal (s:List Int):Tr->Prop
  | .nil=>True
  | .leaf _=>True
  | .node c k a b=>(∃ x:Nat,s[c]?=some (x:Int)/\x < k)/\Aal s (a (atN s c))/\Aal s b
theorem HY (s:List Int):∀ (T:Tr) (l:List Bool),(ZB s T l).length=l.length
  | .nil,_=>rfl
  | .leaf _,_=>rfl
  | .node c k a b,l=>by rw [ZB,HY s b,HY s (a _)];simp
theorem Own.own_ne {α β:Type} [Rp α] [Rp β] {w:World} {i j:Nat} {F G:Nat->Prop} {e f:TypeId} {u v:Value} {xs:List α} {ys:List β} (s:Own w i F e u xs) (k:Own w j G f v ys) (b:e≠f):∀ g,u.ownBlock=some g->v.ownBlock≠some g:=by
  intro g h hv
  obtain ⟨q,l,_⟩:=s
  obtain ⟨r,m,_⟩:=k
  rcases l.2 with ⟨rfl,_⟩|⟨n,cap1,cur1,rfl,_,hh1,_⟩
  . simp [Value.ownBlock] at h
  . rcases m.2 with ⟨rfl,_⟩|⟨o,cap2,cur2,rfl,_,a,_⟩
    . simp [Value.ownBlock] at hv
    . have c:n=g:=by simpa [Value.ownBlock] using h
      have d:o=g:=by simpa [Value.ownBlock] using hv
      subst c;subst d
      rw [hh1] at a
      injection a with a
      injection a with _ p
      exact b p
theorem Own.kept {α:Type} [Rp α] {w w':World} {base:Nat} {F:Nat->Prop} {e:TypeId} {v u:Value} {xs:List α} (f:Own w base F e v xs) (b:Kept w w' u) (c:∀ k,F k->k < w.heap.size/\u.ownBlock≠some k) (a:∀ g,v.ownBlock=some g->u.ownBlock≠some g):Own w' base F e v xs :=
  f.agree (λ k hk=>b.block k (c k hk).1 (c k hk).2) λ g d=>b.block g (f.lt g d).2 (a g d)
theorem bZ {G H:Prop} (g:H) (h:Wr0 H->G:=by intro x;refine bb ?_;refine PK rfl rfl ?_;refine be ?_;refine CV rfl ?_;refine ag ?_;refine be ?_;exact x.o):G:=h ⟨g⟩
theorem bi {G H:Prop} (g:H) (h:Wr0 H->G:=by intro x;refine BG rfl rfl ?_;refine AL rfl rfl ?_;exact x.o):G:=h ⟨g⟩
theorem aq {G H:Prop} (g:H) (h:Wr0 H->G:=by intro x;(first|refine Gk rfl rfl ?_|refine AZ rfl rfl ?_);exact x.o):G:=h ⟨g⟩
theorem bu {G H:Prop} (g:H) (h:Wr0 H->G:=by intro x;refine ai ?_;refine bi ?_;refine aq ?_;exact x.o):G:=h ⟨g⟩
theorem AbK (B:Nat) (s:List Int):∀ (T:Tr) (w:World) (p ov sv lv:Value) (out:List Int) (looked:List Bool),B<=w.heap.size->TrR w (· < B) T p->Vb w (· < B) sv s->Own w B (· < B) 3 ov out->Own w B (· < B) 4 lv looked ->
    Aal s T->looked.length=s.length->out.length + (W1 s T).length<=1000000 ->
    Fn prog 106 [p,ov,sv,lv] w λ v w'=>Own w' B (· < B) 3 v (out ++ W1 s T)/\Own w' B (· < B) 4 lv (ZB s T looked)/\Below B w w':=by
  intro T
  induction T with
  | nil =>
    intro w p ov sv lv out looked hB hT hs ho hl _ _ hlen
    have hp:p=.pointer none:=hT
    subst hp
    refine AK func106 rfl ntmps106 ?_
    refine bb ?_<;>refine PK rfl rfl ?_<;>refine o_z ?_<;>refine am ?_
    exact Q5 rfl rfl ⟨by simpa [W1] using ho,hl,P7 _ _⟩
  | leaf ops =>
    intro w p ov sv lv out looked hB hT hs ho hl _ _ hlen
    obtain ⟨g,opv',rfl,hg,hb1,hops⟩:=hT
    refine AK func106 rfl ntmps106 ?_
    refine bZ ?_<;>refine ad ?_<;>refine CV rfl ?_<;>refine ag ?_<;>refine ab ?_
    simp only [W1] at hlen
    refine Js rfl rfl rfl ho (λ k hk=>H3 hk hB) hB hops (by omega) (by omega) rfl λ v' w1 ho1 hK=>?_
    refine af ?_
    refine ab ?_
    refine Q5 rfl rfl ⟨ho1,?_,ho.fits (P1 _) hB hK⟩
    exact hl.kept hK (λ k hk=>⟨H3 hk hB,λ he=>by have:=(ho.lt k he).1;have:k < B:=hk;omega⟩) (λ g hg=>hl.own_ne ho (by decide) g hg)
  | node nx k vals rest ih1 ih2 =>
    intro w p ov sv lv out looked hB hT hs ho hl hfit hll hlen
    obtain ⟨g,A,c,rp,rfl,hg,hb1,hrest,hvals⟩:=hT
    obtain ⟨⟨x,hx,hxk⟩,hfit1,hfit2⟩:=hfit
    obtain ⟨bv,ovv,q,rfl,hbv,hcv,hq⟩:=hvals x hxk
    obtain ⟨As,cs,rfl⟩:=hs.form
    obtain ⟨bs,os,ce,rfl,hbs,_,hds,rfl,_⟩:=hs.elem hx
    have hnx:=BV hx
    have hat:atN s nx=x:=by simp [atN,hx]
    obtain ⟨gl,capl,_,_,rfl,_⟩:=hl.open (by omega)
    refine AK func106 rfl ntmps106 ?_
    have hll':nx < looked.length:=by omega
    refine bZ ?_<;>refine ad ?_<;>refine CV rfl ?_<;>refine ag ?_<;>refine DV rfl rfl ?_<;>refine ab ?_
    refine Md (i:=nx) (a:=true) rfl rfl rfl hl hll' (show Vb w (· < B) (.bool true) true from rfl) λ w1 hl1 hK1 hz1=>?_
    have hB1:Below B w w1:=hl.fits (P1 _) hB hK1
    have ho1:Own w1 B (· < B) 3 ov out:=ho.kept hK1 (λ k hk=>⟨H3 hk hB,λ he=>by have:=(hl.lt k he).1;have:k < B:=hk;omega⟩) (λ g hg=>ho.own_ne hl (by decide) g hg)
    refine o_z ?_
    refine ab ?_
    have hag:∀ w',Below B w1 w'->Agree (· < B) w w':=λ w' h k hk=>(hB1.trans h).block k hk
    replace hb1:∀ w',Below B w1 w'->Blk w' g 163 [.slice none 0 0,.bool false,.int .i64 (nx:Int),.slice (some ⟨bv,ovv,none⟩) k c,.pointer rp]:=λ w' h=>hb1.keep (hag w' h g hg)
    have hd1:∀ w',Below B w1 w'->cellsAt w' bs (os + nx * 1) [.int .i64 (x:Int)]:=λ w' h=>Dq (hag w' h) hbs hds
    have hc1:∀ w',Below B w1 w'->w'.cell? ⟨bv,ovv + x * 1,none⟩=some (.pointer q):=λ w' h=>by rw [P5];exact ((hag w' h).cell hbv).trans hcv
    refine Dd (Below B w1) [(0,true),(1,true),(2,true),(3,true),(4,true),(5,true),(6,true),(7,true),(8,true),(9,true),(10,true),(11,true),(12,true),(13,true),(14,true),(15,true),(16,true),(17,true),(18,true),(19,true),(21,true),(22,true),(20,false),(23,false),(24,true)] rfl (P7 _ _) ?_
    refine bu ?_<;>refine bu ?_<;>refine ai ?_<;>refine bu ?_<;>refine KV rfl rfl rfl ?_<;>refine aq ?_<;>refine KV rfl rfl rfl ?_<;>refine aq ?_<;>refine ai ?_<;>refine ai ?_<;>refine ai ?_<;>refine ai ?_<;>refine ai ?_
    refine Cr rfl ?_
    simp only [W1,hat,H2] at hlen
    refine BD rfl (ih1 x w1 (.pointer q) ov _ _ out (looked.set nx true) (N6 hB hB1.size) (TrR.agree (hag w1 (P7 _ _)) hq) (hs.agree (hag w1 (P7 _ _))) ho1 hl1 (hat ▸ hfit1) (by simpa using hll) (by omega)) ?_
    rintro v2 w2 ⟨ho2,hl2,hB2⟩
    refine De hB2 ?_
    refine Cr rfl ?_
    refine BD rfl (ih2 w2 (.pointer rp) v2 _ _ (out ++ W1 s (vals x)) (ZB s (vals x) (looked.set nx true)) (N6 hB (hB1.trans hB2).size) (TrR.agree (hag w2 hB2) hrest) (hs.agree (hag w2 hB2)) ho2 hl2 hfit2 (by rw [HY];simpa using hll) (by rw [H2];omega)) ?_
    rintro v3 w3 ⟨ho3,hl3,hB3⟩
    refine De (hB2.trans hB3) ?_
    refine Ei rfl rfl ?_<;>refine h_z ?_
    refine ab ?_
    exact Q5 rfl rfl ⟨by simpa [W1,hat] using ho3,by simpa [ZB,hat] using hl3,hB1.trans (hB2.trans hB3)⟩
end
section
open Go.Shelf
def Rr:Go.Shelf.Ren:=⟨fun|189=>107|125=>101|257=>123|128=>121|129=>122|294=>143|295=>144|296=>145|297=>146|298=>147|299=>148|216=>149|300=>150|301=>151|328=>161|329=>138|330=>139|331=>162|332=>163|215=>98|343=>167|n=>n,fun|28=>22|3=>3|46=>140|0=>0|51=>177|53=>180|4=>4|183=>197|182=>196|131=>90|5=>5|9=>9|218=>215|222=>219|228=>232|229=>233|n=>n,fun|n=>n⟩
theorem AaR:Go.Proofs.Lays.n189 prog Rr:={
  mixed:=by kernel_rfl
  f125:=func101.trans (congrArg some (by kernel_rfl))
  f128:=func121.trans (congrArg some (by kernel_rfl))
  f129:=func122.trans (congrArg some (by kernel_rfl))
  f189:=func107.trans (congrArg some (by kernel_rfl))
  f215:=func98.trans (congrArg some (by kernel_rfl))
  f216:=func149.trans (congrArg some (by kernel_rfl))
  f257:=func123.trans (congrArg some (by kernel_rfl))
  f294:=func143.trans (congrArg some (by kernel_rfl))
  f295:=func144.trans (congrArg some (by kernel_rfl))
  f296:=func145.trans (congrArg some (by kernel_rfl))
  f297:=func146.trans (congrArg some (by kernel_rfl))
  f298:=func147.trans (congrArg some (by kernel_rfl))
  f299:=func148.trans (congrArg some (by kernel_rfl))
  f300:=func150.trans (congrArg some (by kernel_rfl))
  f301:=func151.trans (congrArg some (by kernel_rfl))
  f328:=func161.trans (congrArg some (by kernel_rfl))
  f329:=func138.trans (congrArg some (by kernel_rfl))
  f330:=func139.trans (congrArg some (by kernel_rfl))
  f331:=func162.trans (congrArg some (by kernel_rfl))
  f332:=func163.trans (congrArg some (by kernel_rfl))
  f343:=func167.trans (congrArg some (by kernel_rfl))
  t0:=underlying0
  a0:=isAgg0
  z0:=sizeOf0
  v0:=zeroValue0
  t3:=underlying3
  a3:=isAgg3
  z3:=sizeOf3
  v3:=zeroValue3
  t4:=underlying4
  a4:=isAgg4
  z4:=sizeOf4
  v4:=zeroValue4
  t5:=underlying5
  a5:=isAgg5
  z5:=sizeOf5
  v5:=zeroValue5
  t9:=underlying9
  a9:=isAgg9
  z9:=sizeOf9
  v9:=zeroValue9
  t28:=underlying22
  a28:=isAgg22
  z28:=sizeOf22
  v28:=zeroValue22
  t46:=underlying140
  a46:=isAgg140
  z46:=sizeOf140
  v46:=zeroValue140
  t51:=underlying177
  a51:=isAgg177
  z51:=sizeOf177
  v51:=zeroValue177
  t53:=underlying180
  a53:=isAgg180
  z53:=sizeOf180
  v53:=zeroValue180
  t131:=underlying90
  a131:=isAgg90
  z131:=sizeOf90
  v131:=zeroValue90
  t182:=underlying196
  a182:=isAgg196
  z182:=sizeOf196
  v182:=zeroValue196
  t183:=underlying197
  a183:=isAgg197
  z183:=sizeOf197
  v183:=zeroValue197
  t218:=underlying215
  a218:=isAgg215
  z218:=sizeOf215
  v218:=zeroValue215
  t222:=underlying219
  a222:=isAgg219
  z222:=sizeOf219
  v222:=zeroValue219
  t228:=underlying232
  a228:=isAgg232
  z228:=sizeOf232
  v228:=zeroValue232
  t229:=underlying233
  a229:=isAgg233
  z229:=sizeOf233
  v229:=zeroValue233 }
open Go.Sort Go.RowKit in
theorem slices_Sort_int (a off cap:Nat) (zs:List Int) (w:World) (d:Holds (Value.int .i64) w a off zs.toArray) (b:a < w.heap.size) (c:zs.length < 4611686018427387904) :
    Calls prog 107 #[.slice (some ⟨a,off,none⟩) zs.length cap] w λ e w' =>
      e=.returned (.tuple #[])/\∃ n os,w'=grow (putRow (Value.int .i64) (Sort.ahead w n) a off (zs.mergeSort λ x y=>decide (x<=y)).toArray) os:=Any.slices_Sort_int AaR a off cap zs w d b c
open Go.RowKit Go.Sort in
theorem slices_Sort_int_none (p:Option Addr) (cap:Nat) (w:World) :
    Calls prog 107 #[.slice p 0 cap] w λ e w'=>e=.returned (.tuple #[])/\w'=w:=Any.slices_Sort_int_none AaR p cap w
end
section
open Go Go.RowKit
def Z7 (xs:List Int):List Int:=xs.mergeSort λ x y=>decide (x<=y)
theorem Fo (xs:List Int):(Z7 xs).length=xs.length:=F4 xs
theorem KJ {w:World} {F:Nat->Prop}:∀ {xs:List Int} {cells:List Value},Chunks w F cells xs->cells=xs.map (Value.int .i64)/\∀ x∈xs,P9 x
  | [],_,h=>⟨h,λ _ a=>by simp at a⟩
  | x :: xs,cells,⟨cs,rest,he,hr,hc⟩=>by
    obtain ⟨b,h2⟩:=KJ hc
    obtain ⟨c,h4⟩:=hr
    refine ⟨by rw [he,c,b];rfl,λ y hy=>?_⟩
    rcases M8.1 hy with rfl|hy
    . exact h4
    . exact h2 y hy
theorem KK {w:World} {F:Nat->Prop}:∀ {xs:List Int},(∀ x∈xs,P9 x)->Chunks w F (xs.map (Value.int .i64)) xs
  | [],_=>rfl
  | x :: xs,h=>⟨[.int .i64 x],xs.map (Value.int .i64),rfl,⟨rfl,h x (by simp)⟩,KK λ y a=>h y (by simp [a])⟩
theorem Abr {w:World} {base:Nat} {F:Nat→Prop} {v:Value} {xs:List Int} (u:Own w base F 3 v xs) (hl:xs.length≤1000000) :
    Fn prog 107 [v] w λ r w'=>r=.tuple #[]/\Own w' base F 3 v (Z7 xs)/\Kept w w' v:=by
  intro d
  rcases H5 xs.length with h0|h0
  . have f:xs=[]:=B0 h0
    subst f
    have hv:∃ p c,v=.slice p 0 c:=by
      obtain ⟨cells,q,_⟩:=u
      rcases q.2 with ⟨rfl,_⟩|⟨g,cap,cur,rfl,_⟩
      . exact ⟨_,_,rfl⟩
      . exact ⟨_,_,rfl⟩
    obtain ⟨p,c,rfl⟩:=hv
    refine (slices_Sort_int_none p c (dr w d)).mono λ e w' ⟨he,hw⟩=>⟨_,w,d,he,hw,rfl,by simpa [Z7] using u,⟨rfl,rfl,rfl,P1 _,λ _ _ _=>rfl⟩⟩
  . obtain ⟨g,cap,cells,sp,rfl,hg,hFg,hb,hc,hlen,hnc,hcm,htot⟩:=u.open h0
    obtain ⟨rfl,hin⟩:=KJ hc
    have s:Go.Sort.Holds (Value.int .i64) (dr w d) g 0 xs.toArray:=λ j hj=>by
      have a:j < xs.length:=by simpa using hj
      refine ⟨?_,by rw [N4];exact hb.frozen j⟩
      rw [N4]
      refine hb.cell ?_
      rw [B8 (by simpa using a),I4,C4 a]
      simp [a]
    refine (slices_Sort_int g 0 cap xs (dr w d) s hb.lt (by omega)).mono λ e w' ⟨he,n,os,hw⟩=>⟨_,w',w'.drawn,he,rfl,rfl,?_,?_⟩
    . have b:Blk w' g 3 ((Z7 xs).map (Value.int .i64) ++ sp):=by
        subst hw
        unfold Blk at hb ⊢
        have h:g < w.heap.size:=Blk.lt hb
        show ((w.heap.modify g _) ++ os)[g]?=_
        rw [B2 (by simpa using h),E7,if_pos rfl,hb]
        simp only [L8,Go.Sort.onCells]
        congr 2
        apply Array.ext
        . simp [Go.Sort.putCells,Fo]
        . intro i q t
          simp only [Go.Sort.putCells,G5,N4,N5,P4,true_and]
          have l:(List.mergeSort xs λ x y=>decide (x<=y)).length=xs.length:=F4 xs
          by_cases hi:i < xs.length
          . rw [if_pos (by simpa [l] using hi)]
            simp only [G4]
            rw [C9 (by simpa [Fo] using hi),List.getElem_map]
            congr 1
            rw [getElem!_pos _ _ (by simpa [l] using hi)]
            simp [Z7]
          . rw [if_neg (by simpa [l] using hi)]
            simp only [G4]
            rw [C2 (by simp;omega),C2 (by simp [Fo];omega)]
            simp [Fo]
      have:=Own.close (w:=w') (base:=base) (cap:=cap) hg hFg b (KK (F:=F) (w:=w') λ x f=>hin x (by
        have:=(G9 xs λ x y=>decide (x<=y)).mem_iff.1 f
        exact this)) (by rw [Fo];exact hnc) hcm (by simpa [Fo] using htot)
      rwa [Fo] at this
    . subst hw
      refine ⟨rfl,rfl,rfl,?_,λ k hk m=>?_⟩
      . show w.heap.size<=((w.heap.modify g _) ++ os).size
        simp
      . have o:g≠k:=λ e=>m (by simp [Value.ownBlock,e])
        show ((w.heap.modify g _) ++ os)[k]?=_
        rw [B2 (by simpa using hk),E7,if_neg o]
end
section
open Go Go.RowKit
attribute [local irreducible] ewp owp hwp hwq hws Ev Evg Fn Q4 R7 R2 Q9
def GenR (w:World) (F:Nat->Prop) (gv:Value) (t:Tsk) (T:Tr):Prop :=
  ∃ e a b c d r,gv=.pointer (some ⟨e,0,none⟩)/\F e/\Blk w e 111 [a,b,c,d,r]/\Vb w F a t.vars/\Vb w F b t.init/\Vb w F c t.goal/\Vb w F d t.ops/\TrR w F T r
theorem Qg (z:Value) (n:Nat) (hz:z.cells=#[z]):(madeCells z.cells (n * 1)).toList=List.replicate n z:=by
  rw [hz,P5]
  apply List.ext_getElem
  . simp [madeCells]
  . intro i a b
    simp [madeCells,Nat.mod_one]
theorem Li {w:World} {F:Nat->Prop}:∀ n,Chunks w F (List.replicate n (.bool false)) (List.replicate n false)
  | 0=>rfl
  | n + 1=>⟨[.bool false],List.replicate n (.bool false),rfl,rfl,Li n⟩
noncomputable def ZQ (t:Tsk) (T:Tr) (s:List Int):List Int:=if bof (StateOk t.vars s)=true then Z7 (W1 s T) else []
noncomputable def findN (t:Tsk) (T:Tr) (s:List Int):Nat:=if bof (StateOk t.vars s)=true then (ZB s T (List.replicate s.length false)).count true else 0
theorem SK {l:List Bool} {k:Nat} {b:Bool} (a:l[k]?=some b):(l.take (k + 1)).count true=(l.take k).count true + if b=true then 1 else 0:=by
  rw [I6,a,List.count_append]
  cases b<;>simp
theorem AbL {w:World} {gv sv:Value} {t:Tsk} {T:Tr} {s:List Int} (z:GenR w (All w) gv t T) (hs:V w sv s) (p:StateOk t.vars s->Aal s T) (i:(W1 s T).length<=1000000) (K:s.length<=1000000) :
    Fn prog 90 [gv,sv] w λ v w'=>Ext w w'/\∃ u,v=.tuple #[u,.int .i64 (findN t T s:Int)]/\Own w' w.heap.size (All w) 3 u (ZQ t T s):=by
  obtain ⟨P,a,b,c,d,r,rfl,hgb,hb1,hvars,hinit,hgoal,hops,hT⟩:=z
  obtain ⟨Q,cv,rfl⟩:=hvars.form
  obtain ⟨R,cs,rfl⟩:=hs.form
  obtain ⟨L,rfl⟩:=hT.form
  refine AK func90 rfl ntmps90 ?_
  (refine ab ?_<;>refine aS ?_<;>(refine ad ?_<;>refine PK rfl rfl ?_<;>refine ad ?_<;>(first|(refine AB rfl rfl ?_;refine At rfl ?_)|refine AA rfl rfl ?_)<;>(first|(refine AB rfl rfl ?_;refine CV rfl ?_)|refine AA rfl rfl ?_)<;>(first|(refine AB rfl rfl ?_;refine AO rfl ?_)|refine AA rfl rfl ?_)<;>(first|(refine AB rfl rfl ?_;refine AO rfl ?_)|refine AA rfl rfl ?_)<;>(first|(refine AB rfl rfl ?_;refine AQ rfl ?_)|refine AA rfl rfl ?_)<;>(first|(refine AB rfl rfl ?_;refine At rfl ?_)|refine AA rfl rfl ?_))<;>refine ab ?_)
  refine AB rfl rfl ?_
  refine DP rfl (Z3 hvars hs) ?_ ?_
  case refine_2 =>
    intro y I e
    ((first|(refine AB rfl rfl ?_;(first|refine DA rfl ?_|refine DB rfl ?_|refine Eh rfl ?_))|refine AA rfl rfl ?_)<;>refine ah ?_)
    refine ab ?_
    refine ab ?_<;>refine aS ?_
    refine T4 rfl (Bc rfl) (Bc rfl) ⟨e,.slice none 0 0,?_,?_⟩
    . rw [findN,AY I];rfl
    . rw [ZQ,AY I];exact Own.nil _ _ _ _
  intro y j e
  replace hb1:=hb1.ext e
  ((first|(refine AB rfl rfl ?_;(first|refine DA rfl ?_|refine DB rfl ?_|refine Eh rfl ?_))|refine AA rfl rfl ?_)<;>refine ah ?_)
  refine ab ?_
  refine ad ?_<;>refine AU rfl ?_
  refine Mn rfl rfl (by omega) (by omega) rfl λ A m=>?_
  replace hb1:=hb1.ext m.ext
  have h:Ext w A:=e.trans' m.ext
  have B:Own A w.heap.size (· < w.heap.size) 4 (.slice (some ⟨y.heap.size,0,none⟩) s.length s.length) (List.replicate s.length false) :=
    (Own.made m (by rw [Qg _ _ rfl];exact Li _) (by simp) (by have:=e.size;omega) (by omega)).lower e.size
  refine af ?_
  refine ab ?_
  refine ad ?_<;>refine CV rfl ?_<;>refine ag ?_<;>refine aU ?_
  refine BD rfl (AbK w.heap.size s T A (.pointer L) (.slice none 0 0) _ _ [] _ h.size (TrR.agree (h.agree λ _ U=>U) hT) (Vb.agree hs (h.agree λ _ U=>U)) (Own.nil _ _ _ _) B (p j) (by simp) (by simpa using i)) ?_
  rintro J M ⟨f,hl3,hB3⟩
  have o:Ext w M:=h.trans hB3
  rw [L3] at f
  refine af ?_
  refine ab ?_
  refine ad ?_
  refine BD rfl (Abr f i) ?_
  rintro _ C ⟨rfl,ho4,hK4⟩
  have D:Ext w C:=o.trans (f.fits (P1 _) o.size hK4)
  have E:=hl3.kept hK4 (λ k hk=>⟨H3 hk o.size,λ he=>by have:=(f.lt k he).1;have:k < w.heap.size:=hk;omega⟩) (λ g z=>hl3.own_ne f (by decide) g z)
  have F:Vb C _ (.slice (some ⟨y.heap.size,0,none⟩) s.length s.length) (ZB s T (List.replicate s.length false)):=E.vb
  have N:(ZB s T (List.replicate s.length false)).length=s.length:=by rw [HY];simp
  refine o_z ?_
  refine ab ?_
  refine aX ?_
  refine Cf s.length (by omega) (λ n:Nat=>[(7,J),(8,.int .i64 (n:Int)),(35,.slice (some ⟨y.heap.size,0,none⟩) s.length s.length)]) (λ k n w'=>w'=C/\n=((ZB s T (List.replicate s.length false)).take k).count true) 0
    ⟨rfl,by simp⟩ ⟨rfl,rfl,rfl,rfl,rfl,trivial⟩ (λ _=>⟨rfl,rfl⟩) ⟨rfl,rfl,rfl⟩ ⟨rfl,rfl⟩ ?_ ?_
  . rintro k n _ hk ⟨rfl,hn⟩
    obtain ⟨x,hx⟩:=AG (l:=ZB s T (List.replicate s.length false)) (k:=k) (by omega)
    obtain ⟨S,o2,ce,he,_,_,hd1,rfl⟩:=F.elem hx
    injection he with he
    injection he with G H
    subst G;subst H
    have O:n<=k:=by
      rw [hn]
      exact N6 List.count_le_length (by rw [K0];omega)
    have q:=SK hx
    cases x
    . refine aV ?_<;>refine ad ?_<;>refine o_z ?_<;>refine ab ?_
      exact ⟨n,⟨rfl,rfl,rfl,rfl,rfl,trivial⟩,rfl,by rw [q,hn];simp⟩
    . refine aV ?_<;>refine ad ?_<;>refine be ?_<;>refine bq ?_<;>refine aj ?_
      exact ⟨n + 1,⟨rfl,rfl,rfl,rfl,rfl,trivial⟩,rfl,by rw [q,hn];simp⟩
  rintro n _ ⟨rfl,hn⟩
  refine ab ?_
  refine ak ?_<;>refine ad ?_<;>refine aS ?_
  refine T4 rfl (Bc rfl) (Bc rfl) ⟨D,J,?_,?_⟩
  . rw [findN,Bk j,if_pos rfl,hn,D4 (by omega)]
  . rw [ZQ,Bk j,if_pos rfl]
    exact ho4
section
variable {w : World} {gv sv : Value} {t : Tsk} {T : Tr} {s : List Int}
theorem bh {G H:Prop} (g:H) (h:Wr0 H->G:=by intro x;refine ad ?_;refine CK rfl rfl ?_;refine CK rfl rfl ?_;exact x.o):G:=h ⟨g⟩
theorem AaH (d:GenR w (All w) gv t T) (hs:V w sv s) (a:StateOk t.vars s->Aal s T) (b:(W1 s T).length<=1000000) (c:s.length<=1000000) :
    Fn prog 56 [gv,sv] w λ v w'=>Ext w w'/\Own w' w.heap.size (All w) 3 v (ZQ t T s):=by
  refine AK func56 rfl ntmps56 ?_
  refine br ?_
  refine BD rfl (AbL d hs a b c) ?_
  rintro _ f ⟨e,u,rfl,ho⟩
  refine bh ?_<;>refine Au rfl ?_<;>refine af ?_
  refine ab ?_
  refine am ?_
  exact Q5 rfl rfl ⟨e,ho⟩
theorem Own.form {α:Type} [Rp α] {w:World} {base:Nat} {F:Nat->Prop} {e:TypeId} {v:Value} {xs:List α} (a:Own w base F e v xs):∃ A c,v=.slice A xs.length c:=a.vb.form
end
structure Suc where
  op:Int
  state:List Int
instance:Rp Suc where
  isAgg:=true
  size:=2
  R w F cs x:=∃ v,cs=[.int .i64 x.op,v]/\Vb w F v x.state/\P9 x.op
  len:=by rintro w F cs x ⟨v,rfl,_⟩;rfl
  one:=by rintro w F cs x ⟨v,rfl,h,_⟩ u hu;simp at hu;rcases hu with rfl|rfl<;>first|rfl|exact Vb.one rfl (by assumption)
  agree:=by rintro w w' F cs x ⟨v,rfl,h,h2⟩ ha;exact ⟨v,rfl,h.agree ha,h2⟩
  mono:=by rintro w F G cs x ⟨v,rfl,h,h2⟩ ha;exact ⟨v,rfl,h.mono ha,h2⟩
def Z4 (t:Tsk) (s:List Int) (a:Int):Suc:=⟨a,match t.ops[a.toNat]? with|some o=>succ o s|none=>s⟩
end
section
open Go Go.RowKit
attribute [local irreducible] ewp owp hwp hwq hws Ev Evg Fn Q4 R7 R2 Q9
def GenB (w:World) (F:Nat->Prop) (f:Value) (t:Tsk):Prop :=
  ∃ e a b c d g,f=.pointer (some ⟨e,0,none⟩)/\F e/\Blk w e 111 [a,b,c,d,.pointer g]/\Vb w F a t.vars/\Vb w F b t.init/\Vb w F c t.goal/\Vb w F d t.ops
theorem GenB.agree {w w':World} {F:Nat->Prop} {f:Value} {t:Tsk} (h:GenB w F f t) (e:Agree F w w'):GenB w' F f t:=by
  obtain ⟨g,a,b,c,d,r,h1,h2,h3,h4,h5,h6,h7⟩:=h
  exact ⟨g,a,b,c,d,r,h1,h2,h3.keep (e g h2),h4.agree e,h5.agree e,h6.agree e,h7.agree e⟩
theorem GenB.mono {w:World} {F G:Nat->Prop} {f:Value} {t:Tsk} (h:GenB w F f t) (e:∀ k,F k->G k):GenB w G f t:=by
  obtain ⟨g,a,b,c,d,r,h1,h2,h3,h4,h5,h6,h7⟩:=h
  exact ⟨g,a,b,c,d,r,h1,e _ h2,h3,h4.mono e,h5.mono e,h6.mono e,h7.mono e⟩
theorem GenB.ext {w w':World} {a:Value} {t:Tsk} (c:GenB w (All w) a t) (b:Ext w w'):GenB w' (All w') a t:=(c.agree (b.agree λ _ c=>c)).mono λ k hk=>H3 hk b.size
def factOn (l:List Fct) (v:Int):Option Fct:=l.find? λ f=>decide (f.var=v)
def Aar:Option Fct->Value
  | some f=>.tuple #[.agg #[.int .i64 f.var,.int .i64 f.val],.bool true]
  | none=>.tuple #[.agg #[.int .i64 0,.int .i64 0],.bool false]
theorem OK {α:Type} (p:α->Bool):∀ {l:List α} {k:Nat} {x:α},l[k]?=some x->p x=true->(∀ i,i < k->∀ y,l[i]?=some y->p y=false)->l.find? p=some x
  | [],_,_,h,_,_=>by simp at h
  | y :: l,0,x,h,hp,_=>by
    have:y=x:=by simpa using h
    subst this;simp [hp]
  | y :: l,k + 1,x,h,hp,hn=>by
    have a:=hn 0 (by omega) y rfl
    rw [List.find?_cons,a]
    exact OK p (k:=k) (by simpa using h) hp λ i hi z hz=>hn (i + 1) (by omega) z (by simpa using hz)
theorem TO {α:Type} (p:α->Bool) {l:List α} (hn:∀ i,i < l.length->∀ y,l[i]?=some y->p y=false):l.find? p=none:=by
  rw [H9]
  intro x a
  obtain ⟨i,hi⟩:=G3 a
  simp [hn i (BV hi) x hi]
theorem AaT {w:World} {z:Value} {t:Tsk} {j:Nat} {o:Opr} {v:Int} (A:GenB w (All w) z t) (B:t.ops[j]?=some o) :
    Fn prog 83 [z,.int .i64 (j:Int),.int .i64 v] w λ r w'=>r=Aar (factOn o.pre v)/\Ext w w':=by
  obtain ⟨J,a,b,c,d,rp,rfl,hgb,hb0,hvars,hinit,hgoal,hops⟩:=A
  obtain ⟨K,co,rfl⟩:=hops.form
  obtain ⟨L,o2,ce,rfl,hbl,hjl,hd0,p,q,rfl,hp,hq,hc,hnm⟩:=hops.elem B
  obtain ⟨C,cp,rfl⟩:=hp.form
  have D:=hp.len
  refine AK func83 rfl ntmps83 ?_
  refine ab ?_
  refine FC rfl λ x n=>?_
  have e:=n.blk
  have g:Ext w x:=n.ext
  have E:=hb0.ext g
  have y:=KR hd0 hbl g
  refine af ?_
  refine ab ?_
  refine ak ?_<;>refine CV rfl ?_<;>refine AO rfl ?_<;>refine ag ?_<;>refine ad ?_<;>refine DV rfl rfl ?_<;>refine ag ?_<;>refine au ?_
  refine Cf o.pre.length (by omega) (λ _:Unit=>[(2,.int .i64 v),(6,.pointer (some ⟨w.heap.size,0,none⟩)),(18,.slice C o.pre.length cp)]) (λ k _ w'=>Ext x w'/\∀ i,i < k->∀ f,o.pre[i]?=some f->decide (f.var=v)=false) ()
    ⟨P7 _ _,λ i hi=>by omega⟩ ⟨rfl,rfl,rfl,rfl,rfl,trivial⟩ (λ _=>⟨rfl,rfl⟩) ⟨rfl,rfl,rfl⟩ ⟨rfl,rfl⟩ ?_ ?_
  . rintro k _ F hk ⟨h,hh⟩
    obtain ⟨f,hf⟩:=AG hk
    obtain ⟨M,o3,ce,rfl,_,_,y,rfl,hr1,hr2⟩:=(hp.ext (g.trans' h)).elem hf
    refine ao ?_
    refine CJ rfl rfl (by simp [Value.cells,Value.oneCell']) λ G s=>?_
    have H:=s.blk
    have m:Ext x G:=h.trans' s.ext
    replace e:=e.ext m
    refine o_z ?_
    refine ab ?_
    (refine ab ?_<;>(refine ag ?_<;>refine ad ?_<;>(first|refine Sz rfl rfl rfl ?_|refine SA rfl rfl rfl ?_|refine FD rfl rfl (λ _=>?_) λ _=>?_)<;>refine o_z ?_)<;>refine ab ?_)
    . refine BH rfl ?_
      refine CI rfl rfl e rfl (P1 _) (by simp [Value.cells,Value.oneCell']) λ I u=>?_
      refine af ?_
      refine ab ?_
      refine T4 rfl (Dc rfl rfl u.blk.cellsAt) (Bc rfl) ⟨?_,g.trans ((m.mono g.size).trans (u.below (P1 _)))⟩
      rw [factOn,OK _ hf (by simpa using ‹f.var=v›) hh]
      rfl
    . exact ⟨(),⟨rfl,rfl,rfl,rfl,rfl,trivial⟩,m,Dx hh λ f' l=>by rw [hf] at l;injection l with l;subst l;simpa using ‹¬ f.var=v›⟩
  rintro _ F ⟨h,hh⟩
  replace e:=e.ext h
  refine ab ?_
  refine DU rfl rfl ?_
  refine CI rfl rfl e rfl (P1 _) (by simp [Value.cells,Value.oneCell',U1]) λ I u=>?_
  refine af ?_
  refine ab ?_
  refine T4 rfl (Dc rfl rfl u.blk.cellsAt) (Bc rfl) ⟨?_,g.trans ((h.mono g.size).trans (u.below (P1 _)))⟩
  rw [factOn,TO _ hh]
  rfl
theorem Abd {w:World} {b:Value} {t:Tsk} {j:Nat} {o:Opr} {v:Int} {c d:Nat} {e g:TypeId} (h:GenB w (All w) b t) (i:t.ops[j]?=some o) (k:Blk w c e [b]) (l:Blk w d g [.int .i64 v]) :
    Fn prog 82 ([.int .i64 (j:Int)] ++ [.pointer (some ⟨c,0,none⟩),.pointer (some ⟨d,0,none⟩)]) w λ r w'=>r=.bool (factOn o.pre v).isSome/\Ext w w':=by
  have m:=k
  have n:=l
  refine AK func82 rfl ntmps82 ?_
  refine ae ?_<;>refine AQ rfl ?_<;>refine ad ?_<;>refine AQ rfl ?_<;>refine ab ?_
  refine BD rfl (AaT h i) ?_
  rintro _ q ⟨rfl,hE1⟩
  cases hf:factOn o.pre v with
  | none =>
    simp only [Aar]
    refine bh ?_
    refine CJ rfl rfl (by simp [Value.cells,Value.oneCell']) λ p a=>?_
    refine af ?_
    refine ab ?_
    refine am ?_
    exact Q5 rfl rfl ⟨rfl,hE1.trans' a.ext⟩
  | some f =>
    simp only [Aar]
    refine bh ?_
    refine CJ rfl rfl (by simp [Value.cells,Value.oneCell']) λ p a=>?_
    refine af ?_
    refine ab ?_
    refine am ?_
    exact Q5 rfl rfl ⟨rfl,hE1.trans' a.ext⟩
end
section
open Go Go.RowKit
attribute [local irreducible] ewp owp hwp hwq hws Ev Evg Fn Q4 R7 R2 Q9
theorem AaF {w:World} {sv:Value} {xs:List (Int)} {g:FuncId} [Callable prog g] {caps:List Value} {p:Int->Prop} (hs:V w sv xs)
    (l:∀ v x w',x∈xs->Ext w w'->V w' v x->Fn prog g ([v] ++ caps) w' λ r h=>r=.bool (bof (p x))/\Ext w' h) :
    Fn prog 105 [sv,.func (.func g) #[] caps.toArray] w λ v w'=>((∃ k:Nat,v=.int .i64 (k:Int)/\∃ x∈xs,p x)\/(v=.int .i64 (-1)/\∀ x∈xs,¬ p x))/\Ext w w':=by
  obtain ⟨A,c,rfl⟩:=hs.form
  have hl:=hs.len
  refine AK func105 rfl ntmps105 ?_
  refine aX ?_
  refine Cf xs.length (by omega) (λ _:Unit=>[(0,.slice A xs.length c),(1,.func (.func g) #[] caps.toArray)]) (λ k _ w'=>Ext w w'/\∀ i,i < k->∀ x,xs[i]?=some x->¬ p x) ()
    ⟨P7 _ _,λ i hi=>by omega⟩ ⟨rfl,rfl,rfl,rfl,trivial⟩ (λ _=>⟨rfl,rfl⟩) ⟨rfl,rfl,rfl⟩ ⟨rfl,rfl⟩ ?_ ?_
  . rintro k _ j hk ⟨d,hh⟩
    obtain ⟨x,e⟩:=AG hk
    obtain ⟨b,o,ce,rfl,_,_,hd1,hR⟩:=(hs.ext d).elem e
    obtain ⟨v,rfl⟩:=List.length_eq_one_iff.1 (Rp.len hR)
    refine bX ?_
    refine Jc rfl rfl rfl (l v x j (F9 e) d hR) ?_
    rintro _ m ⟨rfl,hE2⟩
    by_cases f:p x
    . rw [Bk f]
      refine o_z ?_
      refine ab ?_
      refine am ?_
      exact Q5 rfl rfl ⟨.inl ⟨k,rfl,x,F9 e,f⟩,d.trans' hE2⟩
    . rw [AY f]
      refine o_z ?_
      refine ab ?_
      exact ⟨(),⟨rfl,rfl,rfl,rfl,trivial⟩,d.trans' hE2,Dx hh λ n a=>by rw [e] at a;injection a with a;exact a ▸ f⟩
  rintro _ j ⟨d,hh⟩
  refine ab ?_
  refine ae ?_
  refine Q5 rfl rfl ⟨.inr ⟨rfl,λ x e=>?_⟩,d⟩
  obtain ⟨i,hi⟩:=G3 e
  exact hh i (BV hi) x hi
theorem Aak {w:World} {sv:Value} {xs:List (Int)} {g:FuncId} [Callable prog g] {caps:List Value} {p:Int->Prop} (hs:V w sv xs)
    (b:∀ v x w',x∈xs->Ext w w'->V w' v x->Fn prog g ([v] ++ caps) w' λ r a=>r=.bool (bof (p x))/\Ext w' a) :
    Fn prog 81 [sv,.func (.func g) #[] caps.toArray] w λ v w'=>v=.bool (bof (∃ x∈xs,p x))/\Ext w w':=by
  refine AK func81 rfl ntmps81 ?_
  refine br ?_
  refine BD rfl (AaF hs b) ?_
  rintro v c ⟨d,hE⟩
  rcases d with ⟨k,rfl,d⟩|⟨rfl,d⟩
  . refine bt ?_
    refine ab ?_
    exact Q5 rfl rfl ⟨by rw [Bk d],hE⟩
  . refine bt ?_
    refine ab ?_
    exact Q5 rfl rfl ⟨by rw [AY (λ ⟨x,hx,hp⟩=>d x hx hp)],hE⟩
end
section
open Go Go.RowKit
attribute [local irreducible] ewp owp hwp hwq hws Ev Evg Fn Q4 R7 R2 Q9
def preOf (t:Tsk) (a:Int):List Fct:=match t.ops[a.toNat]? with|some o=>o.pre|none=>[]
def V5 (t:Tsk) (ops:List Int) (v:Nat):Bool:=ops.any λ a=>(factOn (preOf t a) (v:Int)).isSome
def nextF (t:Tsk) (ops:List Int):Nat->Nat->Nat
  | 0,v=>v
  | k + 1,v=>if V5 t ops v=true then v else nextF t ops k (v + 1)
def nextV (t:Tsk) (ops:List Int) (v:Nat):Nat:=nextF t ops (t.vars.length - v) v
def valB (t:Tsk) (u:Nat) (x:Nat) (a:Int):Bool:=match factOn (preOf t a) (u:Int) with|some f=>decide (f.val=(x:Int))|none=>false
def U7 (t:Tsk) (u:Nat) (a:Int):Bool:=(factOn (preOf t a) (u:Int)).isNone
def mkT (t:Tsk):Nat→List Int→Nat→Tr
  | 0,_,_=>.nil
  | fuel + 1,ops,v =>
    if ops.isEmpty then .nil
    else if nextV t ops v=t.vars.length then .leaf ops
    else .node (nextV t ops v) (t.vars[nextV t ops v]?.getD 0).toNat (λ x=>mkT t fuel (ops.filter (valB t (nextV t ops v) x)) (nextV t ops v + 1)) (mkT t fuel (ops.filter (U7 t (nextV t ops v))) (nextV t ops v + 1))
theorem Km (t:Tsk) (ops:List Int):∀ (k v:Nat),v<=nextF t ops k v/\nextF t ops k v<=v + k/\(∀ u,v<=u->u < nextF t ops k v->V5 t ops u=false)/\(nextF t ops k v < v + k->V5 t ops (nextF t ops k v)=true)
  | 0,v=>by simp [nextF];intro u b c;omega
  | k + 1,v=>by
    by_cases e:V5 t ops v=true
    . simp only [nextF,e,if_true]
      exact ⟨P1 _,by omega,λ u b c=>by omega,λ _=>trivial⟩
    . obtain ⟨b,c,h3,h4⟩:=Km t ops k (v + 1)
      simp only [nextF,e]
      refine ⟨by simp;omega,by simp;omega,λ u d a=>?_,λ hlt=>h4 (by simp at hlt;omega)⟩
      by_cases he:u=v
      . subst he;simpa using e
      . exact h3 u (by omega) (by simpa using a)
theorem Vd (t:Tsk) (ops:List Int) {v u:Nat} (a:v<=u) (e:u<=t.vars.length) (b:∀ x,v<=x->x < u->V5 t ops x=false) (c:u < t.vars.length->V5 t ops u=true):nextV t ops v=u:=by
  obtain ⟨d,g2,g3,g4⟩:=Km t ops (t.vars.length - v) v
  unfold nextV
  rcases J0 (nextF t ops (t.vars.length - v) v) u with h|h|h
  . have:=b _ d h
    rw [g4 (by omega)] at this;cases this
  . exact h
  . have:=g3 u a h
    rw [c (by omega)] at this;cases this
def AbB (t:Tsk) (ops:List Int):Prop:=∀ a∈ops,0<=a/\a < t.ops.length
def AaO (t:Tsk):Prop:=∀ (i:Nat) o,t.ops[i]?=some o->∀ (v:Nat) f,factOn o.pre (v:Int)=some f->v < t.vars.length->0<=f.val/\∃ n,t.vars[v]?=some n/\f.val < n
structure ByInv (w:World) (base gby:Nat) (vals:List Value) (rv:Value) (L:Nat->List Int) (R:List Int) (m:Nat):Prop where
  len:vals.length=m
  blk:Blk w gby 22 vals
  own:∀ (i:Nat) (u:Value),vals[i]?=some u->Own w base (λ _=>False) 3 u (L i)
  rest:Own w base (λ _=>False) 3 rv R
  apart:∀ (i j:Nat) (u u':Value),i≠j->vals[i]?=some u->vals[j]?=some u'->∀ g,u.ownBlock=some g->u'.ownBlock≠some g
  apartR:∀ (i:Nat) (u:Value),vals[i]?=some u->∀ g,u.ownBlock=some g->rv.ownBlock≠some g
theorem ByInv.ext {w w':World} {base b:Nat} {a:List Value} {rv:Value} {d:Nat->List Int} {R:List Int} {m:Nat} (e:ByInv w base b a rv d R m) (c:Ext w w'):ByInv w' base b a rv d R m :=
  ⟨e.len,e.blk.ext c,λ i u hu=>(e.own i u hu).ext c λ _ hk=>hk.elim,e.rest.ext c λ _ hk=>hk.elim,e.apart,e.apartR⟩
theorem ByInv.putRest {w w':World} {base d:Nat} {c:List Value} {rv b:Value} {l:Nat->List Int} {R e:List Int} {m:Nat} (n:ByInv w base d c rv l R m) (f:Kept w w' rv) (j:Own w' base (λ _=>False) 3 b e)
    (a:b.ownBlock=rv.ownBlock\/∃ g,b.ownBlock=some g/\w.heap.size<=g):ByInv w' base d c b l e m:=by
  refine ⟨n.len,f.blk n.blk (n.rest.blk_ne n.blk (by decide)),λ i u hu=>(n.own i u hu).kept f (λ _ hk=>hk.elim) (n.apartR i u hu),j,n.apart,λ i u hu g h he=>?_⟩
  rcases a with a|⟨k,a,hge⟩
  . exact n.apartR i u hu g h (a ▸ he)
  . have:=((n.own i u hu).lt g h).2
    rw [a] at he;injection he with he;omega
theorem ByInv.putVal {w w' f:World} {base h:Nat} {c:List Value} {rv u p:Value} {B:Nat→List Int} {R:List Int} {m i:Nat} {xs:List Int} (C:ByInv w base h c rv B R m) (hu:c[i]?=some u) (r:Kept w w' u) (z:Own w' base (λ _=>False) 3 p xs)
    (e:p.ownBlock=u.ownBlock\/∃ g,p.ownBlock=some g/\w.heap.size<=g) (x:Upd w' f h 22 (c.set i p)):ByInv f base h (c.set i p) rv (λ j=>if j=i then xs else B j) R m:=by
  have hi:i < c.length:=(B6.1 hu).1
  have l:∀ {v:Value} {ys:List Int},Own w' base (λ _=>False) 3 v ys->Own f base (λ _=>False) 3 v ys:=λ hv=>by
    have s:=hv.blk_ne (r.blk C.blk ((C.own i u hu).blk_ne C.blk (by decide))) (by decide)
    exact hv.agree (λ _ hk=>hk.elim) λ g d=>x.other g λ he=>s (he ▸ d)
  have n:∀ {y:Value} {ys:List Int},Own w base (λ _=>False) 3 y ys->(∀ g,u.ownBlock=some g->y.ownBlock≠some g)->∀ g,p.ownBlock=some g->y.ownBlock≠some g:=λ a q g d he=>by
    rcases e with e|⟨A,e,hge⟩
    . exact q g (e ▸ d) he
    . have:=(a.lt g he).2
      rw [e] at d;injection d with d;omega
  refine ⟨by rw [L5];exact C.len,x.blk,λ j y a=>?_,l (C.rest.kept r (λ _ hk=>hk.elim) λ g d he=>C.apartR i u hu g he d),λ j k y t o a b g d=>?_,λ j y a g d=>?_⟩
  . by_cases hj:j=i
    . subst hj
      rw [D9 hi] at a
      injection a with a;subst a
      rw [if_pos rfl];exact l z
    . rw [G2 (P8 hj)] at a
      rw [if_neg hj]
      exact l ((C.own j y a).kept r (λ _ hk=>hk.elim) (C.apart j i y u hj a hu))
  . by_cases hj:j=i
    . subst hj
      rw [D9 hi] at a
      injection a with a;subst a
      rw [G2 o] at b
      exact n (C.own k t b) (C.apart j k u t o hu b) g d
    . rw [G2 (P8 hj)] at a
      by_cases hk:k=i
      . subst hk
        rw [D9 hi] at b
        injection b with b;subst b
        intro he
        exact n (C.own j y a) (C.apart k j u y (P8 hj) hu a) g he d
      . rw [G2 (P8 hk)] at b
        exact C.apart j k y t o a b g d
  . by_cases hj:j=i
    . subst hj
      rw [D9 hi] at a
      injection a with a;subst a
      exact n C.rest (C.apartR j u hu) g d
    . rw [G2 (P8 hj)] at a
      exact C.apartR j y a g d
instance:Rp Tr where
  isAgg:=false
  size:=1
  R w F cs T:=∃ q,cs=[.pointer q]/\TrR w F T (.pointer q)
  len:=by rintro w F cs x ⟨v,rfl,_⟩;rfl
  one:=by rintro w F cs x ⟨v,rfl,h⟩ u hu;simp at hu;subst hu;rfl
  agree:=by rintro w w' F cs x ⟨v,rfl,h⟩ ha;exact ⟨v,rfl,TrR.agree ha h⟩
  mono:=by rintro w F G cs x ⟨v,rfl,h⟩ ha;exact ⟨v,rfl,TrR.mono ha h⟩
def more (F:Nat->Prop) (w w':World):Nat->Prop:=λ k=>F k\/w.heap.size<=k/\k < w'.heap.size
theorem HZ {p:Int->Bool} {l:List Int} {k:Nat} {x:Int} (b:l[k]?=some x):(l.take (k + 1)).filter p=(l.take k).filter p ++ if p x=true then [x] else []:=by
  rw [I6,b,List.filter_append]
  cases a:p x<;>simp [a]
theorem TP (n:Nat):(madeCells (Value.slice none 0 0).cells (n * 1)).toList=List.replicate n (.slice none 0 0):=Qg _ n rfl
theorem cd {G H:Prop} (g:H) (h:Wr0 H->G:=by intro x;refine Iv rfl rfl ?_;refine Iv rfl rfl ?_;refine bi ?_;refine AL rfl rfl ?_;refine Iv rfl rfl ?_;refine Hu rfl rfl ?_;exact x.o):G:=h ⟨g⟩
theorem ch {G H:Prop} (g:H) (h:Wr0 H->G:=by intro x;refine ai ?_;refine al ?_;(refine Az rfl ?_;(first|(refine Aw rfl rfl ?_;refine XR rfl rfl rfl ?_)|refine AE rfl rfl ?_));exact x.o):G:=h ⟨g⟩
theorem bV {G H:Prop} (g:H) (h:Wr0 H->G:=by intro x;(refine Az rfl ?_;(first|(refine Aw rfl rfl ?_;(first|refine Mq rfl ?_|refine Mr rfl ?_|refine UO rfl rfl ?_))|refine AE rfl rfl ?_));refine bx ?_;refine h_z ?_;exact x.o):G:=h ⟨g⟩
theorem Abh (t:Tsk) (s1:ZM t) (x2:AaO t) (n3:t.vars.length≤64):∀ (fuel:Nat) (w:World) (gv c0:Value) (ops:List Int) (v:Nat) (F:Nat→Prop),GenB w (All w) gv t→Vb w F c0 ops→(∀ k,F k→k < w.heap.size)→AbB t ops→ops.length≤4096 →
    v<=t.vars.length->t.vars.length < fuel + v->Fn prog 47 [gv,c0,.int .i64 (v:Int)] w λ p w'=>TrR w' (more F w w') (mkT t fuel ops v) p/\Ext w w':=by
  intro fuel
  induction fuel with
  | zero=>intro w gv c0 ops v F _ _ _ _ _ h1 h2;omega
  | succ fuel ih =>
    intro w gv c0 ops v F g0 d0 hF f1 t1 y2 z2
    obtain ⟨gb,a,b,c,d,rp,rfl,hgb,hbg,hvars,hinit,hgoal,hopsv⟩:=id g0
    obtain ⟨Av,cv,rfl⟩:=hvars.form
    obtain ⟨Ax,cx,rfl⟩:=d0.form
    refine AK func47 rfl ntmps47 ?_
    refine ab ?_
    refine EI rfl λ Q h0=>?_
    refine EI rfl λ w2 s0=>?_
    have u1:Ext w w2:=h0.ext.trans' s0.ext
    have s:Blk w2 w.heap.size 64 [.pointer (some ⟨gb,0,none⟩)]:=h0.blk.ext s0.ext
    have e:Blk w2 Q.heap.size 3 [.int .i64 (v:Int)]:=s0.blk
    have v1:Q.heap.size≠w.heap.size:=by rw [h0.size];omega
    have x1:w.heap.size<=Q.heap.size:=h0.ext.size
    have hz1:Q.heap.size=w.heap.size + 1:=h0.size
    have o3:w2.heap.size=Q.heap.size + 1:=s0.size
    refine af ?_
    refine ab ?_
    by_cases y1:ops.length=0
    . have:ops=[]:=B0 y1
      subst this
      refine ak ?_<;>refine AU rfl ?_<;>(first|refine Sz rfl rfl rfl ?_|refine SA rfl rfl rfl ?_)<;>refine o_z ?_<;>refine ae ?_
      exact Q5 rfl rfl ⟨rfl,u1⟩
    have i0:ops.isEmpty=false:=by cases ops<;>simp at *
    refine ad ?_<;>refine AU rfl ?_<;>(first|refine Sz rfl rfl rfl ?_|refine SA rfl rfl rfl ?_)<;>refine o_z ?_
    refine Ae rfl (AN ?_)
    refine RE (λ l' w'=>∃ u:Nat,Q2 l' [(1,.slice Ax ops.length cx),(3,.pointer (some ⟨w.heap.size,0,none⟩)),(5,.pointer (some ⟨Q.heap.size,0,none⟩))]/\Ext w w'/\Blk w' w.heap.size 64 [.pointer (some ⟨gb,0,none⟩)]/\Blk w' Q.heap.size 3 [.int .i64 (u:Int)] /\
      v<=u/\u<=t.vars.length/\(∀ x,v<=x->x < u->V5 t ops x=false)/\(u < t.vars.length->V5 t ops u=true)) ?_ ?_
    . refine ab ?_
      refine Gs (λ _:Nat=>[(1,.slice Ax ops.length cx),(3,.pointer (some ⟨w.heap.size,0,none⟩)),(5,.pointer (some ⟨Q.heap.size,0,none⟩))]) (λ u w'=>Ext w w'/\Blk w' w.heap.size 64 [.pointer (some ⟨gb,0,none⟩)]/\Blk w' Q.heap.size 3 [.int .i64 (u:Int)] /\
        v<=u/\u<=t.vars.length/\∀ x,v<=x->x < u->V5 t ops x=false) (λ u=>t.vars.length - u) v ⟨u1,s,e,P1 _,y2,λ x h1 h2=>by omega⟩ ⟨rfl,rfl,rfl,trivial⟩ ?_
      rintro u L ⟨D,s,e,hvu,hun,hno⟩
      have j0:=hbg.ext D
      refine ab ?_
      refine Dd (Ext L) [(0,true),(1,true),(2,true),(3,true),(4,true),(5,true),(6,true),(7,true),(8,true),(9,true),(10,true),(11,false),(12,true),(13,true)] rfl (P7 _ _) ?_
      by_cases hlt:u < t.vars.length
      . (refine cd ?_<;>(first|refine HS rfl rfl rfl ?_|refine HT rfl rfl rfl ?_|refine GJ rfl rfl rfl (λ _=>?_) λ _=>?_)<;>refine ch ?_)
        refine Cr rfl ?_
        refine AB rfl rfl ?_
        have g1:V L (.slice Ax ops.length cx) ops:=Vb.mono (Vb.agree d0 (D.agree hF)) λ k hk=>H3 (hF k hk) D.size
        have z1:(∃ x∈ops,(factOn (preOf t x) (u:Int)).isSome=true)↔V5 t ops u=true:=by unfold V5;rw [K1]
        refine DP rfl (Aak (g:=82) (caps:=[.pointer (some ⟨w.heap.size,0,none⟩),.pointer (some ⟨Q.heap.size,0,none⟩)]) (p:=λ op=>(factOn (preOf t op) (u:Int)).isSome=true) g1 ?_) ?_ ?_
        . intro vx x w' hx i1 j1
          obtain ⟨j1,_⟩:=j1
          obtain rfl:vx=.int .i64 x:=by simpa using j1
          obtain ⟨k1,hx1⟩:=f1 x hx
          obtain ⟨j,rfl⟩:=D0 k1
          obtain ⟨o,ho⟩:=AG (l:=t.ops) (k:=j) (by omega)
          refine (Abd (g0.ext (D.trans' i1)) ho (s.ext i1) (e.ext i1)).mono λ r p3 ⟨hr,hE''⟩=>⟨?_,hE''⟩
          rw [hr,Iu]
          simp [preOf,ho]
        . intro w4 hp I
          refine De I ?_
          refine bV ?_
          refine ab ?_
          exact ⟨u,⟨rfl,rfl,rfl,trivial⟩,D.trans' I,s.ext I,e.ext I,hvu,hun,hno,λ _=>z1.1 hp⟩
        . intro w4 hp I
          refine De I ?_
          refine bV ?_
          refine ab ?_
          replace s:=s.ext I
          replace e:=e.ext I
          refine AQ rfl ?_<;>refine bq ?_
          refine CI rfl rfl e rfl (P1 _) (by simp [Value.cells,Value.oneCell']) λ w5 hU=>?_
          refine o_z ?_
          refine ⟨u + 1,⟨rfl,rfl,rfl,trivial⟩,⟨(D.trans' I).trans (hU.below x1),s.keep (hU.other _ (λ h=>v1 h.symm)),hU.blk,by omega,by omega,λ x h1 h2=>?_⟩,by omega⟩
          by_cases he:x=u
          . subst he
            cases hq:V5 t ops x
            . rfl
            . exact absurd (z1.2 hq) hp
          . exact hno x h1 (by omega)
      . (refine cd ?_<;>(first|refine HS rfl rfl rfl ?_|refine HT rfl rfl rfl ?_|refine GJ rfl rfl rfl (λ _=>?_) λ _=>?_)<;>refine ch ?_)
        refine Cr rfl ?_
        refine AA rfl rfl ?_
        refine De (P7 _ _) ?_
        refine bV ?_
        refine ab ?_
        exact ⟨u,⟨rfl,rfl,rfl,trivial⟩,D,s,e,hvu,hun,hno,λ h=>absurd h hlt⟩
    rintro l' L ⟨u,X,D,s,e,hvu,hun,hno,hyes⟩
    refine Bg _ X ?_
    clear X
    have l1:nextV t ops v=u:=Vd t ops hvu hun hno hyes
    have j0:=hbg.ext D
    have g1:Vb L F (.slice Ax ops.length cx) ops:=Vb.agree d0 (D.agree hF)
    refine ab ?_
    refine Dd (·=L) [(0,true),(1,true),(2,true),(3,true),(4,true),(5,true),(6,true),(7,true)] rfl rfl ?_
    by_cases k0:u=t.vars.length
    . (refine CY rfl rfl ?_<;>refine CY rfl rfl ?_<;>refine bi ?_<;>refine ar ?_<;>refine Hu rfl rfl ?_<;>(first|refine Wk rfl rfl rfl rfl ?_|refine Wl rfl rfl rfl rfl ?_|refine Wm rfl rfl rfl rfl (λ _=>?_) λ _=>?_)<;>refine h_z ?_)<;>refine ab ?_
      refine ad ?_<;>refine DU rfl rfl ?_
      refine EI rfl λ w4 O=>?_
      refine af ?_
      refine ab ?_
      have I:Ext w w4:=D.trans' O.ext
      have hT:mkT t (fuel + 1) ops v=.leaf ops:=by simp only [mkT,i0,l1,k0];simp
      rw [hT]
      refine Q5 rfl rfl ⟨⟨L.heap.size,.slice Ax ops.length cx,rfl,.inr ⟨D.size,O.blk.lt⟩,O.blk,?_⟩,I⟩
      exact Vb.mono (Vb.agree g1 (O.ext.agree λ k hk=>H3 (hF k hk) D.size)) λ k hk=>.inl hk
    have a1:u < t.vars.length:=by omega
    obtain ⟨n,hn⟩:=AG a1
    have q3:=s1 u n hn
    obtain ⟨m,rfl⟩:=D0 (show 0<=n by omega)
    have hT:mkT t (fuel + 1) ops v=.node u m (λ x=>mkT t fuel (ops.filter (valB t u x)) (u + 1)) (mkT t fuel (ops.filter (U7 t u)) (u + 1)):=by
      simp only [mkT,i0,l1,k0,hn];simp
    rw [hT]
    clear hT l1
    (refine CY rfl rfl ?_<;>refine CY rfl rfl ?_<;>refine bi ?_<;>refine ar ?_<;>refine Hu rfl rfl ?_<;>(first|refine Wk rfl rfl rfl rfl ?_|refine Wl rfl rfl rfl rfl ?_|refine Wm rfl rfl rfl rfl (λ _=>?_) λ _=>?_)<;>refine h_z ?_)<;>refine ab ?_
    obtain ⟨bv,ov,ce,rfl,hbv,_,hdv,rfl,_⟩:=hvars.elem hn
    refine Dd (Ext L) [(0,true),(1,true),(2,true),(3,true),(4,true),(5,true),(6,true),(7,true),(8,false),(9,true)] rfl (P7 _ _) ?_
    have J:=s
    have E:=e
    replace s:∀ w',Ext L w'->Blk w' w.heap.size 64 [.pointer (some ⟨gb,0,none⟩)]:=λ w' h=>J.ext h
    replace e:∀ w',Ext L w'->Blk w' Q.heap.size 3 [.int .i64 (u:Int)]:=λ w' h=>E.ext h
    have a2:=j0
    replace j0:∀ w',Ext L w'->Blk w' gb 111 [.slice (some ⟨bv,ov,none⟩) t.vars.length cv,b,c,d,.pointer rp]:=λ w' h=>a2.ext h
    have c2:∀ w',Ext L w'->cellsAt w' bv (ov + u * 1) [.int .i64 (m:Int)]:=λ w' h=>KR hdv hbv (D.trans' h)
    refine aq ?_<;>refine bi ?_<;>refine AL rfl rfl ?_<;>refine aq ?_<;>refine aq ?_<;>refine KV rfl rfl rfl ?_<;>refine aq ?_
    refine Cr rfl ?_
    refine Mn rfl rfl (by omega) (by omega) rfl λ w4 O=>?_
    refine De O.ext ?_
    refine Ei rfl rfl ?_<;>refine h_z ?_
    have I:Ext w w4:=D.trans' O.ext
    have d2:w2.heap.size<=L.heap.size:=by have:=E.lt;omega
    replace s:=J.ext O.ext
    replace e:=E.ext O.ext
    clear j0 c2
    refine ab ?_
    refine aX ?_
    have f2:ByInv w4 w2.heap.size L.heap.size (List.replicate m (.slice none 0 0)) (.slice none 0 0) (λ i=>((ops.take 0).filter (valB t u i))) ((ops.take 0).filter (U7 t u)) m:=by
      have l0:∀ (i:Nat) (x:Value),(List.replicate m (Value.slice none 0 0))[i]?=some x->x=.slice none 0 0:=λ i x h=>by
        rw [D2] at h;split at h<;>simp at h;exact h.symm
      refine ⟨by simp,by have:=O.blk;rwa [TP] at this,λ i x h=>?_,by simpa using Own.nil _ _ _ _,λ i j x y _ hx _ g hg=>?_,λ i x hx g hg=>?_⟩
      . rw [l0 i x h];simpa using Own.nil _ _ _ _
      . rw [l0 i x hx] at hg;simp [Value.ownBlock] at hg
      . rw [l0 i x hx] at hg;simp [Value.ownBlock] at hg
    refine Cf ops.length (by omega) (λ x:List Value×Value=>[(1,.slice Ax ops.length cx),(3,.pointer (some ⟨w.heap.size,0,none⟩)),(5,.pointer (some ⟨Q.heap.size,0,none⟩)),(7,.slice (some ⟨L.heap.size,0,none⟩) m m),(8,x.2),(55,.slice Ax ops.length cx)])
      (λ k x w'=>Ext w w'/\Blk w' w.heap.size 64 [.pointer (some ⟨gb,0,none⟩)]/\Blk w' Q.heap.size 3 [.int .i64 (u:Int)]/\ByInv w' w2.heap.size L.heap.size x.1 x.2 (λ i=>((ops.take k).filter (valB t u i))) ((ops.take k).filter (U7 t u)) m) (List.replicate m (.slice none 0 0),.slice none 0 0)
      ⟨I,s,e,f2⟩ ⟨rfl,rfl,rfl,rfl,rfl,rfl,rfl,rfl,trivial⟩ (λ _=>⟨rfl,rfl⟩) ⟨rfl,rfl,rfl⟩ ⟨rfl,rfl⟩ ?_ ?_
    . rintro k ⟨C,rv⟩ w5 hk ⟨hE5,s,e,hby⟩
      dsimp only at hby
      obtain ⟨x,hx⟩:=AG hk
      obtain ⟨k1,hx1⟩:=f1 x (F9 hx)
      obtain ⟨j,rfl⟩:=D0 k1
      obtain ⟨o,ho⟩:=AG (l:=t.ops) (k:=j) (by omega)
      have Y:preOf t (j:Int)=o.pre:=by simp [preOf,ho]
      obtain ⟨b2,o2,ce,rfl,hbF,_,hd0,rfl,hxin⟩:=d0.elem hx
      have c2:=KR hd0 (hF _ hbF) hE5
      refine aV ?_<;>refine AQ rfl ?_<;>refine ad ?_<;>refine AQ rfl ?_<;>refine ab ?_
      refine BD rfl (AaT (g0.ext hE5) ho) ?_
      rintro _ S ⟨rfl,hE6⟩
      replace s:=s.ext hE6
      replace e:=e.ext hE6
      replace hby:=hby.ext hE6
      have b1:Ext w S:=hE5.trans' hE6
      have r3:((ops.take k).filter (U7 t u)).length<=4096:=N6 (F5 _ _) (by rw [K0];omega)
      cases hf:factOn o.pre (u:Int) with
      | none =>
        simp only [Aar]
        refine bh ?_
        refine CJ rfl rfl (by simp [Value.cells,Value.oneCell']) λ w7 B=>?_
        replace s:=s.ext B.ext
        replace e:=e.ext B.ext
        replace hby:=hby.ext B.ext
        have m1:Ext w w7:=b1.trans' B.ext
        refine af ?_
        refine ab ?_
        refine ak ?_<;>refine o_z ?_<;>refine ab ?_
        refine aU ?_
        have g2:=e.lt
        refine PI (a:=(j:Int)) rfl rfl rfl hby.rest (λ _ h=>h.elim) (by omega) ⟨rfl,hxin⟩ (by decide) (by decide) (by omega) (by omega) ⟨rfl,rfl⟩ λ a3 P b3 i2 hat=>?_
        have n1:Below w2.heap.size w7 P:=hby.rest.fits (P1 _) (by omega) i2
        have e0:=hby.putRest i2 b3 hat
        refine af ?_
        refine ab ?_
        refine ⟨(C,a3),⟨rfl,rfl,rfl,rfl,rfl,rfl,rfl,rfl,trivial⟩,m1.trans (n1.mono (by omega)),s.keep (n1.block _ (by omega)),e.keep (n1.block _ (by omega)),?_⟩
        have e1:∀ i,(ops.take (k + 1)).filter (valB t u i)=(ops.take k).filter (valB t u i):=λ i=>by rw [HZ hx];simp [valB,Y,hf]
        have e2:(ops.take (k + 1)).filter (U7 t u)=(ops.take k).filter (U7 t u) ++ [(j:Int)]:=by rw [HZ hx];simp [U7,Y,hf]
        dsimp only
        rw [e2]
        simp only [e1]
        exact e0
      | some f =>
        obtain ⟨c3,n',t0,hf1⟩:=x2 j o ho u f hf a1
        rw [hn] at t0;injection t0 with t0;subst t0
        obtain ⟨W,hj1⟩:=D0 c3
        have j2:W < m:=by omega
        obtain ⟨u0,hu0⟩:=AG (l:=C) (k:=W) (by rw [hby.len];exact j2)
        simp only [Aar]
        refine bh ?_
        refine CJ rfl rfl (by simp [Value.cells,Value.oneCell']) λ w7 B=>?_
        replace s:=s.ext B.ext
        replace e:=e.ext B.ext
        replace hby:=hby.ext B.ext
        have m1:Ext w w7:=b1.trans' B.ext
        have v0:=B.blk
        refine af ?_
        refine ab ?_
        refine ak ?_<;>refine o_z ?_<;>refine ab ?_
        have g2:=e.lt
        have z:=hby.own W u0 hu0
        have l3:((ops.take k).filter (valB t u W)).length<=4096:=N6 (F5 _ _) (by rw [K0];omega)
        refine Dd (λ w'=>Blk w' S.heap.size 45 [.int .i64 f.var,.int .i64 f.val]/\Blk w' L.heap.size 22 C) [(0,true),(1,true),(2,true),(3,true),(4,true),(5,true),(6,true),(7,true),(8,true),(9,false),(10,false),(11,true),(12,false)] rfl ⟨v0,hby.blk⟩ ?_
        have J:=s
        have E:=e
        clear e
        replace s:∀ w',(Blk w' S.heap.size 45 [.int .i64 f.var,.int .i64 f.val]/\Blk w' L.heap.size 22 C)->Blk w' S.heap.size 45 [.int .i64 f.var,.int .i64 f.val]:=λ _ h=>h.1
        have k2:∀ w',(Blk w' S.heap.size 45 [.int .i64 f.var,.int .i64 f.val]/\Blk w' L.heap.size 22 C)->w'.cell? ⟨L.heap.size,0 + W * 1,none⟩=some u0:=λ _ h=>h.2.cell (by rw [N4,P5];exact hu0)
        refine ai ?_<;>refine AL rfl rfl ?_<;>refine aq ?_<;>refine ai ?_<;>refine AL rfl rfl ?_<;>refine aq ?_<;>refine KV rfl rfl rfl ?_<;>refine aq ?_<;>refine ai ?_
        refine Cr rfl ?_
        refine Fc rfl rfl (by simp [Value.cells]) rfl λ P K=>?_
        refine De ⟨v0.ext K.ext,hby.blk.ext K.ext⟩ ?_
        refine Cr rfl ?_
        refine GG (α:=Int) (A:=some ⟨w7.heap.size,0,none⟩) (c:=1) (ys:=[(j:Int)]) (cells:=[.int .i64 (j:Int)]) rfl rfl (z.ext K.ext λ _ h=>h.elim) (λ _ h=>h.elim) (by have:=K.size;omega) (.single ⟨rfl,hxin⟩) (λ _=>⟨_,_,rfl,K.blk.cellsAt⟩) (by decide) (by rw [F2];omega) (by rw [F2];omega) rfl λ v' w9 l2 m0 hat=>?_
        have w0:Kept w7 w9 u0:=⟨m0.os.trans K.ext.os,m0.tape.trans K.ext.tape,m0.output.trans K.ext.output,N6 K.ext.size m0.size,λ k hk n0=>by rw [m0.block k (H3 hk K.ext.size) (λ he=>n0 he.symm),K.ext.block k hk]⟩
        have m2:=w0.blk v0 (z.blk_ne v0 (by decide))
        have c1:=w0.blk hby.blk (z.blk_ne hby.blk (by decide))
        have o1:Below w2.heap.size w7 w9:=z.fits (P1 _) (by omega) w0
        refine De ⟨m2,c1⟩ ?_
        refine KV rfl rfl rfl ?_
        refine Cr rfl ?_
        obtain ⟨A9,c9,rfl⟩:=l2.form
        refine CI (g:=L.heap.size) (o:=0 + W * 1) rfl rfl c1 rfl (by rw [hby.len];show 0 + W * 1 + 1<=m;omega) (by simp [Value.cells,Value.oneCell']) λ a0 hU=>?_
        have n2:Q6 C (0 + W * 1) [.slice A9 (List.filter (valB t u W) (List.take k ops) ++ [(j:Int)]).length c9]=C.set W (.slice A9 (List.filter (valB t u W) (List.take k ops) ++ [(j:Int)]).length c9):=by rw [N4,P5];rfl
        have d3:Upd w9 a0 L.heap.size 22 (C.set W (.slice A9 (List.filter (valB t u W) (List.take k ops) ++ [(j:Int)]).length c9)):=n2 ▸ hU
        have p1:=hby.putVal hu0 w0 l2 (by
          rcases hat with hat|hat
          . exact .inl hat
          . exact .inr ⟨_,hat,K.ext.size⟩) d3
        have o0:Below w2.heap.size w9 a0:=hU.below d2
        refine Hm ?_
        refine h_z ?_
        refine ab ?_
        refine ⟨(C.set W (.slice A9 (List.filter (valB t u W) (List.take k ops) ++ [(j:Int)]).length c9),rv),⟨rfl,rfl,rfl,rfl,rfl,rfl,rfl,rfl,trivial⟩,m1.trans ((o1.trans o0).mono (by omega)),J.keep ((o1.trans o0).block _ (by omega)),E.keep ((o1.trans o0).block _ (by omega)),?_⟩
        have e1:∀ i,(ops.take (k + 1)).filter (valB t u i)=if i=W then (ops.take k).filter (valB t u W) ++ [(j:Int)] else (ops.take k).filter (valB t u i):=λ i=>by
          rw [HZ hx]
          by_cases hi:i=W
          . subst hi;simp [valB,Y,hf,hj1]
          . have:¬ (f.val=(i:Int)):=by omega
            simp [valB,Y,hf,hi,this]
        have e2:(ops.take (k + 1)).filter (U7 t u)=(ops.take k).filter (U7 t u):=by rw [HZ hx];simp [U7,Y,hf]
        dsimp only
        rw [e2]
        simp only [e1]
        exact p1
    rintro ⟨C,rv⟩ w5 ⟨hE5,s,e,hby⟩
    dsimp only at hby
    rw [K4] at hby
    have g2:=e.lt
    have J:=s
    have E:=e
    have f0:∀ p:Int->Bool,AbB t (ops.filter p)/\(ops.filter p).length<=4096:=λ p=>⟨λ x hx=>f1 x (L6.1 hx).1,N6 (F5 _ _) t1⟩
    have e3:Vb w5 (λ k=>rv.ownBlock=some k) rv (ops.filter (U7 t u)):=hby.rest.vb.mono λ k hk=>hk.resolve_left id
    refine ab ?_
    refine Dd (Ext w5) [(0,true),(1,true),(2,true),(3,true),(4,true),(5,false),(6,true),(7,false),(8,true)] rfl (P7 _ _) ?_
    refine Iv rfl rfl ?_<;>refine Iv rfl rfl ?_<;>refine ai ?_<;>refine Iv rfl rfl ?_<;>(first|refine XQ rfl rfl rfl ?_|refine XP rfl rfl rfl rfl ?_)
    refine Cr rfl ?_
    refine BD rfl (ih w5 _ rv _ (u + 1) (λ k=>rv.ownBlock=some k) (g0.ext hE5) e3 (λ k hk=>(hby.rest.lt k hk).2) (f0 _).1 (f0 _).2 (by omega) (by omega)) ?_
    rintro p6 S ⟨p2,hE6⟩
    obtain ⟨q6,rfl⟩:=p2.form
    refine De hE6 ?_
    refine Ew rfl rfl rfl ?_
    refine Cr rfl ?_
    refine EI rfl λ w7 B=>?_
    refine De (hE6.trans' B.ext) ?_
    refine Ei rfl rfl ?_<;>refine h_z ?_
    have q1:Blk w7 S.heap.size 163 [.slice none 0 0,.bool false,.int .i64 (u:Int),.slice none 0 0,.pointer q6]:=B.blk
    have q2:=hby.ext hE6
    refine ab ?_
    refine ak ?_<;>refine au ?_
    refine Cf m (by omega) (λ x:Value=>[(3,.pointer (some ⟨w.heap.size,0,none⟩)),(5,.pointer (some ⟨Q.heap.size,0,none⟩)),(13,.pointer (some ⟨S.heap.size,0,none⟩)),(94,.slice (some ⟨L.heap.size,0,none⟩) m m)])
      (λ k x w'=>Ext S w'/\Blk w' S.heap.size 163 [.slice none 0 0,.bool false,.int .i64 (u:Int),x,.pointer q6]/\∃ G:Nat->Prop,(∀ k,G k->k < w'.heap.size/\w2.heap.size<=k)/\¬ G S.heap.size/\Own w' w7.heap.size G 109 x ((List.range k).map λ i=>mkT t fuel (ops.filter (valB t u i)) (u + 1))) (.slice none 0 0)
      ⟨B.ext,q1,λ _=>False,λ _ h=>h.elim,id,Own.nil _ _ _ _⟩ ⟨rfl,rfl,rfl,rfl,rfl,rfl,trivial⟩ (λ _=>⟨rfl,rfl⟩) ⟨rfl,rfl,rfl⟩ ⟨rfl,rfl⟩ ?_ ?_
    . rintro k xv P hk ⟨Z,hnd,G,hG,hGn,hown⟩
      obtain ⟨u0,hu0⟩:=AG (l:=C) (k:=k) (by rw [hby.len];exact hk)
      have e0:=q2.ext Z
      have M:Ext w5 P:=hE6.trans' Z
      have p0:Ext w P:=hE5.trans' M
      have k2:P.cell? ⟨L.heap.size,0 + k * 1,none⟩=some u0:=e0.blk.cell (by rw [N4,P5];exact hu0)
      have z:=e0.own k u0 hu0
      obtain ⟨Ak,ck,rfl⟩:=z.form
      obtain ⟨N,cx',rfl⟩:=hown.form
      have r2:w7.heap.size<=P.heap.size:=by have:=hnd.lt;have:=B.size;omega
      refine aV ?_
      refine Dd (λ w'=>Blk w' S.heap.size 163 [.slice none 0 0,.bool false,.int .i64 (u:Int),.slice N ((List.range k).map λ i=>mkT t fuel (ops.filter (valB t u i)) (u + 1)).length cx',.pointer q6]/\Blk w' w.heap.size 64 [.pointer (some ⟨gb,0,none⟩)]/\Blk w' Q.heap.size 3 [.int .i64 (u:Int)]) [(0,true),(1,true),(2,true),(3,true),(4,true),(5,true),(6,true),(7,true),(8,true),(9,false),(10,false),(11,false),(12,true),(13,true),(14,false)] rfl ⟨hnd,J.ext M,E.ext M⟩ ?_
      have s2:∀ w',Ext P w'->Blk w' S.heap.size 163 [.slice none 0 0,.bool false,.int .i64 (u:Int),.slice N ((List.range k).map λ i=>mkT t fuel (ops.filter (valB t u i)) (u + 1)).length cx',.pointer q6]/\Blk w' w.heap.size 64 [.pointer (some ⟨gb,0,none⟩)]/\Blk w' Q.heap.size 3 [.int .i64 (u:Int)]:=λ w' h=>⟨hnd.ext h,(J.ext M).ext h,(E.ext M).ext h⟩
      clear s e k2
      have s:∀ w',(Blk w' S.heap.size 163 [.slice none 0 0,.bool false,.int .i64 (u:Int),.slice N ((List.range k).map λ i=>mkT t fuel (ops.filter (valB t u i)) (u + 1)).length cx',.pointer q6]/\Blk w' w.heap.size 64 [.pointer (some ⟨gb,0,none⟩)]/\Blk w' Q.heap.size 3 [.int .i64 (u:Int)])->Blk w' S.heap.size 163 [.slice none 0 0,.bool false,.int .i64 (u:Int),.slice N ((List.range k).map λ i=>mkT t fuel (ops.filter (valB t u i)) (u + 1)).length cx',.pointer q6]:=λ _ h=>h.1
      have e:∀ w',(Blk w' S.heap.size 163 [.slice none 0 0,.bool false,.int .i64 (u:Int),.slice N ((List.range k).map λ i=>mkT t fuel (ops.filter (valB t u i)) (u + 1)).length cx',.pointer q6]/\Blk w' w.heap.size 64 [.pointer (some ⟨gb,0,none⟩)]/\Blk w' Q.heap.size 3 [.int .i64 (u:Int)])->Blk w' w.heap.size 64 [.pointer (some ⟨gb,0,none⟩)]:=λ _ h=>h.2.1
      have j0:∀ w',(Blk w' S.heap.size 163 [.slice none 0 0,.bool false,.int .i64 (u:Int),.slice N ((List.range k).map λ i=>mkT t fuel (ops.filter (valB t u i)) (u + 1)).length cx',.pointer q6]/\Blk w' w.heap.size 64 [.pointer (some ⟨gb,0,none⟩)]/\Blk w' Q.heap.size 3 [.int .i64 (u:Int)])->Blk w' Q.heap.size 3 [.int .i64 (u:Int)]:=λ _ h=>h.2.2
      refine ai ?_<;>refine bu ?_<;>refine aq ?_<;>refine ai ?_<;>refine aq ?_<;>(first|refine XQ rfl rfl rfl ?_|refine XP rfl rfl rfl rfl ?_)
      refine Cr rfl ?_
      have t2:Vb P (λ q=>(Value.slice Ak (ops.filter (valB t u k)).length ck).ownBlock=some q) (.slice Ak (ops.filter (valB t u k)).length ck) (ops.filter (valB t u k)):=z.vb.mono λ q hq=>hq.resolve_left id
      refine BD rfl (ih P _ _ _ (u + 1) _ (g0.ext p0) t2 (λ q hq=>(z.lt q hq).2) (f0 _).1 (f0 _).2 (by omega) (by omega)) ?_
      rintro p9 w9 ⟨y0,hE9⟩
      obtain ⟨q9,rfl⟩:=y0.form
      refine De (s2 w9 hE9) ?_
      refine Cr rfl ?_
      refine Fc rfl rfl (by simp [Value.cells]) rfl λ a0 T=>?_
      have H:Ext P a0:=hE9.trans' T.ext
      refine De (s2 a0 H) ?_
      have z0:∀ q,(G q\/(Value.slice Ak (ops.filter (valB t u k)).length ck).ownBlock=some q\/P.heap.size<=q/\q < w9.heap.size)->q < w9.heap.size/\w2.heap.size<=q:=λ q hq=>by
        have h9:=hE9.size
        have h6:=hE6.size
        have h7:=B.size
        rcases hq with hq|hq|hq
        . have:=hG q hq;exact ⟨by omega,this.2⟩
        . have:=z.lt q hq;exact ⟨by omega,this.1⟩
        . exact ⟨hq.2,by omega⟩
      have f3:∀ g,(Value.slice N ((List.range k).map λ i=>mkT t fuel (ops.filter (valB t u i)) (u + 1)).length cx').ownBlock=some g->¬ (G g\/(Value.slice Ak (ops.filter (valB t u k)).length ck).ownBlock=some g\/P.heap.size<=g/\g < w9.heap.size):=λ g hg h=>by
        rcases h with h|h|h
        . obtain ⟨_,_,_,h3⟩:=hown;exact h3 g hg h
        . exact hown.own_ne z (by decide) g hg h
        . have:=(hown.lt g hg).2;omega
      have r1:Own w9 w7.heap.size (λ q=>G q\/(Value.slice Ak (ops.filter (valB t u k)).length ck).ownBlock=some q\/P.heap.size<=q/\q < w9.heap.size) 109 _ _:=(hown.ext hE9 λ q hq=>(hG q hq).1).mono (λ q hq=>.inl hq) f3
      have g3:Chunks a0 (λ q=>G q\/(Value.slice Ak (ops.filter (valB t u k)).length ck).ownBlock=some q\/P.heap.size<=q/\q < w9.heap.size) [.pointer q9] [mkT t fuel (ops.filter (valB t u k)) (u + 1)] :=
        .single (show Rp.R a0 _ [.pointer q9] _ from ⟨q9,rfl,TrR.agree (T.ext.agree λ q hq=>(z0 q hq).1) (TrR.mono (λ q hq=>by
          rcases hq with hq|hq
          . exact .inr (.inl hq)
          . exact .inr (.inr hq)) y0)⟩)
      refine Cr rfl ?_
      have s3:((List.range k).map λ i=>mkT t fuel (ops.filter (valB t u i)) (u + 1)).length<=64:=by simp;omega
      refine GG (α:=Tr) (A:=some ⟨w9.heap.size,0,none⟩) (c:=1) (ys:=[mkT t fuel (ops.filter (valB t u k)) (u + 1)]) (cells:=[.pointer q9]) rfl rfl (r1.ext T.ext λ q hq=>(z0 q hq).1) (λ q hq=>H3 (z0 q hq).1 T.ext.size) (by have:=H.size;omega) g3 (λ _=>⟨_,_,rfl,T.blk.cellsAt⟩) (by decide) (by rw [F2];omega) (by rw [F2];omega) rfl λ v' u2 q0 U hat=>?_
      have v2:=hown.ext H λ q hq=>(hG q hq).1
      have d1:Kept P u2 (.slice N ((List.range k).map λ i=>mkT t fuel (ops.filter (valB t u i)) (u + 1)).length cx'):=⟨U.os.trans H.os,U.tape.trans H.tape,U.output.trans H.output,N6 H.size U.size,λ q hq n0=>by rw [U.block q (H3 hq H.size) (λ he=>n0 he.symm),H.block q hq]⟩
      have r0:Below w7.heap.size P u2:=hown.fits (P1 _) r2 d1
      have b0:=d1.blk hnd (hown.blk_ne hnd (by decide))
      have m3:=B.size
      refine De ⟨b0,(J.ext M).keep (r0.block _ (by have:=hE6.size;omega)),(E.ext M).keep (r0.block _ (by have:=hE6.size;omega))⟩ ?_
      refine bi ?_
      refine Cr rfl ?_
      obtain ⟨i3,c11,rfl⟩:=q0.form
      refine CI (g:=S.heap.size) rfl rfl b0 rfl (show 0 + 3 + 1<=5 by decide) (by simp [Value.cells,Value.oneCell']) λ t3 hU=>?_
      refine Hm ?_
      refine h_z ?_
      refine ab ?_
      refine ⟨_,⟨rfl,rfl,rfl,rfl,rfl,rfl,trivial⟩,?_,hU.blk,(λ q=>G q\/(Value.slice Ak (ops.filter (valB t u k)).length ck).ownBlock=some q\/P.heap.size<=q/\q < w9.heap.size),?_,?_,?_⟩
      . exact Z.trans ((r0.mono (by omega)).trans (hU.below (P1 _)))
      . intro q hq
        have:=z0 q hq
        have h1:=T.ext.size
        have h2:=U.size
        exact ⟨by rw [hU.size];omega,this.2⟩
      . rintro (h|h|h)
        . exact hGn h
        . exact z.blk_ne hnd (by decide) h
        . have:=hnd.lt;omega
      . rw [M0,L9]
        have n0:(Value.slice i3 (((List.range k).map λ i=>mkT t fuel (ops.filter (valB t u i)) (u + 1)) ++ [mkT t fuel (ops.filter (valB t u k)) (u + 1)]).length c11).ownBlock≠some S.heap.size:=q0.blk_ne b0 (by decide)
        exact q0.agree (hU.agree (by
          rintro (h|h|h)
          . exact hGn h
          . exact z.blk_ne hnd (by decide) h
          . have:=hnd.lt;omega)) λ g hg=>hU.other g λ he=>n0 (he ▸ hg)
    rintro xv P ⟨Z,hnd,G,hG,hGn,hown⟩
    refine ab ?_
    refine am ?_
    have p0:Ext w P:=hE5.trans' (hE6.trans' Z)
    obtain ⟨N,cx',rfl⟩:=hown.form
    have j3:((List.range m).map λ i=>mkT t fuel (ops.filter (valB t u i)) (u + 1)).length=m:=by simp
    rw [j3] at hnd
    refine Q5 rfl rfl ⟨⟨S.heap.size,N,cx',q6,rfl,.inr ⟨by have:=hE5.size;have:=hE6.size;omega,hnd.lt⟩,hnd,?_,λ i hi=>?_⟩,p0⟩
    . refine TrR.mono (λ q hq=>?_) (TrR.agree (Z.agree λ q hq=>?_) p2)
      . rcases hq with hq|hq
        . have:=hby.rest.lt q hq;have:=hE6.size;have:=Z.size;exact .inr ⟨by omega,by omega⟩
        . have:=Z.size;have:=hE5.size;exact .inr ⟨by omega,by omega⟩
      . rcases hq with hq|hq
        . have:=hby.rest.lt q hq;have:=hE6.size;omega
        . exact hq.2
    . have k3:=hown.vb
      obtain ⟨b9,o9,cs9,hA,hF9,_,hc9,q9,rfl,y0⟩:=k3.elem (k:=i) (x:=mkT t fuel (ops.filter (valB t u i)) (u + 1)) (by rw [I4,H0 hi];rfl)
      have X:∀ q,(G q\/(Value.slice N ((List.range m).map λ i=>mkT t fuel (ops.filter (valB t u i)) (u + 1)).length cx').ownBlock=some q)->more F w P q:=λ q hq=>by
        rcases hq with hq|hq
        . have:=hG q hq;exact .inr ⟨by omega,this.1⟩
        . have h1:=hown.lt q hq;have:=B.size;have:=hE6.size;exact .inr ⟨by omega,h1.2⟩
      exact ⟨b9,o9,q9,hA,X _ hF9,by have:=hc9.1;rwa [show i * Rp.size Tr=i from P5 i] at this,TrR.mono X y0⟩
end
section
open Go Go.RowKit
attribute [local irreducible] ewp owp hwp hwq hws Ev Evg Fn Q4 R7 R2 Q9
def nw (w w':World):Nat->Prop:=λ k=>w.heap.size<=k/\k < w'.heap.size
theorem Nu {w:World} {F G:Nat->Prop}:∀ {xs:List Fct} {cells:List Value},Chunks w F cells xs->Chunks w G cells xs
  | [],_,h=>h
  | _ :: _,_,⟨cs,rest,he,hr,hc⟩=>⟨cs,rest,he,hr,Nu hc⟩
theorem JA {w:World} {F G:Nat->Prop}:∀ {xs:List Int} {cells:List Value},Chunks w F cells xs->Chunks w G cells xs
  | [],_,h=>h
  | _ :: _,_,⟨cs,rest,he,hr,hc⟩=>⟨cs,rest,he,hr,JA hc⟩
theorem X9 {w:World} {sv:Value} {xs:List Int} (hs:V w sv xs) (hl:xs.length<=1000000):Fn prog 57 [sv] w λ v w'=>Vb w' (nw w w') v xs/\Ext w w' :=
  (Aa9 hs (by omega)).mono λ v w' ⟨b,hE⟩=>⟨by
    obtain ⟨cells,q1,q2,q3⟩:=id b
    have a:Own w' w.heap.size (λ _=>False) 3 v xs:=⟨cells,q1,JA q2,λ _ _ c=>c⟩
    exact a.vb.mono λ k hk=>b.lt k (hk.resolve_left id),hE⟩
theorem W0 {w:World} {sv:Value} {xs:List Fct} (hs:V w sv xs) (hl:xs.length<=1000000):Fn prog 80 [sv] w λ v w'=>Vb w' (nw w w') v xs/\Ext w w' :=
  (Aa2 hs (by omega)).mono λ v w' ⟨b,hE⟩=>⟨by
    obtain ⟨cells,q1,q2,q3⟩:=id b
    have a:Own w' w.heap.size (λ _=>False) 45 v xs:=⟨cells,q1,Nu q2,λ _ _ c=>c⟩
    exact a.vb.mono λ k hk=>b.lt k (hk.resolve_left id),hE⟩
theorem Vb.nwext {α:Type} [Rp α] {w w' a:World} {v:Value} {x:α} (c:Vb w' (nw w w') v x) (b:Ext w' a):Vb a (nw w w') v x:=c.agree (b.agree λ _ hk=>hk.2)
theorem Aa5 {w:World} {tv:Value} {t:Tsk} (ht:V w tv t) (hl1:t.vars.length≤1000000) (hl2:t.init.length≤1000000) (hl3:t.goal.length≤1000000) (hl4:t.ops.length≤1000000)
    (hl5:∀ (i:Nat) o,t.ops[i]?=some o->o.pre.length<=1000000/\o.effs.length<=1000000/\∀ (j:Nat) e,o.effs[j]?=some e->e.cond.length<=1000000) :
    Fn prog 46 [tv] w λ v w'=>Vb w' (nw w w') v t/\Ext w w':=by
  obtain ⟨cs,rfl,a,b,c,d,rfl,hvars,hinit,hgoal,hops⟩:=ht
  obtain ⟨Av,cv,rfl⟩:=hvars.form
  obtain ⟨Ai,ci,rfl⟩:=hinit.form
  obtain ⟨Ag,cg,rfl⟩:=hgoal.form
  obtain ⟨Ao,co,rfl⟩:=hops.form
  refine AK func46 rfl ntmps46 ?_
  refine ab ?_
  refine EI rfl λ w1 hN1=>?_
  refine FC rfl λ w2 hN2=>?_
  have hE2:Ext w w2:=hN1.ext.trans' hN2.ext
  have hz1:w1.heap.size=w.heap.size + 1:=hN1.size
  have hz2:w2.heap.size=w1.heap.size + 1:=hN2.size
  have hb1:Blk w2 w.heap.size 26 [.slice Av t.vars.length cv,.slice Ai t.init.length ci,.slice Ag t.goal.length cg,.slice Ao t.ops.length co]:=hN1.blk.ext hN2.ext
  have hres:Blk w2 w1.heap.size 26 [.slice none 0 0,.slice none 0 0,.slice none 0 0,.slice none 0 0]:=hN2.blk
  refine o_z ?_
  refine RE (λ l' w'=>∃ g3 av bv cv',Q2 l' [(1,.pointer (some ⟨w.heap.size,0,none⟩)),(2,.pointer (some ⟨w1.heap.size,0,none⟩)),(3,.pointer (some ⟨g3,0,none⟩))]/\Ext w2 w'/\w2.heap.size<=g3/\Blk w' g3 26 [av,bv,cv',.slice none 0 0] /\
    Vb w' (λ k=>nw w2 w' k/\k≠g3) av t.vars/\Vb w' (λ k=>nw w2 w' k/\k≠g3) bv t.init/\Vb w' (λ k=>nw w2 w' k/\k≠g3) cv' t.goal) ?_ ?_
  . have q0:∀ w',Ext w2 w'->Blk w' w.heap.size 26 [.slice Av t.vars.length cv,.slice Ai t.init.length ci,.slice Ag t.goal.length cg,.slice Ao t.ops.length co]:=λ w' h=>hb1.ext h
    refine Tn (Ext w2) ?_
    refine LD (i:=0) rfl rfl rfl (evg λ _ _=>Fh rfl) (P7 _ _) ?_
    refine LD (i:=1) rfl rfl rfl (evg λ _ hS=>Dy rfl ((hb1.ext hS).cell rfl)) (P7 _ _) ?_
    refine LD (i:=3) rfl rfl rfl (evg λ _ _=>Fh rfl) (P7 _ _) ?_
    refine LD (i:=4) rfl rfl rfl (evg λ _ hS=>Dy rfl ((hb1.ext hS).cell rfl)) (P7 _ _) ?_
    refine LD (i:=6) rfl rfl rfl (evg λ _ _=>Fh rfl) (P7 _ _) ?_
    refine LD (i:=7) rfl rfl rfl (evg λ _ hS=>Dy rfl ((hb1.ext hS).cell rfl)) (P7 _ _) ?_
    refine NQ (i:=2) (j:=10) rfl rfl ?_ ?_
    . refine BD rfl (X9 (hvars.ext hE2) hl1) ?_
      rintro av w3 ⟨hav,hE3⟩
      refine Hn hE3 ?_
      refine NQ (i:=5) (j:=10) rfl rfl ?_ ?_
      . refine BD rfl (X9 (hinit.ext (hE2.trans' hE3)) hl2) ?_
        rintro bv w4 ⟨hbv,hE4⟩
        refine Hn (hE3.trans' hE4) ?_
        refine NQ (i:=8) (j:=10) rfl rfl ?_ ?_
        . refine BD rfl (W0 (hgoal.ext (hE2.trans' (hE3.trans' hE4))) hl3) ?_
          rintro cv' w5 ⟨hcv,hE5⟩
          refine Hn (hE3.trans' (hE4.trans' hE5)) ?_
          refine LE [(9,true),(10,false),(11,false)] rfl (hE3.trans' (hE4.trans' hE5)) ?_
          obtain ⟨Aa,ca,rfl⟩:=hav.form
          obtain ⟨Ab,cb,rfl⟩:=hbv.form
          obtain ⟨Ac,cc,rfl⟩:=hcv.form
          refine Az rfl ?_
          refine Bh (λ _ _=>HF rfl rfl) rfl ?_
          refine Cr rfl ?_
          refine FC rfl λ w6 hN6=>?_
          refine De (hE3.trans' (hE4.trans' (hE5.trans' hN6.ext))) ?_
          refine Cr rfl ?_
          refine CI rfl rfl hN6.blk rfl (P1 _) (by simp [Value.cells,Value.oneCell',U1,Q6]) λ w7 hU=>?_
          refine Hm (AC ?_)
          have hE7:Ext w5 w7:=(hN6.upd hU).ext
          have s3:=hE3.size;have s4:=hE4.size;have s5:=hE5.size;have s7:=hE7.size
          refine ⟨w5.heap.size,_,_,_,⟨rfl,rfl,rfl,trivial⟩,hE3.trans' (hE4.trans' (hE5.trans' hE7)),by omega,hU.blk,?_,?_,?_⟩
          . exact ((((hav.nwext hE4).agree (hE5.agree λ k hk=>by have:=hk.2;omega)).agree (hE7.agree λ k hk=>by have:=hk.2;omega)).mono λ k hk=>⟨⟨by have:=hk.1;omega,by have:=hk.2;omega⟩,by have:=hk.2;omega⟩)
          . exact ((hbv.nwext hE5).agree (hE7.agree λ k hk=>by have:=hk.2;omega)).mono λ k hk=>⟨⟨by have:=hk.1;omega,by have:=hk.2;omega⟩,by have:=hk.2;omega⟩
          . exact (hcv.nwext hE7).mono λ k hk=>⟨⟨by have:=hk.1;omega,by have:=hk.2;omega⟩,by have:=hk.2;omega⟩
        . refine FC rfl λ w5 hN=>?_
          have hE5:=hN.ext
          refine Hn (hE3.trans' (hE4.trans' hE5)) ?_
          refine LE [(8,false),(9,true),(11,false)] rfl (hE3.trans' (hE4.trans' hE5)) ?_
          refine Cr rfl ?_
          refine BD rfl (W0 (hgoal.ext (hE2.trans' (hE3.trans' (hE4.trans' hE5)))) hl3) ?_
          rintro cv' w6 ⟨hcv,hE6⟩
          refine De (hE3.trans' (hE4.trans' (hE5.trans' hE6))) ?_
          have hg3:=hN.blk.ext hE6
          obtain ⟨Aa,ca,rfl⟩:=hav.form
          obtain ⟨Ab,cb,rfl⟩:=hbv.form
          obtain ⟨Ac,cc,rfl⟩:=hcv.form
          refine Az rfl ?_
          refine Bh (λ _ _=>HF rfl rfl) rfl ?_
          refine Cr rfl ?_
          refine CI rfl rfl hg3 rfl (P1 _) (by simp [Value.cells,Value.oneCell',U1,Q6]) λ w7 hU=>?_
          refine Hm (AC ?_)
          have s3:=hE3.size;have s4:=hE4.size;have s5:=hE5.size;have s6:=hE6.size;have s7:=hU.size;have sN:=hN.size
          refine ⟨_,_,_,_,⟨rfl,rfl,rfl,trivial⟩,(hE3.trans' (hE4.trans' (hE5.trans' hE6))).trans (hU.below (by omega)),by omega,hU.blk,?_,?_,?_⟩
          . exact (hav.agree λ k hk=>(hU.other k (by have:=hk.2;omega)).trans ((hE4.trans' (hE5.trans' hE6)).block k hk.2)).mono λ k hk=>⟨⟨by have:=hk.1;omega,by have:=hk.2;omega⟩,by have:=hk.2;omega⟩
          . exact (hbv.agree λ k hk=>(hU.other k (by have:=hk.2;omega)).trans ((hE5.trans' hE6).block k hk.2)).mono λ k hk=>⟨⟨by have:=hk.1;omega,by have:=hk.2;omega⟩,by have:=hk.2;omega⟩
          . exact (hcv.agree λ k hk=>hU.other k (by have:=hk.1;omega)).mono λ k hk=>⟨⟨by have:=hk.1;omega,by have:=hk.2;omega⟩,by have:=hk.1;omega⟩
      . refine FC rfl λ w4 hN=>?_
        have hE4:=hN.ext
        refine Hn (hE3.trans' hE4) ?_
        refine LE [(5,false),(8,false),(9,true),(11,false)] rfl (hE3.trans' hE4) ?_
        refine Cr rfl ?_
        refine BD rfl (X9 (hinit.ext (hE2.trans' (hE3.trans' hE4))) hl2) ?_
        rintro bv w5 ⟨hbv,hE5⟩
        refine De (hE3.trans' (hE4.trans' hE5)) ?_
        refine Cr rfl ?_
        refine BD rfl (W0 (hgoal.ext (hE2.trans' (hE3.trans' (hE4.trans' hE5)))) hl3) ?_
        rintro cv' w6 ⟨hcv,hE6⟩
        refine De (hE3.trans' (hE4.trans' (hE5.trans' hE6))) ?_
        have hg3:=(hN.blk.ext hE5).ext hE6
        obtain ⟨Aa,ca,rfl⟩:=hav.form
        obtain ⟨Ab,cb,rfl⟩:=hbv.form
        obtain ⟨Ac,cc,rfl⟩:=hcv.form
        refine Az rfl ?_
        refine Bh (λ _ _=>HF rfl rfl) rfl ?_
        refine Cr rfl ?_
        refine CI rfl rfl hg3 rfl (P1 _) (by simp [Value.cells,Value.oneCell',U1,Q6]) λ w7 hU=>?_
        refine Hm (AC ?_)
        have s3:=hE3.size;have s4:=hE4.size;have s5:=hE5.size;have s6:=hE6.size;have s7:=hU.size;have sN:=hN.size
        refine ⟨_,_,_,_,⟨rfl,rfl,rfl,trivial⟩,(hE3.trans' (hE4.trans' (hE5.trans' hE6))).trans (hU.below (by omega)),by omega,hU.blk,?_,?_,?_⟩
        . exact (hav.agree λ k hk=>(hU.other k (by have:=hk.2;omega)).trans ((hE4.trans' (hE5.trans' hE6)).block k hk.2)).mono λ k hk=>⟨⟨by have:=hk.1;omega,by have:=hk.2;omega⟩,by have:=hk.2;omega⟩
        . exact (hbv.agree λ k hk=>(hU.other k (by have:=hk.1;omega)).trans (hE6.block k hk.2)).mono λ k hk=>⟨⟨by have:=hk.1;omega,by have:=hk.2;omega⟩,by have:=hk.1;omega⟩
        . exact (hcv.agree λ k hk=>hU.other k (by have:=hk.1;omega)).mono λ k hk=>⟨⟨by have:=hk.1;omega,by have:=hk.2;omega⟩,by have:=hk.1;omega⟩
    . refine FC rfl λ w3 hN=>?_
      have hE3:=hN.ext
      refine Hn hE3 ?_
      refine LE [(2,false),(5,false),(8,false),(9,true),(11,false)] rfl hE3 ?_
      refine Cr rfl ?_
      refine BD rfl (X9 (hvars.ext (hE2.trans' hE3)) hl1) ?_
      rintro av w4 ⟨hav,hE4⟩
      refine De (hE3.trans' hE4) ?_
      refine Cr rfl ?_
      refine BD rfl (X9 (hinit.ext (hE2.trans' (hE3.trans' hE4))) hl2) ?_
      rintro bv w5 ⟨hbv,hE5⟩
      refine De (hE3.trans' (hE4.trans' hE5)) ?_
      refine Cr rfl ?_
      refine BD rfl (W0 (hgoal.ext (hE2.trans' (hE3.trans' (hE4.trans' hE5)))) hl3) ?_
      rintro cv' w6 ⟨hcv,hE6⟩
      refine De (hE3.trans' (hE4.trans' (hE5.trans' hE6))) ?_
      have hg3:=((hN.blk.ext hE4).ext hE5).ext hE6
      obtain ⟨Aa,ca,rfl⟩:=hav.form
      obtain ⟨Ab,cb,rfl⟩:=hbv.form
      obtain ⟨Ac,cc,rfl⟩:=hcv.form
      refine Az rfl ?_
      refine Bh (λ _ _=>HF rfl rfl) rfl ?_
      refine Cr rfl ?_
      refine CI rfl rfl hg3 rfl (P1 _) (by simp [Value.cells,Value.oneCell',U1,Q6]) λ w7 hU=>?_
      refine Hm (AC ?_)
      have s3:=hE3.size;have s4:=hE4.size;have s5:=hE5.size;have s6:=hE6.size;have s7:=hU.size;have sN:=hN.size
      refine ⟨_,_,_,_,⟨rfl,rfl,rfl,trivial⟩,(hE3.trans' (hE4.trans' (hE5.trans' hE6))).trans (hU.below (by omega)),by omega,hU.blk,?_,?_,?_⟩
      . exact (hav.agree λ k hk=>(hU.other k (by have:=hk.1;omega)).trans ((hE5.trans' hE6).block k hk.2)).mono λ k hk=>⟨⟨by have:=hk.1;omega,by have:=hk.2;omega⟩,by have:=hk.1;omega⟩
      . exact (hbv.agree λ k hk=>(hU.other k (by have:=hk.1;omega)).trans (hE6.block k hk.2)).mono λ k hk=>⟨⟨by have:=hk.1;omega,by have:=hk.2;omega⟩,by have:=hk.1;omega⟩
      . exact (hcv.agree λ k hk=>hU.other k (by have:=hk.1;omega)).mono λ k hk=>⟨⟨by have:=hk.1;omega,by have:=hk.2;omega⟩,by have:=hk.1;omega⟩
  . rintro l' w3 ⟨g3,av,bv,cv',hsub,hE3,hg3,hb3,hav,hbv,hcv⟩
    refine Bg _ hsub ?_
    clear hsub
    replace hb1:=hb1.ext hE3
    replace hres:=hres.ext hE3
    have hE03:Ext w w3:=hE2.trans' hE3
    have hg3z:g3 < w3.heap.size:=hb3.lt
    refine ab ?_
    refine ap ?_
    refine Cf t.ops.length (by omega) (λ _:Unit=>[(2,.pointer (some ⟨w1.heap.size,0,none⟩)),(3,.pointer (some ⟨g3,0,none⟩)),(20,.slice Ao t.ops.length co)])
      (λ k _ w'=>Below w2.heap.size w2 w'/\w3.heap.size<=w'.heap.size/\(∀ q,q < w3.heap.size->q≠g3->w'.heap[q]?=w3.heap[q]?)/\∃ (ov:Value) (G:Nat->Prop),Blk w' g3 26 [av,bv,cv',ov]/\(∀ q,G q->w3.heap.size<=q/\q < w'.heap.size)/\Own w' w3.heap.size G 43 ov (t.ops.take k)) ()
      ⟨hE3,P1 _,λ _ _ _=>rfl,.slice none 0 0,λ _=>False,hb3,λ _ h=>h.elim,Own.nil _ _ _ _⟩ ⟨rfl,rfl,rfl,rfl,rfl,trivial⟩ (λ _=>⟨rfl,rfl⟩) ⟨rfl,rfl,rfl⟩ ⟨rfl,rfl⟩ ?_ ?_
    . rintro k _ w4 hk ⟨hB4,hz34,hkeep,ov,G,hb3,hG,hown⟩
      have hE04:Ext w w4:=hE2.trans (hB4.mono (by omega))
      obtain ⟨o,ho⟩:=AG hk
      obtain ⟨hp5,hq5,hc5⟩:=hl5 k o ho
      obtain ⟨b2,o2,ce,rfl,_,_,hd1,p,q,rfl,hp,hq,hc,hn⟩:=(hops.ext hE04).elem ho
      obtain ⟨Ap,cp,rfl⟩:=hp.form
      obtain ⟨Aq,cq,rfl⟩:=hq.form
      obtain ⟨Aov,cov,rfl⟩:=hown.form
      refine ao ?_
      refine CJ rfl rfl (by simp [Value.cells,Value.oneCell']) λ w5 hN5=>?_
      have hb2:Blk w5 w4.heap.size 43 [.string o.name,.int .i64 o.cost,.slice Ap o.pre.length cp,.slice Aq o.effs.length cq]:=hN5.blk
      have hz5:=hN5.size
      refine o_z ?_
      refine ab ?_
      clear hd1
      refine ag ?_
      refine BD rfl (W0 (hp.ext hN5.ext) hp5) ?_
      rintro pv w6 ⟨hpv,hE6⟩
      obtain ⟨Ap',cp',rfl⟩:=hpv.form
      replace hb2:=hb2.ext hE6
      refine AO rfl ?_
      refine CI rfl rfl hb2 rfl (show 0 + 2 + 1<=4 by decide) (by simp [Value.cells,Value.oneCell']) λ w7 hU7=>?_
      have hE47:Ext w4 w7:=(hN5.ext.trans' hE6).trans (hU7.below (P1 _))
      replace hb2:Blk w7 w4.heap.size 43 [.string o.name,.int .i64 o.cost,.slice Ap' o.pre.length cp',.slice Aq o.effs.length cq]:=hU7.blk
      have hpv7:Vb w7 (nw w5 w6) (.slice Ap' o.pre.length cp') o.pre:=hpv.agree λ q hq=>hU7.other q (by have:=hq.1;omega)
      refine o_z ?_
      refine ab ?_
      refine ae ?_<;>refine ag ?_<;>refine au ?_
      refine Cf o.effs.length (by omega) (λ ev:Value=>[(2,.pointer (some ⟨w1.heap.size,0,none⟩)),(3,.pointer (some ⟨g3,0,none⟩)),(5,.pointer (some ⟨w4.heap.size,0,none⟩)),(6,ev),(20,.slice (some ⟨b2,o2,none⟩) t.ops.length co),(21,.int .i64 (t.ops.length:Int)),(22,.int .i64 (k:Int)),(31,.slice Aq o.effs.length cq)])
        (λ i ev w'=>Ext w7 w'/\∃ H:Nat->Prop,(∀ q,H q->w7.heap.size<=q/\q < w'.heap.size)/\Own w' w7.heap.size H 47 ev (o.effs.take i)) (.slice none 0 0)
        ⟨P7 _ _,λ _=>False,λ _ h=>h.elim,Own.nil _ _ _ _⟩ ⟨rfl,rfl,rfl,rfl,rfl,rfl,rfl,rfl,rfl,rfl,trivial⟩ (λ _=>⟨rfl,rfl⟩) ⟨rfl,rfl,rfl⟩ ⟨rfl,rfl⟩ ?_ ?_
      . rintro i ev w8 hi ⟨hE8,H,hH,hev⟩
        obtain ⟨e,he⟩:=AG hi
        have hce:=hc5 i e he
        obtain ⟨b3,o3,ce,rfl,_,_,hd1,cv8,rfl,hcn,hr1,hr2⟩:=(hq.ext (hE47.trans' hE8)).elem he
        obtain ⟨Acn,ccn,rfl⟩:=hcn.form
        refine ao ?_
        refine CJ rfl rfl (by simp [Value.cells,Value.oneCell']) λ w9 hN9=>?_
        have hb4:Blk w9 w8.heap.size 47 [.slice Acn e.cond.length ccn,.int .i64 e.var,.int .i64 e.val]:=hN9.blk
        have hz9:=hN9.size
        refine o_z ?_
        refine ab ?_
        clear hd1
        refine ag ?_
        refine BD rfl (W0 (hcn.ext hN9.ext) hce) ?_
        rintro cw w10 ⟨hcw,hE10⟩
        obtain ⟨Acw,ccw,rfl⟩:=hcw.form
        replace hb4:=hb4.ext hE10
        refine AO rfl ?_
        refine CI rfl rfl hb4 rfl (show 0 + 0 + 1<=3 by decide) (by simp [Value.cells,Value.oneCell']) λ w11 hU11=>?_
        replace hb4:Blk w11 w8.heap.size 47 [.slice Acw e.cond.length ccw,.int .i64 e.var,.int .i64 e.val]:=hU11.blk
        have hE811:Ext w8 w11:=(hN9.ext.trans' hE10).trans (hU11.below (P1 _))
        have hE711:Ext w7 w11:=hE8.trans' hE811
        have hcw11:Vb w11 (nw w9 w10) (.slice Acw e.cond.length ccw) e.cond:=hcw.agree λ q hq=>hU11.other q (by have:=hq.1;omega)
        have s10:=hE10.size
        have s11:=hU11.size
        have hne:∀ g,ev.ownBlock=some g->¬ (H g\/nw w9 w10 g):=λ g hg h=>by
          have hlt:=(hev.lt g hg).2
          rcases h with h|h
          . obtain ⟨_,_,_,h3⟩:=hev;exact h3 g hg h
          . have:=h.1;omega
        have hev11:Own w11 w7.heap.size (λ q=>H q\/nw w9 w10 q) 47 ev _:=(hev.ext hE811 λ q hq=>(hH q hq).2).mono (λ q hq=>.inl hq) hne
        have hH11:∀ q,(H q\/nw w9 w10 q)->w7.heap.size<=q/\q < w11.heap.size:=λ q hq=>by
          rcases hq with hq|hq
          . have:=hH q hq;omega
          . have h1:=hq.1;have h2:=hq.2;have:=hE8.size;omega
        have hil:(o.effs.take i).length<=1000000:=by rw [K0];omega
        refine o_z ?_
        refine ab ?_
        refine ad ?_<;>refine BH rfl ?_
        refine GT (a:=e) rfl rfl rfl hev11 (λ q hq=>(hH11 q hq).2) hE711.size ⟨_,rfl,_,rfl,hcw11.mono λ q hq=>.inr hq,hr1,hr2⟩ (by omega) (by omega) ⟨rfl,rfl⟩ λ ev' w12 hev12 hK12=>?_
        refine af ?_
        refine ab ?_
        exact ⟨ev',⟨rfl,rfl,rfl,rfl,rfl,rfl,rfl,rfl,rfl,rfl,trivial⟩,hE711.trans (hev11.fits (P1 _) hE711.size hK12),_,λ q hq=>⟨(hH11 q hq).1,H3 (hH11 q hq).2 hK12.size⟩,by rw [I6,he];simpa using hev12⟩
      rintro ev w12 ⟨hE12,H,hH,hev⟩
      rw [K4] at hev
      obtain ⟨Aev,cev,rfl⟩:=hev.form
      replace hb2:=hb2.ext hE12
      refine ab ?_
      refine ad ?_<;>refine AO rfl ?_
      refine CI rfl rfl hb2 rfl (show 0 + 3 + 1<=4 by decide) (by simp [Value.cells,Value.oneCell']) λ w13 hU13=>?_
      replace hb2:Blk w13 w4.heap.size 43 [.string o.name,.int .i64 o.cost,.slice Ap' o.pre.length cp',.slice Aev o.effs.length cev]:=hU13.blk
      have hE413:Ext w4 w13:=(hE47.trans' hE12).trans (hU13.below (P1 _))
      have s6:=hE6.size
      have s7:=hU7.size
      have s12:=hE12.size
      have s13:=hU13.size
      have hb3':=hb3.ext hE413
      have hg3lt:=hb3.lt
      have hpv13:Vb w13 (nw w5 w6) (.slice Ap' o.pre.length cp') o.pre:=hpv7.agree λ q hq=>(hU13.other q (by have:=hq.1;omega)).trans (hE12.block q (by have:=hq.2;omega))
      have hev13:Vb w13 (λ q=>H q\/(Value.slice Aev o.effs.length cev).ownBlock=some q) (.slice Aev o.effs.length cev) o.effs:=hev.vb.agree λ q hq=>hU13.other q (by
        rcases hq with hq|hq
        . have:=(hH q hq).1;omega
        . have:=(hev.lt q hq).1;omega)
      have hne:∀ g,(Value.slice Aov (t.ops.take k).length cov).ownBlock=some g->¬ (G g\/w4.heap.size<=g/\g < w13.heap.size):=λ g hg h=>by
        have hlt:=(hown.lt g hg).2
        rcases h with h|h
        . obtain ⟨_,_,_,h3⟩:=hown;exact h3 g hg h
        . omega
      have hown13:Own w13 w3.heap.size (λ q=>G q\/w4.heap.size<=q/\q < w13.heap.size) 43 _ _:=(hown.ext hE413 λ q hq=>(hG q hq).2).mono (λ q hq=>.inl hq) hne
      have hG13:∀ q,(G q\/w4.heap.size<=q/\q < w13.heap.size)->w3.heap.size<=q/\q < w13.heap.size:=λ q hq=>by
        have:=hE413.size
        rcases hq with hq|hq
        . have:=hG q hq;omega
        . omega
      have hopr:Vb w13 (λ q=>G q\/w4.heap.size<=q/\q < w13.heap.size) (.agg #[.string o.name,.int .i64 o.cost,.slice Ap' o.pre.length cp',.slice Aev o.effs.length cev]) o :=
        ⟨[.string o.name,.int .i64 o.cost,.slice Ap' o.pre.length cp',.slice Aev o.effs.length cev],rfl,_,_,rfl,hpv13.mono λ q hq=>.inr (by have h1:=hq.1;have h2:=hq.2;omega),hev13.mono λ q hq=>.inr (by
          rcases hq with hq|hq
          . have:=hH q hq;omega
          . have:=hev.lt q hq;omega),hc,hn⟩
      have hkl:(t.ops.take k).length<=1000000:=by rw [K0];omega
      refine o_z ?_
      refine ab ?_
      have hbx:=hb2
      clear hb1
      have hb1:=hb3'
      refine ag ?_<;>refine BH rfl ?_
      refine GT (a:=o) rfl rfl rfl hown13 (λ q hq=>(hG13 q hq).2) (by have:=hE413.size;omega) hopr (by omega) (by omega) ⟨rfl,rfl⟩ λ ov' w14 hov14 hK14=>?_
      obtain ⟨Aov',cov',rfl⟩:=hov14.form
      have hb3k:=hK14.blk hb3' (hown13.blk_ne hb3' (by decide))
      refine AO rfl ?_
      refine CI rfl rfl hb3k rfl (show 0 + 3 + 1<=4 by decide) (by simp [Value.cells,Value.oneCell']) λ w15 hU15=>?_
      refine o_z ?_
      refine ab ?_
      have hB14:Below w3.heap.size w13 w14:=hown13.fits (P1 _) (by have:=hE413.size;omega) hK14
      have sz14:=hK14.size
      have sz15:=hU15.size
      refine ⟨(),⟨rfl,rfl,rfl,rfl,rfl,trivial⟩,?_,?_,?_,_,(λ q=>G q\/w4.heap.size<=q/\q < w13.heap.size),hU15.blk,λ q hq=>?_,?_⟩
      . exact hB4.trans (((hE413.mono (by omega)).trans (hB14.mono (by omega))).trans (hU15.below (by omega)))
      . have:=hE413.size;omega
      . intro q hq hne'
        rw [hU15.other q hne',hB14.block q hq,hE413.block q (by omega),hkeep q hq hne']
      . have:=hG13 q hq;omega
      . have hne15:=hov14.blk_ne hb3k (by decide)
        rw [I6,ho]
        refine hov14.agree (hU15.agree ?_) λ g hg=>hU15.other g λ he=>hne15 (he ▸ hg)
        rintro (h|h)
        . have:=(hG g3 h).1;omega
        . omega
    rintro _ w4 ⟨hB4,hz34,hkeep,ov,G,hb3,hG,hown⟩
    rw [K4] at hown
    obtain ⟨Aov,cov,rfl⟩:=hown.form
    have hresz:=hres.lt
    replace hres:=hres.keep (hkeep _ hresz (by omega))
    clear hb1
    have hb1:=hb3
    refine ab ?_
    obtain ⟨Aa,ca,rfl⟩:=hav.form
    obtain ⟨Ab,cb,rfl⟩:=hbv.form
    obtain ⟨Ac,cc,rfl⟩:=hcv.form
    refine BH rfl ?_
    refine CI rfl rfl hres rfl (P1 _) (by simp [Value.cells,Value.oneCell']) λ w5 hU=>?_
    refine o_z ?_
    refine ab ?_
    have hE4:Ext w w4:=hE2.trans (hB4.mono (by omega))
    have s5:=hU.size
    have s04:=hE4.size
    have hcl:∀ {α:Type} [Rp α] {v:Value} {x:α},Vb w3 (λ k=>nw w2 w3 k/\k≠g3) v x->Vb w5 (nw w w5) v x:=λ h=>(h.agree λ q hq=>(hU.other q (by have:=hq.1.1;omega)).trans (hkeep q hq.1.2 hq.2)).mono λ q hq=>⟨by have:=hq.1.1;omega,by have:=hq.1.2;omega⟩
    have hovv:Vb w5 (nw w w5) (.slice Aov t.ops.length cov) t.ops:=(hown.vb.agree λ q hq=>hU.other q (by
      rcases hq with hq|hq
      . have:=(hG q hq).1;omega
      . have:=(hown.lt q hq).1;omega)).mono λ q hq=>by
        rcases hq with hq|hq
        . have:=hG q hq;exact ⟨by omega,by omega⟩
        . have:=hown.lt q hq;exact ⟨by omega,by omega⟩
    refine T8 rfl (Dc rfl rfl hU.blk.cellsAt) ⟨⟨_,rfl,_,_,_,_,rfl,hcl hav,hcl hbv,hcl hcv,hovv⟩,hE4.trans (hU.below (by omega))⟩
end
section
def ZF (t:Tsk):Prop:=∀ (i:Nat) o,t.ops[i]?=some o->Q7 t.vars o.pre
theorem TaskOk.pre {t:Tsk} (b:TaskOk t):ZF t:=λ i o a=>(b.2.2.2.2.2 i o a).2.2.2.2.1
theorem Qh {t:Tsk} (d:ZF t) (b:Int):Q7 t.vars (preOf t b):=by
  unfold preOf
  cases c:t.ops[b.toNat]? with
  | none=>exact ⟨λ i x a=>by simp at a,λ i x y a=>by simp at a⟩
  | some o=>exact d _ o c
theorem JB {l:List Fct} {v:Int} {f:Fct} (a:factOn l v=some f):f∈l/\f.var=v:=by
  unfold factOn at a
  exact ⟨C3 a,by simpa using M1 a⟩
theorem Rt {l:List Fct} {v:Int} (a:factOn l v=none):∀ f∈l,f.var≠v:=by
  unfold factOn at a
  rw [H9] at a
  intro f hf
  simpa using a f hf
theorem Ru {vars:List Int} {l:List Fct} (hl:Q7 vars l) {f g:Fct} (hf:f∈l) (a:g∈l) (he:f.var=g.var):f=g:=by
  obtain ⟨i,hi⟩:=G3 hf
  obtain ⟨j,hj⟩:=G3 a
  rcases J0 i j with h|h|h
  . have:=Iw hl j i f g h hi hj;omega
  . subst h;rw [hi] at hj;injection hj
  . have:=Iw hl i j g f h hj hi;omega
theorem TaskOk.fits {t:Tsk} (d:TaskOk t):AaO t:=by
  intro i o a v f hf hv
  obtain ⟨b,h2⟩:=JB hf
  obtain ⟨j,hj⟩:=G3 b
  obtain ⟨c,g2,n,g3,g4⟩:=(d.pre i o a).1 j f hj
  rw [h2] at g3
  exact ⟨g2,n,by simpa using g3,g4⟩
def hf (t:Tsk) (s:List Int) (v:Nat) (a:Int):Bool:=(preOf t a).all λ f=>decide (f.var < (v:Int)) || hasB s f
theorem Lj {t:Tsk} {s:List Int} {v:Nat} {a:Int}:hf t s v a=true↔∀ f∈preOf t a,f.var < (v:Int)\/hasB s f=true:=by
  unfold hf
  simp [J8]
theorem RU {t:Tsk} {s:List Int} {v:Nat} {a:Int} (c:factOn (preOf t a) (v:Int)=none):hf t s v a=hf t s (v + 1) a:=by
  rw [M2,Lj,Lj]
  constructor
  . intro b f hm
    rcases b f hm with h1|h1
    . exact .inl (by omega)
    . exact .inr h1
  . intro b f hm
    have:=Rt c f hm
    rcases b f hm with h1|h1
    . exact .inl (by omega)
    . exact .inr h1
theorem WT {t:Tsk} {s:List Int} {v:Nat} {a:Int} {f:Fct} (e:ZF t) (h:factOn (preOf t a) (v:Int)=some f):hf t s v a=(hasB s f && hf t s (v + 1) a):=by
  obtain ⟨d,h2⟩:=JB h
  rw [M2,J7,Lj,Lj]
  constructor
  . intro b
    refine ⟨(b f d).resolve_left (by omega),λ g c=>?_⟩
    rcases b g c with h3|h3
    . exact .inl (by omega)
    . exact .inr h3
  . rintro ⟨h3,b⟩ g c
    rcases b g c with h4|h4
    . by_cases he:g.var=(v:Int)
      . have:g=f:=Ru (Qh e a) c d (by omega)
        subst this;exact .inr h3
      . exact .inl (by omega)
    . exact .inr h4
theorem RV {t:Tsk} {s:List Int} {ops:List Int}:∀ (k v:Nat),(∀ x,v<=x->x < v + k->V5 t ops x=false)->∀ a∈ops,hf t s v a=hf t s (v + k) a
  | 0,_,_,_,_=>rfl
  | k + 1,v,h,a,ho=>by
    have b:=h v (P1 _) (by omega)
    unfold V5 at b
    rw [List.any_eq_false] at b
    have c:=b a ho
    have d:factOn (preOf t a) (v:Int)=none:=by simpa using c
    rw [RU d,RV k (v + 1) (λ x e f=>h x (by omega) (by omega)) a ho]
    congr 1;omega
theorem Nv {a b c:Int→Bool} {p:Int→Bool} (h:∀ x,p x=if a x=true then b x else if c x=true then b x else false) (f:∀ x,a x=true→c x=false) :
    ∀ l:List Int,(l.filter p).Perm ((l.filter a).filter b ++ (l.filter c).filter b)
  | []=>by simp
  | x :: l=>by
    have g:=Nv h f l
    have d:=h x
    cases e:a x
    . cases hc:c x
      . simp only [e,hc] at d
        simpa [K7,e,hc,d] using g
      . simp only [e,hc] at d
        cases hb:b x
        . rw [hb] at d
          simpa [K7,e,hc,hb,d] using g
        . rw [hb] at d
          simp only [K7,e,hc,hb,d,if_true,I0,if_false]
          exact (g.cons x).trans (List.perm_middle.symm)
    . have hc:=f x e
      simp only [e] at d
      cases hb:b x
      . rw [hb] at d
        simpa [K7,e,hc,hb,d] using g
      . rw [hb] at d
        simp only [K7,e,hc,hb,d,if_true,I0,if_false,List.cons_append]
        exact g.cons x
theorem Yr {t:Tsk} {s:List Int} (c:ZF t) (b:Int):hf t s t.vars.length b=true:=by
  rw [Lj]
  intro f a
  obtain ⟨i,hi⟩:=G3 a
  obtain ⟨d,h2,n,h3,_⟩:=(Qh c b).1 i f hi
  have:=BV h3
  exact .inl (by omega)
theorem SL (t:Tsk) (ops:List Int) {v:Nat} (b:v<=t.vars.length):v<=nextV t ops v/\nextV t ops v<=t.vars.length/\(∀ u,v<=u->u < nextV t ops v->V5 t ops u=false)/\(nextV t ops v < t.vars.length->V5 t ops (nextV t ops v)=true):=by
  obtain ⟨a,h2,h3,h4⟩:=Km t ops (t.vars.length - v) v
  exact ⟨a,by unfold nextV;omega,h3,λ b=>h4 (by unfold nextV at b;omega)⟩
theorem StateOk.at {vars s:List Int} (b:StateOk vars s) {u:Nat} (hu:u < vars.length):∃ (x:Nat) (n:Int),s[u]?=some (x:Int)/\vars[u]?=some n/\(x:Int) < n/\atN s u=x:=by
  obtain ⟨y,hy⟩:=AG (l:=s) (k:=u) (by rw [b.1];exact hu)
  obtain ⟨n,hn⟩:=AG hu
  obtain ⟨a,h2⟩:=b.2 u y n hy hn
  obtain ⟨x,rfl⟩:=D0 a
  exact ⟨x,n,hy,hn,h2,by simp [atN,hy]⟩
theorem Qi {t:Tsk} {s:List Int} (j:ZF t) (hs:StateOk t.vars s):∀ (fuel:Nat) (ops:List Int) (v:Nat),v≤t.vars.length→t.vars.length < fuel + v →
    (W1 s (mkT t fuel ops v)).Perm (ops.filter (hf t s v))/\Aal s (mkT t fuel ops v):=by
  intro fuel
  induction fuel with
  | zero=>intro ops v k p;omega
  | succ fuel l =>
    intro ops v k p
    obtain ⟨r,g2,g3,g4⟩:=SL t ops k
    have b:=RV (t:=t) (s:=s) (ops:=ops) (nextV t ops v - v) v (λ x g q=>g3 x g (by omega))
    rw [show v + (nextV t ops v - v)=nextV t ops v from by omega] at b
    have d:ops.filter (hf t s v)=ops.filter (hf t s (nextV t ops v)):=I2 b
    rw [d]
    unfold mkT
    by_cases he:ops.isEmpty=true
    . rw [if_pos he]
      have:ops=[]:=by simpa using he
      subst this
      exact ⟨by simp [W1],trivial⟩
    rw [if_neg he]
    by_cases hn:nextV t ops v=t.vars.length
    . rw [if_pos hn,hn]
      have:ops.filter (hf t s t.vars.length)=ops:=List.filter_eq_self.2 λ x _=>Yr j x
      rw [this]
      exact ⟨M5 _,trivial⟩
    rw [if_neg hn]
    obtain ⟨x,n,q1,q2,q3,q4⟩:=hs.at (u:=nextV t ops v) (by omega)
    have m:=l (ops.filter (valB t (nextV t ops v) x)) (nextV t ops v + 1) (by omega) (by omega)
    have o:=l (ops.filter (U7 t (nextV t ops v))) (nextV t ops v + 1) (by omega) (by omega)
    refine ⟨?_,⟨x,q1,by rw [q2];simp;omega⟩,by rw [q4];exact m.2,o.2⟩
    rw [W1,q4]
    refine (m.1.append o.1).trans (Nv (a:=valB t (nextV t ops v) x) (c:=U7 t (nextV t ops v)) (λ h=>?_) (λ h w=>?_) ops).symm
    . unfold valB U7
      cases e:factOn (preOf t h) (nextV t ops v:Int) with
      | none=>rw [RU e];simp
      | some f =>
        rw [WT j e]
        obtain ⟨_,hv⟩:=JB e
        rw [Oc (s:=s) hv q1]
        by_cases i:f.val=(x:Int)
        . simp [i]
        . simp [i,P8 i]
    . unfold valB at w
      unfold U7
      cases e:factOn (preOf t h) (nextV t ops v:Int) with
      | none=>rw [e] at w;simp at w
      | some f=>rfl
def Y5 (t:Tsk):List Int:=(List.range t.ops.length).map λ i:Nat=>(i:Int)
def Y6 (t:Tsk):Tr:=mkT t (t.vars.length + 1) (Y5 t) 0
theorem OM {α:Type} {p q:α->Bool}:∀ {l:List α},(∀ x∈l,p x=q x)->l.all p=l.all q
  | [],_=>rfl
  | x :: l,h=>by rw [List.all_cons,List.all_cons,h x H8,OM λ y a=>h y (F8 _ a)]
theorem WU {t:Tsk} (b:ZF t) (s:List Int):W4 t s=(Y5 t).filter (hf t s 0):=by
  unfold W4 Aaf Y5
  rw [List.filter_map]
  congr 1
  refine I2 λ i hi=>?_
  obtain ⟨o,ho⟩:=AG (l:=t.ops) (k:=i) (M4.1 hi)
  simp only [Function.comp,hf,preOf,holdsB,I9,ho]
  refine OM λ f a=>?_
  obtain ⟨j,hj⟩:=G3 a
  have:=((b i o ho).1 j f hj).1
  have:decide (f.var < ((0:Nat):Int))=false:=decide_eq_false (by omega)
  rw [this,Bool.false_or]
theorem Rv (t:Tsk) (s:List Int):(W4 t s).Pairwise λ x y=>decide (x<=y)=true:=by
  unfold W4 Aaf
  refine List.Pairwise.map _ (λ a b c=>?_) (List.Pairwise.filter _ List.pairwise_lt_range)
  exact decide_eq_true (by omega)
theorem SM {l m:List Int} (f:l.Perm m) (hm:m.Pairwise λ x y=>decide (x<=y)=true):Z7 l=m:=by
  refine List.Perm.eq_of_pairwise (le:=λ x y:Int=>decide (x<=y)=true) (λ a b _ _ d e=>?_) (List.pairwise_mergeSort (λ a b c d e=>?_) (λ a b=>?_) l) hm ((G9 _ _).trans f)
  . have:=of_decide_eq_true d;have:=of_decide_eq_true e;omega
  . have:=of_decide_eq_true d;have:=of_decide_eq_true e;exact decide_eq_true (by omega)
  . simp;omega
theorem SN {t:Tsk} {s:List Int} (a:ZF t) (hs:StateOk t.vars s):ZQ t (Y6 t) s=W4 t s:=by
  unfold ZQ
  rw [if_pos (Bk hs)]
  refine SM ?_ (Rv t s)
  rw [WU a]
  exact (Qi a hs _ _ 0 (P4 _) (by omega)).1
theorem TQ {t:Tsk} {s:List Int} (a:ZF t) (hs:StateOk t.vars s):Aal s (Y6 t):=(Qi a hs _ _ 0 (P4 _) (by omega)).2
theorem Ve (t:Tsk) (s:List Int):∀ (fuel:Nat) (ops:List Int) (v:Nat),(W1 s (mkT t fuel ops v)).length≤ops.length:=by
  intro fuel
  induction fuel with
  | zero=>intro ops v;exact P4 _
  | succ fuel b =>
    intro ops v
    unfold mkT
    by_cases he:ops.isEmpty=true
    . rw [if_pos he];exact P4 _
    rw [if_neg he]
    by_cases hn:nextV t ops v=t.vars.length
    . rw [if_pos hn];exact P1 _
    rw [if_neg hn,W1,H2]
    refine N6 (Nat.add_le_add (b _ _) (b _ _)) ?_
    generalize nextV t ops v=u
    generalize atN s u=x
    clear he hn b
    induction ops with
    | nil=>simp
    | cons a ops d =>
      have c:valB t u x a=true->U7 t u a=false:=by
        unfold valB U7
        cases factOn (preOf t a) (u:Int)<;>simp
      rw [K7,K7]
      cases e:valB t u x a
      . cases hc:U7 t u a<;>simp<;>omega
      . rw [c e];simp;omega
theorem Nx (t:Tsk):(Y5 t).length=t.ops.length:=by simp [Y5]
theorem Vg (t:Tsk) (s:List Int):(W1 s (Y6 t)).length<=t.ops.length:=by
  have:=Ve t s (t.vars.length + 1) (Y5 t) 0
  rwa [Nx] at this
end
section
open Go Go.RowKit
attribute [local irreducible] ewp owp hwp hwq hws Ev Evg Fn Q4 R7 R2 Q9
theorem Rx:∀ k,((List.range (k + 1)).map λ i:Nat=>(i:Int))=((List.range k).map λ i:Nat=>(i:Int)) ++ [(k:Int)]:=λ k=>by
  rw [M0,L9];rfl
theorem AbW {w:World} {tv:Value} {t:Tsk} (ht:V w tv t):Fn prog 19 [tv] w λ v w'=>Ext w w' /\
    ((TaskOk t/\∃ gv,v=.tuple #[gv,.nilIface]/\GenR w' (nw w w') gv t (Y6 t))\/(¬ TaskOk t/\v=.tuple #[.pointer none,V6 (V3 t)])):=by
  have ht0:=ht
  obtain ⟨cs,rfl,a,b,c,d,rfl,hvars,hinit,hgoal,hops⟩:=ht
  refine AK func19 rfl ntmps19 ?_
  refine ab ?_
  refine EI rfl λ w1 hN1=>?_
  have hE1:Ext w w1:=hN1.ext
  have hb1:Blk w1 w.heap.size 26 [a,b,c,d]:=hN1.blk
  have ht1:=ht0.ext hE1
  refine Au rfl ?_<;>refine af ?_
  refine ab ?_
  refine BH rfl ?_
  refine BD rfl (AaC ht1) ?_
  rintro _ w2 ⟨rfl,hE2⟩
  have hE02:Ext w w2:=hE1.trans' hE2
  have hb1:=hb1.ext hE2
  by_cases hok:TaskOk t
  case neg =>
    have hne:V3 t≠0:=λ h=>hok (EO.1 h)
    rw [Kb hne]
    refine af ?_
    refine ab ?_
    refine ak ?_<;>(first|refine XM rfl rfl ?_|refine XN rfl rfl ?_)<;>refine o_z ?_<;>refine ab ?_
    refine ak ?_<;>refine aS ?_
    exact T4 rfl (Bc rfl) (Bc rfl) ⟨hE02,.inr ⟨hok,rfl⟩⟩
  rw [EO.2 hok,Jg]
  refine af ?_
  refine ab ?_
  refine ak ?_<;>(first|refine XM rfl rfl ?_|refine XN rfl rfl ?_)<;>refine o_z ?_<;>refine ab ?_
  have hpre:=hok.pre
  have hl1:t.vars.length<=64:=hok.1
  have hl4:t.ops.length<=4096:=hok.2.1
  have hcp:=Aa5 (ht1.ext hE2) (by omega) (by rw [hok.2.2.2.1.1];omega) (by have:=GV hok.2.2.2.2.1;omega) (by omega) (λ i o ho=>by
    obtain ⟨_,_,h3,_,h5,h6⟩:=hok.2.2.2.2.2 i o ho
    exact ⟨by have:=GV h5;omega,by omega,λ j e he=>by have:=GV (h6 j e he).1;omega⟩)
  refine BH rfl ?_
  refine BD rfl hcp ?_
  rintro cvv w3 ⟨hcv,hE3⟩
  obtain ⟨cs',rfl,a',b',c',d',rfl,hvars',hinit',hgoal',hops'⟩:=hcv
  refine DU rfl rfl ?_
  refine EI rfl λ w4 hN4=>?_
  have hbg:Blk w4 w3.heap.size 111 [a',b',c',d',.pointer none]:=hN4.blk
  have hE34:Ext w3 w4:=hN4.ext
  have s2:=hE02.size
  have s3:=hE3.size
  have s4:w4.heap.size=w3.heap.size + 1:=hN4.size
  obtain ⟨Ao,co,rfl⟩:=hops'.form
  refine af ?_
  refine ab ?_
  refine ae ?_
  clear hb1
  have hb1:=hbg
  refine ak ?_<;>refine CV rfl ?_<;>refine AO rfl ?_<;>refine ag ?_<;>refine au ?_
  refine Cf t.ops.length (by omega) (λ v:Value=>[(1,.pointer (some ⟨w.heap.size,0,none⟩)),(5,.pointer (some ⟨w3.heap.size,0,none⟩)),(6,v)]) (λ k v w'=>Ext w4 w'/\Own w' w4.heap.size (λ _=>False) 3 v ((List.range k).map λ i:Nat=>(i:Int))) (.slice none 0 0)
    ⟨P7 _ _,Own.nil _ _ _ _⟩ ⟨rfl,rfl,rfl,rfl,rfl,trivial⟩ (λ _=>⟨rfl,rfl⟩) ⟨rfl,rfl,rfl⟩ ⟨rfl,rfl⟩ ?_ ?_
  . rintro k v w5 hk ⟨hE5,hown⟩
    refine am ?_
    refine aU ?_
    refine GT (a:=(k:Int)) rfl rfl rfl hown (λ _ h=>h.elim) hE5.size ⟨rfl,by omega,by omega⟩ (by simp;omega) (by simp;omega) ⟨rfl,rfl⟩ λ v' w6 hown6 hK=>?_
    refine af ?_
    refine ab ?_
    exact ⟨v',⟨rfl,rfl,rfl,rfl,rfl,trivial⟩,hE5.trans (hown.fits (P1 _) hE5.size hK),by rw [Rx];exact hown6⟩
  rintro v w5 ⟨hE5,hown⟩
  have s5:=hE5.size
  have hE35:=hE34.trans' hE5
  have hbg5:=hbg.ext hE5
  have hB5:GenB w5 (All w5) (.pointer (some ⟨w3.heap.size,0,none⟩)) t:=⟨_,_,_,_,_,_,rfl,by show _ < _;omega,hbg5,(hvars'.agree (hE35.agree λ _ h=>h.2)).mono λ k hk=>by have:=hk.2;show _ < _;omega,(hinit'.agree (hE35.agree λ _ h=>h.2)).mono λ k hk=>by have:=hk.2;show _ < _;omega,(hgoal'.agree (hE35.agree λ _ h=>h.2)).mono λ k hk=>by have:=hk.2;show _ < _;omega,(hops'.agree (hE35.agree λ _ h=>h.2)).mono λ k hk=>by have:=hk.2;show _ < _;omega⟩
  have hov:Vb w5 (nw w4 w5) v (Y5 t):=hown.vb.mono λ k hk=>hown.lt k (hk.resolve_left id)
  have hbuild:=Abh t hok.vars hok.fits hl1 (t.vars.length + 1) w5 _ v (Y5 t) 0 (nw w4 w5) hB5 hov (λ k hk=>hk.2) (λ op hop=>by
    obtain ⟨i,hi,rfl⟩:=N8.1 hop
    have:=M4.1 hi
    exact ⟨by omega,by omega⟩) (by rw [Nx];omega) (P4 _) (by omega)
  refine ab ?_
  refine aU ?_<;>refine ad ?_
  refine BD rfl hbuild ?_
  rintro p w6 ⟨hT,hE6⟩
  obtain ⟨rp,rfl⟩:=hT.form
  have s6:=hE6.size
  refine CV rfl ?_<;>refine AO rfl ?_
  refine CI rfl rfl (hbg5.ext hE6) rfl (P1 _) (by simp [Value.cells,Value.oneCell']) λ w7 hU=>?_
  refine o_z ?_
  refine ab ?_
  refine ak ?_<;>refine aS ?_
  have hE36:=hE35.trans' hE6
  have s7:=hU.size
  have hcl:∀ {α:Type} [Rp α] {v:Value} {x:α},Vb w3 (nw w2 w3) v x->Vb w7 (nw w w7) v x:=λ h=>((h.agree (hE36.agree λ _ h=>h.2)).agree λ q hq=>hU.other q (by have:=hq.2;omega)).mono λ k hk=>⟨by have:=hk.1;omega,by have:=hk.2;omega⟩
  refine T4 rfl (Bc rfl) (Bc rfl) ⟨(((hE02.trans' hE3).trans' hE36).trans (hU.below (by omega))),.inl ⟨hok,_,rfl,_,_,_,_,_,_,rfl,⟨by omega,by omega⟩,hU.blk,hcl hvars',hcl hinit',hcl hgoal',hcl hops',?_⟩⟩
  refine TrR.mono (λ k hk=>?_) (TrR.agree (λ q hq=>hU.other q ?_) hT)
  . rcases hk with hk|hk
    . exact ⟨by have:=hk.1;omega,by have:=hk.2;omega⟩
    . exact ⟨by omega,by omega⟩
  . rcases hq with hk|hk
    . have:=hk.1;omega
    . omega
end
section
open Go Go.RowKit
theorem TaskOk.effs {t:Tsk} (c:TaskOk t) {s:List Int} (hs:StateOk t.vars s):∀ (i:Nat) o,t.ops[i]?=some o->AaL s o.effs:=λ i o b j e he=>by
  obtain ⟨a,_,y,hy,_⟩:=((c.2.2.2.2.2 i o b).2.2.2.2.2 j e he).2
  refine ⟨a,?_⟩
  have:=(B6.1 hy).1
  rw [hs.1]
  simp only at a this
  omega
end
section
open Go Go.RowKit
attribute [local irreducible] ewp owp hwp hwq hws Ev Evg Fn Q4 R7 R2 Q9
theorem GenR.mono {w:World} {F G:Nat->Prop} {gv:Value} {t:Tsk} {T:Tr} (f:GenR w F gv t T) (hk:∀ k,F k->G k):GenR w G gv t T:=by
  obtain ⟨e,a,b,c,d,r,h1,h2,h3,h4,h5,h6,h7,h8⟩:=f
  exact ⟨e,a,b,c,d,r,h1,hk _ h2,h3,h4.mono hk,h5.mono hk,h6.mono hk,h7.mono hk,TrR.mono hk h8⟩
theorem GenR.agree {w w':World} {F:Nat->Prop} {gv:Value} {t:Tsk} {T:Tr} (g:GenR w F gv t T) (e:Agree F w w'):GenR w' F gv t T:=by
  obtain ⟨f,a,b,c,d,r,h1,h2,h3,h4,h5,h6,h7,h8⟩:=g
  exact ⟨f,a,b,c,d,r,h1,h2,h3.keep (e f h2),h4.agree e,h5.agree e,h6.agree e,h7.agree e,TrR.agree e h8⟩
theorem GenR.form {w:World} {F:Nat->Prop} {gv:Value} {t:Tsk} {T:Tr} (f:GenR w F gv t T):∃ e,gv=.pointer (some ⟨e,0,none⟩):=by
  obtain ⟨e,a,b,c,d,r,h1,_⟩:=f
  exact ⟨e,h1⟩
noncomputable def Y1 (t:Tsk) (s:List Int):List Int:=if bof (StateOk t.vars s)=true then W4 t s else []
theorem LP {t:Tsk} {s:List Int} (a:StateOk t.vars s):Y1 t s=W4 t s:=by unfold Y1;rw [if_pos (Bk a)]
theorem Of {t:Tsk} {s:List Int} (a:¬ StateOk t.vars s):Y1 t s=[]:=by unfold Y1;rw [AY a];rfl
theorem SO {t:Tsk} (a:ZF t) (s:List Int):ZQ t (Y6 t) s=Y1 t s:=by
  by_cases b:StateOk t.vars s
  . rw [SN a b,LP b]
  . rw [Of b];unfold ZQ;rw [AY b];rfl
theorem Qj {t:Tsk} {s:List Int} {x:Int} (b:x∈W4 t s):∃ (j:Nat) (o:Opr),x=(j:Int)/\t.ops[j]?=some o/\holdsB o.pre s=true:=by
  unfold W4 Aaf at b
  obtain ⟨j,hj,rfl⟩:=N8.1 b
  obtain ⟨a,h2⟩:=L6.1 hj
  obtain ⟨o,ho⟩:=AG (M4.1 a)
  rw [ho] at h2
  exact ⟨j,o,rfl,ho,h2⟩
theorem Vh {t:Tsk} {s:List Int} {x:Int} (a:x∈Y1 t s):StateOk t.vars s/\x∈W4 t s:=by
  by_cases hs:StateOk t.vars s
  . rw [LP hs] at a;exact ⟨hs,a⟩
  . rw [Of hs] at a;cases a
theorem Qk (t:Tsk) (s:List Int):(W4 t s).length<=t.ops.length:=TN t s _
theorem Vi (t:Tsk) (s:List Int):(Y1 t s).length<=t.ops.length:=by
  by_cases hs:StateOk t.vars s
  . rw [LP hs];exact Qk t s
  . rw [Of hs];exact P4 _
section
variable {w : World} {gv sv : Value} {t : Tsk} {s : List Int}
theorem Ab9 (a:TaskOk t) (c:GenR w (All w) gv t (Y6 t)) (hs:V w sv s) (b:s.length<=1000000) :
    Fn prog 56 [gv,sv] w λ v w'=>Ext w w'/\Own w' w.heap.size (All w) 3 v (Y1 t s):=by
  have:=AaH c hs (TQ a.pre) (by have:=Vg t s;have:=a.2.1;omega) b
  rwa [SO a.pre] at this
end
theorem AbE {w:World} {sv:Value}:Fn prog 90 [.pointer none,sv] w λ v w'=>v=.tuple #[.slice none 0 0,.int .i64 0]/\Ext w w':=by
  refine AK func90 rfl ntmps90 ?_
  refine ab ?_<;>refine aS ?_
  (refine ad ?_<;>refine PK rfl rfl ?_<;>refine ad ?_<;>(first|(refine AB rfl rfl ?_;refine At rfl ?_)|refine AA rfl rfl ?_)<;>(first|(refine AB rfl rfl ?_;refine CV rfl ?_)|refine AA rfl rfl ?_)<;>(first|(refine AB rfl rfl ?_;refine AO rfl ?_)|refine AA rfl rfl ?_)<;>(first|(refine AB rfl rfl ?_;refine AO rfl ?_)|refine AA rfl rfl ?_)<;>(first|(refine AB rfl rfl ?_;refine AQ rfl ?_)|refine AA rfl rfl ?_)<;>(first|(refine AB rfl rfl ?_;refine At rfl ?_)|refine AA rfl rfl ?_))
  refine AA rfl rfl ?_
  ((first|(refine AB rfl rfl ?_;(first|refine DA rfl ?_|refine DB rfl ?_|refine Eh rfl ?_))|refine AA rfl rfl ?_)<;>refine ah ?_)
  refine ab ?_
  refine ab ?_<;>refine aS ?_
  exact T4 rfl (Bc rfl) (Bc rfl) ⟨rfl,P7 _ _⟩
theorem AaG {w:World} {sv:Value}:Fn prog 56 [.pointer none,sv] w λ v w'=>v=.slice none 0 0/\Ext w w':=by
  refine AK func56 rfl ntmps56 ?_
  refine br ?_
  refine BD rfl AbE ?_
  rintro _ a ⟨rfl,hE⟩
  refine bh ?_<;>refine Au rfl ?_<;>refine af ?_
  refine ab ?_
  refine am ?_
  exact Q5 rfl rfl ⟨rfl,hE⟩
end
section
open Go Go.RowKit
attribute [local irreducible] ewp owp hwp hwq hws Ev Evg Fn Q4 R7 R2 Q9
structure Gnr where
  t:Tsk
def GnrR (w:World) (F:Nat->Prop) (v:Value):Option Gnr->Prop
  | none=>v=.pointer none
  | some g=>TaskOk g.t/\GenR w F v g.t (Y6 g.t)
theorem GnrR.one {w:World} {F:Nat->Prop} {v:Value}:∀ {x:Option Gnr},GnrR w F v x->v.oneCell'=true
  | none,h=>by    have:v=.pointer none:=h
                  subst this;rfl
  | some g,h=>by
    obtain ⟨a,rfl⟩:=h.2.form
    rfl
instance:Rp (Option Gnr) where
  isAgg:=false
  size:=1
  R w F cs x:=∃ v,cs=[v]/\GnrR w F v x
  len:=by rintro w F cs x ⟨v,rfl,_⟩;rfl
  one:=by
    rintro w F cs x ⟨v,rfl,h⟩ u hu
    have:u=v:=by simpa using hu
    subst this;exact h.one
  agree:=by
    rintro w w' F cs x ⟨v,rfl,h⟩ ha
    refine ⟨v,rfl,?_⟩
    cases x with
    | none=>exact h
    | some g=>exact ⟨h.1,h.2.agree ha⟩
  mono:=by
    rintro w F G cs x ⟨v,rfl,h⟩ hk
    refine ⟨v,rfl,?_⟩
    cases x with
    | none=>exact h
    | some g=>exact ⟨h.1,h.2.mono hk⟩
theorem Ab4 {w:World} {F:Nat->Prop}:Vb w F (.pointer none) (none:Option Gnr):=⟨_,rfl,rfl⟩
theorem Vb.gnr {w:World} {F:Nat->Prop} {v:Value} {x:Option Gnr} (a:Vb w F v x):GnrR w F v x:=by
  obtain ⟨u,hu,h'⟩:=a
  have:v=u:=by simpa using hu
  subst this;exact h'
theorem Vb.ptr {w:World} {F:Nat->Prop} {v:Value} {x:Option Gnr} (b:Vb w F v x):∃ p,v=.pointer p/\p.isNone=x.isNone:=by
  cases x with
  | none=>exact ⟨none,b.gnr,rfl⟩
  | some g=>obtain ⟨a,rfl⟩:=b.gnr.2.form;exact ⟨_,rfl,rfl⟩
theorem Vj {w:World} {F:Nat->Prop} {p:Option Addr} {x:Option Gnr} {g:Gnr} (i:Vb w F (.pointer p) x) (e:x=some g) :
    ∃ f a b c d r,p=some ⟨f,0,none⟩/\F f/\cellsAt w f 0 [a,b,c,d,r]/\Vb w F a g.t.vars/\Vb w F b g.t.init/\Vb w F c g.t.goal/\Vb w F d g.t.ops:=by
  subst e
  obtain ⟨_,f,a,b,c,d,r,h,h2,h3,h4,h5,h6,h7,_⟩:=i.gnr
  injection h with h
  exact ⟨f,a,b,c,d,r,h,h2,h3.cellsAt,h4,h5,h6,h7⟩
theorem Acc {w:World} {F:Nat->Prop} {v:Value} {g:Gnr} (b:TaskOk g.t) (a:GenR w F v g.t (Y6 g.t)):Vb w F v (some g):=⟨v,rfl,b,a⟩
theorem WV {A:Nat->Prop} {w w':World}:∀ k,nw w w' k->upA A w w' k:=λ _ a=>.inr a
theorem Own.intRow {w w':World} {F A:Nat->Prop} {e:TypeId} {v:Value} {xs:List Int} (a:Own w' w.heap.size F e v xs):RowR w w' (upA A w w') e v xs:=by
  obtain ⟨cells,q1,q2,q3⟩:=a
  exact ⟨λ _=>False,λ _ a=>a.elim,cells,q1,JA q2,λ _ _ a=>a⟩
noncomputable def Gq (t:Tsk):Option (Option Gnr×Err):=some (if bof (TaskOk t)=true then some ⟨t⟩ else none,⟨V3 t⟩)
theorem Ps {w:World} {A:Nat->Prop} (hA:∀ k,A k->k < w.heap.size) {d:Value} {b:Tsk} (e:Vb w A d b) {r:Option Gnr×Err} (hm:Gq b=some r):Fn prog 19 [d] w λ v w'=>Ext w w'/\T2 w' (upA A w w') v r:=by
  obtain rfl:=sm hm
  refine (AbW (e.mono hA)).mono λ v w' f=>⟨f.1,?_⟩
  rcases f.2 with ⟨a,gv,rfl,hg⟩|⟨c,rfl⟩
  . rw [Bk a,EO.2 a]
    exact ⟨gv,_,rfl,Acc (g:=⟨b⟩) a (hg.mono WV),vErr0⟩
  . rw [AY c]
    exact ⟨_,_,rfl,Ab4,vErr (Nn _)⟩
noncomputable def Ach:Option Gnr->List Int->List Int
  | none,_=>[]
  | some g,s=>Y1 g.t s
noncomputable def Ek (x:Option Gnr) (s:List Int):Option (List Int):=if s.length<=1000000 then some (Ach x s) else none
theorem HB {w:World} {A:Nat->Prop} (hA:∀ k,A k->k < w.heap.size) {a:Value} {b:Option Gnr} (d:Vb w A a b) {e:Value} {f:List Int} (h:Vb w A e f) {r:List Int} (hm:Ek b f=some r) :
    Fn prog 56 [a,e] w λ v w'=>Ext w w'/\RowR w w' (upA A w w') 3 v r:=by
  obtain ⟨hl,rfl⟩:=EM hm
  cases b with
  | none =>
    have i:=d.gnr
    have:a=.pointer none:=i
    subst this
    refine AaG.mono λ v w' j=>⟨j.2,?_⟩
    rw [j.1];exact RowR.nil
  | some g =>
    obtain ⟨c,hg⟩:=d.gnr
    exact (Ab9 c (hg.mono hA) (h.mono hA) hl).mono λ v w' j=>⟨j.1,j.2.intRow⟩
end
section
section
variable {α σ ρ : Type}
theorem BB {s:σ} {f:σ->Option ρ}:fin (.done s) f=f s:=rfl
theorem Ny {c:ρ} {f:σ->Option ρ}:fin (.ret c) f=some c:=rfl
theorem BS {x y:α}:(if true=true then x else y)=x:=rfl
theorem CA {x y:α}:(if false=true then x else y)=y:=rfl
theorem Lk {f:Nat→α→σ→Option (Ctl σ ρ)} {I:Nat→σ→Prop} {R:ρ→Prop}:∀ (ys:List α) (j:Nat) (s:σ),I j s →
    (∀ k x s,ys[k]?=some x->I (j + k) s->(∃ a,f (j + k) x s=some (.next a)/\I (j + k + 1) a)\/(∃ r,f (j + k) x s=some (.ret r)/\R r)) ->
    (∃ a,rng f ys j s=some (.done a)/\I (j + ys.length) a)\/∃ r,rng f ys j s=some (.ret r)/\R r
  | [],j,s,c,_=>.inl ⟨s,rfl,c⟩
  | y :: ys,j,s,c,g=>by
    rcases g 0 y s rfl c with ⟨a,h1,h2⟩|⟨r,h1,h2⟩
    . have b:f j y s=some (.next a):=h1
      simp only [rng,b]
      rcases Lk (I:=I) (R:=R) ys (j + 1) a h2 (λ k x s hk e=>by
        have:=g (k + 1) x s (by simpa using hk) (by rwa [show j + (k + 1)=j + 1 + k from by omega])
        rwa [show j + (k + 1)=j + 1 + k from by omega] at this) with ⟨d,h3,h4⟩|h3
      . exact .inl ⟨d,h3,by rw [J5,show j + (ys.length + 1)=j + 1 + ys.length from by omega];exact h4⟩
      . exact .inr h3
    . have b:f j y s=some (.ret r):=h1
      simp only [rng,b]
      exact .inr ⟨r,rfl,h2⟩
theorem Og {f:Nat->α->σ->Option (Ctl σ ρ)} {xs:List α} {s₀:σ} (I:Nat->σ->Prop) (R:ρ->Prop) (c:I 0 s₀)
    (d:∀ k x s,xs[k]?=some x->I k s->(∃ a,f k x s=some (.next a)/\I (k + 1) a)\/(∃ r,f k x s=some (.ret r)/\R r)) :
    (∃ a,rng f xs 0 s₀=some (.done a)/\I xs.length a)\/∃ r,rng f xs 0 s₀=some (.ret r)/\R r:=by
  have:=Lk (f:=f) (I:=I) (R:=R) xs 0 s₀ c (λ k x s hk b=>by rw [N4] at b ⊢;exact d k x s hk b)
  rwa [N4] at this
theorem Dw {f:Nat->α->σ->Option (Ctl σ ρ)} {xs:List α} {s₀:σ} (I:Nat->σ->Prop) (b:I 0 s₀) (d:∀ k x s,xs[k]?=some x->I k s->∃ a,f k x s=some (.next a)/\I (k + 1) a) :
    ∃ a,rng f xs 0 s₀=some (.done a)/\I xs.length a:=by
  rcases Og I (λ _=>False) b (λ k x s hk c=>.inl (d k x s hk c)) with d|⟨_,_,d⟩
  . exact d
  . exact d.elim
theorem Oh {f:Nat->α->σ->Option (Ctl σ ρ)} {xs:List α} (g:Nat->σ) (c:∀ k x,xs[k]?=some x->f k x (g k)=some (.next (g (k + 1)))):rng f xs 0 (g 0)=some (.done (g xs.length)):=by
  obtain ⟨b,h1,h2⟩:=Dw (f:=f) (xs:=xs) (s₀:=g 0) (λ k s=>s=g k) rfl (λ k x s hk a=>⟨_,by rw [a];exact c k x hk,rfl⟩)
  rw [h1,h2]
theorem Fp {f:Nat->α->σ->Option (Ctl σ ρ)} {xs:List α} {s₀:σ} (g:Nat->σ) (a:s₀=g 0) (b:∀ k x,xs[k]?=some x->f k x (g k)=some (.next (g (k + 1)))):rng f xs 0 s₀=some (.done (g xs.length)):=by
  rw [a];exact Oh g b
theorem Vk {f:Nat->α->Unit->Option (Ctl Unit ρ)} {xs:List α} (a:∀ k x,xs[k]?=some x->f k x ()=some (.next ())):rng f xs 0 ()=some (.done ()):=Oh (λ _=>()) a
theorem Vl {f:Nat->σ->Option (Ctl σ ρ)} {N:Nat} (g:Nat->σ) (a:∀ k,k < N->f k (g k)=some (.next (g (k + 1)))):ZA f N (g 0)=some (.done (g N)):=by
  have:=Oh (f:=λ _ k s=>f k s) (xs:=List.range N) g (λ k x hk=>by
    obtain ⟨hlt,rfl⟩:=B6.1 hk
    simpa using a k (by simpa using hlt))
  rwa [J1] at this
theorem Ll {f:Nat->σ->Option (Ctl σ ρ)} {N:Nat} {s₀:σ} (g:Nat->σ) (a:s₀=g 0) (b:∀ k,k < N->f k (g k)=some (.next (g (k + 1)))):ZA f N s₀=some (.done (g N)):=by
  rw [a];exact Vl g b
theorem Vm {f:Nat->σ->Option (Ctl σ ρ)} {N:Nat} {s₀:σ} (I:Nat->σ->Prop) (b:I 0 s₀) (d:∀ k s,k < N->I k s->∃ a,f k s=some (.next a)/\I (k + 1) a) :
    ∃ a,ZA f N s₀=some (.done a)/\I N a:=by
  have:=Dw (f:=λ _ k s=>f k s) (xs:=List.range N) (s₀:=s₀) I b (λ k x s hk c=>by
    obtain ⟨hlt,rfl⟩:=B6.1 hk
    simpa using d k s (by simpa using hlt) c)
  rwa [J1] at this
end
end
section
open Go Go.RowKit
theorem TR {vars:List Int} (a:∀ (i:Nat) n,vars[i]?=some n->0<=n/\n<=64) (hb:∀ k,(statesL (vars.take k)).length<=1000000) (d:vars.length<=1000):ES vars=some (statesL vars):=by
  unfold ES
  rw [Fp (λ k=>statesL (vars.take k)) ?_ ?_]
  . rw [Ar,BB,K4]
  . rfl
  intro k n hn
  obtain ⟨N,rfl⟩:=D0 (a k n hn).1
  have g:=(a k _ hn).2
  have hk:=AD hn
  have b:=hb k
  rw [Fp (λ i=>((statesL (vars.take k)).take i).flatMap (X0 N)) ?_ ?_]
  . rw [Ar,BB,K4,HA hn];rfl
  . rfl
  intro i s hs
  have e:=Rl vars k (by omega) s (F9 hs)
  have f:=Ld N ((statesL (vars.take k)).take i)
  have c:((statesL (vars.take k)).take i).length * N<=1000000 * 64:=M6 (by rw [K0];omega) (by omega)
  rw [NU,Ar,Ll (λ x=>((statesL (vars.take k)).take i).flatMap (X0 N) ++ X0 x s) ?_ ?_]
  . rw [Ar,BB,TL _ hs]
  . simp [X0]
  intro x h
  rw [Cu (by simp;omega) (by simp;omega),Ar,Cu (by simp;omega) (by simp;omega),Ar,Cu (by simp only [H2,HL,F2];omega) (by simp only [H2,HL,F2];omega),Ar,TK]
  simp
theorem Lm {t:Tsk} (a:Mid t):ES t.vars=some (statesL t.vars) :=
  TR (λ i n hn=>by have:=a.ok.vars i n hn;omega) (λ k=>by have:=a.states k;omega) (by have:=a.ok.1;omega)
end
section
open Go Go.RowKit
theorem IU (f:List Fct) (s:List Int):EF f s=some (holdsB f s):=rfl
theorem Ql {ρ:Type} {s:List Int} {a:List Eff} (he:AaL s a) (m:List Fct->List Int->Option Bool) (hm:∀ f s,m f s=some (holdsB f s)) (u:List Int) (hu:u.length=s.length) :
    rng (ρ:=ρ) (λ (_:Nat) (e:Eff) (b:List Int)=>bnd (m e.cond s) λ q=>if q=true then bnd (atI b e.var) λ _=>some (.next (b.set (e.var).toNat e.val)) else some (.next b)) a 0 u=some (.done (effsOn s a u)):=by
  rw [Fp (λ k=>effsOn s (a.take k) u) ?_ ?_,K4]
  . rfl
  intro k e hk
  rw [hm,Ar,Rq s hk]
  have c:=he k e hk
  have hl:=KI s (a.take k) u
  by_cases hb:holdsB e.cond s=true
  . rw [if_pos hb,if_pos hb]
    obtain ⟨j,hj⟩:=D0 c.1
    rw [hj,Bd,C4 (by omega),Ar]
  . rw [if_neg hb,if_neg hb]
theorem Vn {t:Tsk} {s:List Int} {j:Nat} {o:Opr} (a:t.ops[j]?=some o) (b:holdsB o.pre s=true) (hl:s.length<=1000000) (he:AaL s o.effs):Ds t s (j:Int)=some (succ o s,true):=by
  have hj:=AD a
  unfold Ds
  rw [if_neg (by omega),if_neg (by omega),Bd,a,Ar,IU,Ar,b,BS,Ar,CA,Cu (by simp;omega) (by simp;omega),Ar,Ar,L3,Ql he EF IU s rfl,Ar,BB]
  rfl
theorem ON {vars s:List Int}:∀ (l:List Eff),(∀ e∈l,Y4 vars e)→∀ (u:List Int),StateOk vars u→StateOk vars (effsOn s l u)
  | [],_,_,hu=>hu
  | e :: l,he,u,hu=>by
    refine ON l (λ b c=>he b (F8 _ c)) _ ?_
    split
    . obtain ⟨_,h1,h2,y,hy,h3⟩:=he e H8
      refine ⟨by rw [L5];exact hu.1,λ i x n a hn=>?_⟩
      rw [I5] at a
      by_cases hi:e.var.toNat=i
      . subst hi
        rw [if_pos rfl] at a
        split at a
        . obtain rfl:=L1 a
          simp only at hy h2 h3
          rw [hy] at hn
          obtain rfl:=L1 hn
          exact ⟨h2,h3⟩
        . cases a
      . rw [if_neg hi] at a
        exact hu.2 i x n a hn
    . exact hu
theorem GL {t:Tsk} (b:TaskOk t) {s:List Int} (hs:StateOk t.vars s) {k:Nat} {o:Opr} (a:t.ops[k]?=some o):StateOk t.vars (succ o s) :=
  ON o.effs (λ e he=>by obtain ⟨j,hj⟩:=G3 he;exact (b.2.2.2.2.2 k o a).2.2.2.2.2 j e hj) s hs
theorem OO {t:Tsk} (c:TaskOk t) {s:List Int} (hs:StateOk t.vars s) {k:Nat} {o:Opr} (a:t.ops[k]?=some o):Ds t s (k:Int)=some (if holdsB o.pre s=true then (succ o s,true) else ([],false)):=by
  have hk:=AD a
  by_cases b:holdsB o.pre s=true
  . rw [Vn a b (by have:=hs.1;have:=c.1;omega) (c.effs hs k o a),if_pos b]
  . unfold Ds
    rw [if_neg (by omega),if_neg (by omega),Bd,a,Ar,IU,Ar,if_neg b,if_neg b,Ar,BS]
theorem ME {n:Nat} (hn:0 < n):∀ (l:List (List Int)) (q:Nat),(l.flatMap (X0 n))[q]?=(l[q / n]?).map (· ++ [((q % n:Nat):Int)])
  | [],q=>by simp
  | a :: l,q=>by
    rw [I7]
    by_cases b:q < n
    . rw [B8 (by rw [HL];exact b),Nat.div_eq_of_lt b,K6 b]
      simp [X0,b]
    . rw [B4 (by rw [HL];omega),HL,ME hn l (q - n)]
      obtain ⟨r,rfl⟩:∃ r,q=r + n:=⟨q - n,by omega⟩
      rw [Nat.add_sub_cancel,Nat.add_div_right _ hn,Nat.add_mod_right]
      simp
theorem Nz {vars:List Int} (hv:∀ (i:Nat) n,vars[i]?=some n->1<=n):∀ (k:Nat),k<=vars.length->∀ (i j:Nat) (s:List Int),(statesL (vars.take k))[i]?=some s->(statesL (vars.take k))[j]?=some s->i=j
  | 0,_,i,j,s,h1,h2=>by
    have a:=AD h1
    have b:=AD h2
    simp [statesL] at a b
    omega
  | k + 1,hk,i,j,s,h1,h2=>by
    obtain ⟨n,hn⟩:=AG (l:=vars) (k:=k) (by omega)
    have c:=hv k n hn
    rw [HA hn] at h1 h2
    unfold Z8 at h1 h2
    rw [ME (by omega)] at h1 h2
    obtain ⟨p,hp,rfl⟩:=D6.1 h1
    obtain ⟨g,hp',e⟩:=D6.1 h2
    obtain ⟨a,b⟩:=List.append_inj' e rfl
    subst a
    have:=Nz hv k (by omega) _ _ _ hp hp'
    have d:j % n.toNat=i % n.toNat:=by
      have:=List.singleton_inj.1 b
      omega
    have f:=Nat.div_add_mod i n.toNat
    have h:=Nat.div_add_mod j n.toNat
    rw [this,<- d] at f
    omega
theorem Ry {t:Tsk} (c:TaskOk t) {i j:Nat} {s:List Int} (a:(statesL t.vars)[i]?=some s) (b:(statesL t.vars)[j]?=some s):i=j:=by
  have:=Nz (vars:=t.vars) (λ i n hn=>(c.vars i n hn).1) t.vars.length (P1 _) i j s
  rw [K4] at this
  exact this a b
theorem Oi {t:Tsk} (w:Mid t) {s:List Int} (hs:StateOk t.vars s):∃ i:Nat,Fe t.vars s=some (i:Int)∧(statesL t.vars)[i]?=some s:=by
  unfold Fe
  obtain ⟨r,h1,i,rfl,h2⟩:=Dw (ρ:=Int) (f:=λ (b:Nat) (c:Int) (j:Int)=>bnd (t.vars[b]?) λ d=>bnd (Q1 (j * d)) λ e=>bnd (Q1 (e + c)) λ g=>some (.next g)) (xs:=s) (s₀:=0) (λ k r=>∃ i:Nat,r=(i:Int)/\(statesL (t.vars.take k))[i]?=some (s.take k)) ⟨0,rfl,by simp [statesL]⟩ (λ k x r hk m=>by
    obtain ⟨i,rfl,hi⟩:=m
    have hlt:=AD hk
    obtain ⟨n,hn⟩:=AG (l:=t.vars) (k:=k) (by rw [<- hs.1];exact hlt)
    have o:=w.ok.vars k n hn
    obtain ⟨h,hx2⟩:=hs.2 k x n hk hn
    obtain ⟨x,rfl⟩:=D0 h
    obtain ⟨n,rfl⟩:=D0 (by omega:0<=n)
    have a:(statesL (t.vars.take (k + 1)))[i * n + x]?=some (s.take (k + 1)):=by
      rw [HA hn]
      show ((statesL (t.vars.take k)).flatMap (X0 ((n:Int)).toNat))[i * n + x]?=_
      rw [show ((n:Int)).toNat=n from by omega,ME (by omega)]
      have p:(i * n + x) / n=i:=by
        rw [Nat.mul_comm,Nat.mul_add_div (by omega),Nat.div_eq_of_lt (by omega)];omega
      have q:(i * n + x) % n=x:=by
        rw [Nat.mul_comm,Nat.mul_add_mod,K6 (by omega)]
      rw [p,q,hi,I6,hk];rfl
    have hb:=AD a
    have u:=w.states (k + 1)
    have v:(i:Int) * (n:Int)=((i * n:Nat):Int):=by simp
    rw [hn,Ar,v,BZ (by unfold P9;omega),Ar,BZ (by unfold P9;omega),Ar]
    exact ⟨_,rfl,i * n + x,by omega,a⟩)
  rw [K4,hs.1,K4] at h2
  exact ⟨i,by rw [h1,Ar,BB],h2⟩
def AaN (t:Tsk) (e:Edg):Prop:=∃ (i k j:Nat) (s:List Int) (o:Opr),e=⟨i,k,j⟩/\(statesL t.vars)[i]?=some s/\t.ops[k]?=some o/\holdsB o.pre s=true/\(statesL t.vars)[j]?=some (succ o s)
theorem Vo {t:Tsk} (N:Mid t):∃ w,GB t=some w∧∀ e,e∈w↔AaN t e:=by
  have F:(statesL t.vars).length<=600:=by have:=N.states t.vars.length;rwa [K4] at this
  have G:=N.ops
  have x:∀ {i H:Nat} {s:List Int},(statesL t.vars)[i]?=some s->(statesL t.vars)[H]?=some s->i=H:=λ A I=>Ry N.ok A I
  unfold GB
  rw [Lm N,Ar]
  obtain ⟨w,  A,I,h3⟩:=Dw (ρ:=List Edg) (f:=λ (B:Nat) (C:List Int) (D:(List Edg))=>bnd (rng (ρ:=Ctl (List Edg) (List Edg)) (λ (d:Nat) (_:Opr) (g:(List Edg))=>bnd (Ds t C (d:Int)) λ h=>if h.2=true then (bnd (Fe t.vars h.1) λ u=>bnd (R8 24 g [(⟨(B:Int),(d:Int),u⟩:Edg)]) λ l=>some (.next l)) else (some (.next g))) t.ops 0 D) λ v=>fin v λ (y:(List Edg))=>some (.next y)) (xs:=statesL t.vars) (s₀:=[])
    (λ n q=>q.length<=n * 80/\∀ e,e∈q↔AaN t e/\e.src < (n:Int)) ⟨by simp,λ e=>⟨λ he=>by simp at he,λ ⟨⟨i,_,_,_,_,hE,_⟩,hlt⟩=>by subst hE;simp only at hlt;omega⟩⟩ (λ n s q hn E=>by
      obtain ⟨L,i2⟩:=E
      have J:=AD hn
      have hs:StateOk t.vars s:=GY.1 (F9 hn)
      obtain ⟨w,g1,g2,g3⟩:=Dw (ρ:=Ctl (List Edg) (List Edg)) (f:=λ (d:Nat) (_:Opr) (g:(List Edg))=>bnd (Ds t s (d:Int)) λ h=>if h.2=true then (bnd (Fe t.vars h.1) λ u=>bnd (R8 24 g [(⟨(n:Int),(d:Int),u⟩:Edg)]) λ l=>some (.next l)) else (some (.next g))) (xs:=t.ops) (s₀:=q)
        (λ m p=>p.length<=n * 80 + m/\∀ e,e∈p↔AaN t e/\(e.src < (n:Int)\/e.src=(n:Int)/\e.op < (m:Int))) ⟨by omega,λ e=>by
          rw [i2]
          constructor
          . rintro ⟨a,b⟩;exact ⟨a,.inl b⟩
          . rintro ⟨a,b|⟨b,c⟩⟩
            . exact ⟨a,b⟩
            . obtain ⟨i,k,j,s',o,rfl,_⟩:=a
              simp at c;omega⟩ (λ m o p hm E=>by
          obtain ⟨M,j2⟩:=E
          have K:=AD hm
          rw [OO N.ok hs hm,Ar]
          by_cases z:holdsB o.pre s=true
          . obtain ⟨r,hr,hr2⟩:=Oi N (GL N.ok hs hm)
            rw [if_pos z,BS,hr,Ar,Cu (by simp;omega) (by simp;omega),Ar]
            refine ⟨_,rfl,by simp;omega,λ e=>?_⟩
            rw [K9,j2]
            constructor
            . rintro (⟨a,b⟩|hmem)
              . refine ⟨a,?_⟩
                rcases b with b|⟨b,c⟩
                . exact .inl b
                . exact .inr ⟨b,by omega⟩
              . obtain rfl:e=⟨(n:Int),(m:Int),(r:Int)⟩:=by simpa using hmem
                exact ⟨⟨n,m,r,s,o,rfl,hn,hm,z,hr2⟩,.inr ⟨rfl,by simp;omega⟩⟩
            . rintro ⟨a,b⟩
              obtain ⟨i,k,j,s',o',rfl,a1,a2,a3,a4⟩:=a
              simp only at b
              by_cases hc:i=n/\k=m
              . obtain ⟨rfl,rfl⟩:=hc
                obtain rfl:s'=s:=by rw [hn] at a1;exact (L1 a1).symm
                obtain rfl:o'=o:=by rw [hm] at a2;exact (L1 a2).symm
                obtain rfl:=x a4 hr2
                exact .inr (by simp)
              . exact .inl ⟨⟨i,k,j,s',o',rfl,a1,a2,a3,a4⟩,by simp only;omega⟩
          . rw [if_neg z]
            refine ⟨_,if_neg (by simp),by omega,λ e=>?_⟩
            rw [j2]
            constructor
            . rintro ⟨a,b⟩
              refine ⟨a,?_⟩
              rcases b with b|⟨b,c⟩
              . exact .inl b
              . exact .inr ⟨b,by omega⟩
            . rintro ⟨a,b⟩
              obtain ⟨i,k,j,s',o',rfl,a1,a2,a3,a4⟩:=a
              simp only at b
              by_cases hc:i=n/\k=m
              . obtain ⟨rfl,rfl⟩:=hc
                obtain rfl:s'=s:=by rw [hn] at a1;exact (L1 a1).symm
                obtain rfl:o'=o:=by rw [hm] at a2;exact (L1 a2).symm
                exact absurd a3 z
              . exact ⟨⟨i,k,j,s',o',rfl,a1,a2,a3,a4⟩,by simp only;omega⟩)
      rw [g1,Ar,BB]
      refine ⟨_,rfl,by omega,λ e=>?_⟩
      rw [g3]
      constructor
      . rintro ⟨a,b⟩
        exact ⟨a,by rcases b with b|⟨b,_⟩<;>omega⟩
      . rintro ⟨a,b⟩
        refine ⟨a,?_⟩
        obtain ⟨i,k,j,s',o',rfl,a1,a2,a3,a4⟩:=a
        simp only at b ⊢
        have:=AD a2
        omega)
  refine ⟨w,by rw [A,Ar,BB],λ e=>?_⟩
  rw [h3]
  refine ⟨λ a=>a.1,λ a=>⟨a,?_⟩⟩
  obtain ⟨i,k,j,s',o',rfl,a1,a2,a3,a4⟩:=a
  have:=AD a1
  simp only;omega
end
section
open Go Go.RowKit
section
attribute [local irreducible] ewp owp hwp hwq hws Ev Evg Fn Q4 R7 R2 Q9
noncomputable def Cc (o:Option Gnr) (j:List Int):Option (List Suc) :=
  bnd (Ek o j) λ r=>bnd (rng (ρ:=(List Suc)) (λ (s:Nat) (e:Int) (k:(List Suc))=>bnd (BW j) λ l=>bnd (o) λ m=>bnd (atI m.t.ops e) λ n=>bnd (rng (ρ:=Ctl (List Suc) (List Suc)) (λ (p:Nat) (a:Eff) (b:(List Int))=>bnd (Gb a.cond j) λ f=>if f=true then bnd (atI b a.var) λ q=>some (.next (b.set (a.var:Int).toNat a.val)) else some (.next b)) n.effs 0 l) λ c=>fin c λ (g:(List Int))=>bnd (R8 32 k [(⟨e,g⟩:Suc)]) λ h=>some (.next h)) r 0 ([]:List Suc)) λ d=>fin d λ (i:(List Suc))=>some i
theorem HC {w:World} {A:Nat->Prop} (hA:∀ k,A k->k < w.heap.size) {vx0:Value} {x0:Option Gnr} (d0:Vb w A vx0 x0) {vx1:Value} {x1:List Int} (o1:Vb w A vx1 x1) {r:(List Suc)} (hm:Cc x0 x1=some r) :
    Fn prog 25 [vx0,vx1] w λ v w'=>Ext w w'/\Vb w' (upA A w w') v r:=by
 obtain ⟨O,hB,n3⟩:=enter hA
 replace d0:=d0.mono n3
 obtain ⟨p3,rfl,o3⟩:=d0.ptr
 obtain ⟨A5,c6,rfl⟩:=o1.form
 refine AK func25 rfl ntmps25 ?_
 unfold Cc at hm
 refine Am (Ah (Au rfl (o_z (Am (Ah (Au rfl (o_z (Am (Am (Ah (At rfl (At rfl ?_))))))))))))
 obtain ⟨q7,e8,hm⟩:=bs hm
 refine FF 2 (O:=O) (HB Fr.lt d0 (o1.zs hA hB) e8) rfl rfl λ p1 q1 w9 q3 f3 j0=>?_
 refine AU rfl ?_
 have w1:=Cv j0.len
 have s5:=rngNat w1
 refine At rfl (o_z ?_)
 obtain ⟨g3,y1,hm⟩:=bs hm
 replace d0:=d0.st f3
 replace hB:=hB.st f3
 refine EB (X:=(Option Addr×Nat)) (q7.length) y1 rfl w1 (λ q0 n0=>[(0,(.pointer p3)),(1,(.slice A5 x1.length c6)),(5,(.slice n0.1 q0.length n0.2)),(13,(.slice p1 q7.length q1))]) (λ q0 n0 w'=>∃ O':Lab,Bs w A w' O'/\Vb w' (Fr 0 w' O') (.pointer p3) x0/\Rw 5 w' O' 89 (.slice n0.1 q0.length n0.2) q0/\Rw 2 w' O' 3 (.slice p1 q7.length q1) q7) (none,0) ⟨q3,hB,d0,(Rw.nil 5 (by decide)),j0⟩ ⟨rfl,rfl,rfl,rfl,rfl,rfl,trivial⟩ (λ _ _=>rfl) ?_ ?_
 ·
  rintro r3 r1 q0 n0 t5 s3 y0 ⟨t3,hB,d0,h0,j0⟩ b0 z1 a2
  have rk23:=U9 y0 w1
  refine Am (Ah ?_)
  obtain ⟨u5,v5,u3,b2,c2,d2,rfl,v3⟩:=j0.elem y0
  refine CZ (hA:=b2) (hj:=rfl) (hlt:=c2) rfl rfl (AQ (hc:=cat0 d2) rfl (Au rfl (o_z (Am (Ah (At rfl ?_))))))
  obtain ⟨e2,w3,b0⟩:=bs b0
  refine FF 3 (O:=t3) (Es Fr.lt (o1.zs hA hB) w3) rfl rfl λ f2 g2 w5 x3 s1 y3=>?_
  refine Au rfl (o_z (Am (Am (Ah (At rfl ?_)))))
  obtain ⟨x5,h3,b0⟩:=bs b0
  obtain ⟨ad59,h2⟩:=NT (o3.trans (by rw [h3];rfl))
  refine YO (hA:=h2) rfl rfl ?_
  replace d0:=d0.st s1
  obtain ⟨y5,z5,a6,b6,d6,e6,i2,z3,j2,a4,b4,c4,i3⟩:=Vj d0 h3
  obtain ⟨f6,g6,rfl⟩:=a4.form
  obtain ⟨h6,i6,rfl⟩:=b4.form
  obtain ⟨j6,k6,rfl⟩:=c4.form
  obtain ⟨l6,m6,rfl⟩:=i3.form
  refine YN (hA:=i2) rfl rfl (AO rfl (AQ (hc:=cat3 j2) rfl (At rfl ?_)))
  obtain ⟨t1,d4,b0⟩:=bs b0
  obtain ⟨e4,f4⟩:=Br d4
  obtain ⟨n6,o6,g4,k2,l2,m2,p6,h4,rfl,n2,e0,i4,j4⟩:=i3.elem' f4
  obtain ⟨k4,l4,rfl⟩:=n2.form
  obtain ⟨z0,a1,rfl⟩:=e0.form
  refine CZ (hA:=k2) (hj:=e4) (hlt:=l2) rfl rfl (AO rfl (AQ (hc:=cat3 m2) rfl (AU rfl ?_)))
  have t0:=Cv e0.len
  have m4:=rngNat t0
  refine At rfl (o_z ?_)
  obtain ⟨o2,b1,b0⟩:=bs b0
  replace hB:=hB.st s1
  replace j0:=j0.st s1
  replace h0:=h0.st s1
  refine EB (X:=Unit) (t1.effs.length) b1 rfl t0 (λ u0 c1=>[(0,(.pointer p3)),(1,(.slice A5 x1.length c6)),(5,(.slice n0.1 q0.length n0.2)),(7,(.int .i64 r1)),(8,(.slice f2 e2.length g2)),(13,(.slice p1 q7.length q1)),(14,(.int .i64 (q7.length:Int))),(15,(.int .i64 (r3:Int))),(29,(.slice z0 t1.effs.length a1))]) (λ u0 c1 w'=>∃ O':Lab,Bs w A w' O'/\Vb w' (Fr 0 w' O') (.pointer p3) x0/\Rw 5 w' O' 89 (.slice n0.1 q0.length n0.2) q0/\Rw 3 w' O' 3 (.slice f2 e2.length g2) u0/\Rw 2 w' O' 3 (.slice p1 q7.length q1) q7/\Vb w' (Fr 0 w' O') (.slice z0 t1.effs.length a1) t1.effs) () ⟨x3,hB,d0,h0,y3,j0,e0⟩ ⟨rfl,rfl,rfl,rfl,rfl,rfl,rfl,rfl,rfl,rfl,rfl,trivial⟩ (λ _ _=>rfl) ?_ ?_
  ·
   rintro n4 p2 u0 c1 o4 j3 r0 ⟨q2,hB,d0,h0,c0,j0,e0⟩ a0 u1 v1
   have rk115:=U9 r0 t0
   refine Am (Ah ?_)
   obtain ⟨p4,q4,k3,d1,e1,f1,r4,rfl,o0,s4,r2⟩:=e0.elem' r0
   obtain ⟨t4,u4,rfl⟩:=o0.form
   refine CZ (hA:=d1) (hj:=rfl) (hlt:=e1) rfl rfl (BH (hl:=rfl) (hc:=f1) rfl ?_)
   refine BL 4 q2 λ v4 w4 g1 l0 g0=>?_
   refine AT g0 rfl rfl rfl (Bf) (allOne) λ s2 m0 g0=>?_
   refine o_z (Am (Ah (AO rfl (AQ (hc:=Blk.cell (i:=0) (g0.1) rfl) rfl (At rfl ?_)))))
   obtain ⟨t2,u2,a0⟩:=bs a0
   replace hB:=(hB.st l0).st m0
   replace o0:=(o0.st l0).st m0
   refine Du (O:=g1) (Lb (λ _ h=>h) (vMo o0) (Vb.mono (F:=Fr 0 s2 g1) (o1.zs hA hB) Fr.lt) u2) rfl λ x4 y4 z4 k0 v2=>?_
   obtain rfl:=v2.bool
   cases t2
   case false =>
    replace a0:=iF a0
    refine o_z (Ae rfl (AN ?_))
    obtain rfl:=sm a0
    have f0:=(l0.an m0).an k0
    exact show Exists _ from ⟨_,(),rfl,⟨rfl,rfl,rfl,rfl,rfl,rfl,rfl,rfl,rfl,rfl,rfl,trivial⟩,_,hB.st k0,d0.st f0,h0.st f0,c0.st f0,j0.st f0,e0.st f0⟩
   replace a0:=iT a0
   refine o_z (Aj rfl (Ah (At rfl (AO rfl ?_))))
   replace g0:=g0.st k0
   refine AQ (hc:=Blk.cell (i:=1) (g0.1) rfl) rfl (AO rfl (AQ (hc:=Blk.cell (i:=2) (g0.1) rfl) rfl ?_))
   obtain ⟨a5,w2,a0⟩:=bs a0
   obtain ⟨x2,h1⟩:=Br w2
   replace c0:=((c0.st l0).st m0).st k0
   obtain ⟨b5,c5,l3,s0,i1,m3,rfl,d5⟩:=c0.elem h1
   refine CZ (hA:=s0) (hj:=x2) (hlt:=i1) rfl rfl ?_
   refine Fi rfl c0 (a:=p2.val) (vInt r2) s0 rfl rfl (AD h1) λ e5 j1 c0=>?_
   refine o_z ?_
   obtain rfl:=sm a0
   have i0:=((l0.an m0).an k0).an j1
   exact show Exists _ from ⟨_,(),rfl,⟨rfl,rfl,rfl,rfl,rfl,rfl,rfl,rfl,rfl,rfl,rfl,trivial⟩,_,(hB.st k0).st j1,d0.st i0,h0.st i0,c0,j0.st i0,e0.st i0⟩
  rintro f5 g5 ⟨k1,h5,rfl,l1,i5,hB,d0,h0,c0,j0,e0⟩
  replace b0:=BF b0
  refine Bg _ l1 ?_
  refine Ah (At rfl (At rfl (At rfl (DU rfl rfl ?_))))
  obtain ⟨j5,p0,c0⟩:=c0.freeze
  obtain ⟨k5,v0,b0⟩:=bs b0
  obtain ⟨v0,y2,z2⟩:=Bt v0
  replace h0:=h0.st p0
  refine FE rfl (a:=(⟨r1,k1⟩:Suc)) h0 (Vb.ofAgg (cs:=[(.int .i64 r1),(.slice f2 e2.length g2)]) (x:=(⟨r1,k1⟩:Suc)) rfl ⟨_,rfl,c0,v3⟩) (λ _=>rfl) rfl y2 z2 ⟨rfl,rfl⟩ λ l5 a3 b3 m5 n5 w0 m1=>?_
  rw [<- v0] at m1 ⊢
  refine Au rfl (o_z ?_)
  obtain rfl:=sm b0
  exact show Exists _ from ⟨_,(a3,b3),rfl,⟨rfl,rfl,rfl,rfl,rfl,rfl,trivial⟩,_,(hB.st p0).st w0,(d0.st p0).st w0,m1,(j0.st p0).st w0⟩
 rintro o5 c3 ⟨p5,q5,rfl,n1,r5,hB,d0,h0,j0⟩
 replace hm:=BF hm
 refine Bg _ n1 ?_
 refine Am (Ah (At rfl (Au rfl (o_z (AM ?_)))))
 obtain ⟨d3,e3,h0⟩:=h0.freeze
 obtain rfl:=sm hm
 replace hB:=hB.st e3
 exact T8 rfl (Bc rfl) ⟨hB.ext,(Vb.mono (F:=Fr 0 c3 d3) h0 hB.out)⟩
end
theorem Vp {s:List Int} (hl:s.length<=1000000):BW s=some s:=if_pos ⟨by omega,by omega⟩
theorem WW {t:Tsk} {s:List Int} (a:TaskOk t) (hl:s.length<=1000000):Cc (some ⟨t⟩) s=some ((Y1 t s).map (Z4 t s)):=by
  have c:Ek (some ⟨t⟩) s=some (Y1 t s):=if_pos hl
  have d:=a.2.1
  have e:=Vi t s
  unfold Cc
  rw [c,Ar]
  rw [Fp (λ k=>((Y1 t s).take k).map (Z4 t s)) ?_ ?_,Ar,BB,K4]
  . rfl
  intro k x hk
  have f:=AD hk
  obtain ⟨b,hmem⟩:=Vh (F9 hk)
  obtain ⟨j,o,rfl,hj,hp⟩:=Qj hmem
  rw [Vp hl,Ar,Ar,Bd,hj,Ar,Ql (a.effs b j o hj) Gb (λ _ _=>rfl) s rfl,Ar,BB,Cu (by simp;omega) (by simp;omega),Ar,I6,hk,L9]
  simp [Z4,hj,succ]
theorem Ys {t:Tsk} (a:TaskOk t):Gq t=some (some ⟨t⟩,⟨0⟩):=by unfold Gq;rw [Bk a,BS,EO.2 a]
end
section
open Go Go.RowKit
attribute [local irreducible] ewp owp hwp hwq hws Ev Evg Fn Q4 R7 R2 Q9
structure Rsl where
  verdict:Int
  plan:List Int
  cost:Int
  expanded:Int
instance:Rp Rsl where
  isAgg:=true
  size:=4
  R w F cs x:=∃ a,cs=[.int .i64 x.verdict,a,.int .i64 x.cost,.int .i64 x.expanded]/\Vb w F a x.plan/\P9 x.verdict/\P9 x.cost/\P9 x.expanded
  len:=by rintro w F cs x ⟨a,rfl,h0,h1,h2,h3⟩;rfl
  one:=by rintro w F cs x ⟨a,rfl,h0,h1,h2,h3⟩ u hu;simp at hu;rcases hu with rfl|rfl|rfl|rfl<;>first|rfl|exact Vb.one rfl (by assumption)
  agree:=by rintro w w' F cs x ⟨a,rfl,h0,h1,h2,h3⟩ ha;exact ⟨a,rfl,h0.agree ha,h1,h2,h3⟩
  mono:=by rintro w F G cs x ⟨a,rfl,h0,h1,h2,h3⟩ ha;exact ⟨a,rfl,h0.mono ha,h1,h2,h3⟩
instance:El Rsl λ B d w O x G=>∀ (a:Option Addr) (b:Nat),P9 x.verdict->P9 x.cost->P9 x.expanded->Al B (.V (.slice a x.plan.length b) x.plan :: .V (.agg #[(.int .i64 x.verdict),(.slice a x.plan.length b),(.int .i64 x.cost),(.int .i64 x.expanded)]) x :: d) w O->G (.agg #[(.int .i64 x.verdict),(.slice a x.plan.length b),(.int .i64 x.cost),(.int .i64 x.expanded)]):=⟨λ e f k=>by
  have c:=f
  unfold Vb at c
  obtain ⟨cs,rfl,v1,rfl,h2,r5,r6,r7⟩:=c
  obtain ⟨a,b,rfl⟩:=h2.form
  exact k a b r5 r6 r7 ⟨h2,f,e⟩⟩
end
section
open Go Go.RowKit
attribute [local irreducible] ewp owp hwp hwq hws Ev Evg Fn Q4 R7 R2 Q9
attribute [local irreducible] hwx U0
noncomputable def Da (h:List Int):Option (List Int) :=
  bnd (Q1 ((h.length:Int) - 1)) λ i=>bnd (lop (ρ:=(List Int)) (λ (a:(List Int)×Int×Int)=>if a.2.1 < a.2.2 then (bnd (atI a.1 a.2.2) λ b=>bnd (atI a.1 a.2.1) λ d=>bnd (atI a.1 a.2.1) λ j=>bnd (atI (a.1.set (a.2.1:Int).toNat b) a.2.2) λ k=>bnd (Q1 (a.2.1 + 1)) λ e=>bnd (Q1 (a.2.2 - 1)) λ f=>some (.next (((a.1.set (a.2.1:Int).toNat b).set (a.2.2:Int).toNat d),e,f))) else (some (.brk (a.1,a.2.1,a.2.2)))) (h,0,i)) λ c=>fin c λ (g:(List Int)×Int×Int)=>some g.1
theorem IA {w:World} {O:Lab} {A0:Option Addr} {m0 c0 i0:Nat} {x0:List Int} (d0:Rw i0 w O 3 (.slice A0 m0 c0) x0) {r:(List Int)} (hm:Da x0=some r) :
    Fn prog 52 [(.slice A0 m0 c0)] w λ v w'=>∃ O',St (eT i0) w O w' O'/\Rw i0 w' O' 3 (.slice A0 m0 c0) r:=by
 obtain ⟨O0,hE,f1,g1⟩:=V0 (w:=w) (O:=O) d0.2.2
 obtain rfl:m0=x0.length:=d0.len.1
 have d0':=Rw.leave d0 f1 g1 (j:=2) (by decide)
 have hB:Bm w O0 w O0:=Bm.refl
 refine AK func52 rfl ntmps52 ?_
 unfold Da at hm
 refine Am (Ah (At rfl (AU rfl ?_)))
 have l3:=Cv d0'.len
 have r2:=rngNat l3
 obtain ⟨n4,e5,hm⟩:=bs hm
 have r6:=(BE e5)
 refine Hf (he:=e5) rfl rfl (Au rfl (Au rfl (o_z ?_)))
 obtain ⟨j0,h1,hm⟩:=bs hm
 refine Bi (aft j0 (λ (s9:(List Int)×Int×Int) (h0:Unit)=>[(0,(.slice A0 x0.length c0))]) (λ s9 h0 w'=>∃ O':Lab,Bm w O0 w' O'/\Rw 2 w' O' 3 (.slice A0 x0.length c0) s9.1/\P9 s9.2.1/\P9 s9.2.2)) ?_ ?_
 ·
  refine Bx (Ex (σ:=(List Int)×Int×Int) (X:=Unit) h1 (λ (s9:(List Int)×Int×Int) (h0:Unit)=>[(0,(.slice A0 x0.length c0)),(2,(.int .i64 s9.2.1)),(3,(.int .i64 s9.2.2))]) _ (λ s9 h0 w'=>∃ O':Lab,Bm w O0 w' O'/\Rw 2 w' O' 3 (.slice A0 x0.length c0) s9.1/\P9 s9.2.1/\P9 s9.2.2) _ () ⟨O0,hB,d0',(R0 0),r6⟩ ⟨rfl,rfl,rfl,trivial⟩ ?_)
  rintro s9 h0 k2 i1 ⟨j1,hB,b0,y0,z0⟩ a0 k0 e0
  refine Am (Am (Ah (At rfl (At rfl (Eq rfl rfl (λ l0=>?_) λ l0=>?_)))))
  ·
   replace a0:=ip a0 l0
   refine o_z (Aj rfl (AN (Am (Bx ?_))))
   refine Bl [(13,[2])] j1 ?_
   refine AH (fuel:=5) [] (AX [0,1,4,5,6,7,8,9,10,11,12]) rfl (AJ rfl rfl (AJ rfl rfl (AJ rfl rfl (AJ rfl rfl ?_))))
   obtain ⟨k1,l1,a0⟩:=bs a0
   obtain ⟨m1,n1⟩:=Br l1
   obtain ⟨l2,m2,o1,n0,o0,p0,q0,rfl,p1⟩:=b0.elemF n1
   refine BT (hA:=n0) (hj:=m1) (hlt:=p0) rfl rfl rfl (AZ (hc:=Jv o0 q0) rfl rfl (AJ rfl rfl (AJ rfl rfl ?_)))
   obtain ⟨q1,r1,a0⟩:=bs a0
   obtain ⟨s1,t1⟩:=Br r1
   obtain ⟨n2,o2,u1,r0,s0,t0,u0,rfl,v1⟩:=b0.elemF t1
   refine BT (hA:=r0) (hj:=s1) (hlt:=t0) rfl rfl rfl (AZ (hc:=Jv s0 u0) rfl rfl ?_)
   obtain ⟨p2,w1,a0⟩:=bs a0
   obtain ⟨x1,a1⟩:=Br w1
   obtain ⟨q2,s2,y1,f0,z1,v0,a2,rfl,t2⟩:=b0.elemF a1
   refine BT (hA:=f0) (hj:=x1) (hlt:=v0) rfl rfl rfl (AC ?_)
   refine AH (fuel:=3) [2] (AX [2,3]) rfl (AJ rfl rfl (AJ rfl rfl (AC (AF (i:=13) rfl ?_))))
   refine Fi rfl b0 (a:=k1) (vInt p1) f0 rfl rfl (AD a1) λ u2 b1 b0=>?_
   have hZ:=b1.lst [2] (λ _ h=>by cases h;decide)
   refine AV [] hZ ?_
   refine AH (fuel:=1) [] [(14,true)] rfl ?_
   obtain ⟨v2,b2,a0⟩:=bs a0
   obtain ⟨c2,c1⟩:=Br b2
   obtain ⟨w2,x2,d2,g0,e2,w0,f2,rfl,y2⟩:=b0.elemF c1
   refine BT (hA:=g0) (hj:=c2) (hlt:=w0) rfl rfl rfl (AC (AF (i:=15) rfl ?_))
   refine Fi rfl b0 (a:=q1) (vInt v1) g0 rfl rfl (AD c1) λ z2 g2 b0=>?_
   refine Bz (Ba (Ah (At rfl ?_)))
   obtain ⟨a3,d1,a0⟩:=bs a0
   have h2:=(BE d1)
   refine Fu (he:=d1) rfl rfl (At rfl ?_)
   obtain ⟨b3,e1,a0⟩:=bs a0
   have i2:=(BE e1)
   refine Hf (he:=e1) rfl rfl (Au rfl (Au rfl (o_z ?_)))
   obtain rfl:=sm a0
   exact show Exists _ from ⟨_,(),rfl,⟨rfl,rfl,rfl,trivial⟩,_,(hB.st b1).st g2,b0,h2,i2⟩
  replace a0:=im a0 l0
  refine o_z (Ae rfl (Cq ?_))
  obtain rfl:=sm a0
  exact show Exists _ from ⟨_,(),e0 _ rfl,⟨rfl,trivial⟩,_,hB,b0,y0,z0⟩
 rintro c3 d3 ⟨e3,f3,rfl,j2,g3,hB,b0,y0,z0⟩
 replace hm:=BF hm
 obtain rfl:=sm hm
 obtain ⟨O',hS',hz,hl⟩:=hE.leave (λ q=>if q=2 then i0 else 0) rfl hB
 exact W3 rfl  ⟨O',hS',(Rw.leave b0 hz (hl 2 (by decide) (by decide)) d0.2.2)⟩
end
end Go.Proofs.YtdlhmdckakbboaaGreatDoor

/- Own text: what the proof of wholeSymmetry_holds uses, part 3: rules, models and their proofs, plain laws. -/
import Derived.Test.YtonclmjaphieiaaGreatWSzB
set_option linter.unusedVariables false
set_option linter.unusedSimpArgs false
namespace Go.Proofs.YtonclmjaphieiaaGreat
open Go Go.RowKit Go.Proofs.Tryz
section
open Go Go.RowKit
attribute [local irreducible] ewp owp hwp hwq hws Ev Evg Fn X6 Y1 YZ YY
attribute [local irreducible] hwx Y6
structure Ngd where
  facts:List Fct
  dist:Int
instance:Rp Ngd where
  isAgg:=true
  size:=2
  R w F cs x:=∃a,cs=[a,.int .i64 x.dist]/\Vb w F a x.facts/\X2 x.dist
  len:=by rintro w F cs x ⟨a,rfl,h0,h1⟩;rfl
  one:=by rintro w F cs x ⟨a,rfl,h0,h1⟩ u hu;simp at hu;rcases hu with rfl|rfl<;>first|rfl|exact Vb.one rfl (by assumption)
  agree:=by rintro w w' F cs x ⟨a,rfl,h0,h1⟩ ha;exact⟨a,rfl,h0.agree ha,h1⟩
  mono:=by rintro w F G cs x ⟨a,rfl,h0,h1⟩ ha;exact⟨a,rfl,h0.mono ha,h1⟩
instance:Ec Ngd λg d w O i b o x G=>∀(a:Option Addr)(c:Nat),X2 x.dist->Al g (.C i b o [(.slice a x.facts.length c),(.int .i64 x.dist)] :: .V (.slice a x.facts.length c) x.facts :: .V (.agg #[(.slice a x.facts.length c),(.int .i64 x.dist)]) x::d) w O->G:=⟨λ{_ _ _ _ _ _ _ x _ _} j e hc h k=>by
  have hv:=Vb.ofAgg (x:=x) rfl h;obtain⟨f,rfl,h2,r5⟩:=h;obtain⟨a,c,rfl⟩:=h2.form;exact k a c r5 ⟨⟨e,hc⟩,h2,hv,j⟩⟩
structure Crt where
  bound:Int
  nogoods:List Ngd
instance:Rp Crt where
  isAgg:=true
  size:=2
  R w F cs x:=∃a,cs=[.int .i64 x.bound,a]/\Vb w F a x.nogoods/\X2 x.bound
  len:=by rintro w F cs x ⟨a,rfl,h0,h1⟩;rfl
  one:=by rintro w F cs x ⟨a,rfl,h0,h1⟩ u hu;simp at hu;rcases hu with rfl|rfl<;>first|rfl|exact Vb.one rfl (by assumption)
  agree:=by rintro w w' F cs x ⟨a,rfl,h0,h1⟩ ha;exact⟨a,rfl,h0.agree ha,h1⟩
  mono:=by rintro w F G cs x ⟨a,rfl,h0,h1⟩ ha;exact⟨a,rfl,h0.mono ha,h1⟩
instance:El Crt λe d w O x G=>∀(a:Option Addr)(b:Nat),X2 x.bound->Al e (.V (.slice a x.nogoods.length b) x.nogoods :: .V (.agg #[(.int .i64 x.bound),(.slice a x.nogoods.length b)]) x::d) w O->G (.agg #[(.int .i64 x.bound),(.slice a x.nogoods.length b)]):=⟨λf h k=>by
  have c:=h;unfold Vb at c;obtain⟨cs,rfl,v1,rfl,h2,r5⟩:=c;obtain⟨a,b,rfl⟩:=h2.form;exact k a b r5 ⟨h2,h,f⟩⟩
structure CEn where
  facts:List Fct
  dist:Int
  order:Int
instance:Rp CEn where
  isAgg:=true
  size:=3
  R w F cs x:=∃a,cs=[a,.int .i64 x.dist,.int .i64 x.order]/\Vb w F a x.facts/\X2 x.dist/\X2 x.order
  len:=by rintro w F cs x ⟨a,rfl,h0,h1,h2⟩;rfl
  one:=by rintro w F cs x ⟨a,rfl,h0,h1,h2⟩ u hu;simp at hu;rcases hu with rfl|rfl|rfl<;>first|rfl|exact Vb.one rfl (by assumption)
  agree:=by rintro w w' F cs x ⟨a,rfl,h0,h1,h2⟩ ha;exact⟨a,rfl,h0.agree ha,h1,h2⟩
  mono:=by rintro w F G cs x ⟨a,rfl,h0,h1,h2⟩ ha;exact⟨a,rfl,h0.mono ha,h1,h2⟩
instance:Ec CEn λg d w O i b o x G=>∀(a:Option Addr)(c:Nat),X2 x.dist->X2 x.order->Al g (.C i b o [(.slice a x.facts.length c),(.int .i64 x.dist),(.int .i64 x.order)] :: .V (.slice a x.facts.length c) x.facts :: .V (.agg #[(.slice a x.facts.length c),(.int .i64 x.dist),(.int .i64 x.order)]) x::d) w O->G:=⟨λ{_ _ _ _ _ _ _ x _ _} j e hc h k=>by
  have hv:=Vb.ofAgg (x:=x) rfl h;obtain⟨f,rfl,h2,r5,r6⟩:=h;obtain⟨a,c,rfl⟩:=h2.form;exact k a c r5 r6 ⟨⟨e,hc⟩,h2,hv,j⟩⟩
noncomputable def Dd(f:List Fct):Option Bool :=
  bnd (rng (ρ:=Bool) (λ(g:Nat)(a:Fct)(i:Unit)=>bnd (if a.var<0 then(some true)else(if a.val<0 then(some true)else(if 0<(g:Int)then(bnd (X7 ((g:Int)-1)) λc=>bnd (atI f c) λd=>if a.var<=d.var then(some true)else(some false))else(some false))):Option Bool) λe=>if e=true then(some (.ret false))else(some (.next ()))) f 0 ()) λb=>fin b λ(h:Unit)=>some true
section
attribute [local irreducible] Vb Lc Rw Ob
theorem Fh{w:World}{A:Nat->Prop}(hA:∀k,A k->k<w.heap.size){c:Value}{j:List Fct}(l:Vb w A c j){r:Bool}(hm:Dd j=some r) :
    Fn prog 120 [c] w λv w'=>Ext w w'/\Vb w' (upA A w w') v r:=by
 obtain⟨_,_,_⟩:=BS hA;apply Br l;intros;refine AC func120 rfl ntmps120 ?_;unfold Dd at hm;refine zz ?_;refine Cl (X:=Unit) hm [0,5] [] [2] [] (λ_ _ _ _ t=>t) (λ_ _ _ _ t=>t) () ?_ ?_
 ·intro m n o _ _ _ _ b p _ c0;intros;refine zz ?_;refine CE ?_;intros;refine DP ?_;refine BC 2 ?_;intros;refine Ay rfl (Bj ?_);intros;refine o_z (Ak (Cu (X:=Unit) b [0,5,6,7] [] [] [] (λ_ _ d _ t=>(34,.bool d)::t) (λ_ _ _ _ t=>t) ?_ ?_))
  ·intro d a;refine Jz (Bc (Db 0 23)) ?_;refine AL rfl rfl (CH rfl (Gq rfl rfl rfl (λe=>?_) λe=>?_))
   ·replace a:=ip a e;refine zz ?_;obtain rfl:=sm a;exact AP ()
   replace a:=im a e;refine zz ?_;refine Hy (Au rfl (At rfl rfl (AQ (λ_ _=>CO rfl rfl) (λf=>?_) (λf=>?_))))
   ·replace a:=ip a f;refine zz ?_;obtain rfl:=sm a;exact AP ()
   replace a:=im a f;refine zz ?_;refine AQ (λ_ _=>Fy rfl rfl) (λg=>?_) (λg=>?_)
   ·replace a:=ip a g;refine zz ?_;obtain⟨q,l0,a⟩:=bs a;refine TM (he:=l0) rfl rfl rfl (Au rfl (At rfl rfl ?_));obtain⟨s,p0,a⟩:=bs a;refine HN ?_;intros;refine zz ?_;refine Nw (Au rfl (At rfl rfl (Cy rfl (Au rfl (At rfl rfl ?_)))));refine Hy (Au rfl (At rfl rfl (AQ (λ_ _=>Bq rfl rfl) (λh=>?_) (λh=>?_))))
    ·replace a:=ip a h;refine zz ?_;obtain rfl:=sm a;exact AP ()
    replace a:=im a h;refine zz ?_;obtain rfl:=sm a;exact AP ()
   replace a:=im a g;refine zz ?_;obtain rfl:=sm a;exact AP ()
  intro d _ _ _ _ b;intros;refine Ba ?_;refine Bg rfl (λi=>?_) (λi=>?_)
  ·replace b:=ip b i;refine zz ?_;obtain rfl:=sm b;obtain rfl:=c0 _ rfl;exact By
  replace b:=im' b i;refine Bf ?_;exact BX () b
 intro u _ _ _ _ hm;intros;refine Ba ?_;refine zz ?_;obtain rfl:=sm hm;exact By
end
noncomputable def EX(c:List Fct)(d:Int):Option Int :=
  bnd (rng (ρ:=Int) (λ(e:Nat)(a:Fct)(g:Unit)=>if a.var=d then(some (.ret a.val))else(some (.next ()))) c 0 ()) λb=>fin b λ(f:Unit)=>some (-1)
section
attribute [local irreducible] Vb Lc Rw Ob
theorem LK{w:World}{A:Nat->Prop}(hA:∀k,A k->k<w.heap.size){b:Value}{d:List Fct}(e:Vb w A b d){c:Int}(f:X2 c){r:Int}(hm:EX d c=some r) :
    Fn prog 146 [b,(.int .i64 c)] w λv w'=>Ext w w'/\Vb w' (upA A w w') v r:=by
 obtain⟨_,_,_⟩:=BS hA;apply Br e;intros;refine AC func146 rfl ntmps146 ?_;unfold EX at hm;refine zz ?_;refine Cl (X:=Unit) hm [1,7] [] [2] [] (λ_ _ _ _ t=>t) (λ_ _ _ _ t=>t) () ?_ ?_
 ·intro h i j _ _ _ _ a l _ g;intros;refine Ak (Am (CE ?_));intros;refine DP ?_;refine BC 2 ?_;intros;refine Bj ?_;intros;refine zz ?_;refine Bt (Aw rfl (EA rfl rfl (λc0=>?_) λc0=>?_))
  ·replace a:=ip a c0;refine zz ?_;refine Bt (Ay rfl (o_z (AV ?_)));obtain rfl:=sm a;obtain rfl:=g _ rfl;exact By
  replace a:=im a c0;refine zz ?_;exact BX () a
 intro m _ _ _ _ hm;intros;refine Ba ?_;refine zz ?_;obtain rfl:=sm hm;exact By
end
noncomputable def Dz(d:List Fct)(e:List Fct):Option Bool :=
  bnd (rng (ρ:=Bool) (λ(f:Nat)(a:Fct)(g:Unit)=>bnd (EX d a.var) λc=>if c≠a.val then(some (.ret false))else(some (.next ()))) e 0 ()) λb=>fin b λ(h:Unit)=>some true
section
attribute [local irreducible] Vb Lc Rw Ob
theorem HY{w:World}{A:Nat->Prop}(hA:∀k,A k->k<w.heap.size){b:Value}{d:List Fct}(f:Vb w A b d){c:Value}{e:List Fct}(g:Vb w A c e){r:Bool}(hm:Dz d e=some r) :
    Fn prog 121 [b,c] w λv w'=>Ext w w'/\Vb w' (upA A w w') v r:=by
 obtain⟨_,_,_⟩:=BS hA;apply Br f;intros;apply Br g;intros;refine AC func121 rfl ntmps121 ?_;unfold Dz at hm;refine zz ?_;refine Cl (X:=Unit) hm [0,7] [] [2] [] (λ_ _ _ _ t=>t) (λ_ _ _ _ t=>t) () ?_ ?_
 ·intro l m n _ _ _ _ a o _ j;intros;refine Ak (Am (CE ?_));intros;refine DP ?_;refine BC 2 ?_;intros;refine Bj ?_;intros;refine o_z (Ak (HL [] ?_));refine AJ (fuel:=2) [] (Bc [0,1,2,4,5]) rfl (AI rfl rfl (AL rfl rfl (CH rfl (AL rfl rfl ?_))));refine CH rfl (AB (AH (i:=3) rfl ?_));refine q_S [] ?_;intros;obtain⟨p,g0,a⟩:=bs a;refine CJ rfl (LK (λ_ h=>h) zA zI g0) ?_;intros;refine BM [] ?_;refine AJ (fuel:=0) [] [(6,true)] rfl (Pj rfl rfl rfl rfl (λc0=>?_) λc0=>?_)
  ·replace a:=ip a c0;refine AB (Bh (Aj rfl (Ak (Am (Ay rfl (o_z (AV ?_)))))));obtain rfl:=sm a;obtain rfl:=j _ rfl;exact By
  replace a:=im a c0;refine AB (Bh (Ae rfl (Bf ?_)));exact BX () a
 intro l0 _ _ _ _ hm;intros;refine Ba ?_;refine zz ?_;obtain rfl:=sm hm;exact By
end
noncomputable def FV(d:List Fct)(e:List Fct):Option Bool :=
  bnd (bnd (Dd d) λa=>if a=true then bnd (Dd e) λb=>if b=true then bnd (Dz d e) λc=>if c=true then some true else some false else some false else some false:Option Bool) λf=>some f
section
attribute [local irreducible] Vb Lc Rw Ob
theorem MS{w:World}{A:Nat->Prop}(hA:∀k,A k->k<w.heap.size){b:Value}{e:List Fct}(g:Vb w A b e){c:Value}{f:List Fct}(c0:Vb w A c f){r:Bool}(hm:FV e f=some r) :
    Fn prog 78 [b,c] w λv w'=>Ext w w'/\Vb w' (upA A w w') v r:=by
 obtain⟨_,_,_⟩:=BS hA;apply Br g;intros;apply Br c0;intros;refine AC func78 rfl ntmps78 ?_;unfold FV at hm;refine Ak (Am (Ay rfl (o_z (Ak (Cu (X:=Unit) hm [] [] [] [] (λ_ _ d _ t=>(4,.bool d)::t) (λ_ _ _ _ t=>t) ?_ ?_)))))
 ·intro d a;refine zz ?_;obtain⟨i,e0,a⟩:=bs a;refine CJ rfl (Fh (λ_ h=>h) zA e0) ?_;intros;cases i
  case false =>
   replace a:=iF a;refine zz ?_;obtain rfl:=sm a;exact AP ()
  replace a:=iT a;refine zz ?_;obtain⟨j,g0,a⟩:=bs a;refine CJ rfl (Fh (λ_ h=>h) zA g0) ?_;intros;cases j
  case false =>
   replace a:=iF a;refine zz ?_;obtain rfl:=sm a;exact AP ()
  replace a:=iT a;refine zz ?_;obtain⟨l,i0,a⟩:=bs a;refine CJ rfl (HY (λ_ h=>h) zA zA i0) ?_;intros;cases l
  case false =>
   replace a:=iF a;refine zz ?_;obtain rfl:=sm a;exact AP ()
  replace a:=iT a;refine zz ?_;obtain rfl:=sm a;exact AP ()
 intro d _ _ _ _ hm;intros;refine Ba ?_;refine AV ?_;obtain rfl:=sm hm;exact By
end
noncomputable def EY(e:List Fct)(f:List Fct):Option Bool :=
  bnd (rng (ρ:=Bool) (λ(g:Nat)(a:Fct)(h:Unit)=>bnd (EX e a.var) λb=>bnd (if 0<=b then(if b≠a.val then(some true)else(some false))else(some false):Option Bool) λd=>if d=true then(some (.ret true))else(some (.next ()))) f 0 ()) λc=>fin c λ(i:Unit)=>some false
section
attribute [local irreducible] Vb Lc Rw Ob
theorem MT{w:World}{A:Nat->Prop}(hA:∀k,A k->k<w.heap.size){c:Value}{j:List Fct}(m:Vb w A c j){d:Value}{l:List Fct}(n:Vb w A d l){r:Bool}(hm:EY j l=some r) :
    Fn prog 180 [c,d] w λv w'=>Ext w w'/\Vb w' (upA A w w') v r:=by
 obtain⟨_,_,_⟩:=BS hA;apply Br m;intros;apply Br n;intros;refine AC func180 rfl ntmps180 ?_;unfold EY at hm;refine zz ?_;refine Cl (X:=Unit) hm [0,8] [] [2] [] (λ_ _ _ _ t=>t) (λ_ _ _ _ t=>t) () ?_ ?_
 ·intro l0 o p _ _ _ _ b q _ c0;intros;refine Ak (Am (CE ?_));intros;refine DP ?_;refine BC 2 ?_;intros;refine Bj ?_;intros;refine zz ?_;refine Bt ?_;obtain⟨s,k0,b⟩:=bs b;refine CJ rfl (LK (λ_ h=>h) zA zI k0) ?_;intros;refine Ay rfl (o_z (Ak (Cu (X:=Unit) b [0,8,9,10] [] [] [] (λ_ _ e _ t=>(25,.bool e)::t) (λ_ _ _ _ t=>t) ?_ ?_)))
  ·intro e a;refine zz ?_;refine EM rfl rfl (λf=>?_) λf=>?_
   ·replace a:=ip a f;refine zz ?_;refine Bt (AA rfl rfl (HM rfl rfl (λg=>?_) λg=>?_))
    ·replace a:=ip a g;refine zz ?_;obtain rfl:=sm a;exact AP ()
    replace a:=im a g;refine zz ?_;obtain rfl:=sm a;exact AP ()
   replace a:=im a f;refine zz ?_;obtain rfl:=sm a;exact AP ()
  intro e _ _ _ _ b;intros;refine Ba ?_;refine Bg rfl (λi=>?_) (λi=>?_)
  ·replace b:=ip b i;refine zz ?_;obtain rfl:=sm b;obtain rfl:=c0 _ rfl;exact By
  replace b:=im' b i;refine Bf ?_;exact BX () b
 intro u _ _ _ _ hm;intros;refine Ba ?_;refine zz ?_;obtain rfl:=sm hm;exact By
end
noncomputable def Gj(q:List (List Fct)):Option (List (List Fct)) :=
  bnd (rng (ρ:=(List (List Fct))) (λ(d:Nat)(a:List Fct)(k:(List (List Fct)))=>bnd (Dd a) λl=>if l=true then bnd (rng (ρ:=Ctl (List (List Fct)) (List (List Fct))) (λ(e:Nat)(b:List Fct)(m:Bool)=>bnd (if(d:Int)≠(e:Int)then(bnd (Dd b) λn=>if n=true then bnd (Dz a b) λo=>if o=true then if(b.length:Int)<(a.length:Int)then(some true)else(if(e:Int)<(d:Int)then(some true)else(some false))else some false else some false)else(some false):Option Bool) λp=>if p=true then(some (.brk false))else(some (.next m))) q 0 true) λc=>fin c λ(f:Bool)=>if f=true then(bnd (BN a) λg=>bnd (Y0 24 k [g]) λh=>some (.next h))else(some (.next k))else some (.next k)) q 0 ([]:List (List Fct))) λi=>fin i λ(j:(List (List Fct)))=>some j
theorem NM{w:World}{A:Nat->Prop}(hA:∀k,A k->k<w.heap.size){o:Value}{c:List (List Fct)}(p:Vb w A o c){r:(List (List Fct))}(hm:Gj c=some r) :
    Fn prog 80 [o] w λv w'=>Ext w w'/\RowR w w' (upA A w w') 23 v r:=by
 obtain⟨O,hB,s3⟩:=enter hA;obtain⟨i,c3,rfl⟩:=p.form;refine AC func80 rfl ntmps80 ?_;unfold Gj at hm;refine zz ?_;have t:=Bo p.len;have r4:=rngNat t;obtain⟨b2,c2,hm⟩:=bs hm;refine Cp (X:=(Option Addr×Nat)) (c.length) c2 rfl t (λe b=>[(0,(.slice i c.length c3)),(3,(.slice b.1 e.length b.2)),(9,(.slice i c.length c3))]) (λe b w'=>∃d:Lab,Bs w A w' d/\Rw 3 w' d 23 (.slice b.1 e.length b.2) e) (none,0) ⟨O,hB,(Rw.nil 3 (by decide))⟩ A7 (λ_ _=>rfl) ?_ ?_
 ·rintro q j e b t3 d2 F ⟨K,hB,d0⟩ b0 e1 f1;have G:=Y2 F t;refine zz ?_;obtain⟨u3,v3,f2,g1,h1,i1,w3,rfl,c0⟩:=(p.zs hA hB).elem' F;replace c0:=Vb.of_slice c0;obtain⟨n,r0,rfl⟩:=c0.form;refine Bn (hA:=g1) (hj:=rfl) (hlt:=h1) rfl rfl (AF (hc:=cat0 i1) rfl (Ay rfl (Ay rfl (o_z (Ak (Ak (Am (Aw rfl ?_))))))));obtain⟨L,h2,b0⟩:=bs b0;refine BO (O:=K) (Fh (λ_ h=>h) (vMo c0) h2) rfl λx3 y3 M l N=>?_;obtain rfl:=N.bool;cases L
  case false =>
   replace b0:=iF b0;refine zz ?_;refine Cn ?_;obtain rfl:=sm b0;exact show Exists _ from⟨_,(b.1,b.2),rfl,A7,_,hB.st l,d0.st l⟩
  replace b0:=iT b0;refine Fq rfl (o_z (Ae rfl (Bf (Ak (Am (Ay rfl (o_z (Ak (Ak (Am (Aw rfl (AT rfl ?_))))))))))));have u:=Bo p.len;have z3:=rngNat u;refine Aw rfl (o_z ?_);obtain⟨P,k1,b0⟩:=bs b0;refine AZ (aft P (λ(m:Bool)(s:Unit)=>[(0,(.slice i c.length c3)),(3,(.slice b.1 e.length b.2)),(5,(.slice n j.length r0)),(6,(.bool m)),(9,(.slice i c.length c3)),(10,(.int .i64 (c.length:Int))),(11,(.int .i64 (q:Int)))]) (λm s w'=>∃d:Lab,Bs w A w' d/\Rw 3 w' d 23 (.slice b.1 e.length b.2) e/\Vb w' (Fr 0 w' d) (.slice n j.length r0) j)) ?_ ?_
  ·refine BK ?_;replace hB:=hB.st l;replace d0:=d0.st l;replace c0:=c0.st l;refine PW (σ:=Bool) (X:=Unit) (c.length) k1 rfl u (λ(m:Bool)(s:Unit)=>[(0,(.slice i c.length c3)),(3,(.slice b.1 e.length b.2)),(4,(.int .i64 (q:Int))),(5,(.slice n j.length r0)),(6,(.bool m)),(9,(.slice i c.length c3)),(10,(.int .i64 (c.length:Int))),(11,(.int .i64 (q:Int))),(19,(.slice i c.length c3))]) _ (λm s w'=>∃d:Lab,Bs w A w' d/\Rw 3 w' d 23 (.slice b.1 e.length b.2) e/\Vb w' (Fr 0 w' d) (.slice n j.length r0) j) _ () ⟨M,hB,d0,c0⟩ D3 (λ_ _=>⟨rfl,rfl⟩) (λ_ _=>B3) (λ_ _ _ ⟨d,hB,d0,c0⟩=>⟨d,hB,d0,c0⟩) ⟨rfl,rfl,rfl⟩ ⟨rfl,rfl⟩ ?_;rintro Q a4 m s b4 l2 H ⟨R,hB,d0,c0⟩ e0 l1 l0;have I:=Y2 H u;refine zz ?_;obtain⟨c4,d4,n2,m1,n1,o1,e4,rfl,h0⟩:=(p.zs hA hB).elem' H;replace h0:=Vb.of_slice h0;obtain⟨f4,g4,rfl⟩:=h0.form;refine Bn (hA:=m1) (hj:=rfl) (hlt:=n1) rfl rfl (AF (hc:=cat0 o1) rfl (Ay rfl (Ay rfl (o_z (Ak ?_)))));obtain⟨S,a0,e0⟩:=bs e0;refine AZ (λT w'=>∃(U:Unit) (d:Lab),X5 T [(0,(.slice i c.length c3)),(3,(.slice b.1 e.length b.2)),(4,(.int .i64 (q:Int))),(5,(.slice n j.length r0)),(6,(.bool m)),(9,(.slice i c.length c3)),(10,(.int .i64 (c.length:Int))),(11,(.int .i64 (q:Int))),(19,(.slice i c.length c3)),(20,(.int .i64 (c.length:Int))),(21,(.int .i64 (Q:Int))),(49,(.bool S))]/\Bs w A w' d/\Rw 3 w' d 23 (.slice b.1 e.length b.2) e/\Vb w' (Fr 0 w' d) (.slice n j.length r0) j) ?_ ?_
   ·refine zz ?_;refine HM rfl rfl (λx=>?_) λx=>?_
    ·replace a0:=ip a0 x;refine zz ?_;obtain⟨V,r2,a0⟩:=bs a0;refine BO (O:=R) (Fh (λ_ h=>h) (vMo h0) r2) rfl λh4 i4 W f Y=>?_;obtain rfl:=Y.bool;cases V
     case false =>
      replace a0:=iF a0;refine zz ?_;obtain rfl:=sm a0;exact⟨(),_,D4,hB.st f,d0.st f,c0.st f⟩
     replace a0:=iT a0;refine zz ?_;obtain⟨Z,v2,a0⟩:=bs a0;replace c0:=c0.st f;replace h0:=h0.st f;refine BO (O:=W) (HY (λ_ h=>h) (vMo c0) (vMo h0) v2) rfl λj4 k4 l4 g w2=>?_;obtain rfl:=w2.bool;cases Z
     case false =>
      replace a0:=iF a0;refine zz ?_;obtain rfl:=sm a0;exact⟨(),_,D4,(hB.st f).st g,(d0.st f).st g,c0.st g⟩
     replace a0:=iT a0;refine zz ?_;replace h0:=h0.st g;have x2:=Bo h0.len;have m4:=rngNat x2;replace c0:=c0.st g;have y2:=Bo c0.len;have n4:=rngNat y2;refine CL rfl rfl (λy=>?_) λy=>?_
     ·replace a0:=ip a0 y;refine zz ?_;obtain rfl:=sm a0;exact⟨(),_,D4,(hB.st f).st g,(d0.st f).st g,c0⟩
     replace a0:=im a0 y;refine zz ?_;refine CL rfl rfl (λz=>?_) λz=>?_
     ·replace a0:=ip a0 z;refine zz ?_;obtain rfl:=sm a0;exact⟨(),_,D4,(hB.st f).st g,(d0.st f).st g,c0⟩
     replace a0:=im a0 z;refine zz ?_;obtain rfl:=sm a0;exact⟨(),_,D4,(hB.st f).st g,(d0.st f).st g,c0⟩
    replace a0:=im a0 x;refine zz ?_;obtain rfl:=sm a0;exact⟨(),_,D4,hB,d0,c0⟩
   rintro o4 p4 ⟨U,q4,s1,hB,d0,c0⟩;refine AM _ s1 ?_;refine Bg rfl (λB=>?_) (λB=>?_)
   ·replace e0:=ip e0 B;refine zz ?_;refine Cn ?_;obtain rfl:=sm e0;exact show Exists _ from⟨_,(),l0 _ rfl,B3,_,hB,d0,c0⟩
   replace e0:=im' e0 B;refine Bf ?_;obtain rfl:=sm e0;exact show Exists _ from⟨_,(),rfl,D3,_,hB,d0,c0⟩
  replace hB:=hB.st l;replace d0:=d0.st l;replace c0:=c0.st l;rintro z2 a3 ⟨b3,d3,rfl,y0,t1,hB,d0,c0⟩;replace b0:=AS b0;refine AM _ y0 ?_;refine zz ?_;refine Bg rfl (λC=>?_) (λC=>?_)
  ·replace b0:=ip b0 C;refine zz ?_;obtain⟨u1,v1,b0⟩:=bs b0;refine ED 2 (O:=t1) (Ce Fr.lt c0 v1) rfl λe3 f3 g3 h3 z0 D=>?_;obtain⟨i3,a1,D⟩:=D.freeze;obtain⟨j3,E,b0⟩:=bs b0;obtain⟨E,w1,x1⟩:=BH E;replace d0:=(d0.st z0).st a1;refine EC rfl (a:=u1) d0 D (λ_=>rfl) rfl w1 x1 ⟨rfl,rfl⟩ λk3 y1 z1 l3 m3 a2 J=>?_;rw[<- E]at J ⊢;refine zz ?_;obtain rfl:=sm b0;exact show Exists _ from⟨_,(y1,z1),rfl,A7,_,((hB.st z0).st a1).st a2,J⟩
  replace b0:=im' b0 C;refine Bf ?_;obtain rfl:=sm b0;exact show Exists _ from⟨_,(b.1,b.2),rfl,A7,_,hB,d0⟩
 rintro n3 o3 ⟨p3,q3,rfl,c1,r3,hB,d0⟩;replace hm:=AS hm;refine AM _ c1 ?_;refine zz ?_;obtain rfl:=sm hm;exact YW rfl (AD rfl) ⟨hB.ext,(d0.out hB (by decide))⟩
noncomputable def ET(l:List Int)(m:Eff):Option ((List (List Fct))×Err) :=
  bnd (rng (ρ:=(List (List Fct))×Err) (λ(n:Nat)(a:Fct)(g:(List (List Fct)))=>bnd (atI l a.var) λh=>bnd (AaG h) λi=>bnd (Zk (ρ:=Ctl (List (List Fct)) ((List (List Fct))×Err)) (λ(d:Nat)(e:(List (List Fct)))=>if(d:Int)≠a.val then(bnd (Y0 24 e [[(⟨a.var,(d:Int)⟩:Fct)]]) λj=>some (.next j))else(some (.next e))) i g) λb=>fin b λ(k:(List (List Fct)))=>some (.next k)) m.cond 0 ([]:List (List Fct))) λc=>fin c λ(f:(List (List Fct)))=>if 1024<(f.length:Int)then(some (([]:List (List Fct)),(⟨5⟩:Err)))else(some (f,(⟨0⟩:Err)))
section
attribute [local irreducible] Vb Lc Rw Ob
theorem KL{w:World}{A:Nat->Prop}(hA:∀k,A k->k<w.heap.size){b:Value}{j:List Int}(m:Vb w A b j){c:Value}{l:Eff}(l0:Vb w A c l){r:(List (List Fct))×Err}(hm:ET j l=some r) :
    Fn prog 147 [b,c] w λv w'=>Ext w w'/\T2 w' (upA A w w') v r:=by
 obtain⟨_,_,_⟩:=BS hA;apply Br m;intros;apply Br l0;intros;refine AC func147 rfl ntmps147 ?_;unfold ET at hm;refine Ak (Am (Dx 2 ?_));intros;refine zz ?_;refine Bt (AT rfl (Aw rfl (o_z ?_)));refine Cl (X:=(Option Addr×Nat)) hm [0,11] [] [3,4,5] [] (λ_ _ c0 f t=>(6,sv f c0)::t) (λ_ _ c0 f t=>fR 5 23 f c0::t) (_,_) ?_ ?_
 ·intro q n c0 _ _ _ _ d s _ u;intros;refine Ak (Am (CE ?_));intros;refine DP ?_;refine BC 3 ?_;intros;refine Bj ?_;intros;refine zz ?_;refine Bt ?_;obtain⟨x,t0,d⟩:=bs d;refine FT ?_;intros;refine Dk (Aw rfl (o_z ?_));refine Uu (X:=(Option Addr×Nat)) d [0,8,11,12,13] [] [4,5] [] (λ_ _ e g t=>(6,sv g e)::t) (λ_ _ e g t=>fR 5 23 g e::t) (_,_) ?_ ?_
  ·intro o p e _ _ _ _ a _ _ _ y;intros;refine zz ?_;refine Bt (HM rfl rfl (λh=>?_) λh=>?_)
   ·replace a:=ip a h;refine zz ?_;refine Bt (Aw rfl (ES rfl rfl ?_));refine HK 4 ([(⟨n.var,(p:Int)⟩:Fct)]:List Fct) ?_;intros;refine FG 4 ?_;intros;obtain⟨z,q0,a⟩:=bs a;refine Qc q0 ?_;intros;refine zz ?_;exact BX (_,_) a
   replace a:=im a h;refine zz ?_;exact BX (_,_) a
  intro o B _ _ _ _ d;intros;exact BX (_,_) d
 intro C _ _ _ _ hm;intros;refine Ba ?_;refine zz ?_;refine Dc rfl rfl (λi=>?_) λi=>?_
 ·replace hm:=ip hm i;refine zz ?_;refine EE rfl (Ay rfl (Ay rfl (o_z (AV ?_))));obtain rfl:=sm hm;exact Hj
 replace hm:=im hm i;refine zz ?_;refine FG 5 ?_;intros;obtain rfl:=sm hm;exact Hj
end
noncomputable def Fi(f:List Fct):Option Bool :=
  bnd (rng (ρ:=Bool) (λ(g:Nat)(a:Fct)(i:Unit)=>bnd (if a.var<0 then(some true)else(if 64<=a.var then(some true)else(if a.val<0 then(some true)else(if 64<=a.val then(some true)else(if 0<(g:Int)then(bnd (X7 ((g:Int)-1)) λc=>bnd (atI f c) λd=>if a.var<=d.var then(some true)else(some false))else(some false))))):Option Bool) λe=>if e=true then(some (.ret false))else(some (.next ()))) f 0 ()) λb=>fin b λ(h:Unit)=>some true
section
attribute [local irreducible] Vb Lc Rw Ob
theorem Mi{w:World}{A:Nat->Prop}(hA:∀k,A k->k<w.heap.size){c:Value}{m:List Fct}(l0:Vb w A c m){r:Bool}(hm:Fi m=some r) :
    Fn prog 160 [c] w λv w'=>Ext w w'/\Vb w' (upA A w w') v r:=by
 obtain⟨_,_,_⟩:=BS hA;apply Br l0;intros;refine AC func160 rfl ntmps160 ?_;unfold Fi at hm;refine zz ?_;refine Cl (X:=Unit) hm [0,5] [] [2] [] (λ_ _ _ _ t=>t) (λ_ _ _ _ t=>t) () ?_ ?_
 ·intro n o p _ _ _ _ b q _ c0;intros;refine zz ?_;refine CE ?_;intros;refine DP ?_;refine BC 2 ?_;intros;refine Ay rfl (Bj ?_);intros;refine o_z (Ak (Cu (X:=Unit) b [0,5,6,7] [] [] [] (λ_ _ d _ t=>(44,.bool d)::t) (λ_ _ _ _ t=>t) ?_ ?_))
  ·intro d a;refine Jz (Bc (Db 0 33)) ?_;refine AL rfl rfl (CH rfl (Gq rfl rfl rfl (λe=>?_) λe=>?_))
   ·replace a:=ip a e;refine zz ?_;obtain rfl:=sm a;exact AP ()
   replace a:=im a e;refine zz ?_;refine Hy (Au rfl (At rfl rfl (AQ (λ_ _=>Bq rfl rfl) (λf=>?_) (λf=>?_))))
   ·replace a:=ip a f;refine zz ?_;obtain rfl:=sm a;exact AP ()
   replace a:=im a f;refine zz ?_;refine Hy (Au rfl (At rfl rfl (AQ (λ_ _=>CO rfl rfl) (λg=>?_) (λg=>?_))))
   ·replace a:=ip a g;refine zz ?_;obtain rfl:=sm a;exact AP ()
   replace a:=im a g;refine zz ?_;refine Hy (Au rfl (At rfl rfl (AQ (λ_ _=>Bq rfl rfl) (λh=>?_) (λh=>?_))))
   ·replace a:=ip a h;refine zz ?_;obtain rfl:=sm a;exact AP ()
   replace a:=im a h;refine zz ?_;refine AQ (λ_ _=>Fy rfl rfl) (λi=>?_) (λi=>?_)
   ·replace a:=ip a i;refine zz ?_;obtain⟨s,n0,a⟩:=bs a;refine TM (he:=n0) rfl rfl rfl (Au rfl (At rfl rfl ?_));obtain⟨u,r0,a⟩:=bs a;refine HN ?_;intros;refine zz ?_;refine Nw (Au rfl (At rfl rfl (Cy rfl (Au rfl (At rfl rfl ?_)))));refine Hy (Au rfl (At rfl rfl (AQ (λ_ _=>Bq rfl rfl) (λj=>?_) (λj=>?_))))
    ·replace a:=ip a j;refine zz ?_;obtain rfl:=sm a;exact AP ()
    replace a:=im a j;refine zz ?_;obtain rfl:=sm a;exact AP ()
   replace a:=im a i;refine zz ?_;obtain rfl:=sm a;exact AP ()
  intro d _ _ _ _ b;intros;refine Ba ?_;refine Bg rfl (λl=>?_) (λl=>?_)
  ·replace b:=ip b l;refine zz ?_;obtain rfl:=sm b;obtain rfl:=c0 _ rfl;exact By
  replace b:=im' b l;refine Bf ?_;exact BX () b
 intro x _ _ _ _ hm;intros;refine Ba ?_;refine zz ?_;obtain rfl:=sm hm;exact By
end
noncomputable def FD(a:Crt):Option Err :=
  bnd (if a.bound<(-1)then(some true)else(if 1099511627776<a.bound then(some true)else(some false)):Option Bool) λe=>if e=true then(some (⟨1⟩:Err))else(if 4096<(a.nogoods.length:Int)then(some (⟨5⟩:Err))else(bnd (rng (ρ:=Err) (λ(j:Nat)(f:Ngd)(k:Unit)=>bnd (Fi f.facts) λg=>if g=true then some (.next ())else some (.ret (⟨2⟩:Err))) a.nogoods 0 ()) λc=>fin c λ(l:Unit)=>bnd (rng (ρ:=Err) (λ(m:Nat)(b:Ngd)(n:Unit)=>bnd (if b.dist<0 then(some true)else(if 0<=a.bound then(if a.bound<=b.dist then(some true)else(if a.bound<0 then(if b.dist≠0 then(some true)else(some false))else(some false)))else(if a.bound<0 then(if b.dist≠0 then(some true)else(some false))else(some false))):Option Bool) λh=>if h=true then(some (.ret (⟨1⟩:Err)))else(some (.next ()))) a.nogoods 0 ()) λd=>fin d λ(i:Unit)=>some (⟨0⟩:Err)))
section
attribute [local irreducible] Vb Lc Rw Ob
set_option maxHeartbeats 1000000 in
theorem MJ{w:World}{A:Nat->Prop}(hA:∀k,A k->k<w.heap.size){d:Value}{x:Crt}(y:Vb w A d x){r:Err}(hm:FD x=some r) :
    Fn prog 128 [d] w λv w'=>Ext w w'/\Vb w' (upA A w w') v r:=by
 obtain⟨_,_,_⟩:=BS hA;apply Br y;intros;refine AC func128 rfl ntmps128 ?_;unfold FD at hm;refine Ak (Am (Dx 2 ?_));intros;refine Ay rfl (o_z (Ak (Ak (Cu (X:=Unit) hm [1] [] [] [] (λ_ _ e _ t=>(14,.bool e)::t) (λ_ _ _ _ t=>t) ?_ ?_))))
 ·intro e b;refine zz ?_;refine Bt (CL rfl rfl (λf=>?_) λf=>?_)
  ·replace b:=ip b f;refine zz ?_;obtain rfl:=sm b;exact AP ()
  replace b:=im b f;refine zz ?_;refine Bt (AA rfl rfl (Dc rfl rfl (λg=>?_) λg=>?_))
  ·replace b:=ip b g;refine zz ?_;obtain rfl:=sm b;exact AP ()
  replace b:=im b g;refine zz ?_;obtain rfl:=sm b;exact AP ()
 intro e _ _ _ _ hm;intros;refine Ba ?_;refine Bg rfl (λi=>?_) (λi=>?_)
 ·replace hm:=ip hm i;refine Ak (Am (EE rfl (Ay rfl (o_z (AV ?_)))));obtain rfl:=sm hm;exact By
 replace hm:=im' hm i;refine zz ?_;refine Bt (AT rfl (Dc rfl rfl (λj=>?_) λj=>?_))
 ·replace hm:=ip hm j;refine zz ?_;refine EE rfl (Ay rfl (o_z (AV ?_)));obtain rfl:=sm hm;exact By
 replace hm:=im hm j;refine zz ?_;refine Bt (AT rfl (Aw rfl (o_z ?_)));refine Cl (X:=Unit) hm [1,22] [] [3] [] (λ_ _ _ _ t=>t) (λ_ _ _ _ t=>t) () ?_ ?_
 ·intro D E F _ _ _ _ c0 G _ z;intros;refine Ak (Am (CE ?_));intros;refine DP ?_;refine BC 3 ?_;intros;refine Bj ?_;intros;refine zz ?_;refine Bt ?_;obtain⟨B,y0,c0⟩:=bs c0;refine CJ rfl (Mi (λ_ h=>h) zA y0) ?_;intros;cases B
  case false =>
   replace c0:=iF c0;refine zz ?_;refine EE rfl (Ay rfl (o_z (AV ?_)));obtain rfl:=sm c0;obtain rfl:=z _ rfl;exact By
  replace c0:=iT c0;refine zz ?_;exact BX () c0
 intro H _ _ _ _ hm;intros;refine Ba ?_;refine zz ?_;refine Bt (AT rfl (Aw rfl (o_z ?_)));refine Cl (X:=Unit) hm [1,35] [] [4] [] (λ_ _ _ _ t=>t) (λ_ _ _ _ t=>t) () ?_ ?_
 ·intro I J K _ _ _ _ c z0 _ C;intros;refine Ak (Am (CE ?_));intros;refine DP ?_;refine BC 4 ?_;intros;refine Bj ?_;intros;refine o_z (Ak (Cu (X:=Unit) c [1,35,36,37] [] [] [] (λ_ _ l0 _ t=>(65,.bool l0)::t) (λ_ _ _ _ t=>t) ?_ ?_))
  ·intro l0 a;refine zz ?_;refine Bt (CL rfl rfl (λl=>?_) λl=>?_)
   ·replace a:=ip a l;refine zz ?_;obtain rfl:=sm a;exact AP ()
   replace a:=im a l;refine zz ?_;refine Bt (AA rfl rfl (EM rfl rfl (λm=>?_) λm=>?_))
   ·replace a:=ip a m;refine zz ?_;refine Bt (AA rfl rfl (AN rfl (AA rfl rfl ?_)));refine Bt (AA rfl rfl (EM rfl rfl (λn=>?_) λn=>?_))
    ·replace a:=ip a n;refine zz ?_;obtain rfl:=sm a;exact AP ()
    replace a:=im a n;refine zz ?_;refine Bt (AA rfl rfl (CL rfl rfl (λo=>?_) λo=>?_))
    ·replace a:=ip a o;refine zz ?_;refine Bt (AA rfl rfl (HM rfl rfl (λp=>?_) λp=>?_))
     ·replace a:=ip a p;refine zz ?_;obtain rfl:=sm a;exact AP ()
     replace a:=im a p;refine zz ?_;obtain rfl:=sm a;exact AP ()
    replace a:=im a o;refine zz ?_;obtain rfl:=sm a;exact AP ()
   replace a:=im a m;refine zz ?_;refine Bt ?_;refine AA rfl rfl (CL rfl rfl (λq=>?_) λq=>?_)
   ·replace a:=ip a q;refine zz ?_;refine Bt (AA rfl rfl (HM rfl rfl (λs=>?_) λs=>?_))
    ·replace a:=ip a s;refine zz ?_;obtain rfl:=sm a;exact AP ()
    replace a:=im a s;refine zz ?_;obtain rfl:=sm a;exact AP ()
   replace a:=im a q;refine zz ?_;obtain rfl:=sm a;exact AP ()
  intro l0 _ _ _ _ c;intros;refine Ba ?_;refine Bg rfl (λu=>?_) (λu=>?_)
  ·replace c:=ip c u;refine Ak (Am (EE rfl (Ay rfl (o_z (AV ?_)))));obtain rfl:=sm c;obtain rfl:=C _ rfl;exact By
  replace c:=im' c u;refine Bf ?_;exact BX () c
 intro L _ _ _ _ hm;intros;refine Ba ?_;refine zz ?_;obtain rfl:=sm hm;exact By
end
noncomputable def Fj(f:List Int)(e:Crt):Option Err :=
  bnd (FD e) λb=>if b.n≠0 then(some (⟨b.n⟩:Err))else(bnd (rng (ρ:=Err) (λ(g:Nat)(c:Ngd)(h:Unit)=>bnd (Fg f c.facts) λd=>if d=true then some (.next ())else some (.ret (⟨2⟩:Err))) e.nogoods 0 ()) λa=>fin a λ(i:Unit)=>some (⟨0⟩:Err))
section
attribute [local irreducible] Vb Lc Rw Ob
theorem Mj{w:World}{A:Nat->Prop}(hA:∀k,A k->k<w.heap.size){b:Value}{d:List Int}(f:Vb w A b d){c:Value}{e:Crt}(g:Vb w A c e){r:Err}(hm:Fj d e=some r) :
    Fn prog 84 [b,c] w λv w'=>Ext w w'/\Vb w' (upA A w w') v r:=by
 obtain⟨_,_,_⟩:=BS hA;apply Br f;intros;apply Br g;intros;refine AC func84 rfl ntmps84 ?_;unfold Fj at hm;refine Ak (Am (Dx 2 ?_));intros;refine zz ?_;refine Eh ?_;obtain⟨l,f0,hm⟩:=bs hm;refine CJ rfl (MJ (λ_ h=>h) zA f0) ?_;intros;refine zz ?_;refine CU rfl (λc0=>?_) λc0=>?_
 ·replace hm:=ip hm c0;refine zz ?_;obtain rfl:=sm hm;exact By
 replace hm:=im hm c0;refine zz ?_;refine Bt (AT rfl (Aw rfl (o_z ?_)));refine Cl (X:=Unit) hm [0,14] [] [3] [] (λ_ _ _ _ t=>t) (λ_ _ _ _ t=>t) () ?_ ?_
 ·intro m l0 n _ _ _ _ a o _ i;intros;refine Ak (Am (CE ?_));intros;refine DP ?_;refine BC 3 ?_;intros;refine Bj ?_;intros;refine zz ?_;refine Bt ?_;obtain⟨j,i0,a⟩:=bs a;refine CJ rfl (Ji (λ_ h=>h) zA zA i0) ?_;intros;cases j
  case false =>
   replace a:=iF a;refine zz ?_;refine EE rfl (Ay rfl (o_z (AV ?_)));obtain rfl:=sm a;obtain rfl:=i _ rfl;exact By
  replace a:=iT a;refine zz ?_;exact BX () a
 intro p _ _ _ _ hm;intros;refine Ba ?_;refine zz ?_;obtain rfl:=sm hm;exact By
end
end
section
open Go Go.RowKit
attribute [local irreducible] ewp owp hwp hwq hws Ev Evg Fn X6 Y1 YZ YY
attribute [local irreducible] hwx Y6
structure Cov where
  vars:List Int
  used:Int
  steps:Int
  full:Bool
instance:Ow Cov where
  R w F c v x:=∃(g:Nat) (d:Lab) (c0:Value),v=.pointer (some ⟨g,0,none⟩)/\Blk w g 264 [c0,.int .i64 x.used,.int .i64 x.steps,.bool x.full]/\c g/\d g=0/\Vb w F c0 x.vars/\X2 x.used/\X2 x.steps
  agree:=by rintro w w' F c v x ⟨g,d,c0,rfl,hb,hM,hL,h0,h1,h2⟩ a1 a2;exact⟨g,d,c0,rfl,hb.keep (a2 g hM),hM,hL,h0.agree a1,h1,h2⟩
  mono:=by rintro w F c a b v x ⟨g,d,c0,rfl,hb,hM,hL,h0,h1,h2⟩ a1 a2 a3;exact⟨g,d,c0,rfl,hb,a2 g hM,hL,h0.mono a1,h1,h2⟩
theorem Cov.opn{i:Nat}{w:World}{O:Lab}{p:Nat}{x:Cov}(h:Ob i w O (.pointer (some ⟨p,0,none⟩)) x)(l0:Nat)(hl:l0≠0):∃(a:Lab) (c0:Value),St (eT i) w O w a/\(∀k,Fr i w O k->∃q,q∈[l0]/\Fr q w a k)/\Lc l0 w a p 264 [c0,.int .i64 x.used,.int .i64 x.steps,.bool x.full]/\Vb w (Fr 0 w a) c0 x.vars/\X2 x.used/\X2 x.steps:=by
  obtain⟨⟨g,L,c0,hv,hb,hM,hL,h0,h1,h2⟩,hi⟩:=h;obtain rfl:p=g:=(by injection hv with hv;injection hv with hv;injection hv);exact⟨part O i L [l0],c0,Jx hi,IL (by simp),⟨hb,(Eg (j:=0) rfl p ⟨hM,hL⟩).2⟩,h0.mono (Cq hi),h1,h2⟩
theorem Cov.shut{w:World}{O:Lab}{p:Nat}{x:Cov}{l0:Nat}{c0:Value}(hd:¬0∈[l0]/\[l0].idxOf l0=0)(hb:Lc l0 w O p 264 [c0,.int .i64 x.used,.int .i64 x.steps,.bool x.full])(d:Vb w (Fr 0 w O) c0 x.vars)(f:X2 x.used)(g:X2 x.steps):∃a,St (·∈[l0]) w O w a/\(∀k,Fr 0 w O k->Fr 0 w a k)/\(∀q,q∈[l0]->∀k,Fr q w O k->Fr l0 w a k)/\Ob l0 w a (.pointer (some ⟨p,0,none⟩)) x:=by
  have b:l0≠0:=λe=>hd.1 (by simp[e]);have c:=DB (i:=l0) hd.2 (by simp) p ⟨hb.1.lt,hb.2⟩;exact⟨ZU O l0 [l0],IM,BL hd.1,HU,⟨p,λk=>[l0].idxOf (O k),c0,rfl,hb.1,c.1,c.2,d.mono (BL hd.1),f,g⟩,b⟩
noncomputable def FP(a:Cov)(i:List Fct)(j:List (List Fct)):Option (Bool×Cov) :=
  if a.steps<=a.used then(some (false,(⟨a.vars,a.used,a.steps,true⟩:Cov)))else(bnd (X7 (a.used+1)) λe=>bnd (rng (ρ:=Bool×Cov) (λ(k:Nat)(b:List Fct)(d:(List (List Fct)))=>bnd (Dz i b) λf=>if f=true then some (.ret (true,(⟨a.vars,e,a.steps,a.full⟩:Cov)))else bnd (EY i b) λg=>if g=true then some (.next d)else bnd (Y0 24 d [b]) λh=>some (.next h)) j 0 ([]:List (List Fct))) λc=>fin c λ(l:(List (List Fct)))=>none)
theorem Lo{w:World}{O:Lab}{k l:Nat}{c:Cov}(t:Ob l w O (.pointer (some ⟨k,0,none⟩)) c){m:Value}{y:List Fct}(n:Vb w (Fr 0 w O) m y){o:Value}{u:List (List Fct)}(p:Vb w (Fr 0 w O) o u){r:Bool×Cov}(hm:FP c y u=some r) :
    Fn prog 162 [(.pointer (some ⟨k,0,none⟩)),m,o] w λv w'=>∃d,St (eT l) w O w' d/\Ob l w' d (.pointer (some ⟨k,0,none⟩)) r.2/\Vb w' (Fr 0 w' d) v r.1:=by
 obtain⟨A,hE,s0,m1⟩:=ZB (w:=w) (O:=O) t.2;have B:=Ob.leave t s0 m1 (j:=2) (by decide);have b:Bm w A w A:=Bm.refl;replace n:=n.mono s0;obtain⟨P,c5,rfl⟩:=n.form;replace p:=p.mono s0;obtain⟨Q,c7,rfl⟩:=p.form;refine AC func162 rfl ntmps162 ?_;unfold FP at hm;refine zz ?_;refine Df (·=w) [(0,true),(1,true),(2,true),(3,true),(4,true),(5,true),(6,true),(7,true),(8,true)] rfl rfl ?_;refine AI rfl rfl (CT rfl rfl ?_);obtain⟨O8,p2,S9,n1,c0,g0,o1,c1⟩:=Cov.opn B 2 (by decide);obtain⟨q2,r2,rfl⟩:=g0.form;refine AL rfl rfl (Dw (hc:=Blk.cell (i:=1) (c0.1) rfl) rfl rfl (AI rfl rfl (CT rfl rfl (AL rfl rfl (Dw (hc:=Blk.cell (i:=2) (c0.1) rfl) rfl rfl (Yn rfl rfl rfl rfl (λC=>?_) λC=>?_))))))
 ·replace hm:=ip hm C;refine zz ?_;refine AO c0 rfl rfl rfl (Bi) (allOne) λs2 G c0=>?_;refine zz ?_;replace g0:=g0.st G;obtain⟨t2,p1,q1,r1,s1⟩:=Cov.shut (x:=(⟨c.vars,c.used,c.steps,true⟩:Cov)) (l0:=2) (by decide) c0 g0 o1 c1;obtain rfl:=sm hm;replace b:=((b.st S9).st G).st p1;obtain⟨d,hS',hz,hl⟩:=hE.leave (λq=>if q=2 then l else 0) rfl b;exact YW rfl (AD rfl) ⟨d,hS',(Ob.leave s1 hz (hl 2 (by decide) (by decide)) t.2),vBool⟩
 replace hm:=im hm C;refine zz ?_;refine AF (hc:=Blk.cell (i:=1) (c0.1) rfl) rfl ?_;obtain⟨H,f1,hm⟩:=bs hm;have R:=(Bx f1);refine Fw (he:=f1) rfl rfl (EQ rfl (AN rfl ?_));refine AO c0 rfl rfl rfl (Bi) (allOne) λu2 I c0=>?_;refine zz ?_;have D:=Bo p.len;have v2:=rngNat D;replace g0:=g0.st I;obtain⟨S,v1,w1,y1,d0⟩:=Cov.shut (x:=(⟨c.vars,H,c.steps,c.full⟩:Cov)) (l0:=2) (by decide) c0 g0 R c1;obtain⟨h1,v0,hm⟩:=bs hm;replace b:=((b.st S9).st I).st v1;refine Cp (X:=(Option Addr×Nat)) (u.length) v0 rfl D (λs e=>[(0,(.pointer (some ⟨k,0,none⟩))),(1,(.slice P y.length c5)),(7,(.slice e.1 s.length e.2)),(35,(.slice Q u.length c7))]) (λs e w'=>∃d:Lab,Bm w A w' d/\Ob 2 w' d (.pointer (some ⟨k,0,none⟩)) (⟨c.vars,H,c.steps,c.full⟩:Cov)/\Rw 3 w' d 23 (.slice e.1 s.length e.2) s) (none,0) ⟨S,b,d0,(Rw.nil 3 (by decide))⟩ A9 (λ_ _=>rfl) ?_ ?_
 ·rintro w2 T s e U b2 J ⟨K,b,d0,r0⟩ a0 h0 w0;have L:=Y2 J D;refine Ak (Am ?_);obtain⟨y2,z2,c2,y0,z0,a1,a3,rfl,b0⟩:=(p.z b).elem' J;replace b0:=Vb.of_slice b0;obtain⟨b3,c3,rfl⟩:=b0.form;refine Bn (hA:=y0) (hj:=rfl) (hlt:=z0) rfl rfl (AF (hc:=cat0 a1) rfl (Ay rfl (o_z (Ak (Ak (Am (Aw rfl (Aw rfl ?_))))))));obtain⟨V,e2,a0⟩:=bs a0;refine BO (O:=K) (HY (λ_ h=>h) (Vb.mono (F:=Fr 0 U K) (n.z b) Fr.lt) (vMo b0) e2) rfl λd3 W M f Y=>?_;obtain rfl:=Y.bool;cases V
  case false =>
   replace a0:=iF a0;refine zz ?_;obtain⟨Z,i2,a0⟩:=bs a0;replace b:=b.st f;replace b0:=b0.st f;refine BO (O:=M) (MT (λ_ h=>h) (Vb.mono (F:=Fr 0 W M) (n.z b) Fr.lt) (vMo b0) i2) rfl λe3 f3 g3 g j2=>?_;obtain rfl:=j2.bool;cases Z
   case false =>
    replace a0:=iF a0;refine zz ?_;obtain⟨h3,E,a0⟩:=bs a0;obtain⟨E,k2,l2⟩:=BH E;replace r0:=(r0.st f).st g;replace b0:=b0.st g;refine EC rfl (a:=T) r0 b0 (λ_=>rfl) rfl k2 l2 ⟨rfl,rfl⟩ λi3 m2 n2 j3 k3 N l1=>?_;rw[<- E]at l1 ⊢;refine zz ?_;obtain rfl:=sm a0;exact show Exists _ from⟨_,(m2,n2),rfl,A9,_,(b.st g).st N,((d0.st f).st g).st N,l1⟩
   replace a0:=iT a0;refine zz ?_;obtain rfl:=sm a0;exact show Exists _ from⟨_,(e.1,e.2),rfl,A9,_,b.st g,(d0.st f).st g,(r0.st f).st g⟩
  replace a0:=iT a0;refine zz ?_;obtain rfl:=sm a0;obtain rfl:=h0 _ rfl;obtain rfl:=sm (Ca hm);replace b:=b.st f;obtain⟨d,hS',hz,hl⟩:=hE.leave (λq=>if q=2 then l else 0) rfl b;replace d0:=d0.st f;exact YW rfl (AD rfl) ⟨d,hS',(Ob.leave d0 hz (hl 2 (by decide) (by decide)) t.2),vBool⟩
 rintro l3 m3 ⟨n3,o3,rfl,o2,p3,b,d0,r0⟩;replace hm:=AS hm;exact nomatch hm
noncomputable def Gs(b:List Fct)(c:List Int):Option Bool :=
  bnd (bnd (Fg c b) λa=>if a=true then some false else some true:Option Bool) λd=>some d
theorem Ml{w:World}{A:Nat->Prop}(hA:∀k,A k->k<w.heap.size){d:Value}{j:List Fct}(c0:Vb w A d j){a:Nat}{b:List Value}{l:List Int}(e:Blk w a 22 b)(f:A a)(c:Rp.R w A b l){r:Bool}(hm:Gs j l=some r) :
    Fn prog 161 [d,(.pointer (some ⟨a,0,none⟩))] w λv w'=>Ext w w'/\Vb w' (upA A w w') v r:=by
 obtain⟨O,hB,d0⟩:=enter hA;have g:Lc 0 w O a 22 b:=⟨e,(d0 a f).2⟩;replace c:=Rp.mono c d0;obtain⟨u,rfl,h3⟩:=c;replace h3:=Vb.of_slice h3;obtain⟨x,c5,rfl⟩:=h3.form;obtain⟨y,c7,rfl⟩:=c0.form;refine AC func161 rfl ntmps161 ?_;unfold Gs at hm;refine Ak (Am (Ay rfl (o_z (Ak ?_))));obtain⟨n,a0,hm⟩:=bs hm;refine AZ (λo w'=>∃(p:Unit) (q:Lab),X5 o [(3,(.bool n))]/\Bs w A w' q) ?_ ?_
 ·refine Am (AF (hc:=Blk.cell (i:=0) (g.1) rfl) rfl (Aw rfl ?_));obtain⟨s,h0,a0⟩:=bs a0;refine BO (O:=O) (Ji (λ_ h=>h) (vMo h3) (Vb.mono (F:=Fr 0 w O) (c0.zs hA hB) Fr.lt) h0) rfl λz B l0 m t=>?_;obtain rfl:=t.bool;cases s
  case false =>
   replace a0:=iF a0;refine zz ?_;obtain rfl:=sm a0;exact⟨(),_,Ad,hB.st m⟩
  replace a0:=iT a0;refine zz ?_;obtain rfl:=sm a0;exact⟨(),_,Ad,hB.st m⟩
 rintro C D ⟨p,o0,b0,hB⟩;refine AM _ b0 ?_;refine AV ?_;obtain rfl:=sm hm;exact YW rfl (AD rfl) ⟨hB.ext,vBool⟩
noncomputable def BW(e:List (List Fct))(f:List Int):Option Int :=
  bnd (rng (ρ:=Int) (λ(b:Nat)(c:List Fct)(g:Unit)=>bnd (Gs c f) λd=>if d=true then some (.ret (b:Int))else some (.next ())) e 0 ()) λa=>fin a λ(h:Unit)=>some (-1)
theorem Ft{w:World}{A:Nat->Prop}(hA:∀k,A k->k<w.heap.size){f:Value}{l:List (List Fct)}(n:Vb w A f l){b:Nat}{c:List Value}{e:List Int}(g:Blk w b 22 c)(i:A b)(d:Rp.R w A c e){r:Int}(hm:BW l e=some r) :
    Fn prog 138 [f,(.func (.func 161) #[] #[(.pointer (some ⟨b,0,none⟩))])] w λv w'=>Ext w w'/\Vb w' (upA A w w') v r:=by
 obtain⟨O,hB,n0⟩:=enter hA;have a:Lc 0 w O b 22 c:=⟨g,(n0 b i).2⟩;replace d:=Rp.mono d n0;obtain⟨C,rfl,h4⟩:=d;replace h4:=Vb.of_slice h4;obtain⟨q,c6,rfl⟩:=h4.form;obtain⟨B,c8,rfl⟩:=n.form;refine AC func138 rfl ntmps138 ?_;unfold BW at hm;refine zz ?_;have o:=Bo n.len;have D:=rngNat o;obtain⟨E,h0,hm⟩:=bs hm;refine Cp (X:=Unit) (l.length) h0 rfl o (λs t=>[(0,(.slice B l.length c8)),(1,(.func (.func 161) #[] #[(.pointer (some ⟨b,0,none⟩))]))]) (λs t w'=>∃p:Lab,Bs w A w' p/\Lc 0 w' p b 22 [(.slice q e.length c6)]/\Vb w' (Fr 0 w' p) (.slice q e.length c6) e) () ⟨O,hB,a,h4⟩ A5 (λ_ _=>rfl) ?_ ?_
 ·rintro G H s t u I c0 ⟨y,hB,a,h4⟩ a0 b0 i0;have j:=Y2 c0 o;refine zz ?_;obtain⟨J,d1,v0,j0,k0,l0,e1,rfl,d0⟩:=(n.zs hA hB).elem' c0;replace d0:=Vb.of_slice d0;obtain⟨K,g1,rfl⟩:=d0.form;refine Bn (hA:=j0) (hj:=rfl) (hlt:=k0) rfl rfl (AF (hc:=cat0 l0) rfl ?_);obtain⟨z,w0,a0⟩:=bs a0;refine Oz (O:=y) (A:=All u) (R:=λw' F v=>Vb w' F v z) (Ml (λ_ h=>h) (vMo d0) a.1 a.1.lt (Rp.mono (F:=Fr 0 u y) (x:=e) (Vb.cells1 h4) Fr.lt) w0) rfl rfl rfl rfl λL M N m z0=>?_;obtain rfl:=z0.bool;cases z
  case false =>
   replace a0:=iF a0;refine zz ?_;obtain rfl:=sm a0;exact show Exists _ from⟨_,(),rfl,A5,_,hB.st m,a.st m,h4.st m⟩
  replace a0:=iT a0;refine zz ?_;obtain rfl:=sm a0;obtain rfl:=b0 _ rfl;obtain rfl:=sm (Ca hm);replace hB:=hB.st m;exact YW rfl (AD rfl) ⟨hB.ext,(vInt j)⟩
 rintro P l1 ⟨Q,n1,rfl,m0,o1,hB,a,h4⟩;replace hm:=AS hm;refine AM _ m0 ?_;refine zz ?_;obtain rfl:=sm hm;exact YW rfl (AD rfl) ⟨hB.ext,(vInt (X9 (-1)))⟩
noncomputable def Bz(b:List (List Fct))(c:List Int):Option Bool :=
  bnd (bnd (BW b c) λa=>if 0<=a then(some true)else(some false):Option Bool) λd=>some d
theorem Fd{w:World}{A:Nat->Prop}(hA:∀k,A k->k<w.heap.size){e:Value}{l:List (List Fct)}(m:Vb w A e l){a:Nat}{b:List Value}{i:List Int}(f:Blk w a 22 b)(g:A a)(c:Rp.R w A b i){r:Bool}(hm:Bz l i=some r) :
    Fn prog 98 [e,(.func (.func 161) #[] #[(.pointer (some ⟨a,0,none⟩))])] w λv w'=>Ext w w'/\Vb w' (upA A w w') v r:=by
 obtain⟨O,hB,e0⟩:=enter hA;have d:Lc 0 w O a 22 b:=⟨f,(e0 a g).2⟩;replace c:=Rp.mono c e0;obtain⟨u,rfl,h4⟩:=c;replace h4:=Vb.of_slice h4;obtain⟨y,c6,rfl⟩:=h4.form;obtain⟨z,c8,rfl⟩:=m.form;refine AC func98 rfl ntmps98 ?_;unfold Bz at hm;refine Ak (Am (Ay rfl (o_z (Ak ?_))));obtain⟨o,a0,hm⟩:=bs hm;refine AZ (λp w'=>∃(q:Unit) (s:Lab),X5 p [(4,(.bool o))]/\Bs w A w' s) ?_ ?_
 ·refine zz ?_;obtain⟨B,h0,a0⟩:=bs a0;refine BO (O:=O) (Ft (λ_ h=>h) (Vb.mono (F:=Fr 0 w O) (m.zs hA hB) Fr.lt) d.1 d.1.lt (Rp.mono (F:=Fr 0 w O) (x:=i) (Vb.cells1 h4) Fr.lt) h0) rfl λC l0 D n t=>?_;obtain⟨rfl,n0⟩:=t.int;refine EM rfl rfl (λj=>?_) λj=>?_
  ·replace a0:=ip a0 j;refine zz ?_;obtain rfl:=sm a0;exact⟨(),_,Ad,hB.st n⟩
  replace a0:=im a0 j;refine zz ?_;obtain rfl:=sm a0;exact⟨(),_,Ad,hB.st n⟩
 rintro E G ⟨q,q0,c0,hB⟩;refine AM _ c0 ?_;refine AV ?_;obtain rfl:=sm hm;exact YW rfl (AD rfl) ⟨hB.ext,vBool⟩
noncomputable def Hb(b:List Int)(f:List Fct)(g:List (List Fct))(h:Int):Option (Bool×Int×Err) :=
  bnd (bnd (Fg b f) λc=>if c=true then bnd (Bz g b) λd=>if d=true then some true else some false else some true:Option Bool) λe=>if e=true then(some (false,0,(⟨2⟩:Err)))else(bnd (FP (⟨b,0,h,false⟩:Cov) f g) λa=>if a.2.full=true then(some (false,0,(⟨10⟩:Err)))else(some (a.1,a.2.used,(⟨0⟩:Err))))
theorem NN{w:World}{A:Nat->Prop}(hA:∀k,A k->k<w.heap.size){b:Value}{c:List Int}(c0:Vb w A b c){d:Value}{l:List Fct}(m:Vb w A d l){e:Value}{n:List (List Fct)}(o:Vb w A e n){f:Int}(p:X2 f){r:Bool×Int×Err}(hm:Hb c l n f=some r) :
    Fn prog 129 [b,d,e,(.int .i64 f)] w λv w'=>Ext w w'/\T3 w' (upA A w w') v r:=by
 obtain⟨O,hB,u1⟩:=enter hA;obtain⟨G,c6,rfl⟩:=c0.form;obtain⟨H,c8,rfl⟩:=m.form;obtain⟨I,u0,rfl⟩:=o.form;refine AC func129 rfl ntmps129 ?_;unfold Hb at hm;refine Ak (Am (EB 2 O rfl λy z q B a=>?_));refine Ay rfl (Ay rfl (Ay rfl (o_z (Ak (Ak ?_)))));obtain⟨J,a0,hm⟩:=bs hm;refine AZ (λK w'=>∃(L:Unit) (C:Lab),X5 K [(1,(.slice H l.length c8)),(2,(.slice I n.length u0)),(3,(.int .i64 f)),(4,(.pointer (some ⟨y,0,none⟩))),(21,(.bool J))]/\Bs w A w' C/\Lc 2 w' C y 22 [(.slice G c.length c6)]) ?_ ?_
 ·refine Am (AF (hc:=Blk.cell (i:=0) (a.1) rfl) rfl (Aw rfl ?_));obtain⟨M,z0,a0⟩:=bs a0;replace hB:=hB.st B;refine BO (O:=q) (Ji (λ_ h=>h) (Vb.mono (F:=Fr 0 z q) (c0.zs hA hB) Fr.lt) (Vb.mono (F:=Fr 0 z q) (m.zs hA hB) Fr.lt) z0) rfl λX D s g N=>?_;obtain rfl:=N.bool;cases M
  case false =>
   replace a0:=iF a0;refine zz ?_;obtain rfl:=sm a0;exact⟨(),_,A7,hB.st g,a.st g⟩
  replace a0:=iT a0;refine zz ?_;refine Ro rfl rfl rfl (AA rfl rfl ?_);obtain⟨P,c1,a0⟩:=bs a0;replace hB:=hB.st g;replace a:=a.st g;refine BO (O:=s) (Fd (λ_ h=>h) (Vb.mono (F:=Fr 0 D s) (o.zs hA hB) Fr.lt) a.1 a.1.lt (Rp.mono (F:=Fr 0 D s) (x:=c) (Vb.cells1 (c0.zs hA hB)) Fr.lt) c1) rfl λY Z z1 j Q=>?_;obtain rfl:=Q.bool;cases P
  case false =>
   replace a0:=iF a0;refine zz ?_;obtain rfl:=sm a0;exact⟨(),_,A7,hB.st j,a.st j⟩
  replace a0:=iT a0;refine zz ?_;obtain rfl:=sm a0;exact⟨(),_,A7,hB.st j,a.st j⟩
 replace hB:=hB.st B;rintro a2 b2 ⟨L,e1,j0,hB,a⟩;refine AM _ j0 ?_;refine Bg rfl (λt=>?_) (λt=>?_)
 ·replace hm:=ip hm t;refine Ak (Am (EE rfl (Ay rfl (Ay rfl (Ay rfl (o_z (AV ?_)))))));obtain rfl:=sm hm;exact Z6 rfl (AD rfl) (AD rfl) (AD rfl) ⟨hB.ext,_,_,_,rfl,vBool,(vInt (X9 0)),(vErr (by decide))⟩
 replace hm:=im' hm t;refine Bf (Ak (Am (AF (hc:=Blk.cell (i:=0) (a.1) rfl) rfl (Aw rfl (ES rfl rfl ?_)))));refine EB 3 e1 rfl λc2 d2 e2 R S=>?_;refine zz ?_;replace hB:=hB.st R;obtain⟨T,i1,j1,k1,l1⟩:=Cov.shut (x:=(⟨c,0,f,false⟩:Cov)) (l0:=3) (by decide) S (c0.zs hA hB) (X9 0) p;obtain⟨f2,m1,hm⟩:=bs hm;replace hB:=hB.st i1;refine Cj (O:=T) (Lo l1 (m.zs hA hB) (o.zs hA hB) m1) rfl λg2 U h2 E V=>?_;obtain⟨W,q1⟩:=V;obtain rfl:=q1.bool;refine zz ?_;obtain⟨i2,j2,s0,r1,t0,s1,t1,k2⟩:=Cov.opn W 3 (by decide);obtain⟨l2,m2,rfl⟩:=s1.form;refine zz ?_;refine AF (hc:=Blk.cell (i:=3) (t0.1) rfl) rfl (o_z (Bg rfl (λu=>?_) (λu=>?_)))
 ·replace hm:=ip hm u;refine Ak (Am (EE rfl (Ay rfl (Ay rfl (Ay rfl (o_z (AV ?_)))))));obtain rfl:=sm hm;replace hB:=(hB.st E).st s0;exact Z6 rfl (AD rfl) (AD rfl) (AD rfl) ⟨hB.ext,_,_,_,rfl,vBool,(vInt (X9 0)),(vErr (by decide))⟩
 replace hm:=im' hm u;refine Bf (Ak (Df (·=U) [(0,true),(1,true),(2,true),(3,true),(4,true),(5,true),(6,true),(7,true)] rfl rfl ?_));refine zz ?_;refine CT rfl rfl (AL rfl rfl (Dw (hc:=Blk.cell (i:=1) (t0.1) rfl) rfl rfl (Eu rfl rfl (Eu rfl rfl (Eu rfl rfl (h_z (AV ?_)))))));obtain rfl:=sm hm;replace hB:=(hB.st E).st s0;exact Z6 rfl (AD rfl) (AD rfl) (AD rfl) ⟨hB.ext,_,_,_,rfl,vBool,(vInt t1),(vErr (X9 0))⟩
structure Chk where
  t:Tsk
  c:Crt
  steps:Int
instance:Ow Chk where
  R w F i v x:=∃(g:Nat) (j:Lab) (c0 a b d e:Value),v=.pointer (some ⟨g,0,none⟩)/\Blk w g 183 [c0,a,b,d,.int .i64 x.c.bound,e,.int .i64 x.steps]/\i g/\j g=0/\Vb w F c0 x.t.vars/\Vb w F a x.t.init/\Vb w F b x.t.goal/\Vb w F d x.t.ops/\X2 x.c.bound/\Vb w F e x.c.nogoods/\X2 x.steps
  agree:=by rintro w w' F i v x ⟨g,j,c0,a,b,d,e,rfl,hb,hM,hL,h0,h1,h2,h3,h4,h5,h6⟩ a1 a2;exact⟨g,j,c0,a,b,d,e,rfl,hb.keep (a2 g hM),hM,hL,h0.agree a1,h1.agree a1,h2.agree a1,h3.agree a1,h4,h5.agree a1,h6⟩
  mono:=by rintro w F i f h v x ⟨g,j,c0,a,b,d,e,rfl,hb,hM,hL,h0,h1,h2,h3,h4,h5,h6⟩ a1 a2 a3;exact⟨g,j,c0,a,b,d,e,rfl,hb,a2 g hM,hL,h0.mono a1,h1.mono a1,h2.mono a1,h3.mono a1,h4,h5.mono a1,h6⟩
theorem Chk.opn{i:Nat}{w:World}{O:Lab}{p:Nat}{x:Chk}(h:Ob i w O (.pointer (some ⟨p,0,none⟩)) x)(l0:Nat)(hl:l0≠0):∃(a:Lab) (c0 b d e f:Value),St (eT i) w O w a/\(∀k,Fr i w O k->∃q,q∈[l0]/\Fr q w a k)/\Lc l0 w a p 183 [c0,b,d,e,.int .i64 x.c.bound,f,.int .i64 x.steps]/\Vb w (Fr 0 w a) c0 x.t.vars/\Vb w (Fr 0 w a) b x.t.init/\Vb w (Fr 0 w a) d x.t.goal/\Vb w (Fr 0 w a) e x.t.ops/\X2 x.c.bound/\Vb w (Fr 0 w a) f x.c.nogoods/\X2 x.steps:=by
  obtain⟨⟨g,L,c0,b,d,e,f,hv,hb,hM,hL,h0,h1,h2,h3,h4,h5,h6⟩,hi⟩:=h;obtain rfl:p=g:=(by injection hv with hv;injection hv with hv;injection hv);exact⟨part O i L [l0],c0,b,d,e,f,Jx hi,IL (by simp),⟨hb,(Eg (j:=0) rfl p ⟨hM,hL⟩).2⟩,h0.mono (Cq hi),h1.mono (Cq hi),h2.mono (Cq hi),h3.mono (Cq hi),h4,h5.mono (Cq hi),h6⟩
theorem Chk.shut{w:World}{O:Lab}{p:Nat}{x:Chk}{l0:Nat}{c0 b d f g:Value}(hd:¬0∈[l0]/\[l0].idxOf l0=0)(hb:Lc l0 w O p 183 [c0,b,d,f,.int .i64 x.c.bound,g,.int .i64 x.steps])(l:Vb w (Fr 0 w O) c0 x.t.vars)(m:Vb w (Fr 0 w O) b x.t.init)(n:Vb w (Fr 0 w O) d x.t.goal)(o:Vb w (Fr 0 w O) f x.t.ops)(r:X2 x.c.bound)(s:Vb w (Fr 0 w O) g x.c.nogoods)(u:X2 x.steps):∃a,St (·∈[l0]) w O w a/\(∀k,Fr 0 w O k->Fr 0 w a k)/\(∀q,q∈[l0]->∀k,Fr q w O k->Fr l0 w a k)/\Ob l0 w a (.pointer (some ⟨p,0,none⟩)) x:=by
  have h:l0≠0:=λe=>hd.1 (by simp[e]);have j:=DB (i:=l0) hd.2 (by simp) p ⟨hb.1.lt,hb.2⟩;exact⟨ZU O l0 [l0],IM,BL hd.1,HU,⟨p,λk=>[l0].idxOf (O k),c0,b,d,f,g,rfl,hb.1,j.1,j.2,l.mono (BL hd.1),m.mono (BL hd.1),n.mono (BL hd.1),o.mono (BL hd.1),r,s.mono (BL hd.1),u⟩,h⟩
noncomputable def DD(g:Chk)(h:Int):Option (List (List Fct)) :=
  bnd (rng (ρ:=(List (List Fct))) (λ(i:Nat)(b:Ngd)(d:(List (List Fct)))=>if b.dist<=h then(bnd (Y0 24 d [b.facts]) λe=>some (.next e))else(some (.next d))) g.c.nogoods 0 ([]:List (List Fct))) λa=>fin a λ(f:(List (List Fct)))=>some f
theorem JD{w:World}{O:Lab}{p j:Nat}{b:Chk}{cs:List Value}{f:Option Addr}{g:Nat}(z:Lc j w O p 183 cs)(B:cs[5]?=some (.slice f b.c.nogoods.length g))(C:Vb w (Fr 0 w O) (.slice f b.c.nogoods.length g) b.c.nogoods){h:Int}(D:X2 h){r:List (List Fct)}(hm:DD b h=some r) :
    Fn prog 130 [.pointer (some ⟨p,0,none⟩),.int .i64 h] w λv w'=>Ext w w'/\Vb w' (upA (Fr 0 w O) w w') v r:=by
 obtain⟨E,hB,b1⟩:=enter (w:=w) (A:=Fr 0 w O) Fr.lt;have d:=C.mono b1;refine AC func130 rfl ntmps130 ?_;unfold DD at hm;refine zz ?_;refine AF (hc:=Blk.cell (i:=5) z.1 B) rfl (AT rfl ?_);have m:=Bo d.len;have K:=rngNat m;refine zz ?_;obtain⟨z0,p0,hm⟩:=bs hm;refine Cp (X:=(Option Addr×Nat)) (b.c.nogoods.length) p0 rfl m (λe c0=>[(1,(.int .i64 h)),(5,(.slice c0.1 e.length c0.2)),(12,(.slice f b.c.nogoods.length g))]) (λe c0 w'=>∃n:Lab,Bs w (Fr 0 w O) w' n/\Rw 4 w' n 23 (.slice c0.1 e.length c0.2) e/\Vb w' (Fr 0 w' n) (.slice f b.c.nogoods.length g) b.c.nogoods) (none,0) ⟨E,hB,(Rw.nil 4 (by decide)),d⟩ A7 (λ_ _=>rfl) ?_ ?_
 ·rintro L F e c0 M N t ⟨G,hB,d0,d⟩ a0 q0 r0;have u:=Y2 t m;refine Ak (Am ?_);obtain⟨P,q1,f1,s0,t0,u0,r1,rfl,k0,s1⟩:=d.elem' t;obtain⟨Q,u1,rfl⟩:=k0.form;refine Bn (hA:=s0) (hj:=rfl) (hlt:=t0) rfl rfl (Bv (hl:=rfl) (hc:=u0) rfl ?_);refine BF 3 G λR S T l0 k=>?_;refine AO k rfl rfl rfl (Bi) (allOne) λU l k=>?_;refine zz ?_;refine AF (hc:=Blk.cell (i:=1) (k.1) rfl) rfl (Aw rfl (Pf rfl rfl rfl (λo=>?_) λo=>?_))
  ·replace a0:=ip a0 o;refine zz ?_;refine AF (hc:=Blk.cell (i:=0) (k.1) rfl) rfl ?_;obtain⟨V,q,a0⟩:=bs a0;obtain⟨q,g1,h1⟩:=BH q;replace d0:=(d0.st l0).st l;replace k0:=(k0.st l0).st l;refine EC rfl (a:=F.facts) d0 k0 (λ_=>rfl) rfl g1 h1 ⟨rfl,rfl⟩ λW H I Y Z J x=>?_;rw[<- q]at x ⊢;refine zz ?_;obtain rfl:=sm a0;have y:=(l0.an l).an J;exact show Exists _ from⟨_,(H,I),rfl,A7,_,hB.st y,x,d.st y⟩
  replace a0:=im a0 o;refine zz ?_;obtain rfl:=sm a0;have s:=l0.an l;exact show Exists _ from⟨_,(c0.1,c0.2),rfl,A7,_,hB.st s,d0.st s,d.st s⟩
 rintro e2 f2 ⟨g2,h2,rfl,y0,i2,hB,d0,d⟩;replace hm:=AS hm;refine AM _ y0 ?_;refine zz ?_;obtain⟨j2,l1,d0⟩:=d0.freeze;obtain rfl:=sm hm;replace hB:=hB.st l1;exact YW rfl (AD rfl) ⟨hB.ext,Vb.mono d0 hB.out⟩
noncomputable def CV(a:Chk)(f:List Fct)(g:Int):Option (Bool×Err×Chk) :=
  bnd (DD a g) λd=>bnd (Hb a.t.vars f d a.steps) λb=>if b.2.2.n≠0 then(some (false,(⟨b.2.2.n⟩:Err),a))else(bnd (X7 (a.steps-b.2.1)) λe=>some (b.1,(⟨0⟩:Err),(⟨(⟨a.t.vars,a.t.init,a.t.goal,a.t.ops⟩:Tsk),(⟨a.c.bound,a.c.nogoods⟩:Crt),e⟩:Chk)))
theorem HO{w:World}{O:Lab}{s k:Nat}{b:Chk}(n:Ob k w O (.pointer (some ⟨s,0,none⟩)) b){l:Value}{G:List Fct}(o:Vb w (Fr 0 w O) l G){u:Int}(y:X2 u){r:Bool×Err×Chk}(hm:CV b G u=some r) :
    Fn prog 85 [(.pointer (some ⟨s,0,none⟩)),l,(.int .i64 u)] w λv w'=>∃e,St (eT k) w O w' e/\∃H I:Value,Ob k w' e (.pointer (some ⟨s,0,none⟩)) r.2.2/\v=.tuple #[H,I]/\Vb w' (Fr 0 w' e) H r.1/\Vb w' (Fr 0 w' e) I r.2.1:=by
 obtain⟨J,hE,q0,z0⟩:=ZB (w:=w) (O:=O) n.2;have B:=Ob.leave n q0 z0 (j:=2) (by decide);have d:Bm w J w J:=Bm.refl;replace o:=o.mono q0;obtain⟨U,c5,rfl⟩:=o.form;refine AC func85 rfl ntmps85 ?_;unfold CV at hm;refine zz ?_;obtain⟨K,s1,t1,u1,w1,y1,S7,z1,a,c0,f0,g0,h0,r0,d0,s0⟩:=Chk.opn B 2 (by decide);obtain⟨V,b2,rfl⟩:=c0.form;obtain⟨W,d2,rfl⟩:=f0.form;obtain⟨X,f2,rfl⟩:=g0.form;obtain⟨Y,h2,rfl⟩:=h0.form;obtain⟨Z,j2,rfl⟩:=d0.form;refine BR [] K ?_;refine AJ (fuel:=9) [] (Bc [0,1,2,3,4,5,6,7,9,10,11,12]) rfl (AI rfl rfl (CT rfl rfl (AL rfl rfl (AL rfl rfl (Bl (hc:=BD a 0 rfl) rfl rfl (AI rfl rfl (AI rfl rfl (AI rfl rfl (AI rfl rfl (CT rfl rfl (AL rfl rfl (Bl (hc:=BD a 6 rfl) rfl rfl (AB (AH (i:=8) rfl ?_))))))))))))));obtain⟨k2,a1,hm⟩:=bs hm;refine LH (O:=K) (JD a rfl d0 y a1) rfl rfl λl2 L M g N=>?_;obtain⟨m2,n2,rfl⟩:=N.form;have C:=lZ g;refine BE [] C (AH (i:=13) rfl ?_);obtain⟨P,c1,hm⟩:=bs hm;replace d:=(d.st S7).st g;replace c0:=c0.st g;refine LI (O:=M) (A:=All L) (R:=λw' F v=>T3 w' F v P) (NN (λ_ h=>h) (vMo c0) (Vb.mono (F:=Fr 0 L M) (o.z d) Fr.lt) (vMo N) s0 c1) rfl rfl λo2 p2 q2 f Q=>?_;obtain⟨r2,s2,t2,rfl,e1,f1,g1⟩:=Q;obtain rfl:=e1.bool;obtain⟨rfl,u2⟩:=f1.int;obtain⟨rfl,h1⟩:=g1.err;have C:=lZ f;refine BE [] C ?_;refine AJ (fuel:=0) [] (Bc (Db 14 7)) rfl (AI rfl rfl (HJ rfl rfl rfl (HJ rfl rfl rfl (HJ rfl rfl rfl (Eu rfl rfl (Eu rfl rfl (Eu rfl rfl (AB (Bh (Ak (Ak (Am (Aw rfl (CU rfl (λD=>?_) λD=>?_))))))))))))))
 ·replace hm:=ip hm D;refine zz ?_;have m:=g.an f;replace a:=a.st m;replace c0:=c0.st f;replace f0:=f0.st m;replace g0:=g0.st m;replace h0:=h0.st m;replace d0:=d0.st m;obtain⟨v2,i1,j1,k1,l1⟩:=Chk.shut (x:=b) (l0:=2) (by decide) a c0 f0 g0 h0 r0 d0 s0;obtain rfl:=sm hm;replace d:=(d.st f).st i1;obtain⟨e,hS',hz,hl⟩:=hE.leave (λq=>if q=2 then k else 0) rfl d;exact Y7 rfl (AD rfl) (AD rfl) ⟨e,hS',_,_,(Ob.leave l1 hz (hl 2 (by decide) (by decide)) n.2),rfl,vBool,(vErr h1)⟩
 replace hm:=im hm D;refine zz ?_;replace a:=(a.st g).st f;refine AF (hc:=Blk.cell (i:=6) (a.1) rfl) rfl (Aw rfl ?_);obtain⟨S,y0,hm⟩:=bs hm;have T:=(Bx y0);refine Gb (he:=y0) rfl rfl (EQ rfl (AN rfl ?_));refine AO a rfl rfl rfl (Bi) (allOne) λw2 E a=>?_;refine zz ?_;have p:=(g.an f).an E;replace c0:=(c0.st f).st E;replace f0:=f0.st p;replace g0:=g0.st p;replace h0:=h0.st p;replace d0:=d0.st p;obtain⟨y2,o1,p1,q1,r1⟩:=Chk.shut (x:=(⟨(⟨b.t.vars,b.t.init,b.t.goal,b.t.ops⟩:Tsk),(⟨b.c.bound,b.c.nogoods⟩:Crt),S⟩:Chk)) (l0:=2) (by decide) a c0 f0 g0 h0 r0 d0 T;obtain rfl:=sm hm;replace d:=((d.st f).st E).st o1;obtain⟨e,hS',hz,hl⟩:=hE.leave (λq=>if q=2 then k else 0) rfl d;exact Y7 rfl (AD rfl) (AD rfl) ⟨e,hS',_,_,(Ob.leave r1 hz (hl 2 (by decide) (by decide)) n.2),rfl,vBool,(vErr (X9 0))⟩
noncomputable def EZ(c:Ngd)(d:List Fct):Option Bool :=
  bnd (bnd (FV d c.facts) λa=>if a=true then some true else some false:Option Bool) λb=>some b
theorem LL{w:World}{A:Nat->Prop}(hA:∀k,A k->k<w.heap.size){e:Value}{l:Ngd}(p:Vb w A e l){a:Nat}{b:List Value}{m:List Fct}(f:Blk w a 23 b)(g:A a)(c:Rp.R w A b m){r:Bool}(hm:EZ l m=some r) :
    Fn prog 77 [e,(.pointer (some ⟨a,0,none⟩))] w λv w'=>Ext w w'/\Vb w' (upA A w w') v r:=by
 obtain⟨O,hB,d0⟩:=enter hA;have d:Lc 0 w O a 23 b:=⟨f,(d0 a g).2⟩;replace c:=Rp.mono c d0;obtain⟨B,rfl,h3⟩:=c;replace h3:=Vb.of_slice h3;obtain⟨C,c5,rfl⟩:=h3.form;obtain⟨D,rfl,v7,rfl,h8,p0⟩:=id p;obtain⟨E,q0,rfl⟩:=h8.form;refine AC func77 rfl ntmps77 ?_;unfold EZ at hm;refine Ak (Am (EB 2 O rfl λG q n j s=>?_));refine Ay rfl (o_z (Ak ?_));obtain⟨t,a0,hm⟩:=bs hm;refine AZ (λu w'=>∃(x:Unit) (y:Lab),X5 u [(3,(.bool t))]/\Bs w A w' y) ?_ ?_
 ·refine Am ?_;replace d:=d.st j;refine AF (hc:=Blk.cell (i:=0) (d.1) rfl) rfl (AN rfl (AF (hc:=Blk.cell (i:=0) (s.1) rfl) rfl ?_));obtain⟨l0,m0,a0⟩:=bs a0;replace hB:=hB.st j;replace h3:=h3.st j;refine BO (O:=n) (MS (λ_ h=>h) (vMo h3) (Vb.mono (F:=Fr 0 q n) (h8.zs hA hB) Fr.lt) m0) rfl λH I J o z=>?_;obtain rfl:=z.bool;cases l0
  case false =>
   replace a0:=iF a0;refine zz ?_;obtain rfl:=sm a0;exact⟨(),_,Ad,hB.st o⟩
  replace a0:=iT a0;refine zz ?_;obtain rfl:=sm a0;exact⟨(),_,Ad,hB.st o⟩
 replace hB:=hB.st j;rintro K L ⟨x,z0,c0,hB⟩;refine AM _ c0 ?_;refine AV ?_;obtain rfl:=sm hm;exact YW rfl (AD rfl) ⟨hB.ext,vBool⟩
noncomputable def BU(e:List Ngd)(f:List Fct):Option Int :=
  bnd (rng (ρ:=Int) (λ(b:Nat)(c:Ngd)(g:Unit)=>bnd (EZ c f) λd=>if d=true then some (.ret (b:Int))else some (.next ())) e 0 ()) λa=>fin a λ(h:Unit)=>some (-1)
theorem Fc{w:World}{A:Nat->Prop}(hA:∀k,A k->k<w.heap.size){f:Value}{l:List Ngd}(n:Vb w A f l){b:Nat}{c:List Value}{e:List Fct}(g:Blk w b 23 c)(i:A b)(d:Rp.R w A c e){r:Int}(hm:BU l e=some r) :
    Fn prog 119 [f,(.func (.func 77) #[] #[(.pointer (some ⟨b,0,none⟩))])] w λv w'=>Ext w w'/\Vb w' (upA A w w') v r:=by
 obtain⟨O,hB,p0⟩:=enter hA;have a:Lc 0 w O b 23 c:=⟨g,(p0 b i).2⟩;replace d:=Rp.mono d p0;obtain⟨G,rfl,h4⟩:=d;replace h4:=Vb.of_slice h4;obtain⟨u,c6,rfl⟩:=h4.form;obtain⟨C,c8,rfl⟩:=n.form;refine AC func119 rfl ntmps119 ?_;unfold BU at hm;refine zz ?_;have o:=Bo n.len;have H:=rngNat o;obtain⟨I,g0,hm⟩:=bs hm;refine Cp (X:=Unit) (l.length) g0 rfl o (λy z=>[(0,(.slice C l.length c8)),(1,(.func (.func 77) #[] #[(.pointer (some ⟨b,0,none⟩))]))]) (λy z w'=>∃p:Lab,Bs w A w' p/\Lc 0 w' p b 23 [(.slice u e.length c6)]/\Vb w' (Fr 0 w' p) (.slice u e.length c6) e) () ⟨O,hB,a,h4⟩ A5 (λ_ _=>rfl) ?_ ?_
 ·rintro J q y z s K c0 ⟨t,hB,a,h4⟩ a0 b0 k0;have j:=Y2 c0 o;refine zz ?_;obtain⟨L,g1,w0,l0,m0,n0,h1,rfl,t0,z0⟩:=(n.zs hA hB).elem' c0;obtain⟨D,b1,rfl⟩:=t0.form;refine Bn (hA:=l0) (hj:=rfl) (hlt:=m0) rfl rfl (Bv (hl:=rfl) (hc:=n0) rfl ?_);obtain⟨B,c1,a0⟩:=bs a0;refine Oz (O:=t) (A:=All s) (R:=λw' F v=>Vb w' F v B) (LL (λ_ h=>h) (Vb.mono (F:=Fr 0 s t) (Vb.ofAgg (cs:=[(.slice D q.facts.length b1),(.int .i64 q.dist)]) (x:=q) rfl ⟨_,rfl,t0,z0⟩) Fr.lt) a.1 a.1.lt (Rp.mono (F:=Fr 0 s t) (x:=e) (Vb.cells1 h4) Fr.lt) c1) rfl rfl rfl rfl λM N P m E=>?_;obtain rfl:=E.bool;cases B
  case false =>
   replace a0:=iF a0;refine zz ?_;obtain rfl:=sm a0;exact show Exists _ from⟨_,(),rfl,A5,_,hB.st m,a.st m,h4.st m⟩
  replace a0:=iT a0;refine zz ?_;obtain rfl:=sm a0;obtain rfl:=b0 _ rfl;obtain rfl:=sm (Ca hm);replace hB:=hB.st m;exact YW rfl (AD rfl) ⟨hB.ext,(vInt j)⟩
 rintro l1 Q ⟨S,o1,rfl,o0,p1,hB,a,h4⟩;replace hm:=AS hm;refine AM _ o0 ?_;refine zz ?_;obtain rfl:=sm hm;exact YW rfl (AD rfl) ⟨hB.ext,(vInt (X9 (-1)))⟩
noncomputable def BP(b:List Ngd)(c:List Fct):Option Bool :=
  bnd (bnd (BU b c) λa=>if 0<=a then(some true)else(some false):Option Bool) λd=>some d
theorem EO{w:World}{A:Nat->Prop}(hA:∀k,A k->k<w.heap.size){e:Value}{l:List Ngd}(m:Vb w A e l){a:Nat}{b:List Value}{i:List Fct}(f:Blk w a 23 b)(g:A a)(c:Rp.R w A b i){r:Bool}(hm:BP l i=some r) :
    Fn prog 76 [e,(.func (.func 77) #[] #[(.pointer (some ⟨a,0,none⟩))])] w λv w'=>Ext w w'/\Vb w' (upA A w w') v r:=by
 obtain⟨O,hB,e0⟩:=enter hA;have d:Lc 0 w O a 23 b:=⟨f,(e0 a g).2⟩;replace c:=Rp.mono c e0;obtain⟨u,rfl,h4⟩:=c;replace h4:=Vb.of_slice h4;obtain⟨y,c6,rfl⟩:=h4.form;obtain⟨z,c8,rfl⟩:=m.form;refine AC func76 rfl ntmps76 ?_;unfold BP at hm;refine Ak (Am (Ay rfl (o_z (Ak ?_))));obtain⟨o,a0,hm⟩:=bs hm;refine AZ (λp w'=>∃(q:Unit) (s:Lab),X5 p [(4,(.bool o))]/\Bs w A w' s) ?_ ?_
 ·refine zz ?_;obtain⟨B,h0,a0⟩:=bs a0;refine BO (O:=O) (Fc (λ_ h=>h) (Vb.mono (F:=Fr 0 w O) (m.zs hA hB) Fr.lt) d.1 d.1.lt (Rp.mono (F:=Fr 0 w O) (x:=i) (Vb.cells1 h4) Fr.lt) h0) rfl λC l0 D n t=>?_;obtain⟨rfl,n0⟩:=t.int;refine EM rfl rfl (λj=>?_) λj=>?_
  ·replace a0:=ip a0 j;refine zz ?_;obtain rfl:=sm a0;exact⟨(),_,Ad,hB.st n⟩
  replace a0:=im a0 j;refine zz ?_;obtain rfl:=sm a0;exact⟨(),_,Ad,hB.st n⟩
 rintro E G ⟨q,q0,c0,hB⟩;refine AM _ c0 ?_;refine AV ?_;obtain rfl:=sm hm;exact YW rfl (AD rfl) ⟨hB.ext,vBool⟩
noncomputable def FW(c:List Fct)(d:List Ngd):Option Bool :=
  bnd (bnd (BP d c) λa=>if a=true then some true else some false:Option Bool) λb=>some b
theorem MU{w:World}{A:Nat->Prop}(hA:∀k,A k->k<w.heap.size){a:Value}{c:List Fct}(c0:Vb w A a c){b:Value}{e:List Ngd}(f:Vb w A b e){r:Bool}(hm:FW c e=some r) :
    Fn prog 43 [a,b] w λv w'=>Ext w w'/\Vb w' (upA A w w') v r:=by
 obtain⟨O,hB,m0⟩:=enter hA;obtain⟨s,c4,rfl⟩:=c0.form;obtain⟨t,c6,rfl⟩:=f.form;refine AC func43 rfl ntmps43 ?_;unfold FW at hm;refine Ak (Am (EB 2 O rfl λu g d i j=>?_));refine Ay rfl (o_z (Ak ?_));obtain⟨m,a0,hm⟩:=bs hm;refine AZ (λn w'=>∃(o:Unit) (p:Lab),X5 n [(4,(.bool m))]/\Bs w A w' p) ?_ ?_
 ·refine zz ?_;refine Ro rfl rfl rfl ?_;obtain⟨q,k0,a0⟩:=bs a0;replace hB:=hB.st i;refine BO (O:=d) (EO (λ_ h=>h) (Vb.mono (F:=Fr 0 g d) (f.zs hA hB) Fr.lt) j.1 j.1.lt (Rp.mono (F:=Fr 0 g d) (x:=c) (Vb.cells1 (c0.zs hA hB)) Fr.lt) k0) rfl λy z B l l0=>?_;obtain rfl:=l0.bool;cases q
  case false =>
   replace a0:=iF a0;refine zz ?_;obtain rfl:=sm a0;exact⟨(),_,Ad,hB.st l⟩
  replace a0:=iT a0;refine zz ?_;obtain rfl:=sm a0;exact⟨(),_,Ad,hB.st l⟩
 replace hB:=hB.st i;rintro C D ⟨o,s0,b0,hB⟩;refine AM _ b0 ?_;refine AV ?_;obtain rfl:=sm hm;exact YW rfl (AD rfl) ⟨hB.ext,vBool⟩
noncomputable def Hc(a:Int):Option Bool :=
  bnd (if(-1)<=a then(if a<=1099511627776 then(some true)else(some false))else(some false):Option Bool) λb=>some b
section
attribute [local irreducible] Vb Lc Rw Ob
theorem NO{w:World}{A:Nat->Prop}(hA:∀k,A k->k<w.heap.size){b:Int}(f:X2 b){r:Bool}(hm:Hc b=some r) :
    Fn prog 40 [(.int .i64 b)] w λv w'=>Ext w w'/\Vb w' (upA A w w') v r:=by
 obtain⟨_,_,_⟩:=BS hA;refine AC func40 rfl ntmps40 ?_;unfold Hc at hm;refine Ak (Am (Ay rfl (o_z (Ak (Cu (X:=Unit) hm [] [] [] [] (λ_ _ c _ t=>(2,.bool c)::t) (λ_ _ _ _ t=>t) ?_ ?_)))))
 ·intro c a;refine zz ?_;refine EM rfl rfl (λd=>?_) λd=>?_
  ·replace a:=ip a d;refine zz ?_;refine Pf rfl rfl rfl (λe=>?_) λe=>?_
   ·replace a:=ip a e;refine zz ?_;obtain rfl:=sm a;exact AP ()
   replace a:=im a e;refine zz ?_;obtain rfl:=sm a;exact AP ()
  replace a:=im a d;refine zz ?_;obtain rfl:=sm a;exact AP ()
 intro c _ _ _ _ hm;intros;refine Ba ?_;refine AV ?_;obtain rfl:=sm hm;exact By
end
end
section
open Go Go.RowKit
attribute [local irreducible] ewp owp hwp hwq hws Ev Evg Fn X6 Y1 YZ YY
attribute [local irreducible] hwx Y6
noncomputable def Jj(c:List Int):Option Int :=
  bnd (rng (ρ:=Int) (λ(e:Nat)(a:Int)(f:Unit)=>if a≠0 then(some (.ret a))else(some (.next ()))) c 0 ()) λb=>fin b λ(d:Unit)=>some 0
section
attribute [local irreducible] Vb Lc Rw Ob
theorem RG{w:World}{A:Nat->Prop}(hA:∀k,A k->k<w.heap.size){b:Value}{c:List Int}(d:Vb w A b c){r:Int}(hm:Jj c=some r) :
    Fn prog 127 [b] w λv w'=>Ext w w'/\Vb w' (upA A w w') v r:=by
 obtain⟨_,_,_⟩:=BS hA;apply Br d;intros;refine AC func127 rfl ntmps127 ?_;unfold Jj at hm;refine zz ?_;refine Cl (X:=Unit) hm [3,6] [] [] [] (λ_ _ _ _ t=>t) (λ_ _ _ _ t=>t) () ?_ ?_
 ·intro f g h _ _ _ _ a i _ e;intros;refine Ak (Am (CE ?_));intros;refine Dk (Ay rfl (o_z (Ak (Am (Aw rfl (Aw rfl (HM rfl rfl (λc0=>?_) λc0=>?_)))))))
  ·replace a:=ip a c0;refine zz ?_;obtain rfl:=sm a;obtain rfl:=e _ rfl;exact By
  replace a:=im a c0;refine zz ?_;exact BX () a
 intro j _ _ _ _ hm;intros;refine Ba ?_;refine zz ?_;obtain rfl:=sm hm;exact By
end
noncomputable def Ek(d:Fct)(e:Fct):Option Int :=
  bnd (Fo d.var e.var) λa=>bnd (Fo d.val e.val) λb=>bnd (Jj ([a,b]:List Int)) λc=>some c
section
attribute [local irreducible] Vb Lc Rw Ob
theorem Mm{w:World}{A:Nat->Prop}(hA:∀k,A k->k<w.heap.size){a:Value}{c:Fct}(e:Vb w A a c){b:Value}{d:Fct}(f:Vb w A b d){r:Int}(hm:Ek c d=some r) :
    Fn prog 126 [a,b] w λv w'=>Ext w w'/\Vb w' (upA A w w') v r:=by
 obtain⟨_,_,_⟩:=BS hA;apply Br e;intros;apply Br f;intros;refine AC func126 rfl ntmps126 ?_;unfold Ek at hm;refine Ak (Am (Dx 2 ?_));intros;refine Dx 3 ?_;intros;refine zz ?_;refine HL [] ?_;refine AJ (fuel:=5) [] (Bc [0,1,2,3,5,6,7,8]) rfl (AL rfl rfl (CH rfl (AL rfl rfl ?_)));refine CH rfl (AL rfl rfl ?_);refine CH rfl (AL rfl rfl ?_);refine CH rfl (AB (AH (i:=4) rfl ?_));refine q_S [] ?_;intros;obtain⟨c0,d0,hm⟩:=bs hm;refine CJ rfl (Kg (λ_ h=>h) zI zI d0) ?_;intros;refine BM [] ?_;refine AH (i:=9) rfl (q_S [] ?_);intros;obtain⟨g,f0,hm⟩:=bs hm;refine CJ rfl (Kg (λ_ h=>h) zI zI f0) ?_;intros;refine BM [] ?_;refine AH (i:=10) rfl (q_S [] ?_);intros;refine HK 4 (([c0,g]:List Int):List Int) ?_;intros;refine BM [] ?_;refine AH (i:=11) rfl (q_S [] ?_);intros;obtain⟨j,g0,hm⟩:=bs hm;refine CJ rfl (RG (λ_ h=>h) zAr g0) ?_;intros;refine BM [] ?_;refine AJ (fuel:=0) [] [(12,true)] rfl (Eu rfl rfl (AB (Bh (AV ?_))));obtain rfl:=sm hm;exact By
end
noncomputable def Bp(g:List Fct)(d:List Fct):Option Int :=
  bnd (rng (ρ:=Int) (λ(b:Nat)(e:Fct)(h:Unit)=>if(d.length:Int)<=(b:Int)then(some (.ret 1))else(bnd (d[b]?) λf=>bnd (Ek e f) λc=>if c≠0 then(some (.ret c))else(some (.next ())))) g 0 ()) λa=>fin a λ(i:Unit)=>if(g.length:Int)<(d.length:Int)then(some (-1))else(some 0)
section
attribute [local irreducible] Vb Lc Rw Ob
theorem DE{w:World}{A:Nat->Prop}(hA:∀k,A k->k<w.heap.size){b:Value}{f:List Fct}(j:Vb w A b f){c:Value}{g:List Fct}(l:Vb w A c g){r:Int}(hm:Bp f g=some r) :
    Fn prog 125 [b,c,(.func (.func 126) #[] #[])] w λv w'=>Ext w w'/\Vb w' (upA A w w') v r:=by
 obtain⟨_,_,_⟩:=BS hA;apply Br j;intros;apply Br l;intros;refine AC func125 rfl ntmps125 ?_;unfold Bp at hm;refine zz ?_;refine Cl (X:=Unit) hm [0,1,2,11] [] [2,3] [] (λ_ _ _ _ t=>t) (λ_ _ _ _ t=>t) () ?_ ?_
 ·intro m n l0 _ _ _ _ a o _ i;intros;refine zz ?_;refine CE ?_;intros;refine DP ?_;refine BC 2 ?_;intros;refine Ay rfl (Bj ?_);intros;refine zz ?_;refine EM rfl rfl (λc0=>?_) λc0=>?_
  ·replace a:=ip a c0;refine zz ?_;obtain rfl:=sm a;obtain rfl:=i _ rfl;exact By
  replace a:=im a c0;refine zz ?_;obtain⟨p,n0,a⟩:=bs a;refine CE ?_;intros;refine DP ?_;refine BC 3 ?_;intros;refine Bj ?_;intros;refine zz ?_;refine Eh ?_;refine Eh ?_;obtain⟨q,i0,a⟩:=bs a;refine XO rfl rfl (Mm (λ_ h=>h) zA zA i0) ?_;intros;refine zz ?_;refine HM rfl rfl (λd=>?_) λd=>?_
  ·replace a:=ip a d;refine zz ?_;obtain rfl:=sm a;obtain rfl:=i _ rfl;exact By
  replace a:=im a d;refine zz ?_;exact BX () a
 intro s _ _ _ _ hm;intros;refine Ba ?_;refine zz ?_;refine CL rfl rfl (λe=>?_) λe=>?_
 ·replace hm:=ip hm e;refine zz ?_;obtain rfl:=sm hm;exact By
 replace hm:=im hm e;refine zz ?_;obtain rfl:=sm hm;exact By
end
noncomputable def DK(a:List Fct)(b:List Fct):Option Int :=
  bnd (Bp a b) λc=>some c
section
attribute [local irreducible] Vb Lc Rw Ob
theorem Ir{w:World}{A:Nat->Prop}(hA:∀k,A k->k<w.heap.size){a:Value}{c:List Fct}(e:Vb w A a c){b:Value}{d:List Fct}(f:Vb w A b d){r:Int}(hm:DK c d=some r) :
    Fn prog 82 [a,b] w λv w'=>Ext w w'/\Vb w' (upA A w w') v r:=by
 obtain⟨_,_,_⟩:=BS hA;apply Br e;intros;apply Br f;intros;refine AC func82 rfl ntmps82 ?_;unfold DK at hm;refine zz ?_;obtain⟨g,c0,hm⟩:=bs hm;refine CJ rfl (DE (λ_ h=>h) zA zA c0) ?_;intros;refine zz ?_;obtain rfl:=sm hm;exact By
end
noncomputable def Be(e:List (List Fct))(m:List Fct):Option (Int×Bool) :=
  bnd (lop (ρ:=Int×Bool) (λ(a:Int×Int)=>if a.1<a.2 then(bnd (X7 (a.1+a.2)) λf=>bnd (AaP (BitVec.ofInt 64 f) 1) λb=>bnd (atI e b.toInt) λg=>bnd (DK g m) λh=>if h<0 then(bnd (X7 (b.toInt+1)) λi=>some (.next (i,a.2)))else(some (.next (a.1,b.toInt))))else(some (.brk (a.1,a.2)))) (0,(e.length:Int))) λc=>fin c λ(d:Int×Int)=>bnd (if d.1<(e.length:Int)then(bnd (atI e d.1) λj=>bnd (DK j m) λk=>if k=0 then(some true)else(some false))else(some false):Option Bool) λl=>some (d.1,l)
theorem Ea{w:World}{A:Nat->Prop}(hA:∀k,A k->k<w.heap.size){c:Value}{b:List (List Fct)}(f:Vb w A c b){d:Value}{g:List Fct}(l0:Vb w A d g){r:Int×Bool}(hm:Be b g=some r) :
    Fn prog 150 [c,d,(.func (.func 82) #[] #[])] w λv w'=>Ext w w'/\T2 w' (upA A w w') v r:=by
 obtain⟨O,hB,g2⟩:=enter hA;obtain⟨o,c5,rfl⟩:=f.form;obtain⟨p,c7,rfl⟩:=l0.form;refine AC func150 rfl ntmps150 ?_;unfold Be at hm;refine Ak (Am (Ay rfl (Ay rfl (o_z (Ak (Am (Aw rfl (AT rfl ?_))))))));have y:=Bo f.len;have z:=rngNat y;refine Ay rfl (o_z (Ak (Am (Aw rfl (Ay rfl (Ay rfl (o_z (Ak ?_))))))));obtain⟨B,m0,hm⟩:=bs hm;refine AZ (aft B (λ(c0:Int×Int)(i:Unit)=>[(0,(.slice o b.length c5)),(1,(.slice p g.length c7)),(2,(.func (.func 82) #[] #[])),(8,(.int .i64 (b.length:Int))),(9,(.int .i64 c0.1))]) (λc0 i w'=>∃e:Lab,Bs w A w' e/\X2 c0.1/\X2 c0.2)) ?_ ?_
 ·refine BK (Gy (σ:=Int×Int) (X:=Unit) m0 (λ(c0:Int×Int)(i:Unit)=>[(0,(.slice o b.length c5)),(1,(.slice p g.length c7)),(2,(.func (.func 82) #[] #[])),(8,(.int .i64 (b.length:Int))),(9,(.int .i64 c0.1)),(10,(.int .i64 c0.2))]) _ (λc0 i w'=>∃e:Lab,Bs w A w' e/\X2 c0.1/\X2 c0.2) _ () ⟨O,hB,(X9 0),z⟩ A9 ?_);rintro c0 i q Q ⟨s,hB,i0,n0⟩ a0 o0 d0;refine zz ?_;refine CL rfl rfl (λj=>?_) λj=>?_
  ·replace a0:=ip a0 j;refine zz ?_;refine BK (Ak (Am (Aw rfl (Aw rfl ?_))));obtain⟨C,d1,a0⟩:=bs a0;have S:=(Bx d1);refine Fw (he:=d1) rfl rfl (YB rfl rfl ?_);obtain⟨l1,m1,a0⟩:=bs a0;refine YA (a:=(BitVec.ofInt 64 C)) (he:=m1) rfl rfl rfl (YC (a:=l1) rfl rfl (Ay rfl (o_z (Ak (Am (Aw rfl (Aw rfl (Aw rfl ?_))))))));obtain⟨T,n1,a0⟩:=bs a0;obtain⟨D,p1⟩:=BJ n1;obtain⟨U,k2,q1,q0,r0,s0,l2,rfl,j0⟩:=(f.zs hA hB).elem' p1;replace j0:=Vb.of_slice j0;obtain⟨V,n2,rfl⟩:=j0.form;refine Bn (hA:=q0) (hj:=D) (hlt:=r0) rfl rfl (AF (hc:=cat0 s0) rfl (Aw rfl ?_));obtain⟨E,s1,a0⟩:=bs a0;refine Ov (O:=s) (A:=All q) (R:=λw' F v=>Vb w' F v E) (Ir (λ_ h=>h) (vMo j0) (Vb.mono (F:=Fr 0 q s) (l0.zs hA hB) Fr.lt) s1) rfl rfl rfl λW Y Z t G=>?_;obtain⟨rfl,r2⟩:=G.int;refine CL rfl rfl (λl=>?_) λl=>?_
   ·replace a0:=ip a0 l;refine zz ?_;obtain⟨s2,f1,a0⟩:=bs a0;have H:=(Bx f1);refine Fw (he:=f1) rfl rfl (Ay rfl (o_z ?_));obtain rfl:=sm a0;exact show Exists _ from⟨_,(),rfl,A9,_,hB.st t,H,n0⟩
   replace a0:=im a0 l;refine zz ?_;obtain rfl:=sm a0;exact show Exists _ from⟨_,(),rfl,A9,_,hB.st t,i0,(Acb _)⟩
  replace a0:=im a0 j;refine o_z (Ae rfl (Cn ?_));obtain rfl:=sm a0;exact show Exists _ from⟨_,(),d0 _ rfl,A7,_,hB,i0,n0⟩
 rintro t2 u ⟨I,u2,rfl,u0,h1,hB,i0,n0⟩;replace hm:=AS hm;refine AM _ u0 ?_;refine Ak ?_;obtain⟨J,b0,hm⟩:=bs hm;refine AZ (λK w'=>∃(L:Unit) (e:Lab),X5 K [(6,(.int .i64 I.1)),(7,(.bool J))]/\Bs w A w' e) ?_ ?_
 ·refine zz ?_;refine CL rfl rfl (λm=>?_) λm=>?_
  ·replace b0:=ip b0 m;refine zz ?_;obtain⟨v2,z1,b0⟩:=bs b0;obtain⟨M,b2⟩:=BJ z1;obtain⟨w2,x2,c2,w0,y0,z0,y2,rfl,k0⟩:=(f.zs hA hB).elem' b2;replace k0:=Vb.of_slice k0;obtain⟨z2,a3,rfl⟩:=k0.form;refine Bn (hA:=w0) (hj:=M) (hlt:=y0) rfl rfl (AA rfl rfl (AF (hc:=cat0 z0) rfl (AA rfl rfl (Aw rfl (AA rfl rfl ?_)))));obtain⟨N,e2,b0⟩:=bs b0;refine Ov (O:=h1) (A:=All u) (R:=λw' F v=>Vb w' F v N) (Ir (λ_ h=>h) (vMo k0) (Vb.mono (F:=Fr 0 u h1) (l0.zs hA hB) Fr.lt) e2) rfl rfl rfl λb3 c3 d3 x P=>?_;obtain⟨rfl,e3⟩:=P.int;refine AA rfl rfl (EA rfl rfl (λn=>?_) λn=>?_)
   ·replace b0:=ip b0 n;refine zz ?_;obtain rfl:=sm b0;exact⟨(),_,B5,hB.st x⟩
   replace b0:=im b0 n;refine zz ?_;obtain rfl:=sm b0;exact⟨(),_,B5,hB.st x⟩
  replace b0:=im b0 m;refine zz ?_;obtain rfl:=sm b0;exact⟨(),_,B5,hB⟩
 rintro f3 g3 ⟨L,h3,f0,hB⟩;refine AM _ f0 ?_;refine AV ?_;obtain rfl:=sm hm;exact Y7 rfl (AD rfl) (AD rfl) ⟨hB.ext,_,_,rfl,(vInt i0),vBool⟩
noncomputable def FX(b:List Fct)(c:List Fct):Option Bool :=
  bnd (bnd (DK b c) λa=>if a=0 then(some true)else(some false):Option Bool) λd=>some d
theorem MV{w:World}{A:Nat->Prop}(hA:∀k,A k->k<w.heap.size){d:Value}{l:List Fct}(m:Vb w A d l){a:Nat}{b:List Value}{n:List Fct}(e:Blk w a 23 b)(f:A a)(c:Rp.R w A b n){r:Bool}(hm:FX l n=some r) :
    Fn prog 148 [d,(.pointer (some ⟨a,0,none⟩))] w λv w'=>Ext w w'/\Vb w' (upA A w w') v r:=by
 obtain⟨O,hB,e0⟩:=enter hA;have g:Lc 0 w O a 23 b:=⟨e,(e0 a f).2⟩;replace c:=Rp.mono c e0;obtain⟨x,rfl,h3⟩:=c;replace h3:=Vb.of_slice h3;obtain⟨y,c5,rfl⟩:=h3.form;obtain⟨z,c7,rfl⟩:=m.form;refine AC func148 rfl ntmps148 ?_;unfold FX at hm;refine Ak (Am (Ay rfl (o_z (Ak ?_))));obtain⟨p,a0,hm⟩:=bs hm;refine AZ (λq w'=>∃(s:Unit) (t:Lab),X5 q [(3,(.bool p))]/\Bs w A w' t) ?_ ?_
 ·refine zz ?_;refine AF (hc:=Blk.cell (i:=0) (g.1) rfl) rfl ?_;obtain⟨B,h0,a0⟩:=bs a0;refine BO (O:=O) (Ir (λ_ h=>h) (Vb.mono (F:=Fr 0 w O) (m.zs hA hB) Fr.lt) (vMo h3) h0) rfl λC l0 D o u=>?_;obtain⟨rfl,n0⟩:=u.int;refine EA rfl rfl (λj=>?_) λj=>?_
  ·replace a0:=ip a0 j;refine zz ?_;obtain rfl:=sm a0;exact⟨(),_,Ad,hB.st o⟩
  replace a0:=im a0 j;refine zz ?_;obtain rfl:=sm a0;exact⟨(),_,Ad,hB.st o⟩
 rintro E G ⟨s,q0,c0,hB⟩;refine AM _ c0 ?_;refine AV ?_;obtain rfl:=sm hm;exact YW rfl (AD rfl) ⟨hB.ext,vBool⟩
noncomputable def BZ(e:List (List Fct))(f:List Fct):Option Int :=
  bnd (rng (ρ:=Int) (λ(b:Nat)(c:List Fct)(g:Unit)=>bnd (FX c f) λd=>if d=true then some (.ret (b:Int))else some (.next ())) e 0 ()) λa=>fin a λ(h:Unit)=>some (-1)
theorem FJ{w:World}{A:Nat->Prop}(hA:∀k,A k->k<w.heap.size){f:Value}{l:List (List Fct)}(n:Vb w A f l){b:Nat}{c:List Value}{e:List Fct}(g:Blk w b 23 c)(i:A b)(d:Rp.R w A c e){r:Int}(hm:BZ l e=some r) :
    Fn prog 138 [f,(.func (.func 148) #[] #[(.pointer (some ⟨b,0,none⟩))])] w λv w'=>Ext w w'/\Vb w' (upA A w w') v r:=by
 obtain⟨O,hB,n0⟩:=enter hA;have a:Lc 0 w O b 23 c:=⟨g,(n0 b i).2⟩;replace d:=Rp.mono d n0;obtain⟨C,rfl,h4⟩:=d;replace h4:=Vb.of_slice h4;obtain⟨q,c6,rfl⟩:=h4.form;obtain⟨B,c8,rfl⟩:=n.form;refine AC func138 rfl ntmps138 ?_;unfold BZ at hm;refine zz ?_;have o:=Bo n.len;have D:=rngNat o;obtain⟨E,h0,hm⟩:=bs hm;refine Cp (X:=Unit) (l.length) h0 rfl o (λs t=>[(0,(.slice B l.length c8)),(1,(.func (.func 148) #[] #[(.pointer (some ⟨b,0,none⟩))]))]) (λs t w'=>∃p:Lab,Bs w A w' p/\Lc 0 w' p b 23 [(.slice q e.length c6)]/\Vb w' (Fr 0 w' p) (.slice q e.length c6) e) () ⟨O,hB,a,h4⟩ A5 (λ_ _=>rfl) ?_ ?_
 ·rintro G H s t u I c0 ⟨y,hB,a,h4⟩ a0 b0 i0;have j:=Y2 c0 o;refine zz ?_;obtain⟨J,d1,v0,j0,k0,l0,e1,rfl,d0⟩:=(n.zs hA hB).elem' c0;replace d0:=Vb.of_slice d0;obtain⟨K,g1,rfl⟩:=d0.form;refine Bn (hA:=j0) (hj:=rfl) (hlt:=k0) rfl rfl (AF (hc:=cat0 l0) rfl ?_);obtain⟨z,w0,a0⟩:=bs a0;refine Oz (O:=y) (A:=All u) (R:=λw' F v=>Vb w' F v z) (MV (λ_ h=>h) (vMo d0) a.1 a.1.lt (Rp.mono (F:=Fr 0 u y) (x:=e) (Vb.cells1 h4) Fr.lt) w0) rfl rfl rfl rfl λL M N m z0=>?_;obtain rfl:=z0.bool;cases z
  case false =>
   replace a0:=iF a0;refine zz ?_;obtain rfl:=sm a0;exact show Exists _ from⟨_,(),rfl,A5,_,hB.st m,a.st m,h4.st m⟩
  replace a0:=iT a0;refine zz ?_;obtain rfl:=sm a0;obtain rfl:=b0 _ rfl;obtain rfl:=sm (Ca hm);replace hB:=hB.st m;exact YW rfl (AD rfl) ⟨hB.ext,(vInt j)⟩
 rintro P l1 ⟨Q,n1,rfl,m0,o1,hB,a,h4⟩;replace hm:=AS hm;refine AM _ m0 ?_;refine zz ?_;obtain rfl:=sm hm;exact YW rfl (AD rfl) ⟨hB.ext,(vInt (X9 (-1)))⟩
noncomputable def AY(b:List (List Fct))(c:List Fct):Option Bool :=
  bnd (bnd (BZ b c) λa=>if 0<=a then(some true)else(some false):Option Bool) λd=>some d
theorem Dl{w:World}{A:Nat->Prop}(hA:∀k,A k->k<w.heap.size){e:Value}{l:List (List Fct)}(m:Vb w A e l){a:Nat}{b:List Value}{i:List Fct}(f:Blk w a 23 b)(g:A a)(c:Rp.R w A b i){r:Bool}(hm:AY l i=some r) :
    Fn prog 98 [e,(.func (.func 148) #[] #[(.pointer (some ⟨a,0,none⟩))])] w λv w'=>Ext w w'/\Vb w' (upA A w w') v r:=by
 obtain⟨O,hB,e0⟩:=enter hA;have d:Lc 0 w O a 23 b:=⟨f,(e0 a g).2⟩;replace c:=Rp.mono c e0;obtain⟨u,rfl,h4⟩:=c;replace h4:=Vb.of_slice h4;obtain⟨y,c6,rfl⟩:=h4.form;obtain⟨z,c8,rfl⟩:=m.form;refine AC func98 rfl ntmps98 ?_;unfold AY at hm;refine Ak (Am (Ay rfl (o_z (Ak ?_))));obtain⟨o,a0,hm⟩:=bs hm;refine AZ (λp w'=>∃(q:Unit) (s:Lab),X5 p [(4,(.bool o))]/\Bs w A w' s) ?_ ?_
 ·refine zz ?_;obtain⟨B,h0,a0⟩:=bs a0;refine BO (O:=O) (FJ (λ_ h=>h) (Vb.mono (F:=Fr 0 w O) (m.zs hA hB) Fr.lt) d.1 d.1.lt (Rp.mono (F:=Fr 0 w O) (x:=i) (Vb.cells1 h4) Fr.lt) h0) rfl λC l0 D n t=>?_;obtain⟨rfl,n0⟩:=t.int;refine EM rfl rfl (λj=>?_) λj=>?_
  ·replace a0:=ip a0 j;refine zz ?_;obtain rfl:=sm a0;exact⟨(),_,Ad,hB.st n⟩
  replace a0:=im a0 j;refine zz ?_;obtain rfl:=sm a0;exact⟨(),_,Ad,hB.st n⟩
 rintro E G ⟨q,q0,c0,hB⟩;refine AM _ c0 ?_;refine AV ?_;obtain rfl:=sm hm;exact YW rfl (AD rfl) ⟨hB.ext,vBool⟩
end
section
open Go.Shelf
def SH:Go.Shelf.Ren:=⟨fun|189=>31|125=>68|257=>67|128=>115|129=>116|294=>106|295=>107|296=>108|297=>109|298=>110|299=>111|216=>112|300=>113|301=>114|328=>141|329=>142|330=>143|331=>144|332=>145|215=>140|343=>173|n=>n,fun|28=>22|3=>3|46=>155|0=>0|51=>216|53=>218|4=>4|183=>209|182=>208|131=>197|5=>5|9=>9|218=>245|222=>249|228=>273|229=>274|n=>n,fun|n=>n⟩
theorem Abb:Go.Proofs.Lays.n189 prog SH:={
  mixed:=by kernel_rfl
  f125:=func68.trans (congrArg some (by kernel_rfl))
  f128:=func115.trans (congrArg some (by kernel_rfl))
  f129:=func116.trans (congrArg some (by kernel_rfl))
  f189:=func31.trans (congrArg some (by kernel_rfl))
  f215:=func140.trans (congrArg some (by kernel_rfl))
  f216:=func112.trans (congrArg some (by kernel_rfl))
  f257:=func67.trans (congrArg some (by kernel_rfl))
  f294:=func106.trans (congrArg some (by kernel_rfl))
  f295:=func107.trans (congrArg some (by kernel_rfl))
  f296:=func108.trans (congrArg some (by kernel_rfl))
  f297:=func109.trans (congrArg some (by kernel_rfl))
  f298:=func110.trans (congrArg some (by kernel_rfl))
  f299:=func111.trans (congrArg some (by kernel_rfl))
  f300:=func113.trans (congrArg some (by kernel_rfl))
  f301:=func114.trans (congrArg some (by kernel_rfl))
  f328:=func141.trans (congrArg some (by kernel_rfl))
  f329:=func142.trans (congrArg some (by kernel_rfl))
  f330:=func143.trans (congrArg some (by kernel_rfl))
  f331:=func144.trans (congrArg some (by kernel_rfl))
  f332:=func145.trans (congrArg some (by kernel_rfl))
  f343:=func173.trans (congrArg some (by kernel_rfl))
  t0:=underlying0
  a0:=isAgg0
  z0:=sizeOf0
  v0:=zeroValue0
  t3:=underlying3
  a3:=isAgg3
  z3:=sizeOf3
  v3:=zeroValue3
  t4:=underlying4
  a4:=isAgg4
  z4:=sizeOf4
  v4:=zeroValue4
  t5:=underlying5
  a5:=isAgg5
  z5:=sizeOf5
  v5:=zeroValue5
  t9:=underlying9
  a9:=isAgg9
  z9:=sizeOf9
  v9:=zeroValue9
  t28:=underlying22
  a28:=isAgg22
  z28:=sizeOf22
  v28:=zeroValue22
  t46:=underlying155
  a46:=isAgg155
  z46:=sizeOf155
  v46:=zeroValue155
  t51:=underlying216
  a51:=isAgg216
  z51:=sizeOf216
  v51:=zeroValue216
  t53:=underlying218
  a53:=isAgg218
  z53:=sizeOf218
  v53:=zeroValue218
  t131:=underlying197
  a131:=isAgg197
  z131:=sizeOf197
  v131:=zeroValue197
  t182:=underlying208
  a182:=isAgg208
  z182:=sizeOf208
  v182:=zeroValue208
  t183:=underlying209
  a183:=isAgg209
  z183:=sizeOf209
  v183:=zeroValue209
  t218:=underlying245
  a218:=isAgg245
  z218:=sizeOf245
  v218:=zeroValue245
  t222:=underlying249
  a222:=isAgg249
  z222:=sizeOf249
  v222:=zeroValue249
  t228:=underlying273
  a228:=isAgg273
  z228:=sizeOf273
  v228:=zeroValue273
  t229:=underlying274
  a229:=isAgg274
  z229:=sizeOf274
  v229:=zeroValue274 }
open Go.Sort Go.RowKit in
theorem slices_Sort_int(a off cap:Nat)(b:List Int)(w:World)(f:Holds (Value.int .i64) w a off b.toArray)(c:a<w.heap.size)(d:b.length<4611686018427387904) :
    Calls prog 31 #[.slice (some ⟨a,off,none⟩) b.length cap] w λe w' =>
      e=.returned (.tuple #[])/\∃n g,w'=grow (putRow (Value.int .i64) (Sort.ahead w n) a off (b.mergeSort λx y=>decide (x<=y)).toArray) g:=Any.slices_Sort_int Abb a off cap b w f c d
open Go.RowKit Go.Sort in
theorem slices_Sort_int_none(p:Option Addr)(cap:Nat)(w:World) :
    Calls prog 31 #[.slice p 0 cap] w λe w'=>e=.returned (.tuple #[])/\w'=w:=Any.slices_Sort_int_none Abb p cap w
end
section
open Go Go.RowKit
def ZY(xs:List Int):List Int:=xs.mergeSort λx y=>decide (x<=y)
theorem GE(xs:List Int):(ZY xs).length=xs.length:=List.length_mergeSort xs
theorem MD{w:World}{F:Nat->Prop}:∀{xs:List Int}{cells:List Value},Chunks w F cells xs->cells=xs.map (Value.int .i64)/\∀x∈xs,X2 x
  |[],_,h=>⟨h,λ_ a=>by simp at a⟩
  |x::xs,cells,⟨cs,rest,he,hr,hc⟩=>by
    obtain⟨b,h2⟩:=MD hc;obtain⟨c,h4⟩:=hr;refine⟨by rw[he,c,b];rfl,λy hy=>?_⟩;rcases T8.1 hy with rfl|hy
    . exact h4
    . exact h2 y hy
theorem ME{w:World}{F:Nat->Prop}:∀{xs:List Int},(∀x∈xs,X2 x)->Chunks w F (xs.map (Value.int .i64)) xs
  |[],_=>rfl
  |x::xs,h=>⟨[.int .i64 x],xs.map (Value.int .i64),rfl,⟨rfl,h x (by simp)⟩,ME λy a=>h y (by simp[a])⟩
theorem Aa4{w:World}{base:Nat}{F:Nat→Prop}{v:Value}{xs:List Int}(h:Own w base F 3 v xs)(hl:xs.length≤1000000) :
    Fn prog 31 [v] w λr w'=>r=.tuple #[]/\Own w' base F 3 v (ZY xs)/\Kept w w' v:=by
  intro d;rcases K8 xs.length with h0|h0
  . have f:xs=[]:=B1 h0;subst f;have hv:∃p c,v=.slice p 0 c:=by
      obtain⟨cells,s,_⟩:=h;rcases s.2 with⟨rfl,_⟩|⟨g,cap,cur,rfl,_⟩
      . exact⟨_,_,rfl⟩
      . exact⟨_,_,rfl⟩
    obtain⟨p,c,rfl⟩:=hv;refine(slices_Sort_int_none p c (dr w d)).mono λe w' ⟨he,hw⟩=>⟨_,w,d,he,hw,rfl,by simpa[ZY]using h,⟨rfl,rfl,rfl,W3 _,λ_ _ _=>rfl⟩⟩
  . obtain⟨g,cap,cells,sp,rfl,hg,hFg,hb,hc,hlen,hnc,hcm,htot⟩:=h.open h0;obtain⟨rfl,hin⟩:=MD hc;have t:Go.Sort.Holds (Value.int .i64) (dr w d) g 0 xs.toArray:=λj hj=>by
      have a:j<xs.length:=(by simpa using hj);refine⟨?_,by rw[V0];exact hb.frozen j⟩;rw[V0];refine hb.cell ?_;rw[C2 (by simpa using a),M9,C9 a];simp[a]
    refine(slices_Sort_int g 0 cap xs (dr w d) t hb.lt (by omega)).mono λe w' ⟨he,n,os,hw⟩=>⟨_,w',w'.drawn,he,rfl,rfl,?_,?_⟩
    . have b:Blk w' g 3 ((ZY xs).map (Value.int .i64)++sp):=by
        subst hw;unfold Blk at hb ⊢;have l:g<w.heap.size:=Blk.lt hb;show((w.heap.modify g _)++os)[g]?=_;rw[B6 (by simpa using l),F6,if_pos rfl,hb];simp only[S0,Go.Sort.onCells];congr 2;apply Array.ext
        . simp[Go.Sort.putCells,GE]
        . intro i s u;simp only[Go.Sort.putCells,H5,V0,V5,W6,true_and];have m:(List.mergeSort xs λx y=>decide (x<=y)).length=xs.length:=List.length_mergeSort xs;by_cases hi:i<xs.length
          . rw[if_pos (by simpa[m]using hi)];simp only[H4];rw[D6 (by simpa[GE]using hi),List.getElem_map];congr 1;rw[getElem!_pos _ _ (by simpa[m]using hi)];simp[ZY]
          . rw[if_neg (by simpa[m]using hi)];simp only[H4];rw[C7 (by simp;omega),C7 (by simp[GE];omega)];simp[GE]
      have:=Own.close (w:=w') (base:=base) (cap:=cap) hg hFg b (ME (F:=F) (w:=w') λx f=>hin x (by
        have:=(J0 xs λx y=>decide (x<=y)).mem_iff.1 f;exact this)) (by rw[GE];exact hnc) hcm (by simpa[GE]using htot)
      rwa[GE]at this
    . subst hw;refine⟨rfl,rfl,rfl,?_,λk hk o=>?_⟩
      . show w.heap.size<=((w.heap.modify g _)++os).size;simp
      . have q:g≠k:=λe=>o (by simp[Value.ownBlock,e]);show((w.heap.modify g _)++os)[k]?=_;rw[B6 (by simpa using hk),F6,if_neg q]
theorem MW(l:List Int):(ZY l).Pairwise (·<=·):=by
  have:=E4 (le:=λx y:Int=>decide (x<=y)) (λa b c d e=>by simp at *;omega) (λa b=>by simp;omega) l;exact this.imp λh=>by simpa using h
theorem Py(l:List Int):(ZY l).Perm l:=J0 l _
def EJ(xs:List Int):Option (List Int):=if xs.length<=1000000 then some (ZY xs)else none
theorem Iz{w:World}{O:Lab}{b:Option Addr}{c c0 d:Nat}{e:List Int}(a:Rw d w O 3 (.slice b c c0) e){r:List Int}(hm:EJ e=some r) :
    Fn prog 31 [.slice b c c0] w λ_ w'=>∃f,St (eT d) w O w' f/\Rw d w' f 3 (.slice b c c0) r:=by
  obtain⟨hl,rfl⟩:=Hw hm;refine(Aa4 a.1 hl).mono λv w' ⟨_,ho,hK⟩=>⟨O,?_,?_⟩
  . exact⟨hK.os,hK.tape,hK.output,hK.size,λk hk g=>⟨hK.block k hk λhe=>g (a.2.1 k he),rfl⟩⟩
  . exact ho.rw (λk hk=>⟨K5 hk.1 hK.size,hk.2⟩) a.2.1 a.2.2
end
section
open Go Go.RowKit
section
variable {P:Program}{n:Nat}{ops:Array Oper}{Q:YX}{rest:List Oper}{l:Env}{w:World}{d:Tmp}{ty:TypeId}{pos:String}{aft:Array Edge}
variable {S:World → Prop}{r:List (Nat × Bool)}{i:Nat}
theorem XT{t e:TypeId}[h:TSlice P t e]{dst:Option Tmp}{x:Operand}{A:Option Addr}{m c:Nat}(b:opv l x=some (.slice A m c)):Ev P ⟨dst,.call { callee:=.builtin .cap,args:=#[x],argTypes:=#[t] },ty,pos,aft,none⟩ l w (.int .i64 (c:Int)):=λ_ a d f=>by
  simp[execOp,resolve,invoke,builtin,f.eval b,Builtin.cap_,run_underlying h.eq,goInt]
end
attribute [local irreducible] ewp owp hwp hwq hws Ev Evg Fn X6 Y1 YZ YY
attribute [local irreducible] hwx Y6
end
section
open Go Go.RowKit
section
variable {P:Program}{n:Nat}{ops:Array Oper}{Q:YX}{rest:List Oper}{l:Env}{w:World}{d:Tmp}{ty:TypeId}{pos:String}{aft:Array Edge}
theorem VB{b o:Nat}{v:Value}(h:w.cell? ⟨b,o,none⟩=some v):∃t k,w.shape? b=some (t,k+1):=by
  unfold World.cell? at h;unfold World.shape?
  dsimp only at h;generalize w.heap[b]?=q at h ⊢;cases q with
  |none=>simp at h
  |some  q =>
    cases q<;>first
      | (rename_i c e f
         have hc:o<c.size:=by
           simp only[Option.isSome_none,L6,if_false]at h;exact(B7.1 h).1
         exact⟨e,c.size-1,by rw[L7 (by omega)]⟩)
      |simp at h
theorem VC{tS tR e:TypeId}(s:P.underlying tS=some (.slice e)){size:Nat}(hz:∀w,(Go.sizeOf e).run P w=.ok size w){a:Addr}{g o j x l y:Nat}{u:TypeId}{cs:List Value}(c:a.block≠g)(hs:∃t k,w.shape? a.block=some (t,k+1))(hb:Blk w g u cs)(m:cs≠[]) :
    (Extern.SlicesOverlaps.overlaps #[tS,tS] #[tR] #[.slice (some a) j x,.slice (some ⟨g,o,none⟩) l y]).run P w=.ok (.bool false) w:=by
  obtain⟨z,kA,hsa⟩:=hs;have d:w.shape? g=some (u,cs.length):=(by unfold World.shape?;rw[show w.heap[g]?=_ from hb];simp);have n:=λi=>hb.frozen i;have p:(a.block != g)=true:=(by simpa using c);have f:(a.block==g)=false:=(by simpa using c);obtain⟨c0,cs',rfl⟩:∃c0 cs',cs=c0::cs':=by
    cases cs with
    |nil=>exact absurd rfl m
    |cons a b=>exact⟨a,b,rfl⟩
  change Sem.run P (α:=Value) (do
    let some t:=(#[tS, tS] : Array TypeId)[0]? | stuck "slices.overlaps: no parameter types"
    let .slice h ← underlying t | stuck "slices.overlaps: slice type expected"
    let size <- sizeOf h
    match (some a:Option Addr),(some ⟨g,o,none⟩:Option Addr)with
    |some a,some b =>
      if j=0\/l=0\/size=0 then pure (Value.bool false)
      else if a.block != b.block&&(<- frozen a)&&(<- frozen b)then unsupported .addressObserved
      else do
        if a.block != b.block then do
          noView a;noView b
          if ← mayBeOne a b then return Value.bool ((← choose (.extern "sameAddr.stringBytes" 2))==1)
        pure (Value.bool (a.block==b.block&&a.off<b.off+l*size&&b.off<a.off+j*size))
    |_,_=>pure (Value.bool false)) w=_
  by_cases v:j=0\/l=0\/size=0
  . simp[run_underlying s,hz,v]
  . rw[P3]at d;cases q:w.frozen? a<;>cases r:w.frozen? { block:=a.block,off:=kA+1 }<;>simp[run_underlying s,hz,v,p,f,frozen,noView,viewAt,mayBeOne,stringish,shape,Sem.run,hsa,d,q,r,n]
theorem VD{f : FuncId}{c : Func}{tS tR e : TypeId}[E : TSlice P tS e]{z : Value}{size bytes : Nat}[TInfo P e z size bytes](hf : P.funcs[f]?=some c)(b : (c.name == "runtime.NumGoroutine")=false)(i : c.body.isNone=true)(hn : Extern.findNext c=none)
    (he:Extern.find c=some (Extern.SlicesOverlaps.overlaps #[tS,tS] #[tR])) {x y:Operand} {a:Addr} {g o v A B C:Nat} {D:TypeId} {cs:List Value} {F:Array TypeId} (G:opv l x=some (.slice (some a) v A)) (H:opv l y=some (.slice (some ⟨g,o,none⟩) B C))
    (j:a.block≠g) (hs:∃t k,w.shape? a.block=some (t,k+1)) (hb:Blk w g D cs) (m:cs≠[]) (hd:Nat.blt d n=true) (h:owp P n ops Q rest ((d,.bool false)::l) w):owp P n ops Q (⟨some d,.call { callee:=.value (.func f),args:=#[x,y],argTypes:=F },ty,pos,aft,none⟩::rest) l w :=
  Jt (w':=w) (λa' q p=>.inl ⟨.bool false,q,by
    have r:a'.eval (.func f)=.func (.func f) #[] #[]:=rfl;have s:Blk (dr w q) g D cs:=hb;have u:∃t k,(dr w q).shape? a.block=some (t,k+1):=hs;have hr:=run_callFunc_extern hf b i hn he #[.slice (some a) v A,.slice (some ⟨g,o,none⟩) B C] (dr w q);rw[VC E.eq (λw=>DO (P:=P) (t:=e) w) j u s m]at hr;simp[execOp,resolve,r,Deferred.ofValue,invoke,p.eval G,p.eval H,hr],p.put hd _⟩) h
theorem NB{t D e:TypeId}[F:TSlice P t e]{z:Value}{bytes:Nat}[hi:TInfo P e z 1 bytes]{x y:Operand}{g o m c b o' A E:Nat}{i:TypeId}{cs f:List Value}(hb:Blk w g i cs)(G:opv l x=some (.slice (some ⟨g,o,none⟩) m c))(H:opv l y=some (.slice (some ⟨b,o',none⟩) A E))
    (hs:cellsAt w b o' f) (hn:f.length=Nat.min A m) (p:o+f.length<=cs.length) (I:∀v∈f,v.oneCell'=true) (hd:Nat.blt d n=true)
    (h:∀w' u,Upd w w' g i (cs.take o++f++cs.drop (o+f.length))->owp P n ops Q rest ((d,u)::l) w'):owp P n ops Q (⟨some d,.call { callee:=.builtin .copy,args:=#[x,y],argTypes:=#[t,D] },ty,pos,aft,none⟩::rest) l w:=by
  have B:((P.info? e).map (·.size))=some 1:=(by obtain⟨J,e1,_,e3,_⟩:=hi.eq;rw[e1];simp[e3]);have r:w.heap[g]?=some (.cells cs.toArray i (0,0)):=hb;refine Jt (w':=w.setRow g (cs.take o++f++cs.drop (o+f.length)).toArray) (λa q C=>.inl ⟨goInt f.length,q,?_,C.put hd _⟩) (h _ _ ⟨rfl,rfl,rfl,by simp,setRow_heap w g _ _ i (0,0) r,λk hk=>setRow_other w g k _ hk⟩);have s:(dr w q).heap[g]?=some (.cells cs.toArray i (0,0)):=r;have hr:=run_copy_row (P:=P) (dr w q) t D ty e g o m c ⟨b,o',none⟩ A E _ i f F.eq B s hn (λj v hj=>by
    rw[IZ,LD];exact DG hs j v hj) (by simpa using p) I
  simp[execOp,resolve,invoke,builtin,C.eval G,C.eval H,hr];rfl
theorem WP{t s e:TypeId}[L:TSlice P t e]{H:IntKind}[u:TInt P s H]{z:Value}{bytes:Nat}[hi:TInfo P e z 1 bytes]{x y:Operand}{b o m c k:Nat}{q:Int}{f:List Value}(M:opv l x=some (.slice (some ⟨b,o,none⟩) m c))(N:opv l y=some (.int .i64 q))(O:q=(k:Int))(R:cellsAt w b o f)(hl:f.length=m)
    (S:0<k) (hc:c<m+k) (i:(m+k)*bytes<=140737488355328) (T:m+k<=4611686018427387904) (hd:Nat.blt d n=true)
    (h:∀w' cap I,New w w' e (f++I)->m+k<=cap->cap<=9223372036854775807->(f++I).length=cap->owp P n ops Q rest ((d,.slice (some ⟨w.heap.size,0,none⟩) (m+k) cap)::l) w'):owp P n ops Q (⟨some d,.call { callee:=.builtin .append,args:=#[x,y],argTypes:=#[t,s] },ty,pos,aft,none⟩::rest) l w :=
  Kw λa g A K U=>by
    subst O;obtain⟨p,i1,i2,i3,i4⟩:=hi.eq;have r:(Builtin.firstCells p.size m (.slice (some ⟨b,o,none⟩) m c)).run P (dr w g).drew=.ok f.toArray (dr w g).drew:=by
      rw[i3];exact run_firstCells_some (w:=(dr w g).drew) 1 m ⟨b,o,none⟩ m c f (by omega) (λj v hj=>by rw[IZ];exact DG R j v hj)
    have J:k*bytes<=140737488355328:=V6 (G9 _ (by omega)) i;have hr:=Lib.run_append_grow_zeros (P:=P) (dr w g) t s ty e p z .i64 H L.eq u.eq i1 i2 (some ⟨b,o,none⟩) m c f r k S (by omega) hc (by omega) (by rw[i4];omega) (by rw[i4];exact growslice_fits hc i);have B:(execOp a.eval ⟨some d,.call { callee:=.builtin .append,args:=#[x,y],argTypes:=#[t,s] },ty,pos,aft,none⟩).run P (dr w g)=.ok (.value (.slice (some ⟨(dr w g).heap.size,0,none⟩) (m+k) (grownCap (dr w g) (m+k) c e))) ((dr w g).drew.alloc (.cells (f.toArray++Builtin.zeroCells z.cells k++Builtin.zeroCells z.cells (grownCap (dr w g) (m+k) c e-(m+k))) e)):=by
      simp[execOp,resolve,invoke,builtin,A.eval M,A.eval N,hr]
    unfold Oper.wp;rw[B];have C:m+k<=grownCap (dr w g) (m+k) c e:=grownCap_ge _ _ _ _;have D:grownCap (dr w g) (m+k) c e<=maxLen:=grownCap_le_maxLen _ _ _ _ (by unfold maxLen;omega);have E:((dr w g).heap.size)=w.heap.size:=rfl;rw[E];have hz:∀k,(Builtin.zeroCells z.cells k).size=k:=λk=>(by simp[Builtin.zeroCells,hi.sz]);generalize grownCap (dr w g) (m+k) c e=G at *
    have F:f.toArray++Builtin.zeroCells z.cells k++Builtin.zeroCells z.cells (G-(m+k))=(f++((Builtin.zeroCells z.cells k).toList++(Builtin.zeroCells z.cells (G-(m+k))).toList)).toArray:=by
      apply P5.1;simp
    rw[F];have V:=New.mk' w e (f++((Builtin.zeroCells z.cells k).toList++(Builtin.zeroCells z.cells (G-(m+k))).toList));exact U _ ((dr w g).drew.alloc (.cells _ e)) (h _ G _ V C (by simpa[maxLen]using D) (by simp[hz];omega) _ _ (A.put hd _))
end
section
variable {P:Program}{l:Env}{w:World}{dst:Option Tmp}{ty:TypeId}{pos:String}{aft:Array Edge}
theorem Pz{t e:TypeId}[TSlice P t e]{z:Value}{size bytes:Nat}[TInfo P e z size bytes]{x y:Operand}{k:IntKind}{g m c hi:Nat}{q:Int}(a:opv l x=some (.slice (some ⟨g,0,none⟩) m c))(b:opv l y=some (.int k q))(d:q=(hi:Int))(f:hi<=c) :
    Ev P ⟨dst,.slice t x none (some y) none,ty,pos,aft,none⟩ l w (.slice (some ⟨g,0,none⟩) hi c):=by
  have:=Pd (P:=P) (w:=w) (dst:=dst) (ty:=ty) (pos:=pos) (aft:=aft) (t:=t) a b d f;simpa[Addr.add]using this
theorem HZ{t e:TypeId}[TSlice P t e]{z:Value}{size bytes:Nat}[TInfo P e z size bytes]{x y:Operand}{k:IntKind}{g o m c lo:Nat}{q:Int}(a:opv l x=some (.slice (some ⟨g,o,none⟩) m c))(b:opv l y=some (.int k q))(d:q=(lo:Int))(hl:lo<=m)(hc:lo<c) :
    Ev P ⟨dst,.slice t x (some y) none none,ty,pos,aft,none⟩ l w (.slice (some ⟨g,o+lo*size,none⟩) (m-lo) (c-lo)):=by
  have:=Mb (P:=P) (w:=w) (dst:=dst) (ty:=ty) (pos:=pos) (aft:=aft) (t:=t) a b d hl;rw[if_neg (by omega),S0,IZ]at this;exact this
end
theorem St.weak{b:Nat->Prop}{w w':World}{O a:Lab}(h:St nT w O w' a):St b w O w' a:=⟨h.os,h.tape,h.output,h.size,λk hk _=>h.same k hk λh=>h⟩
attribute [local irreducible] ewp owp hwp hwq hws Ev Evg Fn X6 Y1 YZ YY
attribute [local irreducible] hwx Y6
def AbI{α:Type}(xs:List α)(i:Int)(ys:List α):Option (List α):=match ys with
  |[y]=>if 0<=i/\i<=(xs.length:Int)/\xs.length<=1000000 then some (xs.take i.toNat++y::xs.drop i.toNat)else none
  |_=>none
def CM(xs:List (List Fct))(i:Int)(ys:List (List Fct)):Option (List (List Fct)):=AbI xs i ys
theorem Ik{i:Nat}{w:World}{O:Lab}{v u:Value}{xs ys r:List (List Fct)}{k:Int}(f:Rw i w O 23 v xs)(rk:X2 k)(hu:Vb w (Fr 0 w O) u ys)(hm:CM xs k ys=some r) :
    Fn prog 151 [v,.int .i64 k,u] w λv' w'=>∃G,St (eT i) w O w' G/\Rw i w' G 23 v' r:=by
  obtain⟨y,rfl⟩:∃y,ys=[y]:=by
    unfold CM AbI at hm;split at hm
    . exact⟨_,rfl⟩
    . cases hm
  obtain⟨⟨g0,hk1,hxl⟩,rfl⟩:=Hw hm;obtain⟨j,rfl⟩:∃j:Nat,k=(j:Int):=⟨k.toNat,by omega⟩;rw[N1];obtain⟨A,c,rfl⟩:=f.form;obtain⟨A2,c2,rfl⟩:=hu.form;obtain⟨_,hnc,hcm⟩:=f.len;have f0:(([y].length:Nat):Int)=1:=rfl;have R:=f.2.1;refine AC func151 rfl ntmps151 ?_;refine ab ?_;refine Ay rfl (o_z ?_);refine ab ?_;refine zz ?_;refine YM rfl rfl rfl (o_z ?_) rfl (by omega);refine ab ?_;refine Aw rfl (AT rfl (Ay rfl (o_z ?_)));refine ab ?_;refine Aw rfl (EA rfl rfl (λh=>absurd h (by omega)) λ_=>o_z ?_);refine ab ?_;refine Aw rfl (AT rfl (Ay rfl (o_z ?_)));refine ab ?_;refine zz ?_;refine EA rfl rfl (λh=>?_) λh=>?_
  . have hj:j=xs.length:=(by omega);refine o_z ?_;refine ab ?_;refine zz ?_;refine CD rfl f hu.rd rfl rfl (by show(xs.length+1)*_<=_;omega) (by show xs.length+1<=_;omega) λA' c' w1 O1 S1 C=>?_;refine Ay rfl (o_z ?_);refine ab ?_;refine YW rfl (AD rfl) ⟨O1,S1,?_⟩;rw[hj,Q3,Q0];exact C
  have hj:j<xs.length:=(by omega);refine o_z ?_;obtain⟨g,cap,cells,sp,hv,hg,hFg,hb,hc,hlen,hnc',hcm',htot⟩:=f.1.open (by omega);injection hv with S e2 T;subst S;subst T;obtain⟨A3,c3,ucells,e0,hu1,hu2,hu3,hu4⟩:=hu.slice;injection e0 with S e2 T;subst S;subst T;obtain⟨ub,uo,rfl,hFu,hat⟩:=hu4 Nat.zero_lt_one;have a:ucells.length=1:=(by rw[hu3.length];rfl);have d:cells.length=xs.length:=(by rw[hlen];exact W7 _);have l:(cells++sp).length=c:=(by rw[htot];exact W7 _);have i0:cells.length+sp.length=c:=(by rw[<- l,K4]);have U:ub≠g:=λe=>hFg (e▸hFu);have p:O g=i:=R g rfl;have t:=hu3.one;have x:=hc.one;have q:(cells.drop j).length=xs.length-j:=(by rw[P8,d]);have b:(cells.take j).length=j:=(by rw[P9,d];omega);have H:∀{w':World}{G:Lab},Agree (Fr 0 w O) w w'->(∀k,Fr 0 w O k->Fr 0 w' G k)->Chunks w' (Fr 0 w' G) (cells.take j++ucells++cells.drop j) (xs.take j++y::xs.drop j):=λha hf=>by
    have C:=hc.take j;have h2:=hc.drop j;rw[show j*Rp.size (List Fct)=j from W7 j]at C h2;have h3:=((C.append hu3).append h2);rw[show xs.take j++[y]++xs.drop j=xs.take j++y::xs.drop j by simp]at h3;exact(h3.agree ha).mono hf
  have s:(xs.take j++y::xs.drop j).length=xs.length+1:=(by simp;omega);refine ab ?_;refine zz ?_;refine Iq rfl rfl ?_ (by omega);refine Aw rfl (AX (XT rfl) rfl (Dc rfl rfl (λV=>?_) λV=>?_))
  . refine o_z ?_;refine ab ?_;refine zz ?_;refine AX (Pz (hi:=j) rfl rfl rfl (by omega)) rfl ?_;refine zz ?_;refine Iq rfl rfl ?_ (by omega);refine Aw rfl (YN rfl rfl rfl ?_ (by omega));have I:cellsAt w g 0 (cells.take j):=(CK.1 (show cellsAt w g 0 (cells.take j++(cells.drop j++sp))by rw[<- M2,F7];exact hb.cellsAt)).1;refine WP (k:=xs.length+1-j) rfl rfl (by omega) I b (by omega) (by omega) (by omega) (by omega) rfl λw1 W o X j0 Y J=>?_;have k0:j+o.length=W:=(by rw[<- J,K4,b]);refine Ay rfl (o_z ?_);refine ab ?_;refine zz ?_;refine AX (HZ (lo:=j) rfl rfl rfl (by omega) (by omega)) rfl (Aw rfl ?_);have K:=Ct (X.ext.agree Fr.lt) hFu hat;refine NB X.blk rfl rfl K (by rw[a];show 1=min 1 _;omega) (by rw[a,J];omega) t rfl λZ _ D=>?_;refine o_z ?_;have d0:=X.upd D;have m:cellsAt Z g (0+j*1) (cells.drop j):=by
      rw[W7,V0];have L:cellsAt w g (0+(cells.take j).length) (cells.drop j++sp):=(CK.1 (show cellsAt w g 0 (cells.take j++(cells.drop j++sp))by rw[<- M2,F7];exact hb.cellsAt)).2;rw[b,V0]at L;exact Ct (d0.ext.agree (F:=λk=>k=g) λk hk=>hk▸hb.lt) rfl (CK.1 L).1
    refine ab ?_;refine Df (·=Z) [(0,true),(1,true),(2,true),(3,true),(4,true),(5,true),(6,true),(7,true),(8,false)] rfl rfl ?_;refine zz ?_;refine Au rfl (Ih (LF rfl rfl (by omega)) rfl ?_);refine Au rfl (Ih (HZ (lo:=j+1) rfl rfl (by omega) (by omega) (by omega)) rfl ?_);refine zz ?_;refine Au rfl (Ih (HZ (lo:=j) rfl rfl rfl (by omega) (by omega)) rfl ?_);have a0:((cells.take j++o).take (0+j*1)++ucells++(cells.take j++o).drop (0+j*1+ucells.length)).length=W:=by
      simp only[K4,P9,P8,a,b];omega
    refine DX rfl (NB D.blk rfl rfl m (by rw[q];show _=min _ _;omega) (by rw[a0,q];omega) (λv hv=>x v (H8 hv)) rfl λP _ Q=>IS (h_z ?_));refine ab ?_;refine Aw rfl (Ay rfl (o_z ?_));refine ab ?_;have b0:=d0.upd Q;have E:=b0.ext.st O λ_=>i;refine YW rfl (AD rfl) ⟨_,E.weak,?_⟩;have z:∃M:List Value,((cells.take j++o).take (0+j*1)++ucells++(cells.take j++o).drop (0+j*1+ucells.length)).take (0+(j+1)*1)++cells.drop j++((cells.take j++o).take (0+j*1)++ucells++(cells.take j++o).drop (0+j*1+ucells.length)).drop (0+(j+1)*1+(cells.drop j).length)=(cells.take j++ucells++cells.drop j)++M:=by
      refine⟨((cells.take j++o).take (0+j*1)++ucells++(cells.take j++o).drop (0+j*1+ucells.length)).drop (0+(j+1)*1+(cells.drop j).length),?_⟩;congr 2;have C:(cells.take j++o).take (0+j*1)=cells.take j:=(by rw[B2 (by rw[b];omega),E8 (by rw[b];omega)]);rw[C,B2 (by rw[K4,b,a];omega),E8 (by rw[K4,b,a];omega)]
    obtain⟨M,hrs⟩:=z;have n:=b0.blk;have c0:=congrArg List.length hrs;rw[hrs]at n;have:=Own.close (base:=0) (F:=Fr 0 P (upO O w.heap.size λ_=>i)) (cap:=W) (W6 _) (λh=>f.2.2 ((Hi (W3 _)).symm.trans h.2)) n (H (b0.ext.agree Fr.lt) (E.fr λh=>h)) (by rw[s];omega) Y (by
      rw[<- c0];simp only[K4,P9,P8,a,b,d];rw[show Rp.size (List Fct)=1 from rfl];omega)
    rw[s]at this;rw[show j+(xs.length+1-j)=xs.length+1 by omega];exact this.rw (λk h=>h) (λg' B=>by
      have:w.heap.size=g':=(by simpa[Value.ownBlock]using B);subst this;exact Hi (W3 _)) f.2.2
  . refine o_z ?_;refine ab ?_;refine zz ?_;refine Iq rfl rfl ?_ (by omega);refine AX (Pz (hi:=xs.length+1) rfl rfl (by omega) (by omega)) rfl (Ay rfl (o_z ?_));refine ab ?_;refine zz ?_;refine Iq rfl rfl ?_ (by omega);refine AX (HZ (lo:=j+1) rfl rfl (by omega) (by omega) (by omega)) rfl ?_;obtain⟨u0,hu0⟩:∃u0,ucells[0]?=some u0:=⟨ucells[0],C9 (by omega)⟩;refine VD (tS:=115) (tR:=4) func175 (by kernel_rfl) (by kernel_rfl) (by kernel_rfl) (by kernel_rfl) rfl rfl U (VB (DG hat 0 u0 hu0)) hb (by intro e;rw[e]at l;simp at l;omega) rfl ?_;refine DY rfl (o_z ?_);refine ab ?_;refine Df (·=w) [(0,true),(1,true),(2,true),(3,true),(4,true),(5,true),(6,true),(7,true),(8,false)] rfl rfl ?_;refine zz ?_;refine Au rfl (Ih (LF rfl rfl (by omega)) rfl ?_);refine Au rfl (Ih (HZ (lo:=j+1) rfl rfl (by omega) (by omega) (by omega)) rfl ?_);refine zz ?_;refine Au rfl (Ih (HZ (lo:=j) rfl rfl rfl (by omega) (by omega)) rfl ?_);have m:cellsAt w g (0+j*1) (cells.drop j):=by
      have L:cellsAt w g (0+(cells.take j).length) (cells.drop j++sp):=(CK.1 (show cellsAt w g 0 (cells.take j++(cells.drop j++sp))by rw[<- M2,F7];exact hb.cellsAt)).2;rw[b]at L;rw[W7];exact(CK.1 L).1
    refine DX rfl (NB hb rfl rfl m (by rw[q];show _=min _ _;omega) (by rw[l,q];omega) (λv hv=>x v (H8 hv)) rfl λZ _ D=>IS (h_z ?_));refine ab ?_;have a0:((cells++sp).take (0+(j+1)*1)++cells.drop j++(cells++sp).drop (0+(j+1)*1+(cells.drop j).length)).length=c:=by
      simp only[K4,P9,P8,d];omega
    refine zz ?_;refine AX (HZ (lo:=j) rfl rfl rfl (by omega) (by omega)) rfl (Aw rfl ?_);have N:=Ct (D.agree (F:=Fr 0 w O) hFg) hFu hat;refine NB D.blk rfl rfl N (by rw[a];show 1=min 1 _;omega) (by rw[a,a0];omega) t rfl λP _ Q=>?_;refine o_z ?_;refine ab ?_;refine Aw rfl (Ay rfl (o_z ?_));refine ab ?_;have S2:=D.st p;have S3:=Q.st p;have E:St (eT i) w O P O:=S2.comp S3 λ_ h=>h;refine YW rfl (AD rfl) ⟨O,E,?_⟩;have z:∃M:List Value,((cells++sp).take (0+(j+1)*1)++cells.drop j++(cells++sp).drop (0+(j+1)*1+(cells.drop j).length)).take (0+j*1)++ucells++((cells++sp).take (0+(j+1)*1)++cells.drop j++(cells++sp).drop (0+(j+1)*1+(cells.drop j).length)).drop (0+j*1+ucells.length)=(cells.take j++ucells++cells.drop j)++M:=by
      refine⟨(cells++sp).drop (0+(j+1)*1+(cells.drop j).length),?_⟩;have hl:((cells++sp).take (0+(j+1)*1)).length=j+1:=(by rw[P9,l];omega);rw[M2 ((cells++sp).take _),B2 (by rw[hl];omega),List.take_take,R7 (by omega),List.drop_append_of_le_length (by rw[hl,a];omega),List.drop_of_length_le (by rw[hl,a];omega),B2 (by rw[d];omega)];rw[show 0+j*1=j by omega];simp
    obtain⟨M,hrs⟩:=z;have n:=Q.blk;have c0:=congrArg List.length hrs;rw[hrs]at n;have:=Own.close (base:=0) (F:=Fr 0 P O) (cap:=c) (W6 _) (λh=>f.2.2 (p.symm.trans h.2)) n (H (E.agree λh=>f.2.2 h.symm) (E.fr λh=>f.2.2 h.symm)) (by rw[s];omega) hcm (by
      rw[<- c0];simp only[K4,P9,P8,a,d];rw[show Rp.size (List Fct)=1 from rfl];omega)
    rw[s]at this;exact this.rw (λk h=>h) (λg' B=>by
      have:g=g':=(by simpa[Value.ownBlock]using B);subst this;exact p) f.2.2
end
section
open Go Go.RowKit
section
variable {P:Program}{n:Nat}{ops:Array Oper}{Q:YX}{rest:List Oper}{l:Env}{w:World}{d:Option Tmp}{ty:TypeId}{pos:String}{aft:Array Edge}
theorem QC{t j:TypeId}[TSlice P t j]{z:Value}{size bytes:Nat}[TInfo P j z size bytes]{x:Operand}{g o m c:Nat}{b:TypeId}{cs:List Value}(s:opv l x=some (.slice (some ⟨g,o,none⟩) (m+1) c))
    (hb:Blk w g b cs) (hl:o+(m+1)*size<=cs.length) (v:∀u∈z.cells.toList,u.oneCell'=true)
    (h:∀w',Upd w w' g b (X8 cs o (Builtin.zeroCells z.cells (m+1)).toList)->owp P n ops Q rest l w'):owp P n ops Q (⟨none,.call { callee:=.builtin .clear,args:=#[x],argTypes:=#[t] },ty,pos,aft,none⟩::rest) l w:=λa e r=>by
  refine wpList_plain rfl λK y=>?_;have k:Blk (dr w e) g b cs:=hb;have p:z.cells.size=size:=(TInfo.sz P j (z:=z) (bytes:=bytes));have d:(Builtin.zeroCells z.cells (m+1)).toList.length=(m+1)*size:=(by simp[Builtin.zeroCells,p]);obtain⟨w',hr,hu,hd⟩:=Ig (P:=P) g b o (Builtin.zeroCells z.cells (m+1)).toList 0 cs (dr w e) k (by rw[d];omega) (λu hu=>by
    unfold Builtin.zeroCells at hu;simp only[Array.toList_map,V8]at hu;obtain⟨i,hi,rfl⟩:=hu;have f:i<(m+1)*z.cells.size:=(by simpa using hi);have A:0<z.cells.size:=Nat.pos_of_ne_zero λe=>(by rw[e]at f;simp at f);have hlt:=Nat.mod_lt i A;rw[getElem!_pos z.cells _ hlt];exact v _ (by simp))
  have q:Upd w w' g b (X8 cs o (Builtin.zeroCells z.cells (m+1)).toList):=⟨hu.os,hu.tape,hu.output,hu.size,hu.blk,hu.other⟩;unfold Oper.wp;have:(execOp a.eval ⟨none,.call { callee:=.builtin .clear,args:=#[x],argTypes:=#[t] },ty,pos,aft,none⟩).run P (dr w e)=.ok (.value (.tuple #[])) w':=by
    simp[execOp,resolve,invoke,builtin,Builtin.clear_,r.eval s,run_underlying (TSlice.eq (P:=P) (t:=t)),HR (P:=P) (t:=j) (z:=z),hr]
  rw[this];exact y _ _ (h w' q a w'.drawn r)
end
end
section
open Go Go.RowKit
def Za(p:Fct):List Fct->List Fct
  |[]=>[]
  |a::l=>if p.var=a.var/\p.val=a.val then Za a l else a::Za a l
def Zc:List Fct->List Fct
  |[]=>[]
  |a::l=>a::Za a l
theorem QD:∀(l:List Fct)(p a:Fct),Za p (l++[a])=Za p l++(if(l.getLastD p).var=a.var/\(l.getLastD p).val=a.val then[]else[a])
  |[],p,a=>by simp[Za]
  |b::l,p,a=>by
    simp only[P4,Za];rw[QD l b a];have:(b::l).getLastD p=l.getLastD b:=(by cases l<;>rfl);rw[this];split<;>simp
theorem QE{xs:List Fct}{k:Nat}{p a:Fct}(b:xs[k]?=some p)(c:xs[k+1]?=some a):Zc (xs.take (k+2))=Zc (xs.take (k+1))++(if p.var=a.var∧p.val=a.val then[]else[a]):=by
  cases xs with
  |nil=>simp at b
  |cons x xs =>
    rw[E5]at c;rw[J8,J8,M4,c,L8];simp only[Zc];rw[QD,P4];have:(xs.take k).getLastD x=p:=by
      cases k with
      |zero=>simpa using b
      |succ k =>
        rw[E5]at b;rw[M4,b,L8];simp
    rw[this]
theorem RH{xs:List Fct}(h:xs.length<2):Zc xs=xs:=by
  match xs with
  |[]=>rfl
  |[a]=>rfl
  |a::b::l=>simp at h;omega
theorem Od{a:List Fct}{k:Nat}{f:Fct}(hk:a[k]?=some f):a.flatMap encM=(a.take k).flatMap encM++(encM f++(a.drop (k+1)).flatMap encM):=by
  have hlt:=Az hk;conv=>lhs;rw[<- F7 k a,C3 hlt]
  rw[C9 hlt]at hk;rw[R1 hk,J9,M6]
theorem AaY{w:World}{g:Nat}{e:TypeId}{d:List Fct}{c:List Value}(hb:Blk w g e (d.flatMap encM++c)){k:Nat}{f:Fct}(hk:d[k]?=some f):cellsAt w g (0+k*2) [.int .i64 f.var,.int .i64 f.val]:=by
  have a:=hb.cellsAt;rw[Od hk,M2,M2]at a;have b:=(CK.1 a).2;rw[DZ,P9,R7 (V9 (Az hk))]at b;exact(CK.1 b).1
theorem AcV{d:List Fct}{a:List Value}{k:Nat}(f:Fct)(hk:k<d.length):X8 (d.flatMap encM++a) (0+k*2) (encM f)=(d.set k f).flatMap encM++a:=by
  have b:=Od (C9 hk);have c:((d.take k).flatMap encM).length=0+k*2:=(by rw[DZ,P9,R7 (V9 hk),V0]);rw[b,M2,M2,<- c,FO (encM f) _ (encM d[k]) _ rfl,B0,if_pos hk];simp
theorem Ace{d:List Fct}{b a:List Value}{k:Nat}(hk:k<=d.length)(hz:a.length=(d.length-k)*2):X8 (d.flatMap encM++b) (0+k*2) a=(d.take k).flatMap encM++(a++b):=by
  have c:((d.take k).flatMap encM).length=0+k*2:=(by rw[DZ,P9,R7 hk,V0]);conv=>lhs;rw[<- F7 k d]
  rw[J9,M2,<- c,FO _ _ _ _ (by rw[DZ,hz,P8])]
def Em(xs:List Fct):Option (List Fct):=some (Zc xs)
attribute [local irreducible] ewp owp hwp hwq hws Ev Evg Fn X6 Y1 YZ YY
attribute [local irreducible] hwx Y6
theorem Il{i:Nat}{w:World}{O:Lab}{v:Value}{xs r:List Fct}(f:Rw i w O 67 v xs)(hm:Em xs=some r) :
    Fn prog 186 [v] w λN w'=>∃K,St (eT i) w O w' K/\Rw i w' K 67 N r:=by
  obtain rfl:=R1 hm;obtain⟨A,c,rfl⟩:=f.form;obtain⟨_,hnc,hcm⟩:=f.len;have z:=f.2.1;refine AC func186 rfl ntmps186 ?_;refine ab ?_;refine Ay rfl (o_z ?_);refine ab ?_;refine zz ?_;refine CL rfl rfl (λh=>?_) λh=>?_
  . refine o_z ?_;refine ab ?_;refine Aw rfl (Ay rfl (o_z ?_));refine ab ?_;refine YW rfl (AD rfl) ⟨O,St.refl _ _ _,?_⟩;rw[RH (by omega)];exact f
  refine o_z ?_;have P:2<=xs.length:=(by omega);obtain⟨g,cap,cells,sp,hv,hg,hFg,hb,hc,hlen,hnc',hcm',htot⟩:=f.1.open (by omega);injection hv with B V Q;subst B;subst Q;obtain⟨rfl,hin⟩:=Mg hc;have e:O g=i:=z g rfl;refine ab ?_;refine Ay rfl (o_z ?_);refine ab ?_;refine Gx (λk:Nat=>[(0,.slice (some ⟨g,0,none⟩) xs.length c),(3,.int .i64 (k:Int))]) (λk w'=>w'=w/\1<=k/\k<=xs.length/\Zc (xs.take k)=xs.take k) (λk=>xs.length-k) 1 ⟨rfl,W3 _,by omega,RH (by rw[P9];omega)⟩ B5 ?_;rintro k W ⟨R,hk1,hkn,hkc⟩;have B:=R.symm;subst B;refine ab ?_;refine zz ?_;refine CL rfl rfl (λh=>?_) λh=>?_
  . refine o_z ?_;have l:k<xs.length:=(by omega);obtain⟨a,ha⟩:∃a,xs[k]?=some a:=⟨_,C9 l⟩;obtain⟨p,hp⟩:∃p,xs[k-1]?=some p:=⟨_,C9 (by omega)⟩;have d:=QE hp (by rw[L7 hk1];exact ha);rw[show k-1+2=k+1 by omega,show k-1+1=k by omega]at d;refine ab ?_;refine Df (·=w) [(0,true),(1,true),(2,true),(3,true),(4,true),(5,true),(6,true),(7,true),(8,true),(9,true)] rfl rfl ?_;refine zz ?_;refine CB (hA:=rfl) (hj:=rfl) (hlt:=l) rfl rfl rfl (Rc (hc:=AaY hb ha) rfl rfl rfl ?_);refine zz ?_;refine Au rfl (Ih (KB rfl rfl (by omega)) rfl ?_);refine CB (j:=k-1) (hA:=rfl) (hj:=by omega) (hlt:=by omega) rfl rfl rfl (Rc (hc:=AaY hb hp) rfl rfl rfl ?_);refine Yx rfl rfl rfl rfl (λhe=>?_) λhe=>?_
    . rw[if_pos ⟨he.1.symm,he.2.symm⟩,R4]at d;refine h_z ?_;refine ab ?_;refine zz ?_;refine AX (HZ (lo:=k) rfl rfl rfl hkn (by omega)) rfl (Ay rfl (o_z ?_));refine ab ?_;refine Ay rfl (o_z ?_);refine ab ?_;refine Gx (λq:Nat×Nat=>[(0,.slice (some ⟨g,0,none⟩) xs.length c),(3,.int .i64 (q.1:Int)),(4,.slice (some ⟨g,0+k*2,none⟩) (xs.length-k) (c-k)),(5,.int .i64 (q.2:Int))])
        (λq w'=>St (eT i) w O w' O/\1<=q.2/\k+q.2<=xs.length/\q.1+1<=k+q.2/\∃Y:List Fct,Y.length=xs.length/\Blk w' g 67 (Y.flatMap encM++sp)/\(∀x∈Y,X2 x.var/\X2 x.val)/\Y.take q.1=Zc (xs.take (k+q.2))/\∀j,k+q.2<=j+1->Y[j]?=xs[j]?)
        (λq=>xs.length-q.2) (k,1) ⟨St.refl _ _ _,W3 _,l,W3 _,xs,rfl,hb,hin,by rw[d,hkc],λ_ _=>rfl⟩ A5 ?_
      rintro⟨q,m⟩ w1 ⟨S1,hm1,hmn,hqm,Y,hL,hb1,hin1,htk,hrd⟩;dsimp only at S1 hm1 hmn hqm hb1 htk hrd ⊢;refine ab ?_;refine zz ?_;refine CL rfl rfl (λC=>?_) λC=>?_
      . refine o_z ?_;have t:m<xs.length-k:=(by omega);obtain⟨b,hbx⟩:∃b,xs[k+m]?=some b:=⟨_,C9 (by omega)⟩;obtain⟨X,hbp⟩:∃b,xs[k+(m-1)]?=some b:=⟨_,C9 (by omega)⟩;have u:=QE hbp (by rw[show k+(m-1)+1=k+m by omega];exact hbx);rw[show k+(m-1)+2=k+(m+1)by omega,show k+(m-1)+1=k+m by omega]at u;have D:=AaY hb1 ((hrd (k+m) (by omega)).trans hbx);have c0:=AaY hb1 ((hrd (k+(m-1)) (by omega)).trans hbp);rw[show 0+(k+m)*2=0+k*2+m*2 by omega]at D;rw[show 0+(k+(m-1))*2=0+k*2+(m-1)*2 by omega]at c0;refine ab ?_;refine Df (·=w1) [(0,true),(1,true),(2,true),(3,true),(4,true),(5,true),(6,true),(7,true),(8,true),(9,true)] rfl rfl ?_;refine zz ?_;refine CB (hA:=rfl) (hj:=rfl) (hlt:=t) rfl rfl rfl (Rc (hc:=D) rfl rfl rfl ?_);refine zz ?_;refine Au rfl (Ih (KB rfl rfl (by omega)) rfl ?_);refine CB (j:=m-1) (hA:=rfl) (hj:=by omega) (hlt:=by omega) rfl rfl rfl (Rc (hc:=c0) rfl rfl rfl ?_);refine WA rfl rfl rfl rfl (λn=>?_) λn=>?_
        . rw[if_neg λhe=>n ⟨he.1.symm,he.2.symm⟩]at u;refine h_z ?_;refine ab ?_;refine zz ?_;refine Bn (hA:=rfl) (hj:=rfl) (hlt:=t) rfl rfl (Bv (hc:=D) rfl (Bn (hA:=rfl) (hj:=rfl) (hlt:=(by omega:q<xs.length)) rfl rfl ?_));refine AO (⟨hb1,e⟩:Lc i w1 O g _ _) rfl rfl rfl (by rw[K4,DZ];show 0+q*2+2<=_;omega) (allOne) λE G C=>?_;refine o_z ?_;refine ab ?_;refine Aw rfl (Hh rfl (Ay rfl (o_z ?_)));refine ab ?_;refine Aw rfl (Hh rfl (Ay rfl (o_z ?_)));refine⟨(q+1,m+1),A5,⟨S1.comp G λ_ h=>h,by dsimp only;omega,by dsimp only;omega,by dsimp only;omega,Y.set q b,by rw[R6,hL],?_,λx H=>?_,?_,λj hj=>?_⟩,by dsimp only;omega⟩
          . have S:=C.1;rw[<- AcV b (by omega)];exact S
          . rcases C8 H with h|rfl
            . exact hin1 x h
            . exact hin x (H2 hbx)
          . dsimp only;rw[u,<- htk,M4,F2 (by omega),List.take_set_of_le (W3 _)];rfl
          . dsimp only at hj;rw[H7 (by omega),hrd j (by omega)]
        . rw[if_pos (by have:=N6.1 n;exact⟨this.1.symm,this.2.symm⟩),R4]at u;refine h_z ?_;refine ab ?_;refine Aw rfl (Hh rfl (Ay rfl (o_z ?_)));exact⟨(q,m+1),A5,⟨S1,by dsimp only;omega,by dsimp only;omega,by dsimp only;omega,Y,hL,hb1,hin1,by dsimp only;rw[u,htk],λj hj=>hrd j (by dsimp only at hj;omega)⟩,by dsimp only;omega⟩
      . refine o_z ?_;have I:k+m=xs.length:=(by omega);rw[I,Q3]at htk;obtain⟨L,hm'⟩:∃L,xs.length-q=L+1:=⟨xs.length-q-1,by omega⟩;refine ab ?_;refine zz ?_;refine AX (HZ (lo:=q) rfl rfl rfl (by omega) (by omega)) rfl ?_;rw[hm'];refine QC rfl hb1 (by rw[K4,DZ];omega) (allOne) λE M=>?_;refine o_z ?_;refine ab ?_;refine zz ?_;refine AX (Pz (hi:=q) rfl rfl rfl (by omega)) rfl (Ay rfl (o_z ?_));refine ab ?_;have G:=M.st e;have T:St (eT i) w O E O:=S1.comp G λ_ h=>h;have y:=M.blk;rw[Ace (by omega) (by simp[Builtin.zeroCells,hL,hm',Value.cells])]at y;refine YW rfl (AD rfl) ⟨O,T,?_⟩;have o:(Y.take q).length=q:=(by rw[P9];omega);have s:((xs.flatMap encM)++sp).length=c*2:=htot;have:=Own.close (base:=0) (F:=Fr 0 E O) (cap:=c) (xs:=Y.take q) (W6 _) (λh=>f.2.2 (e.symm.trans h.2)) y (Mh λx H=>hin1 x (H9 H)) (by rw[o];omega) hcm (by
          show _=c*2;rw[<- s];simp only[K4,DZ,o,Builtin.zeroCells,I8,Array.size_map,Array.size_range,Value.cells];simp;omega)
        rw[o,htk]at this;exact this.rw (λk h=>h) (λU J=>by
          have:g=U:=(by simpa[Value.ownBlock]using J);subst this;exact e) f.2.2
    . rw[if_neg λh=>he ⟨h.1.symm,h.2.symm⟩,hkc]at d;refine h_z ?_;refine ab ?_;refine Aw rfl (Hh rfl (Ay rfl (o_z ?_)));exact⟨k+1,B5,⟨rfl,by omega,by omega,by rw[d,M4,ha];rfl⟩,by omega⟩
  . refine o_z ?_;refine ab ?_;refine Aw rfl (Ay rfl (o_z ?_));refine ab ?_;refine YW rfl (AD rfl) ⟨O,St.refl _ _ _,?_⟩;have:k=xs.length:=(by omega);rw[this,Q3]at hkc;rw[hkc];exact f
end
section
open Go Go.RowKit Go.Lib Go.Sort
def Gr(a w:World):Prop:=Ext a w/\a.drawn<=w.drawn
theorem Gr.refl(a:World):Gr a a:=⟨W8 _ _,W3 _⟩
theorem Gr.trans{a w w':World}(h:Gr a w)(k:Gr w w'):Gr a w':=⟨⟨k.1.os.trans h.1.os,k.1.tape.trans h.1.tape,k.1.output.trans h.1.output,V6 h.1.size k.1.size,λj hj=>(k.1.block j (K5 hj h.1.size)).trans (h.1.block j hj)⟩,V6 h.2 k.2⟩
theorem Gr.grow{p w:World}(h:Gr p w):∃q k,w=grow (p.drewN q) k:=by
  obtain⟨⟨l,h2,h3,h4,h5⟩,h6⟩:=h;refine⟨w.drawn-p.drawn,w.heap.extract p.heap.size w.heap.size,?_⟩;cases p with|mk a m e k c =>
  cases w with|mk f g d n b =>
  dsimp only at l h2 h3 h4 h5 h6;subst l;subst h2;subst h3;unfold Go.Sort.grow World.drewN;dsimp only;congr 1
  . apply Array.ext
    . simp;omega
    . intro i j o;by_cases hi:i<a.size
      . rw[Array.getElem_append_left hi];have:=h5 i hi;rw[C6 hi,C6 j]at this;exact R1 this
      . rw[Array.getElem_append_right (by omega),Array.getElem_extract];congr 1;omega
  . omega
theorem Gr.of_grow{b w:World}(h:∃q a,w=Go.Sort.grow (b.drewN q) a):Gr b w:=by
  obtain⟨q,a,rfl⟩:=h;refine⟨⟨rfl,rfl,rfl,?_,λk hk=>?_⟩,?_⟩
  . show b.heap.size<=(b.heap++a).size;simp
  . show(b.heap++a)[k]?=b.heap[k]?
    rw[B6 hk]
  . show b.drawn<=b.drawn+q;omega
section
variable {P:Program}{n:Nat}{Q:YX}{ops:Array Oper}{rest:List Oper}{l:Env}{w:World}{d:Tmp}{ty:TypeId}{pos:String}{aft:Array Edge}
theorem UB{c:Code}(H:Nat→Env)(I:Nat→World→Prop)(N d:Nat)(hs:X5 l (H d))(p:I d w)
    (f:∀k w,I k w->k<=N/\ZL P n c (thn (λr w'=>X5 r (H (k+1))/\I (k+1) w') Q) (H k) w):ZL P n (.loop c) Q l w:=by
  intro a D;have s:∀a' w',(∃k,Ok n a' (H k)/\I k w')->∃m,(∃k,Ok n a' (H k)/\I k w'/\N-k=m)/\∀k,Ok n a' (H k)->I k w'->m<=N-k:=by
    intro a' w' ⟨k,B,h3⟩;have:∀(q k:Nat),N-k<=q->Ok n a' (H k)->I k w'->∃m,(∃k,Ok n a' (H k)/\I k w'/\N-k=m)/\∀k,Ok n a' (H k)->I k w'->m<=N-k:=by
      intro q
      induction q with
      |zero=>intro k o t u;exact⟨N-k,⟨k,t,u,rfl⟩,λ_ _ _=>by omega⟩
      |succ q E =>
        intro k o t u;by_cases C:∃g,Ok n a' (H g)/\I g w'/\N-g<=q
        . obtain⟨g,y,z,g3⟩:=C;exact E g g3 y z
        . refine⟨N-k,⟨k,t,u,rfl⟩,λg y z=>?_⟩;rcases U8 (N-g) (N-k)with h|h
          . exact absurd ⟨g,y,z,by omega⟩ C
          . exact h
    exact this _ k (W3 _) B h3
  refine wp_loop (λa' w'=>∃k,Ok n a' (H k)/\I k w') (λa' w'=>Classical.epsilon λm=>(∃k,Ok n a' (H k)/\I k w'/\N-k=m)/\∀k,Ok n a' (H k)->I k w'->m<=N-k) ⟨d,D.sub hs,p⟩ ?_;intro a' w' v;obtain⟨⟨k,t,u,hk⟩,_⟩:=E7 (s a' w' v);obtain⟨F,hr⟩:=f k w' u;refine U6 (λe A x hl=>?_) (hr a' t);obtain⟨hn,r,ho',o⟩:=hl;cases e with
  |normal =>
    obtain⟨j,hI₂⟩:=o;have b:=ho'.sub j;refine⟨⟨k+1,b,hI₂⟩,?_⟩;obtain⟨_,hmin⟩:=E7 (s A x ⟨k+1,b,hI₂⟩);have G:=hmin (k+1) b hI₂;have B:=(f (k+1) x hI₂).1;exact K2 G (K3 (by omega) hk)
  |panic c=>exact hn.elim
  |outgrown=>exact hn.elim
  |exit i=>exact⟨trivial,r,ho',o⟩
  |goto i=>exact⟨trivial,r,ho',o⟩
  |ret=>exact⟨trivial,r,ho',o⟩
theorem UC{f:FuncId}[hf:Callable P f]{xs:List Operand}{vs:List Value}{i:Array TypeId}{R:Value->World->Prop}(m:Y3 l xs=some vs)(hd:Nat.blt d n=true)(hc:Calls P f vs.toArray w λe w'=>∃v,e=.returned v/\R v w')
    (h:∀v w',R v w'->ZI P n ops Q rest ((d,v)::l) w'):ZI P n ops Q (⟨some d,.call { callee:=.value (.func f),args:=xs.toArray,argTypes:=i },ty,pos,aft,none⟩::rest) l w :=
  fun a j=>wpList_plain rfl λK o=>by
    obtain⟨k,h1,h2,h3⟩:=hf.eq;have b:¬k.body=none:=λe=>(by rw[e]at h2;simp at h2);have c : ¬k.name = "runtime.NumGoroutine" := fun e=>by rw[e]at h3; simp at h3
    unfold Oper.wp;have g:a.eval (.func f)=.func (.func f) #[] #[]:=rfl;have:(execOp a.eval ⟨some d,.call { callee:=.value (.func f),args:=xs.toArray,argTypes:=i },ty,pos,aft,none⟩).run P w=.ok (.enter f vs.toArray) w:=by
      simp[execOp,resolve,g,Deferred.ofValue,invoke,callFunc,h1,b,c,j.evals m]
    rw[this];exact hc.mono λ_ _ ⟨v,he,hR⟩=>by subst he;exact o _ _ (h v _ hR _ (j.put hd v))
theorem TQ{f:FuncId}[hf:Callable P f]{y:Operand}{xs:List Operand}{vs:List Value}{i:Array TypeId}{R:Value->World->Prop}(k:opv l y=some (.func (.func f) #[] #[]))(m:Y3 l xs=some vs)(hd:Nat.blt d n=true)(hc:Calls P f vs.toArray w λe w'=>∃v,e=.returned v/\R v w')
    (h:∀v w',R v w'->ZI P n ops Q rest ((d,v)::l) w'):ZI P n ops Q (⟨some d,.call { callee:=.value y,args:=xs.toArray,argTypes:=i },ty,pos,aft,none⟩::rest) l w :=
  fun a b=>wpList_plain rfl λK o=>by
    obtain⟨j,h1,h2,h3⟩:=hf.eq;have c:¬j.body=none:=λe=>(by rw[e]at h2;simp at h2);have g : ¬j.name = "runtime.NumGoroutine" := fun e=>by rw[e]at h3; simp at h3
    unfold Oper.wp;have:(execOp a.eval ⟨some d,.call { callee:=.value y,args:=xs.toArray,argTypes:=i },ty,pos,aft,none⟩).run P w=.ok (.enter f vs.toArray) w:=by
      simp[execOp,resolve,b.eval k,Deferred.ofValue,invoke,callFunc,h1,c,g,b.evals m]
    rw[this];exact hc.mono λ_ _ ⟨v,he,hR⟩=>by subst he;exact o _ _ (h v _ hR _ (b.put hd v))
theorem QF{t:TypeId}{z:Value}{size bytes:Nat}[TInfo P t z size bytes](hd:Nat.blt d n=true)
    (h:∀w',New w w' t z.cells.toList->w'.drawn=w.drawn->ZI P n ops Q rest ((d,.pointer (some ⟨w.heap.size,0,none⟩))::l) w'):ZI P n ops Q (⟨some d,.alloc t,ty,pos,aft,none⟩::rest) l w :=
  Qf (w':=w.alloc (.cells z.cells t)) (λa b=>by simp[execOp,Instr.alloc,HR (P:=P) (t:=t),newVar,GN]) hd (h _ (by simpa using New.mk' w t z.cells.toList) rfl)
theorem QG{t:TypeId}{z:Value}{size bytes:Nat}[TInfo P t z size bytes]{x y:Operand}{g o:Nat}{c:TypeId}{v:Value}{cs:List Value}(f:opv l x=some (.pointer (some ⟨g,o,none⟩)))(i:opv l y=some v)
    (hb:Blk w g c cs) (d:v.cells.toList.length=size) (hl:o+size<=cs.length) (j:∀u∈v.cells.toList,u.oneCell'=true)
    (h:∀w',Upd w w' g c (X8 cs o v.cells.toList)->w'.drawn=w.drawn->ZI P n ops Q rest l w'):ZI P n ops Q (⟨none,.store t x y,ty,pos,aft,none⟩::rest) l w:=λa e=>by
  refine wpList_plain rfl λK k=>?_;obtain⟨w',hr,hu,hd⟩:=Ig (P:=P) g c o v.cells.toList 0 cs w hb (by omega) j;unfold Oper.wp;have b:v.cells.size=size:=(by simpa using d);have:(execOp a.eval ⟨none,.store t x y,ty,pos,aft,none⟩).run P w=.ok .skip w':=by
    simp[execOp,Instr.storeAt,Instr.sureAddr,e.eval f,e.eval i,storeVar,DO (P:=P) (t:=t),b,hr]
  rw[this];exact k _ _ (h w' hu hd a e)
end
theorem New.gr{w w':World}{t:TypeId}{cs:List Value}(h:New w w' t cs)(hd:w'.drawn=w.drawn):Gr w w':=⟨h.ext,V4 hd.symm⟩
theorem AbS(x y:Fct)(u:World):Calls prog 126 #[.agg #[.int .i64 x.var,.int .i64 x.val],.agg #[.int .i64 y.var,.int .i64 y.val]] u λe w'=>e=.returned (.int .i64 (cfM x y))/\∃q c,w'=grow (u.drewN q) c:=by
  have h:=Kp (P:=prog) (f:=126) (vs:=[.agg #[.int .i64 x.var,.int .i64 x.val],.agg #[.int .i64 y.var,.int .i64 y.val]]) (w:=u) (R:=λv w'=>v=.int .i64 (cfM x y)/\∃q c,w'=grow (u.drewN q) c) func126 rfl ntmps126 rfl ?_
  . exact h.mono λe w' ⟨v,he,hv,hg⟩=>⟨by rw[he,hv],hg⟩
  refine Ck (BY (Nz rfl rfl (Nz rfl rfl (BB (Di rfl) (Ej ?_)))));have a:Blk ((u.alloc (.cells (encM x).toArray 67)).alloc (.cells (encM y).toArray 67)) u.heap.size 67 (encM x) :=
    (New.mk' u _ (encM x)).blk.keep ((New.mk' _ _ (encM y)).ext.block _ (New.mk' u _ (encM x)).blk.lt)
  have b:Blk ((u.alloc (.cells (encM x).toArray 67)).alloc (.cells (encM y).toArray 67)) (u.alloc (.cells (encM x).toArray 67)).heap.size 67 (encM y):=(New.mk' _ _ (encM y)).blk;generalize p:(u.alloc (.cells (encM x).toArray 67)).alloc (.cells (encM y).toArray 67)=W2 at a b;have m:(u.alloc (.cells (Value.agg #[.int .i64 x.var,.int .i64 x.val]).cells 67)).alloc (.cells (Value.agg #[.int .i64 y.var,.int .i64 y.val]).cells 67)=W2:=p;rw[m];generalize s:u.heap.size=b1 at a;generalize n:(u.alloc (.cells (encM x).toArray 67)).heap.size=b2 at b;have j:(u.alloc (.cells (Value.agg #[.int .i64 x.var,.int .i64 x.val]).cells 67)).heap.size=b2:=n;rw[j];refine Ck (RD (λw'=>Blk w' b1 67 (encM x)/\Blk w' b2 67 (encM y)) [(0,true),(1,true),(2,true),(3,true),(5,true),(6,true),(7,true),(8,true),(4,false),(9,false),(10,false),(11,false),(12,true)] rfl ⟨a,b⟩ ?_);refine GL rfl (λ_ _=>De rfl) ?_;refine GL rfl (λ_ g=>Cv rfl (g.1.cell (i:=0) rfl)) ?_;refine GL rfl (λ_ _=>De rfl) ?_;refine GL rfl (λ_ g=>Cv rfl (g.2.cell (i:=0) rfl)) ?_;refine GL rfl (λ_ _=>De rfl) ?_;refine GL rfl (λ_ g=>Cv rfl (g.1.cell (i:=1) rfl)) ?_;refine GL rfl (λ_ _=>De rfl) ?_;refine GL rfl (λ_ g=>Cv rfl (g.2.cell (i:=1) rfl)) ?_;refine HX rfl (JC rfl rfl (Z4 x.var y.var _) (IV ⟨λ_=>⟨a,b⟩,?_⟩));refine HX rfl (JC rfl rfl (Z4 x.val y.val _) (IV ⟨λ_=>⟨a,b⟩,?_⟩));have o:=New.mk' (dr W2 (W2.drawn+1)) 3 [.int .i64 (Lib.compareInt x.var y.var),.int .i64 (Lib.compareInt x.val y.val)];have k:=a.keep (o.ext.block b1 a.lt);have l:=b.keep (o.ext.block b2 b.lt);have t:Vb ((dr W2 (W2.drawn+1)).alloc (.cells [.int .i64 (Lib.compareInt x.var y.var),.int .i64 (Lib.compareInt x.val y.val)].toArray 3)) (λ_=>True) (.slice (some ⟨(dr W2 (W2.drawn+1)).heap.size,0,none⟩) 2 2) [Lib.compareInt x.var y.var,Lib.compareInt x.val y.val] :=
    Vb.made o ⟨[_],_,rfl,⟨rfl,NA _ _⟩,[_],_,rfl,⟨rfl,NA _ _⟩,rfl⟩ rfl trivial (by decide)
  refine HX rfl (Pr rfl rfl rfl (λv hv=>by simp at hv;rcases hv with rfl|rfl<;>rfl) rfl (IV ⟨λ_=>⟨k,l⟩,?_⟩));refine HX rfl (JC rfl rfl (RF t) (IV ⟨λ_=>⟨k,l⟩,?_⟩));refine GL rfl (λ_ _=>Di rfl) ?_;refine Tl ?_;refine Ij ?_;refine⟨_,Z1 rfl (AD rfl),rfl,1,#[.cells (encM x).toArray 67,.cells (encM y).toArray 67,.cells [.int .i64 (Lib.compareInt x.var y.var),.int .i64 (Lib.compareInt x.val y.val)].toArray 3],?_⟩;subst p;have hd:∀r d,dr (grow u r) d=grow (dr u d) r:=λ_ _=>rfl;rw[alloc_eq_grow,alloc_eq_grow,alloc_eq_grow,grow_grow,hd,grow_grow];rfl
def cfN:List Fct->List Fct->Int
  |[],[]=>0
  |[],_::_=>-1
  |_::_,[]=>1
  |x::xs,y::ys=>if cfM x y≠0 then cfM x y else cfN xs ys
theorem RI{α:Type}{l:List α}{k:Nat}(h:k<l.length):∃x,l[k]?=some x:=⟨l[k],C9 h⟩
theorem VE{xs ys:List Fct}{k:Nat}{x y:Fct}(a:xs[k]?=some x)(b:ys[k]?=some y):cfN (xs.drop k) (ys.drop k)=if cfM x y≠0 then cfM x y else cfN (xs.drop (k+1)) (ys.drop (k+1)):=by
  have c:xs.drop k=x::xs.drop (k+1):=by
    rw[C3 (Az a)];rw[C9 (Az a)]at a;rw[R1 a]
  have d:ys.drop k=y::ys.drop (k+1):=by
    rw[C3 (Az b)];rw[C9 (Az b)]at b;rw[R1 b]
  rw[c,d];rfl
theorem AbC{V:World}{F o:Nat→Prop}{p q:Value}{xs ys:List Fct}(f:Vb V F p xs)(r:Vb V o q ys)(C:∀k,F k→k<V.heap.size)(h:∀k,o k→k<V.heap.size):Calls prog 125 [p,q,.func (.func 126) #[] #[]].toArray V λe w'=>∃v,e=.returned v∧v=.int .i64 (cfN xs ys)∧Gr V w':=by
  obtain⟨s,c1,rfl⟩:=f.form;obtain⟨D,c2,rfl⟩:=r.form;have l1:xs.length<=9223372036854775807:=V6 f.len.2.1 f.len.2.2;refine Kp func125 rfl ntmps125 rfl ?_;refine Ck (BY (BB (Di rfl) (Ej ?_)));refine Ck (Ck (BY (BB (Dh rfl) (BB (JR rfl) (BB (Dh rfl) (Ej ?_))))));refine Lh (UB (λk=>[(0,.slice s xs.length c1),(1,.slice D ys.length c2),(2,.func (.func 126) #[] #[]),(11,.slice s xs.length c1),(12,.int .i64 (xs.length:Int)),(13,.int .i64 (k:Int))]) (λk w'=>Gr V w'/\k<=xs.length/\k<=ys.length/\cfN xs ys=cfN (xs.drop k) (ys.drop k)) xs.length 0 A9 ⟨Gr.refl _,W6 _,W6 _,rfl⟩ λk N hk=>⟨hk.2.1,?_⟩);obtain⟨g,k1,k2,k3⟩:=hk;refine Ck (BY (BB (CO rfl rfl) (Ej ?_)));refine Ck ?_;by_cases hlt:(k:Int)<(xs.length:Int)
  . rw[decide_eq_true hlt];refine JB rfl (JA ?_);obtain⟨x,hx⟩:=RI (l:=xs) (k:=k) (by omega);obtain⟨O,o1,ce1,hA1,hl1,hd1,r1⟩:=(f.agree (g.1.agree C)).elem' hx;obtain⟨rfl,rx⟩:=r1;refine Ck (Lh ?_);refine Ck (BY (BB (Dh rfl) (BB (HA rfl rfl hA1 rfl hl1) (BB (EL rfl rfl hd1) (QF rfl λP t E=>BB (Di rfl) (QG rfl rfl t.blk rfl (Bi) (allOne) λQ G H=>Ej ?_))))));have u:=t.upd G;have j:=g.trans (u.gr (H.trans E));have w:=u.blk;refine Ck (Ck (BY (BB (Dh rfl) (BB (Dh rfl) (BB (JR rfl) (BB (Bq rfl rfl) (Ej ?_)))))));by_cases b:(ys.length:Int)<=(k:Int)
    . rw[decide_eq_true b];refine JB rfl (Ck (BY (BB (Di rfl) (Ej ?_))));have hv:(1:Int)=cfN xs ys:=by
        rw[k3,show ys.drop k=[]from F3 (by omega),C3 (Az hx)];rfl
      refine Ij ?_;exact⟨_,Z1 rfl (AD rfl),by rw[hv],j⟩
    . rw[decide_eq_false b];refine IU rfl (JA ?_);obtain⟨y,hy⟩:=RI (l:=ys) (k:=k) (by omega);obtain⟨S,o2,ce2,hA2,hl2,hd2,r2⟩:=(r.agree (j.1.agree h)).elem' hy;obtain⟨rfl,ry⟩:=r2;refine Ck (BY (BB (Dh rfl) (BB (Dh rfl) (BB (HA rfl rfl hA2 rfl hl2) (BB (EL rfl rfl hd2) (QF rfl λT z I=>QG rfl rfl z.blk rfl (Bi) (allOne) λA J K=>Ej ?_))))));have m:=z.upd J;have L:=j.trans (m.gr (K.trans I));have M:=m.blk;have n:=w.keep (m.ext.block _ w.lt);refine Ck (BY (BB (Dh rfl) (BB (EL rfl rfl n.cellsAt) (BB (EL rfl rfl M.cellsAt) (TQ (R:=λv w'=>v=.int .i64 (cfM x y)/\Gr A w') rfl rfl rfl ((AbS x y A).mono λe w' ⟨he,hg⟩=>⟨_,he,rfl,Gr.of_grow hg⟩) λv U ⟨hv,G6⟩=>BB (Di rfl) (Ej ?_))))));subst hv;have B:=L.trans G6;refine Ck (BY (BB (Dh rfl) (BB (Ga rfl rfl) (Ej ?_))));have a:=VE hx hy;by_cases hc:cfM x y≠0
      . rw[decide_eq_true hc];rw[if_pos hc]at a;have hv:cfM x y=cfN xs ys:=(by rw[k3,a]);refine JB rfl (Ck (BY (BB (Dh rfl) (BB (Di rfl) (Ej ?_)))));refine Ij ?_;exact⟨_,Z1 rfl (AD rfl),by rw[hv],B⟩
      . rw[decide_eq_false hc];rw[if_neg hc]at a;refine IU rfl (JA ?_);refine BY (BB (LF rfl rfl (by omega)) (BB (Dh rfl) (Ej ?_)));exact⟨A9,B,by omega,by omega,by rw[k3,a]⟩
  . rw[decide_eq_false hlt];refine IU rfl (RC ?_);refine Ck (Ck (BY (BB (Dh rfl) (BB (JR rfl) (BB (Dh rfl) (BB (JR rfl) (BB (CO rfl rfl) (Ej ?_))))))));have c:k=xs.length:=(by omega);by_cases d:(xs.length:Int)<(ys.length:Int)
    . rw[decide_eq_true d];have hv:(-1:Int)=cfN xs ys:=by
        rw[k3,c,Q0,C3 (l:=ys) (i:=xs.length) (by omega)];rfl
      refine JB rfl (Ck (BY (BB (Di rfl) (Ej ?_))));refine Ij ?_;exact⟨_,Z1 rfl (AD rfl),by rw[hv],g⟩
    . rw[decide_eq_false d];have hv:(0:Int)=cfN xs ys:=by
        rw[k3,c,Q0,show ys.drop xs.length=[]from F3 (by omega)];rfl
      refine IU rfl (JA (Ck (BY (BB (Di rfl) (Ej ?_)))));refine Ij ?_;exact⟨_,Z1 rfl (AD rfl),by rw[hv],g⟩
theorem AbM{i:World}{F b:Nat->Prop}{c d:Value}{xs ys:List Fct}(f:Vb i F c xs)(g:Vb i b d ys)(h:∀k,F k->k<i.heap.size)(a:∀k,b k->k<i.heap.size):Calls prog 82 [c,d].toArray i λe w'=>∃v,e=.returned v/\v=.int .i64 (cfN xs ys)/\Gr i w':=by
  refine Kp func82 rfl ntmps82 rfl ?_;refine Ck (BY (BB (Di rfl) (Ej ?_)));refine Ck (BY (BB (Dh rfl) (BB (Dh rfl) (UC (R:=λv w'=>v=.int .i64 (cfN xs ys)/\Gr i w') rfl rfl (AbC f g h a) λv w' ⟨hv,hG⟩=>BB (Di rfl) (Ej ?_)))));refine Ij ?_;subst hv;exact⟨_,Z1 rfl (AD rfl),rfl,hG⟩
end
section
open Go.Shelf
def QV:Go.Shelf.Ren:=⟨fun|6=>81|15=>68|14=>124|28=>115|29=>116|20=>152|21=>153|22=>154|23=>155|24=>156|25=>157|26=>158|27=>159|46=>177|47=>142|48=>143|49=>178|50=>179|57=>188|n=>n,fun|22=>115|24=>23|25=>177|3=>3|39=>155|0=>0|53=>216|55=>218|4=>4|46=>209|45=>208|50=>197|5=>5|9=>9|66=>245|70=>249|76=>273|77=>274|n=>n,fun|n=>n⟩
theorem QH:Go.Proofs.SlLaysF.n6 prog QV:={
  mixed:=by kernel_rfl
  f6:=⟨f81.name,by decide,func81.trans (congrArg some (by kernel_rfl))⟩
  f14:=⟨f124.name,by decide,func124.trans (congrArg some (by kernel_rfl))⟩
  f15:=func68.trans (congrArg some (by kernel_rfl))
  f20:=⟨f152.name,by decide,func152.trans (congrArg some (by kernel_rfl))⟩
  f21:=⟨f153.name,by decide,func153.trans (congrArg some (by kernel_rfl))⟩
  f22:=⟨f154.name,by decide,func154.trans (congrArg some (by kernel_rfl))⟩
  f23:=⟨f155.name,by decide,func155.trans (congrArg some (by kernel_rfl))⟩
  f24:=⟨f156.name,by decide,func156.trans (congrArg some (by kernel_rfl))⟩
  f25:=⟨f157.name,by decide,func157.trans (congrArg some (by kernel_rfl))⟩
  f26:=⟨f158.name,by decide,func158.trans (congrArg some (by kernel_rfl))⟩
  f27:=⟨f159.name,by decide,func159.trans (congrArg some (by kernel_rfl))⟩
  f28:=func115.trans (congrArg some (by kernel_rfl))
  f29:=func116.trans (congrArg some (by kernel_rfl))
  f46:=⟨f177.name,by decide,func177.trans (congrArg some (by kernel_rfl))⟩
  f47:=func142.trans (congrArg some (by kernel_rfl))
  f48:=func143.trans (congrArg some (by kernel_rfl))
  f49:=⟨f178.name,by decide,func178.trans (congrArg some (by kernel_rfl))⟩
  f50:=⟨f179.name,by decide,func179.trans (congrArg some (by kernel_rfl))⟩
  f57:=⟨f188.name,by decide,func188.trans (congrArg some (by kernel_rfl))⟩
  t0:=underlying0
  a0:=isAgg0
  z0:=sizeOf0
  v0:=zeroValue0
  t3:=underlying3
  a3:=isAgg3
  z3:=sizeOf3
  v3:=zeroValue3
  t4:=underlying4
  a4:=isAgg4
  z4:=sizeOf4
  v4:=zeroValue4
  t5:=underlying5
  a5:=isAgg5
  z5:=sizeOf5
  v5:=zeroValue5
  t9:=underlying9
  a9:=isAgg9
  z9:=sizeOf9
  v9:=zeroValue9
  t22:=underlying115
  a22:=isAgg115
  z22:=sizeOf115
  v22:=zeroValue115
  a24:=isAgg23
  z24:=sizeOf23
  t25:=underlying177
  a25:=isAgg177
  z25:=sizeOf177
  v25:=zeroValue177
  t39:=underlying155
  a39:=isAgg155
  z39:=sizeOf155
  v39:=zeroValue155
  t45:=underlying208
  a45:=isAgg208
  z45:=sizeOf208
  v45:=zeroValue208
  t46:=underlying209
  a46:=isAgg209
  z46:=sizeOf209
  v46:=zeroValue209
  t50:=underlying197
  a50:=isAgg197
  z50:=sizeOf197
  v50:=zeroValue197
  t53:=underlying216
  a53:=isAgg216
  z53:=sizeOf216
  v53:=zeroValue216
  t55:=underlying218
  a55:=isAgg218
  z55:=sizeOf218
  v55:=zeroValue218
  t66:=underlying245
  a66:=isAgg245
  z66:=sizeOf245
  v66:=zeroValue245
  t70:=underlying249
  a70:=isAgg249
  z70:=sizeOf249
  v70:=zeroValue249
  t76:=underlying273
  a76:=isAgg273
  z76:=sizeOf273
  v76:=zeroValue273
  t77:=underlying274
  a77:=isAgg274
  z77:=sizeOf274
  v77:=zeroValue274 }
open Go.RowKit Go.Lib Go.Sort in
theorem VF{α:Type}[Inhabited α](enc:α->Value)(k:OneCell enc)(h:α->α->Int)(l:SWO (ltOf h))(g:Nat)(i:Array Value)(a off cap:Nat)(d:Array α)(w:World)(m:∀b w,(callFunc g b).run prog w=.ok (.enter g b) w)(c:CmpLays1 prog g i enc h a off d.size w)(o:Holds enc w a off d)(f:a<w.heap.size)(j:d.size<4611686018427387904) :
    Calls prog 81 #[.slice (some ⟨a,off,none⟩) d.size cap,.func (.func g) #[] i] w λe w' =>
      e=.returned (.tuple #[])/\∃n p,w'=sortWorld enc w a off n (pdq (ltOf h) d 0 d.size (Lib.bitLen d.size) true true) p:=Any.slices_SortFunc_eq QH enc k h l g i a off cap d w m c o f j
open Go.RowKit Go.Lib Go.Sort in
theorem TR{α:Type}[Inhabited α](p:Option Addr)(cap:Nat)(a:Value)(w:World) :
    Calls prog 81 #[.slice p 0 cap,a] w λe w'=>e=.returned (.tuple #[])/\w'=w:=AnyF.slices_SortFunc_none { QH with } p cap a w
end
section
open Go Go.RowKit Go.Lib Go.Sort
theorem Hq(x y:Fct):(ZP x y/\cfM x y=-1)\/(x=y/\cfM x y=0)\/(ZP y x/\cfM x y=1):=by
  unfold cfM;simp only[orL];rcases cmp3 x.var y.var with⟨a,h2⟩|⟨a,h2⟩|⟨a,h2⟩<;>rcases cmp3 x.val y.val with⟨b,g2⟩|⟨b,g2⟩|⟨b,g2⟩<;>rw[h2,g2]<;>unfold ZP;all_goals first
    |(left;exact⟨by omega,by decide⟩)
    |(right;right;exact⟨by omega,by decide⟩)
    |(right;left;exact⟨by cases x;cases y;simp_all,by decide⟩)
theorem Kr{x y z:Fct}(a:ZP x y)(b:ZP y z):ZP x z:=by unfold ZP at *;omega
theorem IN{x:Fct}(h:ZP x x):False:=by unfold ZP at h;omega
theorem KM:∀{x y:List Fct},cfN x y=0->x=y
  |[],[],_=>rfl
  |[],_::_,h=>by simp[cfN]at h
  |_::_,[],h=>by simp[cfN]at h
  |a::x,b::y,h=>by
    simp only[cfN]at h;rcases Hq a b with⟨_,h2⟩|⟨c,h2⟩|⟨_,h2⟩
    . rw[h2]at h;simp at h
    . rw[h2]at h;simp at h;rw[c,KM h]
    . rw[h2]at h;simp at h
theorem JE:∀x:List Fct,cfN x x=0
  |[]=>rfl
  |a::x=>by
    simp only[cfN];rcases Hq a a with⟨b,_⟩|⟨_,h2⟩|⟨b,_⟩
    . exact(IN b).elim
    . rw[h2];simp[JE x]
    . exact(IN b).elim
theorem FK:∀x y:List Fct,cfN y x=- cfN x y
  |[],[]=>rfl
  |[],_::_=>rfl
  |_::_,[]=>rfl
  |a::x,b::y=>by
    simp only[cfN];have f:=FK x y;rcases Hq a b with⟨c,e⟩|⟨c,e⟩|⟨c,e⟩<;>rcases Hq b a with⟨d,g2⟩|⟨d,g2⟩|⟨d,g2⟩<;>first|(subst c;first|exact(IN d).elim|(rw[e];simp[f]))|(subst d;exact(IN c).elim)|exact(IN (Kr c d)).elim|(rw[e,g2];simp)
theorem IW:∀{x y z:List Fct},cfN x y≤0→cfN y z≤0→cfN x z≤0
  |[],_,[],_,_=>by simp[cfN]
  |[],_,_::_,_,_=>by simp[cfN]
  |_::_,[],_,h,_=>by simp[cfN]at h
  |_::_,_::_,[],_,h=>by simp[cfN]at h
  |a  :: x,b::y,c::z,h1,h2=>by
    simp only[cfN]at h1 h2 ⊢;have g:=@IW x y z;rcases Hq a b with⟨e,p2⟩|⟨e,p2⟩|⟨e,p2⟩
    . rcases Hq b c with⟨f,q2⟩|⟨f,q2⟩|⟨f,q2⟩
      . rcases Hq a c with⟨d,r2⟩|⟨d,r2⟩|⟨d,r2⟩
        . rw[r2];simp
        . subst d;exact(IN (Kr e f)).elim
        . exact(IN (Kr (Kr e f) d)).elim
      . subst f;rw[p2];simp
      . rw[q2]at h2;simp at h2
    . subst e;rcases Hq a c with⟨d,r2⟩|⟨d,r2⟩|⟨d,r2⟩
      . rw[r2];simp
      . rw[p2]at h1;rw[r2]at h2 ⊢;simp at h1 h2 ⊢;exact g h1 h2
      . rw[r2]at h2;simp at h2
    . rw[p2]at h1;simp at h1
def leN(x y:List Fct):Bool:=decide (cfN x y<=0)
def Dg(xs:List (List Fct)):List (List Fct):=xs.mergeSort leN
theorem UD(a b c:List Fct)(d:leN a b=true)(e:leN b c=true):leN a c=true:=by unfold leN at *;simp at *;exact IW d e
theorem UE(a b:List Fct):(leN a b||leN b a)=true:=by
  unfold leN;have:=FK a b;simp;omega
theorem VG{a b:List Fct}(c:leN a b=true)(d:leN b a=true):a=b:=by
  unfold leN at *
  simp at c d;have:=FK a b;exact KM (by omega)
theorem MX(xs:List (List Fct)):(Dg xs).Perm xs:=J0 xs leN
theorem Ip(xs:List (List Fct)):(Dg xs).length=xs.length:=(MX xs).length_eq
theorem SI(xs:List (List Fct)):(Dg xs).Pairwise (λa b=>leN a b=true):=E4 UD UE xs
theorem UF{a b:List (List Fct)}(c:a.Pairwise λx y=>leN x y=true)(hb:b.Pairwise λx y=>leN x y=true)(h:a.Perm b):a=b:=D7 (le:=λx y=>leN x y=true) (λx y _ _ d e=>VG d e) c hb h
abbrev Aay(w:World)(O:Lab):Type:={ p:Value×List Fct // Vb w (Fr 0 w O) p.1 p.2 }
instance eltInhN{w:World}{O:Lab}:Inhabited (Aay w O):=⟨⟨(.slice none 0 0,[]),Vb.nil _ _⟩⟩
def Zb{w:World}{O:Lab}(x:Aay w O):Value:=x.1.1
def cfG{w:World}{O:Lab}(x y:Aay w O):Int:=cfN x.1.2 y.1.2
theorem ltG{w:World}{O:Lab}(x y:Aay w O):ltOf cfG x y=decide (cfN x.1.2 y.1.2<0):=by
  unfold ltOf cfG;rfl
theorem Aco{w:World}{O:Lab}:SWO (ltOf (cfG (w:=w) (O:=O))) where
  irrefl x:=by rw[ltG,JE];simp
  trans x y z h1 h2:=by
    rw[ltG]at *
    simp at *
    have a:=IW (W0 h1) (W0 h2);rcases L9 a with h|h
    . exact h
    . exfalso;have he:=KM h;rw[<- he,FK]at h2;omega
  ntrans x y z h1 h2:=by
    rw[ltG]at *
    simp at *
    have b:=FK x.1.2 y.1.2;have c:=FK y.1.2 z.1.2;have d:=FK x.1.2 z.1.2;have:=IW (x:=z.1.2) (y:=y.1.2) (z:=x.1.2) (by omega) (by omega);omega
theorem Abc{w:World}{O:Lab}:∀{xs:List (List Fct)}{cells:List Value},Chunks w (Fr 0 w O) cells xs->∃ps:List (Aay w O),cells=ps.map Zb/\ps.map (·.1.2)=xs
  |[],_,h=>⟨[],h,rfl⟩
  |x::xs,_,⟨cs,rest,he,hr,hc⟩=>by
    obtain⟨ps,h1,h2⟩:=Abc hc;obtain⟨v,hv,hs⟩:=hr;refine⟨⟨(v,x),⟨v,rfl,hs⟩⟩::ps,by rw[he,hv,h1];rfl,by simp[h2]⟩
theorem PA{w w':World}{O:Lab}(a:Agree (Fr 0 w O) w w'):∀(ps:List (Aay w O)),Chunks w' (Fr 0 w O) (ps.map Zb) (ps.map (·.1.2))
  |[]=>rfl
  |p  :: ps=>⟨[Zb p],ps.map Zb,rfl,by
      obtain⟨v,hv,hs⟩:=(p.2.agree a:Vb w' (Fr 0 w O) p.1.1 p.1.2)
      exact⟨_,rfl,by    have:p.1.1=v:=by simpa using hv
                        unfold Zb;rw[this];exact hs⟩,PA a ps⟩
theorem JF{α:Type}[Inhabited α](enc:α->Value){w:World}{a off m:Nat}{d:Array α}{c:Array Obj}{k:Nat}(hk:k<w.heap.size)(b:a≠k):(sortWorld enc w a off m d c).heap[k]?=w.heap[k]?:=by
  show((w.heap.modify a _)++c)[k]?=_;rw[B6 (by simpa using hk),F6,if_neg b]
theorem NP{i:Nat}{w:World}{O:Lab}{v:Value}{xs:List (List Fct)}(t:Rw i w O 23 v xs)(hl:xs.length<4611686018427387904) :
    Fn prog 81 [v,.func (.func 82) #[] #[]] w λ_ w'=>∃Q,St (eT i) w O w' Q/\Rw i w' Q 23 v (Dg xs):=by
  intro d;rcases K8 xs.length with h0|h0
  . have T:xs=[]:=B1 h0;subst T;obtain⟨p,c,rfl⟩:=t.form;have hs:Dg []=[]:=B1 (Ip []);exact(TR (α:=Fct) p c _ (dr w d)).mono λe w' ⟨he,hw⟩=>⟨_,w,d,he,hw,O,St.refl _ _ _,by rw[hs];exact t⟩
  . obtain⟨g,cap,cells,sp,rfl,hg,hFg,hb,hc,hlen,hnc,hcm,htot⟩:=t.1.open h0;obtain⟨ps,rfl,hxs⟩:=Abc hc;have h:ps.length=xs.length:=(by rw[<- hxs,R9]);have q:O g=i:=t.2.1 g rfl;have u:∀k,Fr 0 w O k->g≠k:=λk hk e=>(by subst e;exact t.2.2 (q.symm.trans hk.2));have U:Holds Zb (dr w d) g 0 ps.toArray:=λj hj=>by
      have z:j<ps.length:=(by simpa using hj);refine⟨?_,by rw[V0];exact hb.frozen j⟩;rw[V0];refine hb.cell ?_;rw[C2 (by simpa using z),M9,C9 z,getElem!_pos _ j hj];simp
    have V:∀o w,(callFunc 82 o).run prog w=.ok (.enter 82 o) w:=enters_of func82 (by kernel_rfl) rfl;have B:CmpLays1 prog 82 #[] Zb (cfG (w:=w) (O:=O)) g 0 ps.toArray.size (dr w d):=by
      intro m r R hs x y;have C:∀k,Fr 0 w O k->k<(sortWorld Zb (dr w d) g 0 m R r).heap.size:=λk hk=>by
        have W:k<w.heap.size:=hk.1;show k<((w.heap.modify g _)++r).size;simp;omega
      have J:Agree (Fr 0 w O) w (sortWorld Zb (dr w d) g 0 m R r):=λk hk=>JF Zb (w:=dr w d) hk.1 (u k hk);exact(AbM (x.2.agree J) (y.2.agree J) C C).mono λe w' ⟨v,he,hv,hG⟩=>⟨by rw[he,hv];rfl,hG.grow⟩
    have l:=VF Zb (λx=>by obtain⟨A,c,hv⟩:=x.2.form;unfold Zb;rw[hv];rfl) cfG Aco 82 #[] g 0 cap ps.toArray (dr w d) V B U hb.lt (by simpa[h]using hl);have K:ps.toArray.size=xs.length:=(by simp[h]);rw[K]at l;obtain⟨⟨D,_,hperm⟩,hsort⟩:=pdq_sorts (ltOf (cfG (w:=w) (O:=O))) Aco ps.toArray 0 ps.toArray.size (Lib.bitLen xs.length) true true (W6 _) (W3 _) (Or.inl rfl);rw[K]at D hperm hsort;generalize X:pdq (ltOf (cfG (w:=w) (O:=O))) ps.toArray 0 xs.length (Lib.bitLen xs.length) true true=qs at *
    have f:qs.size=xs.length:=D;have L:qs.toList.Perm ps:=by
      have Y:qs.extract 0 xs.length=qs:=(by rw[<- f];exact L4);have Z:ps.toArray.extract 0 xs.length=ps.toArray:=(by rw[<- K];exact L4);rw[Y,Z]at hperm;simpa using hperm
    have E:qs.toList.map (·.1.2)=Dg xs:=by
      refine UF ?_ (SI xs) ((L.map _).trans (by rw[hxs];exact(MX xs).symm));rw[N7,C5];intro a b S s M;have:=hsort a b (W6 _) M (by have:=s;rw[I8,f]at this;exact this);simp only[I8]at S s;rw[getElem!_pos _ b s,getElem!_pos _ a S,ltG]at this;have hn:=FK qs[a].1.2 qs[b].1.2;unfold leN;simp at this ⊢;omega
    refine l.mono λe w' ⟨he,n,r,hw⟩=>⟨_,w',w'.drawn,he,rfl,upO O w.heap.size (λ_=>0),?_,?_⟩
    . subst hw;refine⟨rfl,rfl,rfl,?_,λk hk N=>⟨?_,Fm hk⟩⟩
      . show w.heap.size<=((w.heap.modify g _)++r).size;simp
      . exact JF Zb (w:=dr w d) hk (λe=>N (by rw[<- e];exact q))
    . have G:Blk w' g 23 (qs.toList.map Zb++sp):=by
        subst hw;unfold Blk at hb ⊢;have H:g<w.heap.size:=Blk.lt hb;show((w.heap.modify g _)++r)[g]?=_;rw[B6 (by simpa using H),F6,if_pos rfl,hb];simp only[S0,Go.Sort.onCells];congr 2;apply Array.ext
        . simp only[Go.Sort.putCells,M7,M8,K4,R9,I8,f,h]
        . intro j W h2;simp only[Go.Sort.putCells,H5,V0,V5,W6,true_and,H4];by_cases hj:j<xs.length
          . rw[if_pos (by simp[f];exact hj),D6 (by simp[f];exact hj)];rw[getElem!_pos qs j (by rw[f];exact hj)];simp
          . rw[if_neg (by simp[f];omega)];rw[C7 (by simp[h];omega),C7 (by simp[f];omega)];simp[h,f]
      have hS:∀k,Fr 0 w O k->Fr 0 w' (upO O w.heap.size λ_=>0) k:=λk hk=>⟨by subst hw;show k<((w.heap.modify g _)++r).size;have:=hk.1;simp;omega,(Fm hk.1).trans hk.2⟩;have J:Agree (Fr 0 w O) w w':=λk hk=>(by subst hw;exact JF Zb (w:=dr w d) hk.1 (u k hk));have I:(qs.toList.map (λx:Aay w O=>x.1.2)).length=xs.length:=(by simp[f]);have:=Own.close (w:=w') (base:=0) (F:=Fr 0 w O) (cap:=cap) (xs:=qs.toList.map (λx:Aay w O=>x.1.2)) (W6 _) hFg G (PA J qs.toList) (by rw[I];exact hnc) hcm (by rw[K4,R9]at htot ⊢;rw[I8,f,<- h];exact htot);rw[I,E]at this;exact this.rw hS (λg' P=>by
        have:g=g':=(by simpa[Value.ownBlock]using P);subst this;exact(Fm hb.lt).trans q) t.2.2
end
section
open Go Go.RowKit
attribute [local irreducible] ewp owp hwp hwq hws Ev Evg Fn X6 Y1 YZ YY
attribute [local irreducible] hwx Y6
noncomputable def Hk(h:List Fct):Option ((List Fct)×Err) :=
  bnd (rng (ρ:=(List Fct)×Err) (λ(i:Nat)(a:Fct)(k:Unit)=>bnd (if a.var<0 then(some true)else(if a.val<0 then(some true)else(some false)):Option Bool) λe=>if e=true then(some (.ret (([]:List Fct),(⟨1⟩:Err))))else(some (.next ()))) h 0 ()) λb=>fin b λ(j:Unit)=>bnd (BN h) λc=>bnd (if c.length<4611686018427387904 then some (AW c)else none) λf=>bnd (Em f) λd=>bnd (Dd d) λg=>if g=true then some (d,(⟨0⟩:Err))else some (([]:List Fct),(⟨2⟩:Err))
theorem Qh{w:World}{A:Nat->Prop}(hA:∀k,A k->k<w.heap.size){c:Value}{a:List Fct}(d:Vb w A c a){r:(List Fct)×Err}(hm:Hk a=some r) :
    Fn prog 174 [c] w λv w'=>Ext w w'/\T2 w' (upA A w w') v r:=by
 obtain⟨O,hB,w1⟩:=enter hA;obtain⟨e,c3,rfl⟩:=d.form;refine AC func174 rfl ntmps174 ?_;unfold Hk at hm;refine zz ?_;have m:=Bo d.len;have S:=rngNat m;obtain⟨T,b1,hm⟩:=bs hm;refine Cp (X:=Unit) (a.length) b1 rfl m (λt u=>[(0,(.slice e a.length c3)),(7,(.slice e a.length c3))]) (λt u w'=>∃n:Lab,Bs w A w' n) () ⟨O,hB⟩ A5 (λ_ _=>rfl) ?_ ?_
 ·rintro D U t u V W x ⟨E,hB⟩ b0 c0 k0;have y:=Y2 x m;refine Ak (Am ?_);obtain⟨Y,a2,f1,l0,m0,n0,rfl,b2,c2⟩:=(d.zs hA hB).elem' x;refine Bn (hA:=l0) (hj:=rfl) (hlt:=m0) rfl rfl (Bv (hl:=rfl) (hc:=n0) rfl ?_);refine BF 2 E λZ e2 f2 f g=>?_;refine AO g rfl rfl rfl (Bi) (allOne) λg2 j g=>?_;refine o_z (Ak ?_);obtain⟨G,a0,b0⟩:=bs b0;refine AZ (λH w'=>∃(I:Unit) (n:Lab),X5 H [(0,(.slice e a.length c3)),(7,(.slice e a.length c3)),(8,(.int .i64 (a.length:Int))),(9,(.int .i64 (D:Int))),(20,(.bool G))]/\Bs w A w' n) ?_ ?_
  ·refine zz ?_;refine AF (hc:=Blk.cell (i:=0) (g.1) rfl) rfl (CL rfl rfl (λo=>?_) λo=>?_)
   ·replace a0:=ip a0 o;refine zz ?_;obtain rfl:=sm a0;exact⟨(),_,A7,(hB.st f).st j⟩
   replace a0:=im a0 o;refine zz ?_;refine AF (hc:=Blk.cell (i:=1) (g.1) rfl) rfl (AA rfl rfl (CL rfl rfl (λp=>?_) λp=>?_))
   ·replace a0:=ip a0 p;refine zz ?_;obtain rfl:=sm a0;exact⟨(),_,A7,(hB.st f).st j⟩
   replace a0:=im a0 p;refine zz ?_;obtain rfl:=sm a0;exact⟨(),_,A7,(hB.st f).st j⟩
  replace hB:=(hB.st f).st j;rintro h2 J ⟨I,j1,q0,hB⟩;refine AM _ q0 ?_;refine Bg rfl (λq=>?_) (λq=>?_)
  ·replace b0:=ip b0 q;refine Ak (Am (EE rfl (Ay rfl (Ay rfl (o_z (AV ?_))))));obtain rfl:=sm b0;obtain rfl:=c0 _ rfl;obtain rfl:=sm (Ca hm);exact Y7 rfl (AD rfl) (AD rfl) ⟨hB.ext,_,_,rfl,(Vb.mono (F:=Fr 0 J j1) (Vb.nil _ _) hB.out),(vErr (by decide))⟩
  replace b0:=im' b0 q;refine Bf ?_;obtain rfl:=sm b0;exact show Exists _ from⟨_,(),rfl,A5,_,hB⟩
 rintro i2 j2 ⟨k2,l2,rfl,s0,k1,hB⟩;replace hm:=AS hm;refine AM _ s0 ?_;refine zz ?_;obtain⟨m2,l1,hm⟩:=bs hm;refine ED 3 (O:=k1) (Ce Fr.lt (d.zs hA hB) l1) rfl λn2 o2 p2 q2 z l=>?_;refine zz ?_;obtain⟨r2,t0,hm⟩:=bs hm;obtain⟨K,t0⟩:=Hw t0;refine MR (NL l K) rfl rfl λs2 t2 L B l=>?_;rw[t0]at l;refine zz ?_;obtain⟨u2,o1,hm⟩:=bs hm;refine Cj (O:=L) (Il l o1) rfl λv2 w2 M C b=>?_;obtain⟨x2,y2,rfl⟩:=b.form;refine zz ?_;obtain⟨N,r1,hm⟩:=bs hm;refine BO (O:=M) (Fh (λ_ h=>h) (b).all r1) rfl λz2 z0 P s Q=>?_;obtain rfl:=Q.bool;cases N
 case false =>
  replace hm:=iF hm;refine zz ?_;refine EE rfl (Ay rfl (Ay rfl (o_z (AV ?_))));obtain rfl:=sm hm;replace hB:=(((hB.st z).st B).st C).st s;exact Y7 rfl (AD rfl) (AD rfl) ⟨hB.ext,_,_,rfl,(Vb.mono (F:=Fr 0 z0 P) (Vb.nil _ _) hB.out),(vErr (by decide))⟩
 replace hm:=iT hm;refine zz ?_;replace b:=b.st s;obtain⟨R,v1,b⟩:=b.freeze;obtain rfl:=sm hm;replace hB:=((((hB.st z).st B).st C).st s).st v1;exact Y7 rfl (AD rfl) (AD rfl) ⟨hB.ext,_,_,rfl,(Vb.mono (F:=Fr 0 z0 R) b hB.out),(vErr (X9 0))⟩
noncomputable def FL(g:List Fct)(h:List Fct):Option ((List Fct)×Bool) :=
  bnd (bnd (Dd g) λb=>if b=true then bnd (Dd h) λc=>if c=true then some false else some true else some true:Option Bool) λi=>if i=true then(some (([]:List Fct),false))else(bnd (BN g) λd=>bnd (Y0 16 d h) λe=>bnd (Hk e) λa=>bnd (if a.2.n=0 then(some true)else(some false):Option Bool) λf=>some (a.1,f))
section
attribute [local irreducible] Vb Lc Rw Ob
theorem Qi{w:World}{A:Nat->Prop}(hA:∀k,A k->k<w.heap.size){c:Value}{i:List Fct}(l:Vb w A c i){d:Value}{j:List Fct}(m:Vb w A d j){r:(List Fct)×Bool}(hm:FL i j=some r) :
    Fn prog 149 [c,d] w λv w'=>Ext w w'/\T2 w' (upA A w w') v r:=by
 obtain⟨_,_,_⟩:=BS hA;apply Br l;intros;apply Br m;intros;refine AC func149 rfl ntmps149 ?_;unfold FL at hm;refine Ak (Am (Ay rfl (Ay rfl (o_z (Ak (Ak (Cu (X:=Unit) hm [0,1] [] [] [] (λ_ _ e _ t=>(15,.bool e)::t) (λ_ _ _ _ t=>t) ?_ ?_)))))))
 ·intro e a;refine zz ?_;obtain⟨n,i0,a⟩:=bs a;refine CJ rfl (Fh (λ_ h=>h) zA i0) ?_;intros;cases n
  case false =>
   replace a:=iF a;refine zz ?_;obtain rfl:=sm a;exact AP ()
  replace a:=iT a;refine zz ?_;obtain⟨o,k0,a⟩:=bs a;refine CJ rfl (Fh (λ_ h=>h) zA k0) ?_;intros;cases o
  case false =>
   replace a:=iF a;refine zz ?_;obtain rfl:=sm a;exact AP ()
  replace a:=iT a;refine zz ?_;obtain rfl:=sm a;exact AP ()
 intro e _ _ _ _ hm;intros;refine Ba ?_;refine Bg rfl (λc0=>?_) (λc0=>?_)
 ·replace hm:=ip hm c0;refine zz ?_;obtain rfl:=sm hm;exact Hj
 replace hm:=im' hm c0;refine zz ?_;obtain⟨s,l0,hm⟩:=bs hm;refine Qd 2 rfl (Ce Fr.lt zV l0) ?_;intros;refine ac ?_;obtain⟨u,m0,hm⟩:=bs hm;refine OC m0 ?_;intros;refine FG 2 ?_;intros;obtain⟨x,n0,hm⟩:=bs hm;refine OD rfl (Qh Fr.lt zV n0) λ_ _ _ _ _ p q=>?_;apply HW p;intros;apply HW q;intros;refine Aw rfl (ER rfl rfl (ER rfl rfl (Ay rfl (Ay rfl (o_z (Ak (Cu (X:=Unit) hm [] [6] [] [] (λv _ f _ t=>(4,(v 6))::(5,.bool f)::t) (λ_ _ _ _ t=>t) ?_ ?_)))))))
 ·intro f b;refine Jz (Bc (Db 0 5)) ?_;refine zz ?_;refine Au rfl (AQ (λ_ _=>Ti rfl) (λg=>?_) (λg=>?_))
  ·replace b:=ip b g;refine zz ?_;obtain rfl:=sm b;exact AP ()
  replace b:=im b g;refine zz ?_;obtain rfl:=sm b;exact AP ()
 intro f _ _ _ _ hm;intros;refine Ba ?_;refine AV ?_;obtain rfl:=sm hm;exact Hj
end
noncomputable def Fb(m:List (List Fct))(n:List (List Fct)):Option ((List (List Fct))×Err) :=
  bnd (rng (ρ:=(List (List Fct))×Err) (λ(o:Nat)(k:List Fct)(e:(List (List Fct))×(List (List Fct)))=>bnd (rng (ρ:=Ctl ((List (List Fct))×(List (List Fct))) ((List (List Fct))×Err)) (λ(p:Nat)(l:List Fct)(a:(List (List Fct))×(List (List Fct)))=>bnd (FL k l) λb=>if(!b.2)=true then(some (.next (a.1,a.2)))else(bnd (Be a.2 b.1) λf=>if f.2=true then(some (.next (a.1,a.2)))else(if(a.1.length:Int)=1024 then(some (.ret (.ret (([]:List (List Fct)),(⟨5⟩:Err)))))else(bnd (CM a.2 f.1 [b.1]) λg=>bnd (Y0 24 a.1 [b.1]) λh=>some (.next (h,g)))))) n 0 (e.1,e.2)) λd=>fin d λ(c:(List (List Fct))×(List (List Fct)))=>some (.next (c.1,c.2))) m 0 (([]:List (List Fct)),([]:List (List Fct)))) λi=>fin i λ(j:(List (List Fct))×(List (List Fct)))=>some (j.1,(⟨0⟩:Err))
theorem JG{w:World}{A:Nat->Prop}(hA:∀k,A k->k<w.heap.size){j:Value}{g:List (List Fct)}(m:Vb w A j g){l:Value}{i:List (List Fct)}(n:Vb w A l i){r:(List (List Fct))×Err}(hm:Fb g i=some r) :
    Fn prog 123 [j,l] w λv w'=>Ext w w'/\T2 w' (upA A w w') v r:=by
 obtain⟨O,hB,h4⟩:=enter hA;obtain⟨C,c4,rfl⟩:=m.form;obtain⟨o,c6,rfl⟩:=n.form;refine AC func123 rfl ntmps123 ?_;unfold Fb at hm;refine zz ?_;have p:=Bo m.len;have r7:=rngNat p;obtain⟨t2,k1,hm⟩:=bs hm;refine Cp (X:=(Option Addr×Nat)×(Option Addr×Nat)) (g.length) k1 rfl p (λl0 b=>[(1,(.slice o i.length c6)),(6,(.slice b.1.1 l0.1.length b.1.2)),(7,(.slice b.2.1 l0.2.length b.2.2)),(16,(.slice C g.length c4))]) (λl0 b w'=>∃e:Lab,Bs w A w' e/\Rw 4 w' e 23 (.slice b.1.1 l0.1.length b.1.2) l0.1/\Rw 3 w' e 23 (.slice b.2.1 l0.2.length b.2.2) l0.2) ((none,0),(none,0)) ⟨O,hB,(Rw.nil 4 (by decide)),(Rw.nil 3 (by decide))⟩ A9 (λ_ _=>rfl) ?_ ?_
 ·rintro Q l1 l0 b i4 v2 z0 ⟨S,hB,a1,o2⟩ e0 q0 m1;have D:=Y2 z0 p;refine Ak (Am ?_);obtain⟨j4,k4,x2,n1,o1,p1,l4,rfl,g0⟩:=(m.zs hA hB).elem' z0;replace g0:=Vb.of_slice g0;obtain⟨E,q2,rfl⟩:=g0.form;refine Bn (hA:=n1) (hj:=rfl) (hlt:=o1) rfl rfl (AF (hc:=cat0 p1) rfl (Ay rfl (o_z (Ak (Am (Aw rfl (AT rfl ?_)))))));have q:=Bo n.len;have m4:=rngNat q;refine zz ?_;obtain⟨r2,r1,e0⟩:=bs e0;refine Cp (X:=(Option Addr×Nat)×(Option Addr×Nat)) (i.length) r1 rfl q (λf c0=>[(1,(.slice o i.length c6)),(6,(.slice c0.1.1 f.1.length c0.1.2)),(7,(.slice c0.2.1 f.2.length c0.2.2)),(9,(.slice E l1.length q2)),(16,(.slice C g.length c4)),(17,(.int .i64 (g.length:Int))),(18,(.int .i64 (Q:Int))),(22,(.slice o i.length c6))]) (λf c0 w'=>∃e:Lab,Bs w A w' e/\Rw 4 w' e 23 (.slice c0.1.1 f.1.length c0.1.2) f.1/\Rw 3 w' e 23 (.slice c0.2.1 f.2.length c0.2.2) f.2/\Vb w' (Fr 0 w' e) (.slice E l1.length q2) l1) ((b.1.1,b.1.2),(b.2.1,b.2.2)) ⟨S,hB,a1,o2,g0⟩ D2 (λ_ _=>rfl) ?_ ?_
  ·rintro n4 o4 f c0 p4 y2 G ⟨T,hB,h0,i0,g0⟩ a0 r0 s1;have H:=Y2 G q;refine Ak (Am ?_);obtain⟨q4,r4,a3,t1,u1,v1,s4,rfl,h1⟩:=(n.zs hA hB).elem' G;replace h1:=Vb.of_slice h1;obtain⟨t4,u4,rfl⟩:=h1.form;refine Bn (hA:=t1) (hj:=rfl) (hlt:=u1) rfl rfl (AF (hc:=cat0 v1) rfl (Ay rfl (o_z (Ak (Am (Aw rfl (Aw rfl ?_)))))));obtain⟨s,b3,a0⟩:=bs a0;refine EH (O:=T) (R:=λw' F v=>T2 w' F v s) (Qi Fr.lt g0 h1 b3) rfl λv4 U V c W=>?_;obtain⟨w4,x4,rfl,n0,f3⟩:=W;obtain⟨y4,z4,rfl⟩:=n0.form;obtain rfl:=f3.bool;refine zz ?_;refine DY rfl (o_z (Bg rfl (λt=>?_) (λt=>?_)))
   ·replace a0:=ip a0 t;refine Cn ?_;obtain rfl:=sm a0;exact show Exists _ from⟨_,((c0.1.1,c0.1.2),(c0.2.1,c0.2.2)),rfl,D2,_,hB.st c,h0.st c,i0.st c,g0.st c⟩
   replace a0:=im' a0 t;refine zz ?_;obtain⟨Y,h3,a0⟩:=bs a0;replace i0:=i0.st c;refine LI (O:=V) (A:=All U) (R:=λw' F v=>T2 w' F v Y) (Ea (λ_ h=>h) (i0).all (vMo n0) h3) rfl rfl λa5 Z I d j3=>?_;obtain⟨k3,l3,rfl,z1,a2⟩:=j3;obtain⟨rfl,b2⟩:=z1.int;obtain rfl:=a2.bool;refine zz ?_;refine Bg rfl (λu=>?_) (λu=>?_)
   ·replace a0:=ip a0 u;refine Cn ?_;obtain rfl:=sm a0;exact show Exists _ from⟨_,((c0.1.1,c0.1.2),(c0.2.1,c0.2.2)),rfl,D2,_,(hB.st c).st d,(h0.st c).st d,i0.st d,(g0.st c).st d⟩
   replace a0:=im' a0 u;refine zz ?_;replace h0:=(h0.st c).st d;have c2:=Bo h0.len;have m3:=rngNat c2;refine EA rfl rfl (λx=>?_) λx=>?_
   ·replace a0:=ip a0 x;refine zz ?_;refine EE rfl (Ay rfl (Ay rfl (o_z (AV ?_))));obtain rfl:=sm a0;obtain rfl:=r0 _ rfl;obtain rfl:=sm (Ca e0);obtain rfl:=q0 _ rfl;obtain rfl:=sm (Ca hm);replace hB:=(hB.st c).st d;exact Y7 rfl (AD rfl) (AD rfl) ⟨hB.ext,_,_,rfl,(Vb.mono (F:=Fr 0 Z I) (Vb.nil _ _) hB.out),(vErr (by decide))⟩
   replace a0:=im a0 x;refine zz ?_;replace n0:=n0.st d;refine CC 2 I (xs:=([s.1]:List (List Fct))) rfl rfl rfl ⟨n0,trivial⟩ λn3 o3 p3 y z=>?_;obtain⟨d2,w0,z⟩:=z.freeze;obtain⟨q3,e2,a0⟩:=bs a0;replace i0:=((i0.st d).st y).st w0;refine Cj (O:=d2) (Ik i0 b2 z e2) rfl λr3 s3 t3 J K=>?_;obtain⟨f2,g2,rfl⟩:=K.form;refine zz ?_;obtain⟨u3,B,a0⟩:=bs a0;obtain⟨B,h2,i2⟩:=BH B;have L:=(y.an w0).an J;replace h0:=h0.st L;replace n0:=n0.st L;refine EC rfl (a:=s.1) h0 n0 (λ_=>rfl) rfl h2 i2 ⟨rfl,rfl⟩ λv3 j2 k2 w3 x3 M N=>?_;rw[<- B]at N ⊢;refine zz ?_;obtain rfl:=sm a0;have P:=((((c.an d).an y).an w0).an J).an M;exact show Exists _ from⟨_,((j2,k2),(f2,g2)),rfl,D2,_,hB.st P,N,K.st M,g0.st P⟩
  rintro y3 z3 ⟨a4,k0,rfl,b0,b4,hB,h0,i0,g0⟩;replace e0:=AS e0;obtain rfl:=sm e0;exact show Exists _ from⟨_,((k0.1.1,k0.1.2),(k0.2.1,k0.2.2)),rfl,⟨(AR b0 _ _ rfl),(AR b0 _ _ rfl),(AR b0 _ _ rfl),(AR b0 _ _ rfl),(AR b0 _ _ rfl),(AR b0 _ _ rfl),trivial⟩,_,hB,h0,i0⟩
 rintro d4 l2 ⟨e4,f4,rfl,g1,g4,hB,a1,o2⟩;replace hm:=AS hm;refine AM _ g1 ?_;refine zz ?_;obtain⟨m2,n2,a1⟩:=a1.freeze;obtain rfl:=sm hm;replace hB:=hB.st n2;exact Y7 rfl (AD rfl) (AD rfl) ⟨hB.ext,_,_,rfl,(Vb.mono (F:=Fr 0 l2 m2) a1 hB.out),(vErr (X9 0))⟩
noncomputable def GR(S:List Int)(X:Opr)(v:Fct):Option ((List (List Fct))×Err) :=
  bnd (rng (ρ:=(List (List Fct))×Err) (λ(Y:Nat)(w:Eff)(x:(List Eff))=>if w.var=v.var then(bnd (Y0 40 x [w]) λQ=>some (.next Q))else(some (.next x))) X.effs 0 ([]:List Eff)) λt=>fin t λ(y:(List Eff))=>bnd (X7 ((y.length:Int)-1)) λR=>bnd (lop (ρ:=(List (List Fct))×Err) (λ(a:(List Eff)×(List (List Fct))×Int)=>if(-1)<=a.2.2 then(bnd (if 0<=a.2.2 then(bnd (atI a.1 a.2.2) λz=>if z.val≠v.val then(some (.done a.2.1))else(bnd (atI a.1 a.2.2) λA=>bnd (X7 (a.2.2+1)) λB=>bnd (Zl a.1 B (a.1.length:Int)) λC=>bnd (rng (ρ:=Fin (List (List Fct)) (Ctl ((List Eff)×(List (List Fct))×Int) ((List (List Fct))×Err))) (λ(T:Nat)(l:Eff)(m:(List (List Fct)))=>if l.val=v.val then(some (.next m))else(bnd (ET S l) λb=>if b.2.n≠0 then(some (.ret (.ret (.ret (([]:List (List Fct)),(⟨b.2.n⟩:Err))))))else(bnd (Fb m b.1) λc=>if c.2.n≠0 then(some (.ret (.ret (.ret (([]:List (List Fct)),(⟨c.2.n⟩:Err))))))else(some (.next c.1))))) C 0 [A.cond]) λh=>fin h λ(D:(List (List Fct)))=>bnd (rng (ρ:=Fin (List (List Fct)) (Ctl ((List Eff)×(List (List Fct))×Int) ((List (List Fct))×Err))) (λ(U:Nat)(o:List Fct)(d:(List (List Fct)))=>bnd (AY d o) λE=>if E=true then some (.next d)else bnd (Y0 24 d [o]) λF=>some (.next F)) D 0 a.2.1) λi=>fin i λ(G:(List (List Fct)))=>some (.done G)))else(bnd (X7 (a.2.2+1)) λH=>bnd (Zl a.1 H (a.1.length:Int)) λI=>bnd (rng (ρ:=Fin (List (List Fct)) (Ctl ((List Eff)×(List (List Fct))×Int) ((List (List Fct))×Err))) (λ(V:Nat)(p:Eff)(q:(List (List Fct)))=>if p.val=v.val then(some (.next q))else(bnd (ET S p) λe=>if e.2.n≠0 then(some (.ret (.ret (.ret (([]:List (List Fct)),(⟨e.2.n⟩:Err))))))else(bnd (Fb q e.1) λf=>if f.2.n≠0 then(some (.ret (.ret (.ret (([]:List (List Fct)),(⟨f.2.n⟩:Err))))))else(some (.next f.1))))) I 0 [[v]]) λj=>fin j λ(J:(List (List Fct)))=>bnd (rng (ρ:=Fin (List (List Fct)) (Ctl ((List Eff)×(List (List Fct))×Int) ((List (List Fct))×Err))) (λ(W:Nat)(r:List Fct)(g:(List (List Fct)))=>bnd (AY g r) λK=>if K=true then some (.next g)else bnd (Y0 24 g [r]) λL=>some (.next L)) J 0 a.2.1) λk=>fin k λ(M:(List (List Fct)))=>some (.done M)):Option (Fin (List (List Fct)) (Ctl ((List Eff)×(List (List Fct))×Int) ((List (List Fct))×Err)))) λN=>fin N λ(O:(List (List Fct)))=>bnd (X7 (a.2.2-1)) λP=>some (.next (a.1,O,P)))else(some (.brk (a.1,a.2.1,a.2.2)))) (y,([]:List (List Fct)),R)) λu=>fin u λ(s:(List Eff)×(List (List Fct))×Int)=>if 1024<(s.2.1.length:Int)then(some (([]:List (List Fct)),(⟨5⟩:Err)))else(some (s.2.1,(⟨0⟩:Err)))
set_option maxHeartbeats 1000000 in
theorem PB{w:World}{A:Nat->Prop}(hA:∀k,A k->k<w.heap.size){M:Value}{j:List Int}(u6:Vb w A M j){N:Value}{x1:Opr}(xB:Vb w A N x1){P:Value}{f:Fct}(eB:Vb w A P f){r:(List (List Fct))×Err}(hm:GR j x1 f=some r) :
    Fn prog 122 [M,N,P] w λv w'=>Ext w w'/\T2 w' (upA A w w') v r:=by
 obtain⟨O,hB,bH⟩:=enter hA;obtain⟨q,c5,rfl⟩:=u6.form;obtain⟨cH,rfl,v7,v8,rfl,h9,v6,dH,eH⟩:=id xB;obtain⟨fH,gH,rfl⟩:=h9.form;obtain⟨yB,zB,rfl⟩:=v6.form;obtain⟨aC,rfl,rfl,hH,iH⟩:=id eB;refine AC func122 rfl ntmps122 ?_;unfold GR at hm;refine Ak (Am (EB 2 O rfl λjH kH bC cC w6=>?_));refine EB 3 bC rfl λg lH dC fB c=>?_;refine zz ?_;replace w6:=w6.st fB;refine AF (hc:=Blk.cell (i:=3) (w6.1) rfl) rfl (AT rfl ?_);have x6:=Bo v6.len;have mH:=rngNat x6;refine zz ?_;obtain⟨gB,y6,hm⟩:=bs hm;replace hB:=(hB.st cC).st fB;refine Cp (X:=(Option Addr×Nat)) (x1.effs.length) y6 rfl x6 (λQ l=>[(0,(.slice q j.length c5)),(5,(.pointer (some ⟨g,0,none⟩))),(8,(.slice l.1 Q.length l.2)),(21,(.slice yB x1.effs.length zB))]) (λQ l w'=>∃d:Lab,Bs w A w' d/\Lc 3 w' d g 67 [(.int .i64 f.var),(.int .i64 f.val)]/\Rw 5 w' d 65 (.slice l.1 Q.length l.2) Q) (none,0) ⟨dC,hB,c,(Rw.nil 5 (by decide))⟩ A9 (λ_ _=>rfl) ?_ ?_
 ·rintro nH S Q l oH eC k4 ⟨fC,hB,c,i2⟩ u0 z6 a7;have ea:=Y2 k4 x6;refine Ak (Am ?_);obtain⟨pH,qH,gC,b7,c7,d7,rH,rfl,m6,hC,iC⟩:=(v6.zs hA hB).elem' k4;obtain⟨jC,kC,rfl⟩:=m6.form;refine Bn (hA:=b7) (hj:=rfl) (hlt:=c7) rfl rfl (Bv (hl:=rfl) (hc:=d7) rfl ?_);refine BF 4 fC λsH tH uH y n6=>?_;refine AO n6 rfl rfl rfl (Bi) (allOne) λvH z n6=>?_;refine zz ?_;refine AF (hc:=Blk.cell (i:=1) (n6.1) rfl) rfl (AN rfl ?_);replace c:=(c.st y).st z;refine AF (hc:=Blk.cell (i:=0) (c.1) rfl) rfl (EA rfl rfl (λe7=>?_) λe7=>?_)
  ·replace u0:=ip u0 e7;refine zz ?_;refine Bv (hl:=rfl) (hc:=(n6.1).cellsAt) rfl ?_;obtain⟨wH,f7,u0⟩:=bs u0;obtain⟨f7,lC,mC⟩:=BH f7;replace i2:=(i2.st y).st z;replace m6:=(m6.st y).st z;refine EC rfl (a:=S) i2 (Vb.ofAgg (cs:=[(.slice jC S.cond.length kC),(.int .i64 S.var),(.int .i64 S.val)]) (x:=S) rfl ⟨_,rfl,m6,hC,iC⟩) (λ_=>rfl) rfl lC mC ⟨rfl,rfl⟩ λxH nC oC yH zH iB jB=>?_;rw[<- f7]at jB ⊢;refine zz ?_;obtain rfl:=sm u0;exact show Exists _ from⟨_,(nC,oC),rfl,A9,_,((hB.st y).st z).st iB,c.st iB,jB⟩
  replace u0:=im u0 e7;refine zz ?_;obtain rfl:=sm u0;exact show Exists _ from⟨_,(l.1,l.2),rfl,A9,_,(hB.st y).st z,c,(i2.st y).st z⟩
 rintro aI bI ⟨cI,kB,rfl,g7,dI,hB,c,i2⟩;replace hm:=AS hm;refine AM _ g7 ?_;refine zz ?_;have pC:=Bo i2.len;have eI:=rngNat pC;obtain⟨fI,lB,hm⟩:=bs hm;have qC:=(Bx lB);refine Gb (he:=lB) rfl rfl (Ay rfl (o_z ?_));obtain⟨l4,h7,hm⟩:=bs hm;refine AZ (aft l4 (λ(e:(List Eff)×(List (List Fct))×Int)(b:(Option Addr×Nat)×(Option Addr×Nat))=>[(11,(.slice b.2.1 e.2.1.length b.2.2))]) (λe b w'=>∃d:Lab,Bs w A w' d/\Rw 11 w' d 23 (.slice b.2.1 e.2.1.length b.2.2) e.2.1/\X2 e.2.2)) ?_ ?_
 ·refine BK ?_;obtain⟨i7,m4,i2⟩:=i2.freeze;replace hB:=hB.st m4;replace c:=c.st m4;refine Gy (σ:=(List Eff)×(List (List Fct))×Int) (X:=(Option Addr×Nat)×(Option Addr×Nat)) h7 (λ(e:(List Eff)×(List (List Fct))×Int)(b:(Option Addr×Nat)×(Option Addr×Nat))=>[(0,(.slice q j.length c5)),(5,(.pointer (some ⟨g,0,none⟩))),(8,(.slice b.1.1 e.1.length b.1.2)),(11,(.slice b.2.1 e.2.1.length b.2.2)),(12,(.int .i64 e.2.2))]) _ (λe b w'=>∃d:Lab,Bs w A w' d/\Lc 3 w' d g 67 [(.int .i64 f.var),(.int .i64 f.val)]/\Vb w' (Fr 0 w' d) (.slice b.1.1 e.1.length b.1.2) e.1/\Rw 11 w' d 23 (.slice b.2.1 e.2.1.length b.2.2) e.2.1/\X2 e.2.2) _ ((kB.1,kB.2),(none,0)) ⟨i7,hB,c,i2,(Rw.nil 11 (by decide)),qC⟩ A7 ?_;rintro e b rC mB ⟨j7,hB,c,b0,h0,n4⟩ g0 n0 j2;refine zz ?_;refine EM rfl rfl (λl3=>?_) λl3=>?_
  ·replace g0:=ip g0 l3;refine o_z (Aj rfl (Bf (Ak ?_)));obtain⟨k7,a0,g0⟩:=bs g0;refine AZ (λl' w'=>∃(T:(List (List Fct))) (s:(Option Addr×Nat)) (d:Lab),k7=.done T/\X5 l' [(0,(.slice q j.length c5)),(5,(.pointer (some ⟨g,0,none⟩))),(8,(.slice b.1.1 e.1.length b.1.2)),(11,(.slice s.1 T.length s.2)),(12,(.int .i64 e.2.2))]/\Bs w A w' d/\Lc 3 w' d g 67 [(.int .i64 f.var),(.int .i64 f.val)]/\Vb w' (Fr 0 w' d) (.slice b.1.1 e.1.length b.1.2) e.1/\Rw 11 w' d 23 (.slice s.1 T.length s.2) T) ?_ ?_
   ·refine BK (Ak (Am (Bv (hl:=rfl) (hc:=(c.1).cellsAt) rfl ?_)));refine CC 6 j7 (xs:=([f]:List Fct)) rfl rfl rfl ⟨(eB.zs hA hB),trivial⟩ λsC tC uC B m3=>?_;obtain⟨l7,p1,m3⟩:=m3.freeze;refine CC 7 l7 (xs:=([[f]]:List (List Fct))) rfl rfl rfl ⟨m3,trivial⟩ λm7 n7 o7 C n3=>?_;refine zz ?_;refine EM rfl rfl (λo3=>?_) λo3=>?_
    ·replace a0:=ip a0 o3;refine zz ?_;refine Df (·=n7) [(0,true),(1,true),(2,true),(3,true),(4,true),(5,true),(6,true),(7,true)] rfl rfl ?_;refine zz ?_;obtain⟨vC,p7,a0⟩:=bs a0;obtain⟨q7,r7⟩:=BJ p7;replace b0:=((b0.st B).st p1).st C;obtain⟨wC,xC,nB,o4,p4,q4,yC,rfl,s7,zC,aD⟩:=b0.elem' r7;obtain⟨bD,cD,rfl⟩:=s7.form;refine CB (hA:=o4) (hj:=q7) (hlt:=p4) rfl rfl rfl (AL rfl rfl (Dw (hc:=cat2 q4) rfl rfl (AL rfl rfl ?_)));replace c:=((c.st B).st p1).st C;refine Dw (hc:=Blk.cell (i:=1) (c.1) rfl) rfl rfl (Pj rfl rfl rfl rfl (λp3=>?_) λp3=>?_)
     ·replace a0:=ip a0 p3;refine h_z (Aj rfl (Cn ?_));obtain rfl:=sm a0;have f3:=(B.an p1).an C;exact⟨_,(b.2.1,b.2.2),_,rfl,A7,hB.st f3,c,b0,h0.st f3⟩
     replace a0:=im a0 p3;refine zz ?_;obtain⟨t7,u7,a0⟩:=bs a0;obtain⟨w7,x7⟩:=BJ u7;obtain⟨dD,eD,oB,r4,s4,t4,fD,rfl,u4,gD,hD⟩:=b0.elem' x7;obtain⟨iD,jD,rfl⟩:=u4.form;refine Bn (hA:=r4) (hj:=w7) (hlt:=s4) rfl rfl (AN rfl (AF (hc:=cat0 t4) rfl ?_));refine CC 8 o7 (xs:=([t7.cond]:List (List Fct))) rfl rfl rfl ⟨u4,trivial⟩ λy7 kD lD q3 r3=>?_;refine zz ?_;obtain⟨mD,v4,a0⟩:=bs a0;have nD:=(Bx v4);refine Fw (he:=v4) rfl rfl ?_;obtain⟨k2,z7,a0⟩:=bs a0;replace b0:=b0.st q3;obtain⟨w4,x4,o0,a8⟩:=Abg b0 z7;refine Ur (hc:=a8) rfl rfl rfl (AT rfl ?_);have s3:=Bo o0.len;have oD:=rngNat s3;refine zz ?_;obtain⟨b8,y4,a0⟩:=bs a0;obtain⟨c8,l2,r3⟩:=r3.freeze;have g3:=(((B.an p1).an C).an q3).an l2;replace hB:=hB.st g3;replace c:=(c.st q3).st l2;replace b0:=b0.st l2;replace h0:=h0.st g3;replace o0:=o0.st l2;refine Cp (X:=(Option Addr×Nat)) (k2.length) y4 rfl s3 (λU m=>[(0,(.slice q j.length c5)),(5,(.pointer (some ⟨g,0,none⟩))),(8,(.slice b.1.1 e.1.length b.1.2)),(11,(.slice b.2.1 e.2.1.length b.2.2)),(12,(.int .i64 e.2.2)),(13,(.slice m.1 U.length m.2)),(66,(.slice w4 k2.length x4))]) (λU m w'=>∃d:Lab,Bs w A w' d/\Lc 3 w' d g 67 [(.int .i64 f.var),(.int .i64 f.val)]/\Vb w' (Fr 0 w' d) (.slice b.1.1 e.1.length b.1.2) e.1/\Rw 11 w' d 23 (.slice b.2.1 e.2.1.length b.2.2) e.2.1/\Vb w' (Fr 0 w' d) (.slice m.1 U.length m.2) U/\Vb w' (Fr 0 w' d) (.slice w4 k2.length x4) k2) ((some ⟨y7,0,none⟩),1) ⟨c8,hB,c,b0,h0,r3,o0⟩ Co (λ_ _=>rfl) ?_ ?_
     ·rintro pD m2 U m qD pB h3 ⟨d8,hB,c,b0,h0,l0,o0⟩ c0 i1 o6;have aa:=Y2 h3 s3;refine Ak (Am ?_);obtain⟨rD,sD,qB,z4,a5,b5,tD,rfl,n2,e8,f8⟩:=o0.elem' h3;obtain⟨g8,h8,rfl⟩:=n2.form;refine Bn (hA:=z4) (hj:=rfl) (hlt:=a5) rfl rfl (Bv (hl:=rfl) (hc:=b5) rfl ?_);refine BF 9 d8 λuD vD i8 D o2=>?_;refine AO o2 rfl rfl rfl (Bi) (allOne) λwD E o2=>?_;refine zz ?_;refine AF (hc:=Blk.cell (i:=2) (o2.1) rfl) rfl (AN rfl ?_);replace c:=(c.st D).st E;refine AF (hc:=Blk.cell (i:=1) (c.1) rfl) rfl (EA rfl rfl (λt3=>?_) λt3=>?_)
      ·replace c0:=ip c0 t3;refine o_z (Aj rfl (Cn ?_));obtain rfl:=sm c0;have V:=D.an E;exact show Exists _ from⟨_,(m.1,m.2),rfl,Co,_,hB.st V,c,b0.st V,h0.st V,l0.st V,o0.st V⟩
      replace c0:=im c0 t3;refine zz ?_;refine Bv (hl:=rfl) (hc:=(o2.1).cellsAt) rfl ?_;obtain⟨j8,k8,c0⟩:=bs c0;replace hB:=(hB.st D).st E;replace n2:=(n2.st D).st E;refine EH (O:=i8) (R:=λw' F v=>T2 w' F v j8) (KL Fr.lt (u6.zs hA hB) (Vb.ofAgg (cs:=[(.slice g8 m2.cond.length h8),(.int .i64 m2.var),(.int .i64 m2.val)]) (x:=m2) rfl ⟨_,rfl,n2,e8,f8⟩) k8) rfl λxD l8 d5 G m8=>?_;obtain⟨yD,zD,rfl,e5,n8⟩:=m8;obtain⟨aE,bE,rfl⟩:=e5.form;obtain⟨rfl,o8⟩:=n8.err;refine zz ?_;refine CU rfl (λu3=>?_) λu3=>?_
      ·replace c0:=ip c0 u3;refine zz ?_;obtain rfl:=sm c0;obtain rfl:=i1 _ rfl;obtain rfl:=sm (Ca a0);obtain rfl:=sm (Ca g0);obtain rfl:=n0 _ rfl;obtain rfl:=sm (Ca hm);replace hB:=hB.st G;exact Y7 rfl (AD rfl) (AD rfl) ⟨hB.ext,_,_,rfl,(Vb.mono (F:=Fr 0 l8 d5) (Vb.nil _ _) hB.out),(vErr o8)⟩
      replace c0:=im c0 u3;refine zz ?_;obtain⟨p8,q8,c0⟩:=bs c0;replace l0:=((l0.st D).st E).st G;refine EH (O:=d5) (R:=λw' F v=>T2 w' F v p8) (JG Fr.lt l0 e5 q8) rfl λcE r8 s8 p2 t8=>?_;obtain⟨dE,eE,rfl,f5,u8⟩:=t8;obtain⟨w8,x8,rfl⟩:=f5.form;obtain⟨rfl,y8⟩:=u8.err;refine zz ?_;refine CU rfl (λv3=>?_) λv3=>?_
      ·replace c0:=ip c0 v3;refine zz ?_;obtain rfl:=sm c0;obtain rfl:=i1 _ rfl;obtain rfl:=sm (Ca a0);obtain rfl:=sm (Ca g0);obtain rfl:=n0 _ rfl;obtain rfl:=sm (Ca hm);replace hB:=(hB.st G).st p2;exact Y7 rfl (AD rfl) (AD rfl) ⟨hB.ext,_,_,rfl,(Vb.mono (F:=Fr 0 r8 s8) (Vb.nil _ _) hB.out),(vErr y8)⟩
      replace c0:=im c0 v3;refine zz ?_;obtain rfl:=sm c0;have c2:=((D.an E).an G).an p2;exact show Exists _ from⟨_,(w8,x8),rfl,Co,_,(hB.st G).st p2,(c.st G).st p2,b0.st c2,h0.st c2,f5,o0.st c2⟩
     rintro fE gE ⟨q2,r2,rfl,g5,z8,hB,c,b0,h0,l0,o0⟩;replace a0:=AS a0;refine AM _ g5 ?_;refine zz ?_;have w3:=Bo l0.len;have hE:=rngNat w3;obtain⟨a9,h5,a0⟩:=bs a0;refine Cp (X:=(Option Addr×Nat)) (q2.length) h5 rfl w3 (λW n=>[(0,(.slice q j.length c5)),(5,(.pointer (some ⟨g,0,none⟩))),(8,(.slice b.1.1 e.1.length b.1.2)),(11,(.slice n.1 W.length n.2)),(12,(.int .i64 e.2.2)),(96,(.slice r2.1 q2.length r2.2))]) (λW n w'=>∃d:Lab,Bs w A w' d/\Lc 3 w' d g 67 [(.int .i64 f.var),(.int .i64 f.val)]/\Vb w' (Fr 0 w' d) (.slice b.1.1 e.1.length b.1.2) e.1/\Rw 11 w' d 23 (.slice n.1 W.length n.2) W/\Vb w' (Fr 0 w' d) (.slice r2.1 q2.length r2.2) q2) (b.2.1,b.2.2) ⟨z8,hB,c,b0,h0,l0⟩ Ax (λ_ _=>rfl) ?_ ?_
     ·rintro iE i5 W n jE rB i3 ⟨b9,hB,c,b0,p0,l0⟩ j0 p6 q6;have ba:=Y2 i3 w3;refine Ak (Am ?_);obtain⟨kE,lE,sB,j5,k5,l5,mE,rfl,q0⟩:=l0.elem' i3;replace q0:=Vb.of_slice q0;obtain⟨nE,oE,rfl⟩:=q0.form;refine Bn (hA:=j5) (hj:=rfl) (hlt:=k5) rfl rfl (AF (hc:=cat0 l5) rfl ?_);refine BF 10 b9 λpE qE m5 s2 t=>?_;refine AO t rfl rfl rfl (Bi) (allOne) λc9 t2 t=>?_;refine zz ?_;refine Ro rfl rfl rfl ?_;obtain⟨d9,e9,j0⟩:=bs j0;replace p0:=(p0.st s2).st t2;replace q0:=(q0.st s2).st t2;refine BO (O:=m5) (Dl (λ_ h=>h) (p0).all t.1 t.1.lt (Rp.mono (F:=Fr 0 c9 m5) (x:=i5) (Vb.cells1 q0) Fr.lt) e9) rfl λrE sE tE H f9=>?_;obtain rfl:=f9.bool;cases d9
      case false =>
       replace j0:=iF j0;refine zz ?_;replace t:=t.st H;refine AF (hc:=Blk.cell (i:=0) (t.1) rfl) rfl ?_;obtain⟨uE,x3,j0⟩:=bs j0;obtain⟨x3,g9,i9⟩:=BH x3;replace p0:=p0.st H;replace q0:=q0.st H;refine EC rfl (a:=i5) p0 q0 (λ_=>rfl) rfl g9 i9 ⟨rfl,rfl⟩ λvE j9 k9 wE xE l9 n5=>?_;rw[<- x3]at n5 ⊢;refine zz ?_;obtain rfl:=sm j0;have j1:=((s2.an t2).an H).an l9;exact show Exists _ from⟨_,(j9,k9),rfl,Ax,_,hB.st j1,c.st j1,b0.st j1,n5,l0.st j1⟩
      replace j0:=iT j0;refine zz ?_;obtain rfl:=sm j0;have k1:=(s2.an t2).an H;exact show Exists _ from⟨_,(n.1,n.2),rfl,Ax,_,hB.st k1,c.st k1,b0.st k1,p0.st H,l0.st k1⟩
     rintro yE zE ⟨aF,o5,rfl,z0,bF,hB,c,b0,p0,l0⟩;replace a0:=AS a0;obtain rfl:=sm a0;exact⟨_,(o5.1,o5.2),_,rfl,⟨(AR z0 _ _ rfl),(AR z0 _ _ rfl),(AR z0 _ _ rfl),(AR z0 _ _ rfl),(AR z0 _ _ rfl),trivial⟩,hB,c,b0,p0⟩
    replace a0:=im a0 o3;refine zz ?_;obtain⟨cF,p5,a0⟩:=bs a0;have dF:=(Bx p5);refine Fw (he:=p5) rfl rfl ?_;obtain⟨u2,m9,a0⟩:=bs a0;replace b0:=((b0.st B).st p1).st C;obtain⟨q5,r5,r0,n9⟩:=Abg b0 m9;refine Ur (hc:=n9) rfl rfl rfl (AT rfl ?_);have y3:=Bo r0.len;have eF:=rngNat y3;refine zz ?_;obtain⟨o9,s5,a0⟩:=bs a0;obtain⟨p9,z3,n3⟩:=n3.freeze;have e2:=((B.an p1).an C).an z3;replace hB:=hB.st e2;replace c:=c.st e2;replace b0:=b0.st z3;replace h0:=h0.st e2;replace r0:=r0.st z3;refine Cp (X:=(Option Addr×Nat)) (u2.length) s5 rfl y3 (λY o=>[(0,(.slice q j.length c5)),(5,(.pointer (some ⟨g,0,none⟩))),(8,(.slice b.1.1 e.1.length b.1.2)),(11,(.slice b.2.1 e.2.1.length b.2.2)),(12,(.int .i64 e.2.2)),(13,(.slice o.1 Y.length o.2)),(66,(.slice q5 u2.length r5))]) (λY o w'=>∃d:Lab,Bs w A w' d/\Lc 3 w' d g 67 [(.int .i64 f.var),(.int .i64 f.val)]/\Vb w' (Fr 0 w' d) (.slice b.1.1 e.1.length b.1.2) e.1/\Rw 11 w' d 23 (.slice b.2.1 e.2.1.length b.2.2) e.2.1/\Vb w' (Fr 0 w' d) (.slice o.1 Y.length o.2) Y/\Vb w' (Fr 0 w' d) (.slice q5 u2.length r5) u2) ((some ⟨m7,0,none⟩),1) ⟨p9,hB,c,b0,h0,n3,r0⟩ Co (λ_ _=>rfl) ?_ ?_
    ·rintro fF v2 Y o gF tB j3 ⟨q9,hB,c,b0,h0,m0,r0⟩ d0 l1 r6;have ca:=Y2 j3 y3;refine Ak (Am ?_);obtain⟨hF,jF,uB,t5,u5,v5,kF,rfl,w2,r9,s9⟩:=r0.elem' j3;obtain⟨t9,u9,rfl⟩:=w2.form;refine Bn (hA:=t5) (hj:=rfl) (hlt:=u5) rfl rfl (Bv (hl:=rfl) (hc:=v5) rfl ?_);refine BF 9 q9 λlF mF v9 I y2=>?_;refine AO y2 rfl rfl rfl (Bi) (allOne) λnF J y2=>?_;refine zz ?_;refine AF (hc:=Blk.cell (i:=2) (y2.1) rfl) rfl (AN rfl ?_);replace c:=(c.st I).st J;refine AF (hc:=Blk.cell (i:=1) (c.1) rfl) rfl (EA rfl rfl (λa4=>?_) λa4=>?_)
     ·replace d0:=ip d0 a4;refine o_z (Aj rfl (Cn ?_));obtain rfl:=sm d0;have Z:=I.an J;exact show Exists _ from⟨_,(o.1,o.2),rfl,Co,_,hB.st Z,c,b0.st Z,h0.st Z,m0.st Z,r0.st Z⟩
     replace d0:=im d0 a4;refine zz ?_;refine Bv (hl:=rfl) (hc:=(y2.1).cellsAt) rfl ?_;obtain⟨w9,x9,d0⟩:=bs d0;replace hB:=(hB.st I).st J;replace w2:=(w2.st I).st J;refine EH (O:=v9) (R:=λw' F v=>T2 w' F v w9) (KL Fr.lt (u6.zs hA hB) (Vb.ofAgg (cs:=[(.slice t9 v2.cond.length u9),(.int .i64 v2.var),(.int .i64 v2.val)]) (x:=v2) rfl ⟨_,rfl,w2,r9,s9⟩) x9) rfl λoF y9 w5 K z9=>?_;obtain⟨pF,qF,rfl,x5,aA⟩:=z9;obtain⟨rF,sF,rfl⟩:=x5.form;obtain⟨rfl,bA⟩:=aA.err;refine zz ?_;refine CU rfl (λb4=>?_) λb4=>?_
     ·replace d0:=ip d0 b4;refine zz ?_;obtain rfl:=sm d0;obtain rfl:=l1 _ rfl;obtain rfl:=sm (Ca a0);obtain rfl:=sm (Ca g0);obtain rfl:=n0 _ rfl;obtain rfl:=sm (Ca hm);replace hB:=hB.st K;exact Y7 rfl (AD rfl) (AD rfl) ⟨hB.ext,_,_,rfl,(Vb.mono (F:=Fr 0 y9 w5) (Vb.nil _ _) hB.out),(vErr bA)⟩
     replace d0:=im d0 b4;refine zz ?_;obtain⟨cA,dA,d0⟩:=bs d0;replace m0:=((m0.st I).st J).st K;refine EH (O:=w5) (R:=λw' F v=>T2 w' F v cA) (JG Fr.lt m0 x5 dA) rfl λtF eA fA z2 gA=>?_;obtain⟨uF,vF,rfl,y5,iA⟩:=gA;obtain⟨jA,kA,rfl⟩:=y5.form;obtain⟨rfl,lA⟩:=iA.err;refine zz ?_;refine CU rfl (λc4=>?_) λc4=>?_
     ·replace d0:=ip d0 c4;refine zz ?_;obtain rfl:=sm d0;obtain rfl:=l1 _ rfl;obtain rfl:=sm (Ca a0);obtain rfl:=sm (Ca g0);obtain rfl:=n0 _ rfl;obtain rfl:=sm (Ca hm);replace hB:=(hB.st K).st z2;exact Y7 rfl (AD rfl) (AD rfl) ⟨hB.ext,_,_,rfl,(Vb.mono (F:=Fr 0 eA fA) (Vb.nil _ _) hB.out),(vErr lA)⟩
     replace d0:=im d0 c4;refine zz ?_;obtain rfl:=sm d0;have g2:=((I.an J).an K).an z2;exact show Exists _ from⟨_,(jA,kA),rfl,Co,_,(hB.st K).st z2,(c.st K).st z2,b0.st g2,h0.st g2,y5,r0.st g2⟩
    rintro wF xF ⟨a3,b3,rfl,z5,mA,hB,c,b0,h0,m0,r0⟩;replace a0:=AS a0;refine AM _ z5 ?_;refine zz ?_;have d4:=Bo m0.len;have yF:=rngNat d4;obtain⟨nA,a6,a0⟩:=bs a0;refine Cp (X:=(Option Addr×Nat)) (a3.length) a6 rfl d4 (λh2 p=>[(0,(.slice q j.length c5)),(5,(.pointer (some ⟨g,0,none⟩))),(8,(.slice b.1.1 e.1.length b.1.2)),(11,(.slice p.1 h2.length p.2)),(12,(.int .i64 e.2.2)),(96,(.slice b3.1 a3.length b3.2))]) (λh2 p w'=>∃d:Lab,Bs w A w' d/\Lc 3 w' d g 67 [(.int .i64 f.var),(.int .i64 f.val)]/\Vb w' (Fr 0 w' d) (.slice b.1.1 e.1.length b.1.2) e.1/\Rw 11 w' d 23 (.slice p.1 h2.length p.2) h2/\Vb w' (Fr 0 w' d) (.slice b3.1 a3.length b3.2) a3) (b.2.1,b.2.2) ⟨mA,hB,c,b0,h0,m0⟩ Ax (λ_ _=>rfl) ?_ ?_
    ·rintro zF b6 h2 p aG vB k3 ⟨oA,hB,c,b0,s0,m0⟩ k0 s6 t6;have da:=Y2 k3 d4;refine Ak (Am ?_);obtain⟨bG,cG,wB,c6,d6,e6,dG,rfl,t0⟩:=m0.elem' k3;replace t0:=Vb.of_slice t0;obtain⟨eG,fG,rfl⟩:=t0.form;refine Bn (hA:=c6) (hj:=rfl) (hlt:=d6) rfl rfl (AF (hc:=cat0 e6) rfl ?_);refine BF 10 oA λgG hG f6 c3 u=>?_;refine AO u rfl rfl rfl (Bi) (allOne) λpA d3 u=>?_;refine zz ?_;refine Ro rfl rfl rfl ?_;obtain⟨qA,rA,k0⟩:=bs k0;replace s0:=(s0.st c3).st d3;replace t0:=(t0.st c3).st d3;refine BO (O:=f6) (Dl (λ_ h=>h) (s0).all u.1 u.1.lt (Rp.mono (F:=Fr 0 pA f6) (x:=b6) (Vb.cells1 t0) Fr.lt) rA) rfl λiG jG kG L sA=>?_;obtain rfl:=sA.bool;cases qA
     case false =>
      replace k0:=iF k0;refine zz ?_;replace u:=u.st L;refine AF (hc:=Blk.cell (i:=0) (u.1) rfl) rfl ?_;obtain⟨lG,e4,k0⟩:=bs k0;obtain⟨e4,tA,uA⟩:=BH e4;replace s0:=s0.st L;replace t0:=t0.st L;refine EC rfl (a:=b6) s0 t0 (λ_=>rfl) rfl tA uA ⟨rfl,rfl⟩ λmG vA wA nG oG xA g6=>?_;rw[<- e4]at g6 ⊢;refine zz ?_;obtain rfl:=sm k0;have m1:=((c3.an d3).an L).an xA;exact show Exists _ from⟨_,(vA,wA),rfl,Ax,_,hB.st m1,c.st m1,b0.st m1,g6,m0.st m1⟩
     replace k0:=iT k0;refine zz ?_;obtain rfl:=sm k0;have n1:=(c3.an d3).an L;exact show Exists _ from⟨_,(p.1,p.2),rfl,Ax,_,hB.st n1,c.st n1,b0.st n1,s0.st L,m0.st n1⟩
    rintro pG qG ⟨rG,h6,rfl,d1,sG,hB,c,b0,s0,m0⟩;replace a0:=AS a0;obtain rfl:=sm a0;exact⟨_,(h6.1,h6.2),_,rfl,⟨(AR d1 _ _ rfl),(AR d1 _ _ rfl),(AR d1 _ _ rfl),(AR d1 _ _ rfl),(AR d1 _ _ rfl),trivial⟩,hB,c,b0,s0⟩
   rintro tG uG ⟨T,s,vG,rfl,i6,hB,c,b0,yA⟩;replace g0:=AS g0;refine AM _ i6 ?_;refine zz ?_;obtain⟨wG,j6,g0⟩:=bs g0;have zA:=(Bx j6);refine Gb (he:=j6) rfl rfl (Ay rfl (o_z ?_));obtain rfl:=sm g0;exact show Exists _ from⟨_,((b.1.1,b.1.2),(s.1,s.2)),rfl,A7,_,hB,c,b0,yA,zA⟩
  replace g0:=im g0 l3;refine o_z (Ae rfl (Cn ?_));obtain rfl:=sm g0;exact show Exists _ from⟨_,((b.1.1,b.1.2),(b.2.1,b.2.2)),j2 _ rfl,Ad,_,hB,h0,n4⟩
 rintro xG k6 ⟨yG,zG,rfl,l6,aB,hB,h0,n4⟩;replace hm:=AS hm;refine AM _ l6 ?_;refine zz ?_;have bB:=Bo h0.len;have aH:=rngNat bB;refine Dc rfl rfl (λf4=>?_) λf4=>?_
 ·replace hm:=ip hm f4;refine zz ?_;refine EE rfl (Ay rfl (Ay rfl (o_z (AV ?_))));obtain rfl:=sm hm;exact Y7 rfl (AD rfl) (AD rfl) ⟨hB.ext,_,_,rfl,(Vb.mono (F:=Fr 0 k6 aB) (Vb.nil _ _) hB.out),(vErr (by decide))⟩
 replace hm:=im hm f4;refine zz ?_;obtain⟨cB,dB,h0⟩:=h0.freeze;obtain rfl:=sm hm;replace hB:=hB.st dB;exact Y7 rfl (AD rfl) (AD rfl) ⟨hB.ext,_,_,rfl,(Vb.mono (F:=Fr 0 k6 cB) h0 hB.out),(vErr (X9 0))⟩
noncomputable def FY(e:Tsk)(r:Int)(s:List Fct):Option ((List (List Fct))×Err) :=
  bnd (Cz e) λf=>if f.n≠0 then(some (([]:List (List Fct)),(⟨f.n⟩:Err)))else(bnd (if r<0 then(some true)else(if(e.ops.length:Int)<=r then(some true)else(some false)):Option Bool) λt=>if t=true then(some (([]:List (List Fct)),(⟨1⟩:Err)))else(bnd (Fg e.vars s) λu=>if u=true then bnd (atI e.ops r) λg=>bnd (mkI 24 (([]:List (List Fct)):List (List Fct)) (s.length:Int)) λh=>bnd (rng (ρ:=(List (List Fct))×Err) (λ(i:Nat)(v:Fct)(j:(List (List (List Fct))))=>bnd (GR e.vars g v) λa=>if a.2.n≠0 then(some (.ret (([]:List (List Fct)),(⟨a.2.n⟩:Err))))else(bnd (j[i]?) λw=>some (.next (j.set i a.1)))) s 0 h) λd=>fin d λ(k:(List (List (List Fct))))=>bnd (BN g.pre) λl=>bnd (rng (ρ:=(List (List Fct))×Err) (λ(m:Nat)(x:List (List Fct))(o:(List (List Fct)))=>bnd (k[m]?) λp=>bnd (Fb o p) λb=>if b.2.n≠0 then(some (.ret (([]:List (List Fct)),(⟨b.2.n⟩:Err))))else(some (.next b.1))) h 0 [l]) λc=>fin c λ(q:(List (List Fct)))=>some (q,(⟨0⟩:Err))else some (([]:List (List Fct)),(⟨2⟩:Err))))
section
attribute [local irreducible] Vb Lc Rw Ob
theorem MY{w:World}{A:Nat->Prop}(hA:∀k,A k->k<w.heap.size){c:Value}{q:Tsk}(z0:Vb w A c q){f:Int}(x:X2 f){d:Value}{s:List Fct}(y:Vb w A d s){r:(List (List Fct))×Err}(hm:FY q f s=some r) :
    Fn prog 79 [c,(.int .i64 f),d] w λv w'=>Ext w w'/\T2 w' (upA A w w') v r:=by
 obtain⟨_,_,_⟩:=BS hA;apply Br z0;intros;apply Br y;intros;refine AC func79 rfl ntmps79 ?_;unfold FY at hm;refine Ak (Am (Dx 2 ?_));intros;refine zz ?_;refine Eh ?_;obtain⟨I,b1,hm⟩:=bs hm;refine CJ rfl (FU (λ_ h=>h) zA b1) ?_;intros;refine zz ?_;refine CU rfl (λg=>?_) λg=>?_
 ·replace hm:=ip hm g;refine zz ?_;obtain rfl:=sm hm;exact Hj
 replace hm:=im hm g;refine o_z (Ae rfl (Bf (Ak (Ak (Cu (X:=Unit) hm [1,2,3] [] [] [] (λ_ _ i _ t=>(33,.bool i)::t) (λ_ _ _ _ t=>t) ?_ ?_)))))
 ·intro i a;refine zz ?_;refine CL rfl rfl (λl0=>?_) λl0=>?_
  ·replace a:=ip a l0;refine zz ?_;obtain rfl:=sm a;exact AP ()
  replace a:=im a l0;refine zz ?_;refine Bt (AA rfl rfl (AT rfl (AA rfl rfl (EM rfl rfl (λj=>?_) λj=>?_))))
  ·replace a:=ip a j;refine zz ?_;obtain rfl:=sm a;exact AP ()
  replace a:=im a j;refine zz ?_;obtain rfl:=sm a;exact AP ()
 intro i _ _ _ _ hm;intros;refine Ba ?_;refine Bg rfl (λl=>?_) (λl=>?_)
 ·replace hm:=ip hm l;refine Ak (Am (EE rfl (Ay rfl (Ay rfl (o_z (AV ?_))))));obtain rfl:=sm hm;exact Hj
 replace hm:=im' hm l;refine zz ?_;refine Bt (Aw rfl ?_);obtain⟨z,d1,hm⟩:=bs hm;refine CJ rfl (Ji (λ_ h=>h) zA zA d1) ?_;intros;cases z
 case false =>
  replace hm:=iF hm;refine zz ?_;refine EE rfl (Ay rfl (Ay rfl (o_z (AV ?_))));obtain rfl:=sm hm;exact Hj
 replace hm:=iT hm;refine zz ?_;refine Bt (Aw rfl ?_);obtain⟨J,s1,hm⟩:=bs hm;refine FT ?_;intros;refine DP ?_;refine BC 3 ?_;intros;refine Bj ?_;intros;refine zz ?_;obtain⟨K,e1,hm⟩:=bs hm;refine FB 4 e1 ?_;intros;refine zz ?_;refine Cl (X:=Unit) hm [3,9,10,49] [] [4,5] [4] (λ_ _ _ _ t=>t) (λ_ o u _ t=>uR (o 4) 4 u::t) () ?_ ?_
 ·intro L M u _ _ _ _ c0 N _ B;intros;refine zz ?_;refine CE ?_;intros;refine DP ?_;refine BC 5 ?_;intros;refine Ay rfl (Bj ?_);intros;refine zz ?_;refine Bt ?_;refine Eh ?_;refine Eh ?_;obtain⟨O,o0,c0⟩:=bs c0;refine OD rfl (PB Fr.lt zV zV zV o0) λ_ _ _ _ _ C D=>?_;apply HW C;intros;apply HW D;intros;refine zz ?_;refine CU rfl (λm=>?_) λm=>?_
  ·replace c0:=ip c0 m;refine zz ?_;obtain rfl:=sm c0;obtain rfl:=B _ rfl;exact Hj
  replace c0:=im c0 m;refine zz ?_;obtain⟨P,i1,c0⟩:=bs c0;refine CE ?_;intros;refine FA ?_;intros;refine o_z ?_;exact BX () c0
 intro Q _ _ _ _ hm;intros;refine Ba ?_;refine zz ?_;refine Bt ?_;obtain⟨E,s0,hm⟩:=bs hm;refine Qd 6 rfl (Ce Fr.lt zV s0) ?_;intros;refine FG 6 ?_;intros;refine HK 7 ([E]:List (List Fct)) ?_;intros;refine zz ?_;refine FG 7 ?_;intros;refine Cl (X:=(Option Addr×Nat)) hm [76] [] [] [] (λ_ _ e n t=>(15,sv n e)::t) (λ_ _ e n t=>fV n e::t) (_,_) ?_ ?_
 ·intro R l1 e _ _ _ _ b S _ F;intros;refine Ak (Am ?_);obtain⟨T,n1,b⟩:=bs b;refine CE ?_;intros;refine Dk (Ay rfl (o_z (Ak (Am (Aw rfl (Aw rfl ?_))))));obtain⟨U,t0,b⟩:=bs b;refine OD rfl (JG Fr.lt zV zV t0) λ_ _ _ _ _ G H=>?_;apply HW G;intros;apply HW H;intros;refine zz ?_;refine CU rfl (λp=>?_) λp=>?_
  ·replace b:=ip b p;refine zz ?_;obtain rfl:=sm b;obtain rfl:=F _ rfl;exact Hj
  replace b:=im b p;refine zz ?_;exact BX (_,_) b
 intro V _ _ _ _ hm;intros;refine Ba ?_;refine zz ?_;obtain rfl:=sm hm;exact Hj
end
noncomputable def DL(k:Tsk)(l:Int)(m:List Fct):Option ((List (List Fct))×Err) :=
  bnd (FY k l m) λa=>if a.2.n≠0 then(some (([]:List (List Fct)),(⟨a.2.n⟩:Err)))else(bnd (Gj a.1) λb=>bnd (if b.length<4611686018427387904 then some (Dg b)else none) λg=>bnd (Zk (ρ:=(List (List Fct))×Err) (λ(c:Nat)(d:(List (List Fct)))=>bnd (d[c]?) λh=>bnd (BN h) λi=>bnd (d[c]?) λj=>some (.next (d.set c i))) b.length g) λe=>fin e λ(f:(List (List Fct)))=>some (f,(⟨0⟩:Err)))
theorem Kh{w:World}{A:Nat->Prop}(hA:∀k,A k->k<w.heap.size){c:Value}{n:Tsk}(o:Vb w A c n){f:Int}(g:X2 f){d:Value}{p:List Fct}(q:Vb w A d p){r:(List (List Fct))×Err}(hm:DL n f p=some r) :
    Fn prog 45 [c,(.int .i64 f),d] w λv w'=>Ext w w'/\T2 w' (upA A w w') v r:=by
 obtain⟨O,hB,d3⟩:=enter hA;obtain⟨U,rfl,v5,v6,v7,v8,rfl,h9,o1,p1,q1⟩:=id o;obtain⟨V,g3,rfl⟩:=h9.form;obtain⟨W,i3,rfl⟩:=o1.form;obtain⟨Y,k3,rfl⟩:=p1.form;obtain⟨Z,m3,rfl⟩:=q1.form;obtain⟨n3,o3,rfl⟩:=q.form;refine AC func45 rfl ntmps45 ?_;unfold DL at hm;refine Ak (Am (EB 2 O rfl λp3 q3 C D E=>?_));refine zz ?_;refine Bv (hl:=rfl) (hc:=(E.1).cellsAt) rfl (Aw rfl (Aw rfl ?_));obtain⟨G,v1,hm⟩:=bs hm;replace hB:=hB.st D;refine EH (O:=C) (R:=λw' F v=>T2 w' F v G) (MY Fr.lt (o.zs hA hB) g (q.zs hA hB) v1) rfl λr3 H s t I=>?_;obtain⟨s3,t3,rfl,h1,z1⟩:=I;obtain⟨u3,v3,rfl⟩:=h1.form;obtain⟨rfl,a2⟩:=z1.err;refine zz ?_;refine CU rfl (λh=>?_) λh=>?_
 ·replace hm:=ip hm h;refine zz ?_;obtain rfl:=sm hm;replace hB:=hB.st t;exact Y7 rfl (AD rfl) (AD rfl) ⟨hB.ext,_,_,rfl,(Vb.mono (F:=Fr 0 H s) (Vb.nil _ _) hB.out),(vErr a2)⟩
 replace hm:=im hm h;refine zz ?_;obtain⟨i,b2,hm⟩:=bs hm;refine ED 3 (O:=s) (NM Fr.lt h1 b2) rfl λu x w3 x3 J e=>?_;refine zz ?_;obtain⟨y3,o0,hm⟩:=bs hm;obtain⟨K,o0⟩:=Hw o0;refine MR (NP e K) rfl rfl λz3 a4 L M e=>?_;rw[o0]at e;refine zz ?_;have j:=Bo e.len;have b4:=rngNat j;obtain⟨k1,q0,hm⟩:=bs hm;replace hB:=((hB.st t).st J).st M;refine Rs (X:=Unit) (i.length) q0 j (λl l1=>[(10,(.slice u i.length x))]) (λl l1 w'=>∃y:Lab,Bs w A w' y/\Rw 3 w' y 23 (.slice u i.length x) l) () ⟨L,hB,e⟩ Af (λ_ _=>rfl) ?_ ?_
 ·rintro c4 l l1 d4 g2 N ⟨P,hB,b⟩ a0 t0 u0;have z:=Abk N j;refine zz ?_;obtain⟨e4,i2,a0⟩:=bs a0;obtain⟨f4,g4,j2,v0,w0,y0,h4,rfl,l0⟩:=b.elem i2;replace l0:=Vb.of_slice l0;obtain⟨i4,j4,rfl⟩:=l0.form;refine Bn (hA:=v0) (hj:=rfl) (hlt:=w0) rfl rfl (AF (hc:=cat0 y0) rfl ?_);obtain⟨Q,l2,a0⟩:=bs a0;refine ED 4 (O:=P) (Ce Fr.lt l0 l2) rfl λm2 n2 o2 p2 B m=>?_;obtain⟨q2,h0,a0⟩:=bs a0;replace b:=b.st B;obtain⟨r2,s2,m1,c0,i0,n1,t2,rfl,e0⟩:=b.elem h0;replace e0:=Vb.of_slice e0;obtain⟨u2,v2,rfl⟩:=e0.form;refine Bn (hA:=c0) (hj:=rfl) (hlt:=i0) rfl rfl ?_;obtain⟨w2,j0,m⟩:=m.freeze;replace b:=b.st j0;refine FS rfl b (a:=Q) m c0 rfl rfl (Az h0) λy2 z0 b=>?_;refine o_z ?_;obtain rfl:=sm a0;exact show Exists _ from⟨_,(),rfl,Af,_,((hB.st B).st j0).st z0,b⟩
 rintro z2 S ⟨a3,b3,rfl,k0,c3,hB,b⟩;replace hm:=AS hm;refine AM _ k0 ?_;refine zz ?_;obtain⟨T,c1,b⟩:=b.freeze;obtain rfl:=sm hm;replace hB:=hB.st c1;exact Y7 rfl (AD rfl) (AD rfl) ⟨hB.ext,_,_,rfl,(Vb.mono (F:=Fr 0 S T) b hB.out),(vErr (X9 0))⟩
end
section
section
variable {α σ ρ:Type}
theorem Bw{s:σ}{f:σ->Option ρ}:fin (.done s) f=f s:=rfl
theorem Jk{c:ρ}{f:σ->Option ρ}:fin (.ret c) f=some c:=rfl
theorem BA{x y:α}:(if true=true then x else y)=x:=rfl
theorem BT{x y:α}:(if false=true then x else y)=y:=rfl
theorem MZ{f:Nat→α→σ→Option (Ctl σ ρ)}{I:Nat→σ→Prop}{R:ρ→Prop}:∀(ys:List α)(j:Nat)(s:σ),I j s →
    (∀k x s,ys[k]?=some x->I (j+k) s->(∃a,f (j+k) x s=some (.next a)/\I (j+k+1) a)\/(∃r,f (j+k) x s=some (.ret r)/\R r)) ->
    (∃a,rng f ys j s=some (.done a)/\I (j+ys.length) a)\/∃r,rng f ys j s=some (.ret r)/\R r
  |[],j,s,c,_=>.inl ⟨s,rfl,c⟩
  |y  :: ys,j,s,c,h=>by
    rcases h 0 y s rfl c with⟨a,h1,h2⟩|⟨r,h1,h2⟩
    . have b:f j y s=some (.next a):=h1;simp only[rng,b];rcases MZ (I:=I) (R:=R) ys (j+1) a h2 (λk x s hk e=>by
        have:=h (k+1) x s (by simpa using hk) (by rwa[show j+(k+1)=j+1+k from by omega]);rwa[show j+(k+1)=j+1+k from by omega]at this)with⟨d,h3,h4⟩|h3
      . exact .inl ⟨d,h3,by rw[P3,show j+(ys.length+1)=j+1+ys.length from by omega];exact h4⟩
      . exact .inr h3
    . have b:f j y s=some (.ret r):=h1;simp only[rng,b];exact .inr ⟨r,rfl,h2⟩
theorem IX{f:Nat->α->σ->Option (Ctl σ ρ)}{xs:List α}{s₀:σ}(I:Nat->σ->Prop)(R:ρ->Prop)(c:I 0 s₀)
    (h:∀k x s,xs[k]?=some x->I k s->(∃a,f k x s=some (.next a)/\I (k+1) a)\/(∃r,f k x s=some (.ret r)/\R r)) :
    (∃a,rng f xs 0 s₀=some (.done a)/\I xs.length a)\/∃r,rng f xs 0 s₀=some (.ret r)/\R r:=by
  have:=MZ (f:=f) (I:=I) (R:=R) xs 0 s₀ c (λk x s hk b=>by rw[V0]at b ⊢;exact h k x s hk b);rwa[V0]at this
theorem HE{f:Nat->α->σ->Option (Ctl σ ρ)}{xs:List α}{s₀:σ}(I:Nat->σ->Prop)(b:I 0 s₀)(h:∀k x s,xs[k]?=some x->I k s->∃a,f k x s=some (.next a)/\I (k+1) a) :
    ∃a,rng f xs 0 s₀=some (.done a)/\I xs.length a:=by
  rcases IX I (λ_=>False) b (λk x s hk c=>.inl (h k x s hk c))with h|⟨_,_,h⟩
  . exact h
  . exact h.elim
theorem Qj{f:Nat->α->σ->Option (Ctl σ ρ)}{xs:List α}(g:Nat->σ)(h:∀k x,xs[k]?=some x->f k x (g k)=some (.next (g (k+1)))):rng f xs 0 (g 0)=some (.done (g xs.length)):=by
  obtain⟨b,h1,h2⟩:=HE (f:=f) (xs:=xs) (s₀:=g 0) (λk s=>s=g k) rfl (λk x s hk a=>⟨_,by rw[a];exact h k x hk,rfl⟩);rw[h1,h2]
theorem Gh{f:Nat->α->σ->Option (Ctl σ ρ)}{xs:List α}{s₀:σ}(g:Nat->σ)(a:s₀=g 0)(h:∀k x,xs[k]?=some x->f k x (g k)=some (.next (g (k+1)))):rng f xs 0 s₀=some (.done (g xs.length)):=by
  rw[a];exact Qj g h
theorem GF{f:Nat->α->Unit->Option (Ctl Unit ρ)}{xs:List α}(h:∀k x,xs[k]?=some x->f k x ()=some (.next ())):rng f xs 0 ()=some (.done ()):=Qj (λ_=>()) h
theorem VH{f:Nat->σ->Option (Ctl σ ρ)}{N:Nat}(g:Nat->σ)(h:∀k,k<N->f k (g k)=some (.next (g (k+1)))):Zk f N (g 0)=some (.done (g N)):=by
  have:=Qj (f:=λ_ k s=>f k s) (xs:=List.range N) g (λk x hk=>by
    obtain⟨hlt,rfl⟩:=C1.1 hk;simpa using h k (by simpa using hlt))
  rwa[List.length_range]at this
theorem UG{f:Nat->σ->Option (Ctl σ ρ)}{N:Nat}{s₀:σ}(g:Nat->σ)(a:s₀=g 0)(h:∀k,k<N->f k (g k)=some (.next (g (k+1)))):Zk f N s₀=some (.done (g N)):=by
  rw[a];exact VH g h
theorem VI{f:Nat->σ->Option (Ctl σ ρ)}{N:Nat}{s₀:σ}(I:Nat->σ->Prop)(b:I 0 s₀)(h:∀k s,k<N->I k s->∃a,f k s=some (.next a)/\I (k+1) a) :
    ∃a,Zk f N s₀=some (.done a)/\I N a:=by
  have:=HE (f:=λ_ k s=>f k s) (xs:=List.range N) (s₀:=s₀) I b (λk x s hk c=>by
    obtain⟨hlt,rfl⟩:=C1.1 hk;simpa using h k s (by simpa using hlt) c)
  rwa[List.length_range]at this
end
end
section
section
variable {α σ ρ β:Type}
theorem To{f:σ->Option (Ctl σ ρ)}(I:σ->Prop)(g:σ->Prop)(R:ρ->Prop)(b:σ->Nat)(h:∀s,I s->(∃a,f s=some (.next a)/\I a/\b a<b s)\/(∃a,f s=some (.brk a)/\g a)\/∃r,f s=some (.ret r)/\R r) :
    ∀s,I s->(∃a,lop f s=some (.done a)/\g a)\/∃r,lop f s=some (.ret r)/\R r:=by
  have c:∀(n:Nat) s,I s->b s<n->(∃a,lop f s=some (.done a)/\g a)\/∃r,lop f s=some (.ret r)/\R r:=by
    intro n
    induction n with
    |zero=>intro s _ hn;omega
    |succ n e =>
      intro s d hn;rw[Xz];rcases h s d with⟨a,h1,h2,h3⟩|⟨a,h1,h2⟩|⟨r,h1,h2⟩
      . rw[h1];exact e a h2 (by omega)
      . rw[h1];exact .inl ⟨a,rfl,h2⟩
      . rw[h1];exact .inr ⟨r,rfl,h2⟩
  exact λs d=>c (b s+1) s d (by omega)
theorem IA{f:σ->Option (Ctl σ ρ)}{s₀:σ}{k:Fin σ ρ->Option β}{P:β->Prop}(I:σ->Prop)(d:σ->Prop)(R:ρ->Prop)(b:σ->Nat)(c:I s₀)
    (h:∀s,I s->(∃a,f s=some (.next a)/\I a/\b a<b s)\/(∃a,f s=some (.brk a)/\d a)\/∃r,f s=some (.ret r)/\R r)
    (hb:∀s,d s->∃r,k (.done s)=some r/\P r) (hr:∀q,R q->∃r,k (.ret q)=some r/\P r):∃r,bnd (lop f s₀) k=some r/\P r:=by
  rcases To I d R b h s₀ c with⟨s,h1,h2⟩|⟨q,h1,h2⟩
  . rw[h1,Ah];exact hb s h2
  . rw[h1,Ah];exact hr q h2
theorem Cr{f:Nat→α→σ→Option (Ctl σ ρ)}{xs:List α}{s₀:σ}{k:Fin σ ρ→Option β}{P:β→Prop}(I:Nat→σ→Prop)(R:ρ→Prop)(e:I 0 s₀)
    (h:∀i x s,xs[i]?=some x->I i s->(∃a,f i x s=some (.next a)/\I (i+1) a)\/∃q,f i x s=some (.ret q)/\R q)
    (hb:∀s,I xs.length s->∃r,k (.done s)=some r/\P r) (hr:∀q,R q->∃r,k (.ret q)=some r/\P r):∃r,bnd (rng f xs 0 s₀) k=some r/\P r:=by
  have b:∀(ys:List α)(j:Nat)(s:σ),(∀i,ys[i]?=xs[j+i]?)->j+ys.length=xs.length->I j s->∃r,bnd (rng f ys j s) k=some r/\P r:=by
    intro ys
    induction ys with
    |nil=>intro j s _ hl c;exact hb s (by simp at hl;rw[<- hl];exact c)
    |cons y ys g =>
      intro j s d hl c;have l:xs[j]?=some y:=(by have:=d 0;simpa using this.symm);simp only[rng];rcases h j y s l c with⟨a,h1,h2⟩|⟨q,h1,h2⟩
      . rw[h1];exact g (j+1) a (λi=>by have:=d (i+1);rw[show j+1+i=j+(i+1)from by omega,<- this];simp) (by simp at hl;omega) h2
      . rw[h1,Ah];exact hr q h2
  exact b xs 0 s₀ (λi=>by rw[V0]) (by omega) e
theorem NC{f:Nat->α->σ->Option (Ctl σ ρ)}{xs:List α}{s₀:σ}{k:Fin σ ρ->Option β}{r:Option β}(I:Nat->σ->Prop)(b:I 0 s₀)
    (h:∀i x s,xs[i]?=some x->I i s->∃a,f i x s=some (.next a)/\I (i+1) a) (hb:∀s,I xs.length s->k (.done s)=r):bnd (rng f xs 0 s₀) k=r:=by
  obtain⟨s,h1,h2⟩:=HE I b h;rw[h1,Ah];exact hb s h2
end
end
section
open Go Go.RowKit
theorem Hr{l:List Fct}(h:l.length<=1000000):BN l=some l:=if_pos ⟨by omega,by omega⟩
theorem Na{l:List Int}(h:l.length<=1000000):Cw l=some l:=if_pos ⟨by omega,by omega⟩
theorem VJ{α:Type}{l:List α}{k:Nat}{x:α}(h:l[k]?=some x):l.set k x=l:=by
  refine M5 λj=>?_;rw[N0];split
  . rename_i e;subst e;split
    . exact h.symm
    . rename_i h2;exact absurd (Az h) h2
  . rfl
end
section
open Go Go.RowKit Go.Lib
section
variable {α ρ:Type}
theorem WQ{f:Nat->α->Unit->Option (Ctl Unit ρ)}{xs:List α}(P:Nat->α->Prop)(c:ρ)(h:∀k a,xs[k]?=some a->(P k a/\f k a ()=some (.ret c))\/(¬P k a/\f k a ()=some (.next ()))) :
    (rng f xs 0 ()=some (.ret c)/\∃k a,xs[k]?=some a/\P k a)\/(rng f xs 0 ()=some (.done ())/\∀k a,xs[k]?=some a->¬P k a):=by
  rcases IX (f:=f) (xs:=xs) (s₀:=()) (λk _=>∀j a,j<k->xs[j]?=some a->¬P j a) (λr=>r=c/\∃k a,xs[k]?=some a/\P k a) (λj a hj=>absurd hj (by omega)) (λk x s hk g=>by
    rcases h k x hk with⟨b,h2⟩|⟨b,h2⟩
    . exact .inr ⟨_,h2,rfl,k,x,hk,b⟩
    . refine .inl ⟨_,h2,λj a hj d=>?_⟩;by_cases e:j=k
      . subst e;rw[hk]at d;obtain rfl:=R1 d;exact b
      . exact g j a (by omega) d)with⟨s,b,h2⟩|⟨r,b,rfl,h2⟩
  . exact .inr ⟨b,λk a d=>h2 k a (Az d) d⟩
  . exact .inl ⟨b,h2⟩
end
def Ps(p:List Fct):Prop:=(∀x∈p,0<=x.var/\0<=x.val)/\p.Pairwise λx y=>x.var<y.var
theorem Zg{vars:List Int}{f:List Fct}:FactsOk vars f↔(∀x∈f,YU vars x)/\f.Pairwise λx y=>x.var<y.var:=by
  constructor
  . intro h;refine⟨λx a=>?_,C5.2 λi j hi hj b=>Ii h j i _ _ b (C9 hi) (C9 hj)⟩;obtain⟨i,hi,rfl⟩:=List.getElem_of_mem a;exact h.1 i _ (C9 hi)
  . rintro⟨c,h2⟩;refine⟨λi x a=>c x (H2 a),λi x y a d=>?_⟩;obtain⟨hi,rfl⟩:=C1.1 a;obtain⟨hj,rfl⟩:=C1.1 d;exact C5.1 h2 i (i+1) hi hj (Q1 i)
theorem FactsOk.ps{vars:List Int}{f:List Fct}(h:FactsOk vars f):Ps f:=by
  obtain⟨a,h2⟩:=Zg.1 h;exact⟨λx b=>⟨(a x b).1,(a x b).2.1⟩,h2⟩
theorem RJ{p:List Fct}(hl:p.length≤1000000):∃b,Dd p=some b∧(b=true↔Ps p):=by
  unfold Dd;have r:=WQ (ρ:=Bool) (xs:=p) (f:=λ(w:Nat)(d:Fct)(C:Unit)=>bnd (if d.var<0 then(some true)else(if d.val<0 then(some true)else(if 0<(w:Int)then(bnd (X7 ((w:Int)-1)) λs=>bnd (atI p s) λt=>if d.var<=t.var then(some true)else(some false))else(some false))):Option Bool) λu=>if u=true then(some (.ret false))else(some (.next ())))
    (λk a=>a.var<0\/a.val<0\/∃b,0<k/\p[k-1]?=some b/\a.var<=b.var) false (λk a m=>by
    by_cases c:a.var<0
    . rw[if_pos c,Ah,BA];exact .inl ⟨.inl c,rfl⟩
    rw[if_neg c];by_cases h2:a.val<0
    . rw[if_pos h2,Ah,BA];exact .inl ⟨.inr (.inl h2),rfl⟩
    rw[if_neg h2];by_cases n:0<(k:Int)
    . have hk:=Az m;obtain⟨b,hb⟩:=AG (l:=p) (k:=k-1) (by omega);rw[if_pos n,BQ (by unfold X2;omega),Ah,show(k:Int)-1=((k-1:Nat):Int)by omega,BG,hb,Ah];by_cases o:a.var<=b.var
      . rw[if_pos o,Ah,BA];exact .inl ⟨.inr (.inr ⟨b,by omega,rfl,o⟩),rfl⟩
      . rw[if_neg o,Ah,BT];refine .inr ⟨?_,rfl⟩;rintro(h|h|⟨D,_,hb',h⟩)
        . exact c h
        . exact h2 h
        . obtain rfl:=R1 hb';exact o h
    . rw[if_neg n,Ah,BT];refine .inr ⟨?_,rfl⟩;rintro(h|h|⟨_,h,_⟩)
      . exact c h
      . exact h2 h
      . omega)
  rcases r with⟨c,k,a,m,h2⟩|⟨c,h2⟩
  . rw[c,Ah,Jk];refine⟨_,rfl,by simp,λh=>?_⟩;exfalso;have hm:=h.1 a (H2 m);rcases h2 with h2|h2|⟨b,hk,hb,h2⟩
    . omega
    . omega
    . obtain⟨hi,rfl⟩:=C1.1 m;obtain⟨hj,rfl⟩:=C1.1 hb;have:=C5.1 h.2 (k-1) k hj hi (by omega);omega
  . rw[c,Ah,Bw];refine⟨_,rfl,λ_=>⟨λx g=>?_,?_⟩,λ_=>rfl⟩
    . obtain⟨k,hk⟩:=H3 g;have:=h2 k x hk;constructor
      . exact W9.1 λh=>this (.inl h)
      . exact W9.1 λh=>this (.inr (.inl h))
    . have step:∀(i:Nat) x y,p[i]?=some x->p[i+1]?=some y->x.var<y.var:=λi x y g q=>Int.not_le.1 λh=>h2 (i+1) y q (.inr (.inr ⟨x,by omega,by simpa using g,h⟩));have A:∀(j i:Nat)(x y:Fct),i<j->p[i]?=some x->p[j]?=some y->x.var<y.var:=by
        intro j
        induction j with
        |zero=>intro i x y h;omega
        |succ j B =>
          intro i x y h g q;obtain⟨z,hz⟩:=AG (l:=p) (k:=j) (by have:=Az q;omega);have n:=step j z y hz q;by_cases e:i=j
          . subst e;rw[g]at hz;obtain rfl:=R1 hz;exact n
          . have:=B i x z (by omega) g hz;omega
      exact C5.2 λi j hi hj v=>A j i _ _ v (C9 hi) (C9 hj)
theorem Ia{p:List Fct}(hl:p.length<=1000000)(h:Ps p):Dd p=some true:=by
  obtain⟨b,h1,h2⟩:=RJ hl;rw[h1,h2.2 h]
def fdV:List Fct->Int->Int
  |[],_=>-1
  |f::l,v=>if f.var=v then f.val else fdV l v
theorem RK(p:List Fct)(v:Int):EX p v=some (fdV p v):=by
  unfold EX;have:∀(l:List Fct)(k:Nat),(bnd (rng (ρ:=Int) (λ(d:Nat)(b:Fct)(g:Unit)=>if b.var=v then(some (.ret b.val))else(some (.next ()))) l k ()) λc=>fin c λ(e:Unit)=>some (-1))=some (fdV l v):=by
    intro l
    induction l with
    |nil=>intro k;rfl
    |cons a l f =>
      intro k;by_cases h:a.var=v
      . simp[rng,fdV,h,bnd,fin]
      . have:=f (k+1);simp only[rng,fdV,if_neg h];exact this
  exact this p 0
theorem LM{p:List Fct}(h:Ps p):∀f∈p,fdV p f.var=f.val:=by
  replace h:=h.2
  induction p with
  |nil=>intro f hf;simp at hf
  |cons a p b =>
    intro f hf;obtain⟨c,h2⟩:=L5.1 h;rcases T8.1 hf with rfl|hf
    . simp[fdV]
    . have:=c f hf;rw[fdV,if_neg (by omega)];exact b h2 f hf
def ctn(a b:List Fct):Bool:=b.all λf=>decide (fdV a f.var=f.val)
theorem KN(a b:List Fct):Dz a b=some (ctn a b):=by
  unfold Dz ctn;have:∀(l:List Fct)(k:Nat),(bnd (rng (ρ:=Bool) (λ(g:Nat)(c:Fct)(i:Unit)=>bnd (EX a c.var) λe=>if e≠c.val then(some (.ret false))else(some (.next ()))) l k ()) λd=>fin d λ(j:Unit)=>some true)=some (l.all λf=>decide (fdV a f.var=f.val)):=by
    intro l
    induction l with
    |nil=>intro k;rfl
    |cons f l m =>
      intro k;have:=m (k+1);simp only[rng,U0];rw[RK,Ah];by_cases h:fdV a f.var=f.val
      . rw[if_neg (by simpa using h),decide_eq_true h,Bool.true_and];exact this
      . rw[if_pos h,decide_eq_false h,Bool.false_and];rfl
  exact this b 0
theorem RL{p:List Fct}(h:Ps p):ctn p p=true:=by
  unfold ctn;rw[P7];intro f hf;rw[decide_eq_true (LM h f hf)]
theorem SJ{a b:List Fct}(c:a.length<=1000000)(hb:b.length<=1000000)(d:Ps a)(e:Ps b):FV a b=some (ctn a b):=by
  unfold FV;rw[Ia c d,Ah,BA,Ia hb e,Ah,BA,KN,Ah];cases ctn a b<;>rfl
theorem RM:∀(l:List Fct)(p x:Fct),x∈Za p l∨x=p↔x∈l∨x=p
  |[],p,x=>by simp[Za]
  |a  :: l,p,x=>by
    have b:=RM l a x;simp only[Za];by_cases h:p.var=a.var/\p.val=a.val
    . have e:p=a:=(by cases p;cases a;simp only[Fct.mk.injEq];exact h);subst e;rw[if_pos h];simp only[T8];constructor
      . intro h;rcases b.1 h with h|h
        . exact .inl (.inr h)
        . exact .inr h
      . rintro((h|h)|h)
        . exact .inr h
        . exact b.2 (.inl h)
        . exact .inr h
    . rw[if_neg h];simp only[T8];constructor
      . rintro((h|h)|h)
        . exact .inl (.inl h)
        . rcases b.1 (.inl h)with h|h
          . exact .inl (.inr h)
          . exact .inl (.inl h)
        . exact .inr h
      . rintro((h|h)|h)
        . exact .inl (.inl h)
        . rcases b.2 (.inl h)with h|h
          . exact .inl (.inr h)
          . exact .inl (.inl h)
        . exact .inr h
theorem RN(l:List Fct)(x:Fct):x∈Zc l↔x∈l:=by
  cases l with
  |nil=>rfl
  |cons a l =>
    have:=RM l a x;simp only[Zc,T8];constructor
    . rintro(h|h)
      . exact .inl h
      . exact(this.1 (.inl h)).symm
    . rintro(h|h)
      . exact .inl h
      . exact(this.2 (.inl h)).symm
theorem RO:∀(l:List Fct)(p:Fct),(Za p l).length<=l.length
  |[],_=>W3 _
  |a::l,p=>by
    have b:=RO l a;simp only[Za];split
    . simp;omega
    . simp;exact b
theorem RP(l:List Fct):(Zc l).length<=l.length:=by
  cases l with
  |nil=>exact W3 _
  |cons a l=>have:=RO l a;simp only[Zc,P3];omega
theorem RR{f:List Fct}(hl:f.length<=100000)(hf:∀x∈f,0<=x.var/\0<=x.val):∃b,Hk f=some (if b=true then(Zc (AW f),⟨0⟩)else([],⟨2⟩))/\(b=true↔Ps (Zc (AW f))):=by
  unfold Hk;have d:rng (ρ:=(List Fct)×Err) (λ(e:Nat)(a:Fct)(h:Unit)=>bnd (if a.var<0 then(some true)else(if a.val<0 then(some true)else(some false)):Option Bool) λc=>if c=true then(some (.ret (([]:List Fct),(⟨1⟩:Err))))else(some (.next ()))) f 0 ()=some (.done ()):=GF λk x g=>by
    have:=hf x (H2 g);rw[if_neg (by omega),if_neg (by omega),Ah,BT]
  have hs:=Eq f;have hc:=RP (AW f);obtain⟨b,h2,h3⟩:=RJ (p:=Zc (AW f)) (by omega);rw[d,Ah,Bw,Hr (by omega),Ah,if_pos (by omega),Ah];unfold Em;rw[Ah,h2,Ah];refine⟨b,?_,h3⟩;cases b<;>rfl
theorem VL{x y:List Fct}(g:x.length<=1000)(i:y.length<=1000)(a:Ps x)(c:Ps y):∃z d,FL x y=some (z,d)/\(d=true->Ps z/\z.length<=x.length+y.length/\∀f,f∈z↔f∈x\/f∈y):=by
  unfold FL;rw[Ia (by omega) a,Ah,BA,Ia (by omega) c,Ah,BA,Ah,BT,Hr (by omega),Ah,Cg (by omega) (by omega),Ah];obtain⟨b,h1,h2⟩:=RR (f:=x++y) (by simp;omega) λf hf=>by
    rcases Q8.1 hf with h|h
    . exact a.1 f h
    . exact c.1 f h
  rw[h1,Ah];cases b
  . exact⟨_,_,rfl,λh=>by simp at h⟩
  . refine⟨_,_,rfl,λ_=>⟨h2.1 rfl,?_,λf=>?_⟩⟩
    . have e:=RP (AW (x++y));rw[Eq,K4]at e;exact e
    . show f∈Zc (AW (x++y))↔_;rw[RN,(JV (x++y)).mem_iff,Q8]
theorem Ps.facts{vars:List Int}{x y z:List Fct}(hz:Ps z)(a:FactsOk vars x)(b:FactsOk vars y)(h:∀f,f∈z↔f∈x\/f∈y):FactsOk vars z:=Zg.2 ⟨λf hf=>by
  rcases(h f).1 hf with h|h
  . exact(Zg.1 a).1 f h
  . exact(Zg.1 b).1 f h,hz.2⟩
theorem AcP(x y:Fct):Ek x y=some (cfM x y):=by
  have h:∀a b:Int,Fo a b=some (compareInt a b):=λa b=>by
    unfold Fo GQ compareInt;by_cases h:a<b
    . simp[bnd,h]
    . by_cases d:b<a
      . simp[bnd,h,d]
      . simp[bnd,h,d]
  unfold Ek cfM;rw[h,Ah,h,Ah];generalize compareInt x.var y.var=a;generalize compareInt x.val y.val=b;unfold Jj;by_cases c:a=0
  . by_cases hb:b=0
    . simp[rng,bnd,fin,orL,c,hb]
    . simp[rng,bnd,fin,orL,c,hb]
  . simp[rng,bnd,fin,orL,c]
theorem AbQ(x y:List Fct):DK x y=some (cfN x y):=by
  unfold DK Bp
  have:∀(l:List Fct)(k:Nat),k+l.length=x.length->(bnd (rng (ρ:=Int) (λ(d:Nat)(g:Fct)(j:Unit)=>if(y.length:Int)<=(d:Int)then(some (.ret 1))else(bnd (y[d]?) λi=>bnd (Ek g i) λe=>if e≠0 then(some (.ret e))else(some (.next ())))) l k ()) λc=>fin c λ(m:Unit)=>if(x.length:Int)<(y.length:Int)then(some (-1))else(some 0))=some (cfN l (y.drop k)):=by
    intro l
    induction l with
    |nil =>
      intro k hk;simp only[rng,Ah,Bw];simp only[R5]at hk;by_cases h:(x.length:Int)<(y.length:Int)
      . rw[if_pos h,C3 (by omega)];rfl
      . rw[if_neg h,show y.drop k=[]from F3 (by omega)];rfl
    |cons a l n =>
      intro k hk;simp only[P3]at hk;simp only[rng];by_cases h:(y.length:Int)<=(k:Int)
      . rw[if_pos h,show y.drop k=[]from F3 (by omega)];rfl
      . obtain⟨b,hb⟩:=AG (l:=y) (k:=k) (by omega);rw[if_neg h,hb,Ah,AcP,Ah,C3 (by omega)];rw[C9 (by omega)]at hb;rw[R1 hb];simp only[cfN];by_cases f:cfM a b≠0
        . rw[if_pos f,if_pos f];rfl
        . rw[if_neg f,if_neg f];exact n (k+1) (by omega)
  rw[this x 0 (by omega)];rfl
theorem VM{m:Nat}(h:m<=1000000000):∃v:U64,AaP (BitVec.ofInt 64 (m:Int)) 1=some v/\v.toInt=((m/2:Nat):Int):=by
  refine⟨BitVec.ofInt 64 (m:Int)>>>1,rfl,?_⟩;have e:BitVec.ofInt 64 (m:Int)=BitVec.ofNat 64 m:=(by simp);have a:(BitVec.ofNat 64 m>>>1).toNat=m/2:=by
    rw[BitVec.toNat_ushiftRight,BitVec.toNat_ofNat,Nat.mod_eq_of_lt (by omega),Nat.shiftRight_eq_div_pow]
  rw[e,BitVec.toInt_eq_toNat_of_lt (by rw[a];omega),a]
def SrtN(l:List (List Fct)):Prop:=l.Pairwise λx y=>cfN x y<0
theorem SrtN.get{l:List (List Fct)}(h:SrtN l){i j:Nat}{a b:List Fct}(c:i<j)(d:l[i]?=some a)(hb:l[j]?=some b):cfN a b<0:=by
  obtain⟨hi,rfl⟩:=C1.1 d;obtain⟨hj,rfl⟩:=C1.1 hb;exact C5.1 h i j hi hj c
theorem RS{x y z:List Fct}(a:cfN x y<0)(b:cfN y z<=0):cfN x z<0:=by
  have c:=IW (W0 a) b;rcases L9 c with h|h
  . exact h
  . have:=KM h;subst this;have:=FK x y;omega
theorem RT{x y z:List Fct}(a:cfN x y<=0)(b:cfN y z<0):cfN x z<0:=by
  have c:=IW a (W0 b);rcases L9 c with h|h
  . exact h
  . have:=KM h;subst this;have:=FK x y;omega
theorem AbB{l:List (List Fct)}(hl:l.length≤100000)(h:SrtN l)(z:List Fct):∃(f:Nat) (b:Bool),Be l z=some ((f:Int),b)∧f≤l.length∧(b=true↔z∈l)∧(b=false→SrtN (l.take f++z::l.drop f)):=by
  unfold Be;have t:=To (ρ:=Int×Bool) (f:=λ(d:Int×Int)=>if d.1<d.2 then(bnd (X7 (d.1+d.2)) λu=>bnd (AaP (BitVec.ofInt 64 u) 1) λn=>bnd (atI l n.toInt) λw=>bnd (DK w z) λA=>if A<0 then(bnd (X7 (n.toInt+1)) λB=>some (.next (B,d.2)))else(some (.next (d.1,n.toInt))))else(some (.brk (d.1,d.2))))
    (λs=>∃i j:Nat,s=((i:Int),(j:Int))/\i<=j/\j<=l.length/\(∀(k:Nat) a,k<i->l[k]?=some a->cfN a z<0)/\∀(k:Nat) a,j<=k->l[k]?=some a->0<=cfN a z)
    (λs=>∃i:Nat,s=((i:Int),(i:Int))/\i<=l.length/\(∀(k:Nat) a,k<i->l[k]?=some a->cfN a z<0)/\∀(k:Nat) a,i<=k->l[k]?=some a->0<=cfN a z)
    (λ_=>False) (λs=>(s.2-s.1).toNat) (λs ⟨i,j,hs,h1,h2,h3,h4⟩=>by
      subst hs;dsimp only;by_cases E:i<j
      . obtain⟨v,v1,v2⟩:=VM (m:=i+j) (by omega);obtain⟨a,c⟩:=AG (l:=l) (k:=(i+j)/2) (by omega);rw[if_pos (by omega),BQ (by unfold X2;omega),Ah,show(i:Int)+(j:Int)=((i+j:Nat):Int)from by omega,v1,Ah,v2,BG,c,Ah,AbQ,Ah];by_cases hc:cfN a z<0
        . rw[if_pos hc,BQ (by unfold X2;omega),Ah];refine .inl ⟨_,rfl,⟨(i+j)/2+1,j,by simp,by omega,h2,λk b hk hb=>?_,h4⟩,by dsimp only;omega⟩;by_cases e:k=(i+j)/2
          . subst e;rw[c]at hb;obtain rfl:=R1 hb;exact hc
          . exact RS (h.get (by omega) hb c) (W0 hc)
        . rw[if_neg hc];refine .inl ⟨_,rfl,⟨i,(i+j)/2,rfl,by omega,by omega,h3,λk b hk hb=>?_⟩,by dsimp only;omega⟩;by_cases e:k=(i+j)/2
          . subst e;rw[c]at hb;obtain rfl:=R1 hb;omega
          . have C:=h.get (by omega:(i+j)/2<k) c hb;have F:=FK a z;have G:=FK b z;have:=RT (x:=z) (y:=a) (z:=b) (by omega) C;omega
      . obtain rfl:i=j:=(by omega);rw[if_neg (by omega)];exact .inr (.inl ⟨_,rfl,i,rfl,h2,h3,h4⟩)) (0,(l.length:Int)) ⟨0,l.length,rfl,by omega,by omega,λk a hk=>by omega,λk a hk c=>by have:=Az c;omega⟩
  rcases t with⟨s,k1,i,rfl,k2,k3,k4⟩|⟨_,_,hf⟩
  rotate_left
  . exact hf.elim
  rw[k1,Ah,Bw];dsimp only;have o:(∀(k:Nat) a,i<=k->l[k]?=some a->0<cfN a z)->SrtN (l.take i++z::l.drop i):=λr=>by
    unfold SrtN;have p:∀a∈l.take i,cfN a z<0:=λa c=>by
      obtain⟨k,hk⟩:=H3 c;rw[K7]at hk;split at hk
      . exact k3 k a (by assumption) hk
      . cases hk
    have q:∀a∈l.drop i,cfN z a<0:=λa c=>by
      obtain⟨k,hk⟩:=H3 c;rw[K6]at hk;have:=r _ a (by omega) hk;have:=FK a z;omega
    refine List.pairwise_append.2 ⟨h.sublist (List.take_sublist _ _),L5.2 ⟨q,h.sublist (N8 _ _)⟩,λa c b hb=>?_⟩;rcases T8.1 hb with rfl|hb
    . exact p a c
    . exact RS (p a c) (W0 (q b hb))
  have g:∀(k:Nat),l[k]?=some z->i<=k:=λk hk=>by
    refine Q4 λhlt=>?_;have:=k3 k z hlt hk;rw[JE]at this;omega
  by_cases hi:i<l.length
  . obtain⟨a,c⟩:=AG (l:=l) (k:=i) hi;rw[if_pos (by omega),BG,c,Ah,AbQ,Ah];by_cases D:cfN a z=0
    . rw[if_pos D,Ah];have:=KM D;subst this;exact⟨i,true,rfl,k2,⟨λ_=>H2 c,λ_=>rfl⟩,λh=>by simp at h⟩
    . rw[if_neg D,Ah];have r:∀(k:Nat) b,i<=k->l[k]?=some b->0<cfN b z:=λk b hk hb=>by
        have H:=k4 i a (W3 _) c;by_cases e:k=i
        . subst e;rw[c]at hb;obtain rfl:=R1 hb;omega
        . have C:=h.get (by omega:i<k) c hb;have F:=FK a z;have G:=FK b z;have:=RT (x:=z) (y:=a) (z:=b) (by omega) C;omega
      refine⟨i,false,rfl,k2,⟨λh=>by simp at h,λhz=>?_⟩,λ_=>o r⟩;obtain⟨k,hk⟩:=H3 hz;have:=r k z (g k hk) hk;rw[JE]at this;omega
  . rw[if_neg (by omega),Ah];refine⟨i,false,rfl,k2,⟨λh=>by simp at h,λhz=>?_⟩,λ_=>o λk a hk c=>by have:=Az c;omega⟩;obtain⟨k,hk⟩:=H3 hz;have:=g k hk;have:=Az hk;omega
end
section
open Go Go.RowKit
def effsOn(s:List Int):List Eff->List Int->List Int
  |[],a=>a
  |e::r,a=>effsOn s r (if YV e.cond s=true then a.set e.var.toNat e.val else a)
theorem MF(s:List Int):∀(a b:List Eff)(c:List Int),effsOn s (a++b) c=effsOn s b (effsOn s a c)
  |[],_,_=>rfl
  |e::a,b,c=>by simp[effsOn,MF s a b]
theorem MG(s:List Int):∀(a:List Eff)(b:List Int),(effsOn s a b).length=b.length
  |[],_=>rfl
  |e::a,b=>by
    rw[effsOn,MG s a];split<;>simp
theorem SK(s:List Int){l:List Eff}{k:Nat}{e:Eff}(h:l[k]?=some e)(a:List Int):effsOn s (l.take (k+1)) a=if YV e.cond s=true then(effsOn s (l.take k) a).set e.var.toNat e.val else effsOn s (l.take k) a:=by
  rw[M4,h,MF];rfl
def Aa6(s:List Int)(l:List Eff):Prop:=∀(i:Nat) e,l[i]?=some e->0<=e.var/\e.var<s.length
def succ(o:Opr)(s:List Int):List Int:=effsOn s o.effs s
end
section
open Go Go.RowKit
theorem TaskOk.effs{t:Tsk}(h:TaskOk t){s:List Int}(hs:StateOk t.vars s):∀(i:Nat) o,t.ops[i]?=some o->Aa6 s o.effs:=λi o b j e he=>by
  obtain⟨a,_,y,hy,_⟩:=((h.2.2.2.2.2 i o b).2.2.2.2.2 j e he).2;refine⟨a,?_⟩;have:=(C1.1 hy).1;rw[hs.1];simp only at a this;omega
end
section
open Go Go.RowKit Go.Lib
theorem ND{β a:Type}{x:Option β}{g:a->β}{P:a->Prop}(h:∃r,x=some r/\∃c,r=g c/\P c):∃c,x=some (g c)/\P c:=by
  obtain⟨r,h1,c,rfl,h2⟩:=h;exact⟨c,h1,h2⟩
theorem Mn{σ ρ β:Type}{f:Nat->σ->Option (Ctl σ ρ)}{N:Nat}{s₀:σ}{k:Fin σ ρ->Option β}{P:β->Prop}(I:Nat->σ->Prop)(b:I 0 s₀)(h:∀i s,i<N->I i s->∃a,f i s=some (.next a)/\I (i+1) a)(hb:∀s,I N s->∃r,k (.done s)=some r/\P r):∃r,bnd (Zk f N s₀) k=some r/\P r:=by
  obtain⟨s,h1,h2⟩:=VI I b λk s hk c=>h k s hk c;rw[h1,Ah];exact hb s h2
theorem JX{σ ρ:Type}{x:Option (Ctl σ ρ)}{I:σ->Prop}(h:∃r,x=some r/\∃a,r=Ctl.next a/\I a):∃a,x=some (.next a)/\I a:=by
  obtain⟨r,h1,a,rfl,h2⟩:=h;exact⟨a,h1,h2⟩
theorem KO{σ ρ:Type}{x:Option (Ctl σ ρ)}{I:σ->Prop}{b:σ->Prop}(h:∃r,x=some r/\∃a,r=Ctl.next a/\I a/\b a):∃a,x=some (.next a)/\I a/\b a:=by
  obtain⟨r,h1,a,rfl,h2⟩:=h;exact⟨a,h1,h2⟩
def ZW(vars:List Int):Prop:=vars.length<=16/\(∀(i:Nat) n,vars[i]?=some n->1<=n/\n<=64)/\∀a:List (List Fct),a.Nodup->(∀p∈a,FactsOk vars p)->a.length<=1024
section
variable {vars:List Int}
theorem FactsOk.short(a:ZW vars){p:List Fct}(h:FactsOk vars p):p.length<=16:=V6 (GV h) a.1
theorem SrtN.nodup{l:List (List Fct)}(h:SrtN l):l.Nodup:=h.imp λ{a b} c e=>by subst e;rw[JE]at c;omega
def efV(o:Opr)(f:Fct):List Eff:=o.effs.filter λe=>decide (e.var=f.var)
theorem WR(l:List (List Fct))(z:List Fct):∃b,AY l z=some b∧(b=true↔z∈l):=by
  unfold AY BZ;rcases IX (ρ:=Int) (xs:=l) (s₀:=()) (f:=λ(c:Nat)(d:List Fct)(m:Unit)=>bnd (FX d z) λg=>if g=true then some (.ret (c:Int))else some (.next ())) (λk _=>∀j a,j<k->l[j]?=some a->a≠z) (λr=>0<=r/\z∈l) (λj a hj=>absurd hj (by omega)) (λk x s hk n=>by
    unfold FX;rw[AbQ,Ah];by_cases h:cfN x z=0
    . rw[if_pos h,Ah,Ah,BA];have:=KM h;subst this;exact .inr ⟨_,rfl,by omega,H2 hk⟩
    . rw[if_neg h,Ah,Ah,BT];refine .inl ⟨_,rfl,λj a hj i=>?_⟩;by_cases e:j=k
      . subst e;rw[hk]at i;obtain rfl:=R1 i;rintro rfl;exact h (JE _)
      . exact n j a (by omega) i)with⟨s,h1,h2⟩|⟨r,h1,h2,h3⟩
  . rw[h1,Ah,Bw,Ah,if_neg (by decide),Ah];refine⟨_,rfl,by simp,λhz=>?_⟩;obtain⟨k,hk⟩:=H3 hz;exact absurd rfl (h2 k z (Az hk) hk)
  . rw[h1,Ah,Jk,Ah,if_pos h2,Ah];exact⟨_,rfl,λ_=>h3,λ_=>rfl⟩
abbrev CsT:Type:=Fin (List (List Fct)) (Ctl ((List Eff)×(List (List Fct))×Int) ((List (List Fct))×Err))
noncomputable def Aa0(q:List Int)(r:Fct)(m:List (List Fct))(u:List Eff)(l0:List (List Fct)):Option CsT :=
  bnd (rng (ρ:=Fin (List (List Fct)) (Ctl ((List Eff)×(List (List Fct))×Int) ((List (List Fct))×Err))) (λ(o:Nat)(f:Eff)(g:(List (List Fct)))=>if f.val=r.val then(some (.next g))else(bnd (ET q f) λa=>if a.2.n≠0 then(some (.ret (.ret (.ret (([]:List (List Fct)),(⟨a.2.n⟩:Err))))))else(bnd (Fb g a.1) λb=>if b.2.n≠0 then(some (.ret (.ret (.ret (([]:List (List Fct)),(⟨b.2.n⟩:Err))))))else(some (.next b.1))))) u 0 l0) λd=>fin d λ(i:(List (List Fct)))=>bnd (rng (ρ:=Fin (List (List Fct)) (Ctl ((List Eff)×(List (List Fct))×Int) ((List (List Fct))×Err))) (λ(p:Nat)(h:List Fct)(c:(List (List Fct)))=>bnd (AY c h) λj=>if j=true then some (.next c)else bnd (Y0 24 c [h]) λk=>some (.next k)) i 0 m) λe=>fin e λ(l:(List (List Fct)))=>some (.done l)
end
end
section
open Go Go.RowKit
attribute [local irreducible] ewp owp hwp hwq hws Ev Evg Fn X6 Y1 YZ YY
def ZZ(n:Nat)(s:List Int):List (List Int):=(List.range n).map λx:Nat=>s++[(x:Int)]
def Aaa(a:List (List Int))(k:Int):List (List Int):=a.flatMap (ZZ k.toNat)
def statesL(vars:List Int):List (List Int):=vars.foldl Aaa [[]]
theorem Ib{vars:List Int}{k:Nat}{n:Int}(h:vars[k]?=some n):statesL (vars.take (k+1))=Aaa (statesL (vars.take k)) n:=by
  unfold statesL;rw[M4,h,List.foldl_append];rfl
theorem UH(n:Nat)(s:List Int):ZZ (n+1) s=ZZ n s++[s++[(n:Int)]]:=by unfold ZZ;rw[List.range_succ];simp
theorem JH(n:Nat)(s:List Int):(ZZ n s).length=n:=by simp[ZZ]
theorem Lj(n:Nat):∀l:List (List Int),(l.flatMap (ZZ n)).length=l.length*n
  |[]=>by simp
  |s::l=>by rw[M6,K4,JH,Lj n l,P3,W4];omega
theorem UI{α β:Type}(f:α->List β){l:List α}{k:Nat}{x:α}(h:l[k]?=some x):(l.take (k+1)).flatMap f=(l.take k).flatMap f++f x:=by
  rw[M4,h];simp
theorem SL(vars:List Int):∀(k:Nat),k<=vars.length->∀s∈statesL (vars.take k),s.length=k:=by
  intro k
  induction k with
  |zero=>intro _ s hs;simp[statesL]at hs;simp[hs]
  |succ k a =>
    intro hk s hs;obtain⟨n,hn⟩:∃n,vars[k]?=some n:=⟨vars[k],C9 (by omega)⟩;rw[Ib hn]at hs;obtain⟨b,h1,h2⟩:=Q2.1 hs;obtain⟨x,_,rfl⟩:=V8.1 h2;simp[a (by omega) b h1]
end
section
open Go Go.RowKit
def ZO:List Int->Nat->Nat
  |[],n=>n
  |k::r,n=>ZO r (n*k.toNat)
theorem Lk:∀(vars:List Int)(a:List (List Int)),(vars.foldl Aaa a).length=ZO vars a.length
  |[],_=>rfl
  |k::r,a=>by
    simp only[Q9,ZO];rw[Lk r,Aaa,Lj]
theorem Lp(vars:List Int):(statesL vars).length=ZO vars 1:=Lk vars [[]]
theorem QI{most:Nat}:∀(vars:List Int)(n:Nat),(∀x∈vars,1≤x)→1≤n→Zw most vars (n:Int)≤most→∀k,ZO (vars.take k) n≤most
  |[],n,_,_,h,k=>by simp only[List.take_nil,ZO];simp only[Zw]at h;omega
  |x  :: r,n,hx,hn,h,k=>by
    have d:1<=x:=hx x L0;simp only[Zw]at h;have a:max x 0=x:=(by omega);rw[a]at h;obtain⟨m,rfl⟩:∃m:Nat,x=(m:Int):=⟨x.toNat,by omega⟩;by_cases hm:(m:Int)<=most
    . rw[show min (m:Int) (most+1)=(m:Int)from by omega,<- R0]at h;have b:n<=n*m:=Nat.le_mul_of_pos_right n (by omega);by_cases hc:(most:Int)<((n*m:Nat):Int)
      . rw[if_pos hc]at h;omega
      . rw[if_neg hc]at h;cases k with
        |zero=>simp only[List.take_zero,ZO];omega
        |succ k =>
          simp only[J8,ZO,N1];exact QI r (n*m) (λy c=>hx y (H1 _ c)) (by omega) h k
    . exfalso;rw[show min (m:Int) (most+1)=((most+1:Nat):Int)from by omega,<- R0]at h;have:most+1<=n*(most+1):=Nat.le_mul_of_pos_left _ hn;rw[if_pos (by omega)]at h;omega
theorem Nb{y x:Int}{vs s:List Int}:StateOk (y::vs) (x::s)↔(0<=x/\x<y)/\StateOk vs s:=by
  constructor
  . intro h;exact⟨h.2 0 x y rfl rfl,by have:=h.1;simpa using this,λi a b c hb=>h.2 (i+1) a b (by simpa using c) (by simpa using hb)⟩
  . rintro⟨d,h2,h3⟩;refine⟨by simpa using h2,λi a b c hb=>?_⟩;cases i with
    |zero=>simp at c hb;subst c;subst hb;exact d
    |succ i=>exact h3 i a b (by simpa using c) (by simpa using hb)
theorem SM:StateOk [] []:=⟨rfl,λi a b c=>by simp at c⟩
theorem RU{n:Nat}{s t:List Int}:t∈ZZ n s↔∃x:Nat,x<n/\t=s++[(x:Int)]:=by
  unfold ZZ;rw[V8];constructor
  . rintro⟨x,hx,rfl⟩;exact⟨x,T4.1 hx,rfl⟩
  . rintro⟨x,hx,rfl⟩;exact⟨x,T4.2 hx,rfl⟩
theorem Ll:∀(vars:List Int)(a:List (List Int))(s:List Int),s∈vars.foldl Aaa a↔∃b∈a,∃r,s=b++r∧StateOk vars r
  |[],a,s=>by
    constructor
    . intro h;exact⟨s,h,[],by simp,SM⟩
    . rintro⟨b,h,r,rfl,hr⟩;have:r=[]:=B1 hr.1;subst this;simpa using h
  |k  :: vs,a,s=>by
    simp only[Q9];rw[Ll vs (Aaa a k) s];constructor
    . rintro⟨d,c,r,rfl,hr⟩;obtain⟨b,h0,h2⟩:=Q2.1 c;obtain⟨x,hx,rfl⟩:=RU.1 h2;exact⟨b,h0,(x:Int)::r,by simp,Nb.2 ⟨⟨by omega,by omega⟩,hr⟩⟩
    . rintro⟨b,h0,r,rfl,hr⟩;cases r with
      |nil=>have:=hr.1;simp at this
      |cons x r =>
        obtain⟨⟨c,h2⟩,h3⟩:=Nb.1 hr;exact⟨b++[x],Q2.2 ⟨b,h0,RU.2 ⟨x.toNat,by omega,by rw[show((x.toNat:Nat):Int)=x from by omega]⟩⟩,r,by simp,h3⟩
theorem JN{vars s:List Int}:s∈statesL vars↔StateOk vars s:=by
  unfold statesL;rw[Ll];constructor
  . rintro⟨a,h0,r,rfl,hr⟩;have:a=[]:=(by simpa using h0);subst this;exact hr
  . intro h;exact⟨[],by simp,s,rfl,h⟩
theorem SmallOk.ok{t:Tsk}(h:SmallOk t):TaskOk t:=h.2.2.2.1
theorem SmallOk.states{t:Tsk}(h:SmallOk t):∀k,(statesL (t.vars.take k)).length<=512:=λk=>by
  rw[Lp];refine QI (most:=512) t.vars 1 (λx a=>?_) (W3 _) h.2.2.2.2 k;obtain⟨i,hi,rfl⟩:=List.getElem_of_mem a;exact(h.ok.vars i _ (C9 hi)).1
structure Mid(t:Tsk):Prop where
  ok:TaskOk t
  states:∀k,(statesL (t.vars.take k)).length<=600
  ops:t.ops.length<=80
theorem SmallOk.mid{t:Tsk}(h:SmallOk t):Mid t:=⟨h.ok,λk=>by have:=h.states k;omega,by have:=h.2.1;omega⟩
end
section
open Go Go.RowKit
attribute [local irreducible] ewp owp hwp hwq hws Ev Evg Fn X6 Y1 YZ YY
structure Edg where
  src:Int
  op:Int
  dst:Int
instance:Rp Edg where
  isAgg:=true
  size:=3
  R w F cs x:=cs=[.int .i64 x.src,.int .i64 x.op,.int .i64 x.dst]/\X2 x.src/\X2 x.op/\X2 x.dst
  len:=by rintro w F cs x ⟨rfl,h0,h1,h2⟩;rfl
  one:=by rintro w F cs x ⟨rfl,h0,h1,h2⟩ u hu;simp at hu;rcases hu with rfl|rfl|rfl<;>first|rfl|exact Vb.one rfl (by assumption)
  agree:=by rintro w w' F cs x ⟨rfl,h0,h1,h2⟩ ha;exact⟨rfl,h0,h1,h2⟩
  mono:=by rintro w F G cs x ⟨rfl,h0,h1,h2⟩ ha;exact⟨rfl,h0,h1,h2⟩
instance:Ec Edg λd a w O i b o x G=>X2 x.src->X2 x.op->X2 x.dst->Al d (.C i b o [(.int .i64 x.src),(.int .i64 x.op),(.int .i64 x.dst)] :: .V (.agg #[(.int .i64 x.src),(.int .i64 x.op),(.int .i64 x.dst)]) x::a) w O->G:=⟨λ{_ _ _ _ _ _ _ x _ _} e c hc h k=>by
  have hv:=Vb.ofAgg (x:=x) rfl h;obtain⟨rfl,r1,r2,r3⟩:=h;exact k r1 r2 r3 ⟨⟨c,hc⟩,hv,e⟩⟩
noncomputable def Fp(q:List Int):Option (List (List Int)) :=
  bnd (rng (ρ:=(List (List Int))) (λ(r:Nat)(h:Int)(i:(List (List Int)))=>bnd (rng (ρ:=Ctl (List (List Int)) (List (List Int))) (λ(s:Nat)(j:List Int)(k:(List (List Int)))=>bnd (AaG h) λl=>bnd (Zk (ρ:=Ctl (List (List Int)) (Ctl (List (List Int)) (List (List Int)))) (λ(m:Nat)(n:(List (List Int)))=>bnd (Y0 8 ([]:List Int) j) λo=>bnd (Y0 8 o [(m:Int)]) λp=>bnd (Y0 24 n [p]) λd=>some (.next d)) l k) λa=>fin a λ(e:(List (List Int)))=>some (.next e)) i 0 ([]:List (List Int))) λb=>fin b λ(f:(List (List Int)))=>some (.next f)) q 0 [([]:List Int)]) λc=>fin c λ(g:(List (List Int)))=>some g
section
attribute [local irreducible] Vb Lc Rw Ob
theorem Ke{w:World}{A:Nat->Prop}(hA:∀k,A k->k<w.heap.size){b:Value}{j:List Int}(l:Vb w A b j){r:(List (List Int))}(hm:Fp j=some r) :
    Fn prog 11 [b] w λv w'=>Ext w w'/\Vb w' (upA A w w') v r:=by
 obtain⟨_,_,_⟩:=BS hA;apply Br l;intros;refine AC func11 rfl ntmps11 ?_;unfold Fp at hm;refine zz ?_;refine HK 2 (([]:List Int):List Int) ?_;intros;refine FG 2 ?_;intros;refine HK 3 ([([]:List Int)]:List (List Int)) ?_;intros;refine zz ?_;refine FG 3 ?_;intros;refine Cl (X:=(Option Addr×Nat)) hm [12] [] [4,5] [] (λ_ _ c f t=>(3,sv f c)::t) (λ_ _ c f t=>fV f c::t) (_,_) ?_ ?_
 ·intro n z0 c _ _ _ _ g o _ p;intros;refine Ak (Am (CE ?_));intros;refine Dk (Ay rfl (o_z (Ak (Am (Ay rfl (o_z (Ak (Ak (Am (Aw rfl (AT rfl (Aw rfl (o_z ?_)))))))))))));refine Cl (X:=(Option Addr×Nat)) g [5,12,13,14,18] [] [4,5] [] (λ_ _ d h t=>(6,sv h d)::t) (λ_ _ d h t=>fR 5 22 h d::t) (_,_) ?_ ?_
  ·intro q s d _ _ _ _ c0 u _ x;intros;refine Ak (Am (CE ?_));intros;refine Dk (Ay rfl (o_z (Ak (Am (Aw rfl (Aw rfl (o_z ?_)))))));refine Uu (X:=(Option Addr×Nat)) c0 [5,8,12,13,14,18,19,20] [] [4,5] [] (λ_ _ e i t=>(6,sv i e)::t) (λ_ _ e i t=>fR 5 22 i e::t) (_,_) ?_ ?_
   ·intro m y e _ _ _ _ a _ _ _ l0;intros;refine zz ?_;refine HK 4 (([]:List Int):List Int) ?_;intros;refine ac ?_;obtain⟨z,r0,a⟩:=bs a;refine OC r0 ?_;intros;refine ac ?_;obtain⟨B,s0,a⟩:=bs a;refine Qc s0 ?_;intros;refine FG 4 ?_;intros;obtain⟨C,m0,a⟩:=bs a;refine Qc m0 ?_;intros;refine zz ?_;exact BX (_,_) a
   intro m D _ _ _ _ c0;intros;exact BX (_,_) c0
  intro E _ _ _ _ g;intros;refine Ba ?_;refine zz ?_;refine FG 5 ?_;intros;exact BX (_,_) g
 intro F _ _ _ _ hm;intros;refine Ba ?_;refine zz ?_;obtain rfl:=sm hm;exact By
end
noncomputable def Fk(g:Tsk)(h:List Int)(f:Int):Option ((List Int)×Bool) :=
  bnd (if f<0 then(some true)else(if(g.ops.length:Int)<=f then(some true)else(bnd (atI g.ops f) λi=>bnd (GA i.pre h) λj=>if j=true then some false else some true)):Option Bool) λk=>if k=true then(some (([]:List Int),false))else(bnd (Y0 8 ([]:List Int) h) λl=>bnd (atI g.ops f) λm=>bnd (rng (ρ:=(List Int)×Bool) (λ(o:Nat)(a:Eff)(b:(List Int))=>bnd (GA a.cond h) λd=>if d=true then bnd (atI b a.var) λn=>some (.next (b.set (a.var:Int).toNat a.val))else some (.next b)) m.effs 0 l) λc=>fin c λ(e:(List Int))=>some (e,true))
section
attribute [local irreducible] Vb Lc Rw Ob
theorem RV{w:World}{A:Nat->Prop}(hA:∀k,A k->k<w.heap.size){c:Value}{j:Tsk}(n:Vb w A c j){d:Value}{l:List Int}(l0:Vb w A d l){e:Int}(p:X2 e){r:(List Int)×Bool}(hm:Fk j l e=some r) :
    Fn prog 69 [c,d,(.int .i64 e)] w λv w'=>Ext w w'/\T2 w' (upA A w w') v r:=by
 obtain⟨_,_,_⟩:=BS hA;apply Br n;intros;apply Br l0;intros;refine AC func69 rfl ntmps69 ?_;unfold Fk at hm;refine Ak (Am (Dx 2 ?_));intros;refine Ay rfl (Ay rfl (o_z (Ak (Ak (Cu (X:=Unit) hm [1,2,3] [] [] [] (λ_ _ c0 _ t=>(30,.bool c0)::t) (λ_ _ _ _ t=>t) ?_ ?_)))))
 ·intro c0 a;refine zz ?_;refine CL rfl rfl (λf=>?_) λf=>?_
  ·replace a:=ip a f;refine zz ?_;obtain rfl:=sm a;exact AP ()
  replace a:=im a f;refine zz ?_;refine Bt (AA rfl rfl (AT rfl (AA rfl rfl (EM rfl rfl (λg=>?_) λg=>?_))))
  ·replace a:=ip a g;refine zz ?_;obtain rfl:=sm a;exact AP ()
  replace a:=im a g;refine zz ?_;refine Bt (AA rfl rfl (Aw rfl (AA rfl rfl ?_)));obtain⟨u,u0,a⟩:=bs a;refine FT ?_;intros;refine zz ?_;refine Je (AA rfl rfl (Aw rfl (AA rfl rfl ?_)));obtain⟨q,n0,a⟩:=bs a;refine CJ rfl (KJ (λ_ h=>h) zA zA n0) ?_;intros;cases q
  case false =>
   replace a:=iF a;refine zz ?_;obtain rfl:=sm a;exact AP ()
  replace a:=iT a;refine zz ?_;obtain rfl:=sm a;exact AP ()
 intro c0 _ _ _ _ hm;intros;refine Ba ?_;refine Bg rfl (λi=>?_) (λi=>?_)
 ·replace hm:=ip hm i;refine zz ?_;obtain rfl:=sm hm;exact Hj
 replace hm:=im' hm i;refine Bf (Ak (Am (HK 3 (([]:List Int):List Int) ?_)));intros;refine ac ?_;obtain⟨x,o0,hm⟩:=bs hm;refine OC o0 ?_;intros;refine zz ?_;refine Bt (Aw rfl ?_);obtain⟨y,y0,hm⟩:=bs hm;refine FT ?_;intros;refine AN rfl (Je (AT rfl (Aw rfl (o_z ?_))));refine Cl (X:=Unit) hm [1,8,39] [] [3,4] [3] (λ_ _ _ _ t=>t) (λ_ o m _ t=>uR (o 3) 3 m::t) () ?_ ?_
 ·intro z0 z m _ _ _ _ b B _ C;intros;refine Ak (Am (CE ?_));intros;refine DP ?_;refine BC 4 ?_;intros;refine Bj ?_;intros;refine zz ?_;refine Bt (Aw rfl ?_);obtain⟨s,i0,b⟩:=bs b;refine CJ rfl (KJ (λ_ h=>h) zA zA i0) ?_;intros;cases s
  case false =>
   replace b:=iF b;refine zz ?_;exact BX () b
  replace b:=iT b;refine zz ?_;refine Bt (AN rfl ?_);refine Bt ?_;obtain⟨D,r0,b⟩:=bs b;refine FT ?_;intros;refine FA ?_;intros;refine o_z ?_;exact BX () b
 intro E _ _ _ _ hm;intros;refine Ba ?_;refine zz ?_;refine FG 3 ?_;intros;obtain rfl:=sm hm;exact Hj
end
noncomputable def Gv(i:List Int)(j:List Int):Option Int :=
  bnd (rng (ρ:=Int) (λ(b:Nat)(c:Int)(d:Int)=>bnd (i[b]?) λe=>bnd (X7 (d*e)) λf=>bnd (X7 (f+c)) λg=>some (.next g)) j 0 0) λa=>fin a λ(h:Int)=>some h
section
attribute [local irreducible] Vb Lc Rw Ob
theorem Oe{w:World}{A:Nat->Prop}(hA:∀k,A k->k<w.heap.size){b:Value}{e:List Int}(g:Vb w A b e){c:Value}{f:List Int}(h:Vb w A c f){r:Int}(hm:Gv e f=some r) :
    Fn prog 14 [b,c] w λv w'=>Ext w w'/\Vb w' (upA A w w') v r:=by
 obtain⟨_,_,_⟩:=BS hA;apply Br g;intros;apply Br h;intros;refine AC func14 rfl ntmps14 ?_;unfold Gv at hm;refine zz ?_;refine Cl (X:=Unit) hm [0,1] [] [] [] (λ_ _ d _ t=>(5,.int .i64 d)::t) (λ_ _ d _ t=>fI d::t) () ?_ ?_
 ·intro i j d _ _ _ _ a l _ c0;intros;refine zz ?_;refine Jz (Bc (Db 0 12)) ?_;refine zz ?_;obtain⟨m,l0,a⟩:=bs a;refine Kn rfl ?_;intros;refine Fz rfl ?_;obtain⟨n,g0,a⟩:=bs a;refine Yz (he:=g0) rfl rfl rfl rfl (AI rfl rfl (AI rfl rfl (Kn rfl ?_)));intros;refine Fz rfl ?_;obtain⟨o,h0,a⟩:=bs a;refine Km (he:=h0) rfl rfl rfl (Eu rfl rfl (h_z ?_));exact BX () a
 intro p _ _ _ _ hm;intros;refine Ba ?_;refine zz ?_;obtain rfl:=sm hm;exact By
end
noncomputable def Ic(g:Tsk):Option (List Edg) :=
  bnd (Fp g.vars) λh=>bnd (rng (ρ:=(List Edg)) (λ(i:Nat)(j:List Int)(k:(List Edg))=>bnd (rng (ρ:=Ctl (List Edg) (List Edg)) (λ(c:Nat)(o:Opr)(d:(List Edg))=>bnd (Fk g j (c:Int)) λe=>if e.2=true then(bnd (Gv g.vars e.1) λl=>bnd (Y0 24 d [(⟨(i:Int),(c:Int),l⟩:Edg)]) λm=>some (.next m))else(some (.next d))) g.ops 0 k) λa=>fin a λ(n:(List Edg))=>some (.next n)) h 0 ([]:List Edg)) λb=>fin b λ(f:(List Edg))=>some f
section
attribute [local irreducible] Vb Lc Rw Ob
theorem RX{w:World}{A:Nat->Prop}(hA:∀k,A k->k<w.heap.size){b:Value}{i:Tsk}(j:Vb w A b i){r:(List Edg)}(hm:Ic i=some r) :
    Fn prog 34 [b] w λv w'=>Ext w w'/\Vb w' (upA A w w') v r:=by
 obtain⟨_,_,_⟩:=BS hA;apply Br j;intros;refine AC func34 rfl ntmps34 ?_;unfold Ic at hm;refine Ak (Am (Dx 2 ?_));intros;refine zz ?_;refine Bt ?_;obtain⟨n,k0,hm⟩:=bs hm;refine Ew rfl (Ke Fr.lt zV k0) ?_;intros;refine zz ?_;refine Cl (X:=(Option Addr×Nat)) hm [1,11] [] [3] [] (λ_ _ c0 d t=>(3,sv d c0)::t) (λ_ _ c0 d t=>fR 3 95 d c0::t) (_,_) ?_ ?_
 ·intro o p c0 _ _ _ _ e l0 _ q;intros;refine zz ?_;refine CE ?_;intros;refine Dk (Ay rfl (Ay rfl (o_z (Ak (Am (AN rfl ?_))))));refine Bt (AT rfl (Aw rfl (o_z ?_)));refine Cl (X:=(Option Addr×Nat)) e [1,4,5,11,12,13] [] [3] [] (λ_ _ c f t=>(3,sv f c)::t) (λ_ _ c f t=>fR 3 95 f c::t) (_,_) ?_ ?_
  ·intro s u c _ _ _ _ a x _ y;intros;refine zz ?_;refine Eh (Aw rfl (Aw rfl ?_));obtain⟨z0,n0,a⟩:=bs a;refine OD rfl (RV Fr.lt zV zV zI n0) λ_ _ _ _ _ l m=>?_;apply HW l;intros;apply HW m;intros;refine zz ?_;refine Bg rfl (λg=>?_) (λg=>?_)
   ·replace a:=ip a g;refine zz ?_;refine Bt (Aw rfl ?_);obtain⟨z,q0,a⟩:=bs a;refine CJ rfl (Oe (λ_ h=>h) zA zA q0) ?_;intros;refine aj ?_;obtain⟨B,r0,a⟩:=bs a;refine Qc r0 ?_;intros;refine zz ?_;exact BX (_,_) a
   replace a:=im' a g;refine Bf ?_;exact BX (_,_) a
  intro C _ _ _ _ e;intros;exact BX (_,_) e
 intro D _ _ _ _ hm;intros;refine Ba ?_;refine zz ?_;refine FG 3 ?_;intros;obtain rfl:=sm hm;exact By
end
noncomputable def GG(t:Tsk):Option (List Int) :=
  bnd (Fp t.vars) λk=>bnd (mkI 8 (0:Int) (k.length:Int)) λu=>bnd (rng (ρ:=(List Int)) (λ(c:Nat)(v:List Int)(d:(List Int))=>bnd (d[c]?) λB=>bnd (GA t.goal v) λw=>if w=true then bnd ((d.set c 1125899906842624)[c]?) λC=>some (.next ((d.set c 1125899906842624).set c 0))else some (.next (d.set c 1125899906842624))) k 0 u) λi=>fin i λ(x:(List Int))=>bnd (Ic t) λy=>bnd (lop (ρ:=(List Int)) (λ(e:(List Int)×Bool)=>if e.2=true then(bnd (rng (ρ:=Ctl ((List Int)×Bool) (List Int)) (λ(z:Nat)(b:Edg)(a:(List Int)×Bool)=>bnd (atI t.ops b.op) λg=>bnd (bnd (atI a.1 b.dst) λl=>if l<1125899906842624 then(bnd (atI a.1 b.dst) λm=>bnd (X7 (m+g.cost)) λn=>bnd (atI a.1 b.src) λo=>if n<o then(some true)else(some false))else(some false):Option Bool) λp=>if p=true then(bnd (atI a.1 b.dst) λq=>bnd (X7 (q+g.cost)) λr=>bnd (atI a.1 b.src) λA=>some (.next ((a.1.set (b.src:Int).toNat r),true)))else(some (.next (a.1,a.2)))) y 0 (e.1,false)) λf=>fin f λ(h:(List Int)×Bool)=>some (.next (h.1,h.2)))else(some (.brk (e.1,e.2)))) (x,true)) λj=>fin j λ(s:(List Int)×Bool)=>some s.1
section
attribute [local irreducible] Vb Lc Rw Ob
theorem OH{w:World}{A:Nat->Prop}(hA:∀k,A k->k<w.heap.size){d:Value}{p:Tsk}(s:Vb w A d p){r:(List Int)}(hm:GG p=some r) :
    Fn prog 10 [d,(.slice none 0 0)] w λv w'=>Ext w w'/\Vb w' (upA A w w') v r:=by
 obtain⟨_,_,_⟩:=BS hA;apply Br s;intros;refine AC func10 rfl ntmps10 ?_;unfold GG at hm;refine Ak (Am (Dx 2 ?_));intros;refine zz ?_;refine Bt ?_;obtain⟨x,t0,hm⟩:=bs hm;refine Ew rfl (Ke Fr.lt zV t0) ?_;intros;refine zz ?_;obtain⟨y,u0,hm⟩:=bs hm;refine FB 3 u0 ?_;intros;refine zz ?_;refine Cl (X:=Unit) hm [1,2,6,20] [] [3] [3] (λ_ _ _ _ t=>t) (λ_ o q _ t=>uR (o 3) 3 q::t) () ?_ ?_
 ·intro z B q _ _ _ _ c0 C _ D;intros;refine zz ?_;refine CE ?_;intros;refine Dk (Ay rfl (Ay rfl (o_z (Ak (Am (Aw rfl (Aw rfl ?_)))))));obtain⟨E,x1,c0⟩:=bs c0;refine CE ?_;intros;refine FA ?_;intros;refine zz ?_;refine Bt (Aw rfl ?_);obtain⟨u,y0,c0⟩:=bs c0;refine CJ rfl (KJ (λ_ h=>h) zA zA y0) ?_;intros;cases u
  case false =>
   replace c0:=iF c0;refine zz ?_;exact BX () c0
  replace c0:=iT c0;refine zz ?_;obtain⟨F,z1,c0⟩:=bs c0;refine CE ?_;intros;refine FA ?_;intros;refine o_z ?_;exact BX () c0
 intro G _ _ _ _ hm;intros;refine Ba ?_;refine Ak (Am (Eh ?_));obtain⟨H,z0,hm⟩:=bs hm;refine Ew rfl (RX Fr.lt zV z0) ?_;intros;refine zz ?_;refine Nx (X:=Unit) hm [1,2,6,9] [] [3,4] [3] (λ_ _ e _ t=>(10,.bool e.2)::t) (λ_ o e _ t=>uR (o 3) 3 e.1::t) [6] (λ_ _ _ _ t=>t) () ?_ ?_
 ·intro e _ _ _ _ c I;intros;refine zz ?_;refine Bg rfl (λg=>?_) (λg=>?_)
  ·replace c:=ip c g;refine Bf (BK (Ak (Am (Ay rfl (o_z (Ak (Am (Aw rfl (AT rfl (Aw rfl (o_z (Cl (X:=Unit) c [1,2,6,9,41] [] [3,4] [3] (λ_ _ f _ t=>(10,.bool f.2)::t) (λ_ o f _ t=>uR (o 3) 3 f.1::t) () ?_ ?_))))))))))))
   ·intro J K f _ _ _ _ b L _ l0;intros;refine Ak (Am (CE ?_));intros;refine DP ?_;refine BC 4 ?_;intros;refine Bj ?_;intros;refine zz ?_;refine Bt (AN rfl ?_);refine Bt ?_;obtain⟨M,d1,b⟩:=bs b;refine FT ?_;intros;refine AN rfl (Je (Ay rfl (o_z (Ak (Ak (Am (Aw rfl (YK rfl rfl (o_z (Ae rfl (Bf (Ak ?_))))))))))));refine Cu (X:=Unit) b [1,2,6,9,10,12,13,41,42,43] [] [] [] (λ_ _ j _ t=>(81,.bool j)::t) (λ_ _ _ _ t=>t) ?_ ?_
    ·intro j a;refine Jz (Bc (Db 0 21)) ?_;refine zz ?_;refine CH rfl ?_;obtain⟨N,f1,a⟩:=bs a;refine Ei rfl ?_;intros;refine Fz rfl (Gq rfl rfl rfl (λl=>?_) λl=>?_)
     ·replace a:=ip a l;refine zz ?_;refine Hy (Au rfl (At rfl rfl ?_));obtain⟨O,h1,a⟩:=bs a;refine HN ?_;intros;refine zz ?_;refine Jg (Au rfl (At rfl rfl (Cm rfl (Au rfl (At rfl rfl ?_)))));obtain⟨P,o0,a⟩:=bs a;refine WB (he:=o0) rfl rfl rfl (Au rfl (At rfl rfl (Cm rfl (Au rfl (At rfl rfl (Cy rfl (Au rfl (At rfl rfl (Hy (Au rfl (At rfl rfl ?_)))))))))));obtain⟨Q,k1,a⟩:=bs a;refine HN ?_;intros;refine zz ?_;refine Jg (Au rfl (At rfl rfl (AQ (λ_ _=>CO rfl rfl) (λm=>?_) (λm=>?_))))
      ·replace a:=ip a m;refine zz ?_;obtain rfl:=sm a;exact AP ()
      replace a:=im a m;refine zz ?_;obtain rfl:=sm a;exact AP ()
     replace a:=im a l;refine zz ?_;obtain rfl:=sm a;exact AP ()
    intro j _ _ _ _ b;intros;refine Ba ?_;refine Bg rfl (λn=>?_) (λn=>?_)
    ·replace b:=ip b n;refine Ak (HL [] ?_);refine AJ (fuel:=1) [] (Bc (Db 0 11)) rfl (AI rfl rfl (AL rfl rfl (CH rfl (AI rfl rfl (AL rfl rfl ?_)))));refine CH rfl ?_;obtain⟨l1,m1,b⟩:=bs b;refine Ei rfl ?_;intros;refine Fz rfl (AI rfl rfl ?_);obtain⟨R,p0,b⟩:=bs b;refine Km (he:=p0) rfl rfl rfl ?_;obtain⟨S,p1,b⟩:=bs b;refine Ei rfl ?_;intros;refine AB (AH (i:=11) rfl (FA ?_));intros;refine Cs (Bh (Am (Ay rfl (o_z ?_))));exact BX () b
    replace b:=im' b n;refine Bf ?_;exact BX () b
   intro T _ _ _ _ c;intros;exact BX () c
  replace c:=im' c g;refine Cn ?_;exact RA () c
 intro U _ _ _ _ hm;intros;refine Ba ?_;refine zz ?_;refine FG 3 ?_;intros;obtain rfl:=sm hm;exact By
end
end
section
open Go Go.RowKit
theorem UJ{vars:List Int}(a:∀(i:Nat) n,vars[i]?=some n->0<=n/\n<=64)(hb:∀k,(statesL (vars.take k)).length<=1000000)(d:vars.length<=1000):Fp vars=some (statesL vars):=by
  unfold Fp;rw[Gh (λk=>statesL (vars.take k)) ?_ ?_]
  . rw[Ah,Bw,Q3]
  . rfl
  intro k n hn;obtain⟨N,rfl⟩:=E3 (a k n hn).1;have g:=(a k _ hn).2;have hk:=Az hn;have b:=hb k;rw[Gh (λi=>((statesL (vars.take k)).take i).flatMap (ZZ N)) ?_ ?_]
  . rw[Ah,Bw,Q3,Ib hn];rfl
  . rfl
  intro i s hs;have e:=SL vars k (by omega) s (H2 hs);have f:=Lj N ((statesL (vars.take k)).take i);have c:((statesL (vars.take k)).take i).length*N<=1000000*64:=Nat.mul_le_mul (by rw[P9];omega) (by omega);rw[Tc,Ah,UG (λx=>((statesL (vars.take k)).take i).flatMap (ZZ N)++ZZ x s) ?_ ?_]
  . rw[Ah,Bw,UI _ hs]
  . simp[ZZ]
  intro x h;rw[Cg (by simp;omega) (by simp;omega),Ah,Cg (by simp;omega) (by simp;omega),Ah,Cg (by simp only[K4,JH,G1];omega) (by simp only[K4,JH,G1];omega),Ah,UH];simp
theorem KP{t:Tsk}(h:Mid t):Fp t.vars=some (statesL t.vars) :=
  UJ (λi n hn=>by have:=h.ok.vars i n hn;omega) (λk=>by have:=h.states k;omega) (by have:=h.ok.1;omega)
end
section
open Go Go.RowKit
theorem Mo(f:List Fct)(s:List Int):GA f s=some (YV f s):=rfl
theorem VN{ρ:Type}{s:List Int}{a:List Eff}(he:Aa6 s a)(m:List Fct->List Int->Option Bool)(hm:∀f s,m f s=some (YV f s))(u:List Int)(hu:u.length=s.length) :
    rng (ρ:=ρ) (λ(_:Nat)(e:Eff)(b:List Int)=>bnd (m e.cond s) λq=>if q=true then bnd (atI b e.var) λ_=>some (.next (b.set (e.var).toNat e.val))else some (.next b)) a 0 u=some (.done (effsOn s a u)):=by
  rw[Gh (λk=>effsOn s (a.take k) u) ?_ ?_,Q3]
  . rfl
  intro k e hk;rw[hm,Ah,SK s hk];have c:=he k e hk;have hl:=MG s (a.take k) u;by_cases hb:YV e.cond s=true
  . rw[if_pos hb,if_pos hb];obtain⟨j,hj⟩:=E3 c.1;rw[hj,BG,C9 (by omega),Ah]
  . rw[if_neg hb,if_neg hb]
theorem VO{t:Tsk}{s:List Int}{j:Nat}{o:Opr}(a:t.ops[j]?=some o)(b:YV o.pre s=true)(hl:s.length<=1000000)(he:Aa6 s o.effs):Fk t s (j:Int)=some (succ o s,true):=by
  have hj:=Az a;unfold Fk;rw[if_neg (by omega),if_neg (by omega),BG,a,Ah,Mo,Ah,b,BA,Ah,BT,Cg (by simp;omega) (by simp;omega),Ah,Ah,R3,VN he GA Mo s rfl,Ah,Bw];rfl
theorem QJ{vars s:List Int}:∀(l:List Eff),(∀e∈l,ZT vars e)→∀(u:List Int),StateOk vars u→StateOk vars (effsOn s l u)
  |[],_,_,hu=>hu
  |e  :: l,he,u,hu=>by
    refine QJ l (λb c=>he b (H1 _ c)) _ ?_;split
    . obtain⟨_,h1,h2,y,hy,h3⟩:=he e L0;refine⟨by rw[R6];exact hu.1,λi x n a hn=>?_⟩;rw[N0]at a;by_cases hi:e.var.toNat=i
      . subst hi;rw[if_pos rfl]at a;split at a
        . obtain rfl:=R1 a;simp only at hy h2 h3;rw[hy]at hn;obtain rfl:=R1 hn;exact⟨h2,h3⟩
        . cases a
      . rw[if_neg hi]at a;exact hu.2 i x n a hn
    . exact hu
theorem NE{t:Tsk}(h:TaskOk t){s:List Int}(hs:StateOk t.vars s){k:Nat}{o:Opr}(a:t.ops[k]?=some o):StateOk t.vars (succ o s) :=
  QJ o.effs (λe he=>by obtain⟨j,hj⟩:=H3 he;exact(h.2.2.2.2.2 k o a).2.2.2.2.2 j e hj) s hs
theorem UK{t:Tsk}(h:TaskOk t){s:List Int}(hs:StateOk t.vars s){k:Nat}{o:Opr}(a:t.ops[k]?=some o):Fk t s (k:Int)=some (if YV o.pre s=true then(succ o s,true)else([],false)):=by
  have hk:=Az a;by_cases b:YV o.pre s=true
  . rw[VO a b (by have:=hs.1;have:=h.1;omega) (h.effs hs k o a),if_pos b]
  . unfold Fk;rw[if_neg (by omega),if_neg (by omega),BG,a,Ah,Mo,Ah,if_neg b,if_neg b,Ah,BA]
theorem OI{n:Nat}(hn:0<n):∀(l:List (List Int))(q:Nat),(l.flatMap (ZZ n))[q]?=(l[q/n]?).map (· ++ [((q%n:Nat):Int)])
  |[],q=>by simp
  |a::l,q=>by
    rw[M6];by_cases b:q<n
    . rw[C2 (by rw[JH];exact b),Nat.div_eq_of_lt b,Nat.mod_eq_of_lt b];simp[ZZ,b]
    . rw[B8 (by rw[JH];omega),JH,OI hn l (q-n)];obtain⟨r,rfl⟩:∃r,q=r+n:=⟨q-n,by omega⟩;rw[Nat.add_sub_cancel,Nat.add_div_right _ hn,Nat.add_mod_right];simp
theorem PC{vars:List Int}(hv:∀(i:Nat) n,vars[i]?=some n->1<=n):∀(k:Nat),k<=vars.length->∀(i j:Nat)(s:List Int),(statesL (vars.take k))[i]?=some s->(statesL (vars.take k))[j]?=some s->i=j
  |0,_,i,j,s,h1,h2=>by
    have a:=Az h1;have b:=Az h2;simp[statesL]at a b;omega
  |k  + 1,hk,i,j,s,h1,h2=>by
    obtain⟨n,hn⟩:=AG (l:=vars) (k:=k) (by omega);have c:=hv k n hn;rw[Ib hn]at h1 h2;unfold Aaa at h1 h2;rw[OI (by omega)]at h1 h2;obtain⟨p,hp,rfl⟩:=F0.1 h1;obtain⟨g,hp',e⟩:=F0.1 h2;obtain⟨a,b⟩:=List.append_inj' e rfl;subst a;have:=PC hv k (by omega) _ _ _ hp hp';have d:j%n.toNat=i%n.toNat:=by
      have:=List.singleton_inj.1 b;omega
    have f:=Nat.div_add_mod i n.toNat;have h:=Nat.div_add_mod j n.toNat;rw[this,<- d]at f;omega
theorem SO{t:Tsk}(h:TaskOk t){i j:Nat}{s:List Int}(a:(statesL t.vars)[i]?=some s)(b:(statesL t.vars)[j]?=some s):i=j:=by
  have:=PC (vars:=t.vars) (λi n hn=>(h.vars i n hn).1) t.vars.length (W3 _) i j s;rw[Q3]at this;exact this a b
theorem Qk{t:Tsk}(h:Mid t){s:List Int}(hs:StateOk t.vars s):∃i:Nat,Gv t.vars s=some (i:Int)∧(statesL t.vars)[i]?=some s:=by
  unfold Gv;obtain⟨r,h1,i,rfl,h2⟩:=HE (ρ:=Int) (f:=λ(b:Nat)(c:Int)(m:Int)=>bnd (t.vars[b]?) λd=>bnd (X7 (m*d)) λe=>bnd (X7 (e+c)) λg=>some (.next g)) (xs:=s) (s₀:=0) (λk r=>∃i:Nat,r=(i:Int)/\(statesL (t.vars.take k))[i]?=some (s.take k)) ⟨0,rfl,by simp[statesL]⟩ (λk x r hk o=>by
    obtain⟨i,rfl,hi⟩:=o;have hlt:=Az hk;obtain⟨n,hn⟩:=AG (l:=t.vars) (k:=k) (by rw[<- hs.1];exact hlt);have p:=h.ok.vars k n hn;obtain⟨j,hx2⟩:=hs.2 k x n hk hn;obtain⟨x,rfl⟩:=E3 j;obtain⟨n,rfl⟩:=E3 (by omega:0<=n);have a:(statesL (t.vars.take (k+1)))[i*n+x]?=some (s.take (k+1)):=by
      rw[Ib hn];show((statesL (t.vars.take k)).flatMap (ZZ ((n:Int)).toNat))[i*n+x]?=_;rw[show((n:Int)).toNat=n from by omega,OI (by omega)];have q:(i*n+x)/n=i:=by
        rw[Nat.mul_comm,Nat.mul_add_div (by omega),Nat.div_eq_of_lt (by omega)];omega
      have u:(i*n+x)%n=x:=by
        rw[Nat.mul_comm,Nat.mul_add_mod,Nat.mod_eq_of_lt (by omega)]
      rw[q,u,hi,M4,hk];rfl
    have hb:=Az a;have v:=h.states (k+1);have w:(i:Int)*(n:Int)=((i*n:Nat):Int):=(by simp);rw[hn,Ah,w,BQ (by unfold X2;omega),Ah,BQ (by unfold X2;omega),Ah];exact⟨_,rfl,i*n+x,by omega,a⟩)
  rw[Q3,hs.1,Q3]at h2;exact⟨i,by rw[h1,Ah,Bw],h2⟩
def Aa5(t:Tsk)(e:Edg):Prop:=∃(i k j:Nat) (s:List Int) (o:Opr),e=⟨i,k,j⟩/\(statesL t.vars)[i]?=some s/\t.ops[k]?=some o/\YV o.pre s=true/\(statesL t.vars)[j]?=some (succ o s)
theorem VP{t:Tsk}(h:Mid t):∃x,Ic t=some x∧∀e,e∈x↔Aa5 t e:=by
  have G:(statesL t.vars).length<=600:=(by have:=h.states t.vars.length;rwa[Q3]at this);have H:=h.ops;have y:∀{i I:Nat}{s:List Int},(statesL t.vars)[i]?=some s->(statesL t.vars)[I]?=some s->i=I:=λB J=>SO h.ok B J;unfold Ic;rw[KP h,Ah]
  obtain⟨x,   B,J,h3⟩:=HE (ρ:=List Edg) (f:=λ(C:Nat)(D:List Int)(E:(List Edg))=>bnd (rng (ρ:=Ctl (List Edg) (List Edg)) (λ(d:Nat)(_:Opr)(g:(List Edg))=>bnd (Fk t D (d:Int)) λl=>if l.2=true then(bnd (Gv t.vars l.1) λv=>bnd (Y0 24 g [(⟨(C:Int),(d:Int),v⟩:Edg)]) λp=>some (.next p))else(some (.next g))) t.ops 0 E) λw=>fin w λ(z:(List Edg))=>some (.next z)) (xs:=statesL t.vars) (s₀:=[])
    (λn u=>u.length<=n*80/\∀e,e∈u↔Aa5 t e/\e.src<(n:Int)) ⟨by simp,λe=>⟨λhe=>by simp at he,λ⟨⟨i,_,_,_,_,hE,_⟩,hlt⟩=>by subst hE;simp only at hlt;omega⟩⟩ (λn s u hn F=>by
      obtain⟨M,i2⟩:=F;have K:=Az hn;have hs:StateOk t.vars s:=JN.1 (H2 hn);obtain⟨x,g1,g2,g3⟩:=HE (ρ:=Ctl (List Edg) (List Edg)) (f:=λ(d:Nat)(_:Opr)(g:(List Edg))=>bnd (Fk t s (d:Int)) λl=>if l.2=true then(bnd (Gv t.vars l.1) λv=>bnd (Y0 24 g [(⟨(n:Int),(d:Int),v⟩:Edg)]) λp=>some (.next p))else(some (.next g))) (xs:=t.ops) (s₀:=u)
        (λm q=>q.length<=n*80+m/\∀e,e∈q↔Aa5 t e/\(e.src<(n:Int)\/e.src=(n:Int)/\e.op<(m:Int))) ⟨by omega,λe=>by
          rw[i2];constructor
          . rintro⟨a,b⟩;exact⟨a,.inl b⟩
          . rintro⟨a,b|⟨b,c⟩⟩
            . exact⟨a,b⟩
            . obtain⟨i,k,j,s',o,rfl,_⟩:=a;simp at c;omega⟩ (λm o q hm F=>by
          obtain⟨N,j2⟩:=F;have L:=Az hm;rw[UK h.ok hs hm,Ah];by_cases A:YV o.pre s=true
          . obtain⟨r,hr,hr2⟩:=Qk h (NE h.ok hs hm);rw[if_pos A,BA,hr,Ah,Cg (by simp;omega) (by simp;omega),Ah];refine⟨_,rfl,by simp;omega,λe=>?_⟩;rw[Q8,j2];constructor
            . rintro(⟨a,b⟩|hmem)
              . refine⟨a,?_⟩;rcases b with b|⟨b,c⟩
                . exact .inl b
                . exact .inr ⟨b,by omega⟩
              . obtain rfl:e=⟨(n:Int),(m:Int),(r:Int)⟩:=(by simpa using hmem);exact⟨⟨n,m,r,s,o,rfl,hn,hm,A,hr2⟩,.inr ⟨rfl,by simp;omega⟩⟩
            . rintro⟨a,b⟩;obtain⟨i,k,j,s',o',rfl,a1,a2,a3,a4⟩:=a;simp only at b;by_cases hc:i=n/\k=m
              . obtain⟨rfl,rfl⟩:=hc;obtain rfl:s'=s:=(by rw[hn]at a1;exact(R1 a1).symm);obtain rfl:o'=o:=(by rw[hm]at a2;exact(R1 a2).symm);obtain rfl:=y a4 hr2;exact .inr (by simp)
              . exact .inl ⟨⟨i,k,j,s',o',rfl,a1,a2,a3,a4⟩,by simp only;omega⟩
          . rw[if_neg A];refine⟨_,if_neg (by simp),by omega,λe=>?_⟩;rw[j2];constructor
            . rintro⟨a,b⟩;refine⟨a,?_⟩;rcases b with b|⟨b,c⟩
              . exact .inl b
              . exact .inr ⟨b,by omega⟩
            . rintro⟨a,b⟩;obtain⟨i,k,j,s',o',rfl,a1,a2,a3,a4⟩:=a;simp only at b;by_cases hc:i=n/\k=m
              . obtain⟨rfl,rfl⟩:=hc;obtain rfl:s'=s:=(by rw[hn]at a1;exact(R1 a1).symm);obtain rfl:o'=o:=(by rw[hm]at a2;exact(R1 a2).symm);exact absurd a3 A
              . exact⟨⟨i,k,j,s',o',rfl,a1,a2,a3,a4⟩,by simp only;omega⟩)
      rw[g1,Ah,Bw];refine⟨_,rfl,by omega,λe=>?_⟩;rw[g3];constructor
      . rintro⟨a,b⟩;exact⟨a,by rcases b with b|⟨b,_⟩<;>omega⟩
      . rintro⟨a,b⟩;refine⟨a,?_⟩;obtain⟨i,k,j,s',o',rfl,a1,a2,a3,a4⟩:=a;simp only at b ⊢;have:=Az a2;omega)
  refine⟨x,by rw[B,Ah,Bw],λe=>?_⟩;rw[h3];refine⟨λa=>a.1,λa=>⟨a,?_⟩⟩;obtain⟨i,k,j,s',o',rfl,a1,a2,a3,a4⟩:=a;have:=Az a1;simp only;omega
end
section
open Go Go.RowKit
theorem PD:∀(p:List Fct)(v:Int),fdV p v=-1\/∃f∈p,f.var=v/\fdV p v=f.val
  |[],_=>.inl rfl
  |f  :: p,v=>by
    rw[fdV];by_cases h:f.var=v
    . rw[if_pos h];exact .inr ⟨f,L0,h,rfl⟩
    . rw[if_neg h];rcases PD p v with a|⟨g,hg,a⟩
      . exact .inl a
      . exact .inr ⟨g,H1 _ hg,a⟩
def Z3(vars:List Int)(p:List Fct):List Int:=(List.range vars.length).map λv:Nat=>fdV p (v:Int)+1
theorem WS{vars:List Int}{p:List Fct}(h:FactsOk vars p)(hv:∀(i:Nat) n,vars[i]?=some n->1<=n):StateOk (vars.map (· + 1)) (Z3 vars p):=by
  refine⟨by unfold Z3;simp,λi x y a c=>?_⟩;rw[M9]at c;obtain⟨n,hn,rfl⟩:=F0.1 c;unfold Z3 at a;rw[M9,K0 (Az hn),S0]at a;obtain rfl:=R1 a;have:=hv i n hn;rcases PD p (i:Int)with b|⟨f,hf,b,h2⟩
  . rw[b];omega
  . obtain⟨d,g2,m,hm,g3⟩:=(Zg.1 h).1 f hf;rw[b,N1,hn]at hm;obtain rfl:=R1 hm;rw[h2];omega
theorem RY{vars:List Int}{p q:List Fct}(b:FactsOk vars p)(he:Z3 vars p=Z3 vars q):∀f∈p,f∈q:=λf hf=>by
  obtain⟨h,g2,m,hm,g3⟩:=(Zg.1 b).1 f hf;have d:=LM b.ps f hf;have hlt:=Az hm;have a:(Z3 vars p)[f.var.toNat]?=(Z3 vars q)[f.var.toNat]?:=(by rw[he]);unfold Z3 at a;rw[M9,M9,K0 hlt,S0,S0]at a;have e:=R1 a;rw[show((f.var.toNat:Nat):Int)=f.var by omega,d]at e;rcases PD q f.var with c|⟨g,hg,c,h4⟩
  . omega
  . have:g=f:=by
      cases g;cases f;simp only[Fct.mk.injEq]at *
      exact⟨c,by omega⟩
    rw[<- this];exact hg
theorem OJ{p:List Fct}(h:Ps p):p.Nodup:=h.2.imp λ{a b} c e=>by subst e;omega
theorem VQ{vars:List Int}{p q:List Fct}(a:FactsOk vars p)(b:FactsOk vars q)(he:Z3 vars p=Z3 vars q):p=q :=
  Oc ((List.perm_ext_iff_of_nodup (OJ a.ps) (OJ b.ps)).2 λf=>⟨RY a he f,RY b he.symm f⟩) a.ps.2 b.ps.2 λx y c d=>by omega
theorem VR{vars:List Int}(g:vars.length<=16)(f:∀(i:Nat) n,vars[i]?=some n->1<=n/\n<=64)(k:ZO (vars.map (· + 1)) 1<=1024):ZW vars:=by
  refine⟨g,f,λl h c=>?_⟩;have hn:(l.map (Z3 vars)).Nodup:=by
    unfold List.Nodup;rw[N7];exact h.imp_of_mem λ{a b} j hb d e=>d (VQ (c a j) (c b hb) e)
  have:=hn.length_le_of_subset (l₂:=statesL (vars.map (· + 1))) λs hs=>by
    obtain⟨p,hpL,rfl⟩:=V8.1 hs;exact JN.2 (WS (c p hpL) λi n hn=>(f i n hn).1)
  rw[R9,Lp]at this;omega
end
section
open Go Go.RowKit Go.Lib
theorem WT{α σ ρ β:Type}{f:Nat→α→σ→Option (Ctl σ ρ)}{xs:List α}{s₀:σ}{k:Fin σ ρ→Option β}{P:β→Prop}(I:Nat→σ→Prop)(m:σ→Prop)(g:I 0 s₀)
    (h:∀i x s,xs[i]?=some x->I i s->(∃a,f i x s=some (.next a)/\I (i+1) a)\/∃a,f i x s=some (.brk a)/\m a)
    (hb:∀s,I xs.length s\/m s->∃r,k (.done s)=some r/\P r):∃r,bnd (rng f xs 0 s₀) k=some r/\P r:=by
  have c:∀(ys:List α)(j:Nat)(s:σ),(∀i,ys[i]?=xs[j+i]?)->j+ys.length=xs.length->I j s->∃a,rng f ys j s=some (.done a)/\(I xs.length a\/m a):=by
    intro ys
    induction ys with
    |nil=>intro j s _ hl d;exact⟨s,rfl,.inl (by simp at hl;rw[<- hl];exact d)⟩
    |cons y ys l =>
      intro j s e hl d;have b:=e 0;simp only[List.getElem?_cons_zero,U9]at b;rcases h j y s b.symm d with⟨a,h2,h3⟩|⟨a,h2,h3⟩
      . simp only[rng,h2];exact l (j+1) a (λi=>by have:=e (i+1);rw[E5]at this;rw[this];congr 1;omega) (by simp at hl;omega) h3
      . exact⟨a,by simp only[rng,h2],.inr h3⟩
  obtain⟨a,b,h2⟩:=c xs 0 s₀ (λi=>by rw[V0]) (by omega) g;rw[b,Ah];exact hb a h2
theorem Ql:∀(l:List Fct)(p:Fct),(p::l).Pairwise (λx y=>¬ZP y x)→(∀f∈p::l,∀g∈p::l,f.var=g.var→f=g)→(p::Za p l).Pairwise λx y=>x.var<y.var
  |[],p,_,_=>by simp[Za]
  |a  :: l,p,h,hc=>by
    simp only[Za];by_cases b:p.var=a.var/\p.val=a.val
    . have e:p=a:=(by cases p;cases a;simp only[Fct.mk.injEq];exact b);subst e;rw[if_pos b];exact Ql l p (L5.1 h).2 λf hf g c=>hc f (H1 _ hf) g (H1 _ c)
    . rw[if_neg b];have d:=Ql l a (L5.1 h).2 λf hf g c=>hc f (H1 _ hf) g (H1 _ c);have j:p.var<a.var:=by
        have i:=(L5.1 h).1 a L0;have k:=hc p L0 a (H1 _ L0);unfold ZP at i;rcases Int.lt_trichotomy p.var a.var with h4|h4|h4
        . exact h4
        . exact absurd (by rw[k h4];exact⟨rfl,rfl⟩) b
        . exact absurd (.inl h4) i
      refine L5.2 ⟨λy hy=>?_,d⟩;rcases T8.1 hy with rfl|hy
      . exact j
      . have:=(L5.1 d).1 y hy;omega
theorem VS{x y z:List Fct}{c:Bool}(j:x.length<=1000)(k:y.length<=1000)(d:Ps x)(e:Ps y)(hc:∀f,f∈x\/f∈y->∀g,g∈x\/g∈y->f.var=g.var->f=g)(h:FL x y=some (z,c)):c=true:=by
  unfold FL at h;have hn:∀f∈x++y,0<=f.var/\0<=f.val:=λf hf=>(Q8.1 hf).elim (d.1 f) (e.1 f);rw[Ia (by omega) d,Ah,BA,Ia (by omega) e,Ah,BA,Ah,BT,Hr (by omega),Ah,Cg (by omega) (by omega),Ah]at h;obtain⟨b,h1,h2⟩:=RR (f:=x++y) (by simp;omega) hn;have hm:∀f,f∈AW (x++y)->f∈x\/f∈y:=λf hf=>Q8.1 ((JV _).mem_iff.1 hf);have:b=true:=h2.2 ⟨λf hf=>hn f ((JV _).mem_iff.1 ((RN _ f).1 hf)),by
    have hs:=SG (x++y);cases hl:AW (x++y)with
    |nil=>exact List.Pairwise.nil
    |cons a l =>
      rw[hl]at hs hm;exact Ql l a hs λf hf g i=>hc f (hm f hf) g (hm g i)⟩
  rw[h1,Ah,if_pos this]at h;exact(congrArg Prod.snd (R1 h)).symm
section
variable {vars:List Int}
def OkZ(vars:List Int)(a:Fct->Prop):Prop:=(∀f,a f->YU vars f)/\∀f g,a f->a g->f.var=g.var->f=g
def Spc(vars:List Int)(a:List (List Fct))(Q:(Fct->Prop)->Prop):Prop:=(∀z∈a,FactsOk vars z)/\∀b,OkZ vars b->((∃z∈a,∀g∈z,b g)↔Q b)
theorem FactsOk.okZ{p:List Fct}(h:FactsOk vars p):OkZ vars (·∈p):=by
  obtain⟨a,h2⟩:=Zg.1 h;refine⟨a,λf g hf b e=>?_⟩;have:=LM h.ps f hf;rw[e,LM h.ps g b]at this;cases f;cases g;simp_all
theorem Spc.imp{b:List (List Fct)}{Q R:(Fct->Prop)->Prop}(h:Spc vars b Q)(e:∀c,OkZ vars c->(Q c↔R c)):Spc vars b R:=⟨h.1,λc a=>(h.2 c a).trans (e c a)⟩
theorem Tp{z:List Fct}(h:FactsOk vars z):Spc vars [z] λb=>∀g∈z,b g:=⟨λq a=>by obtain rfl:=M0.1 a;exact h,λb _=>⟨λ⟨q,a,h⟩=>by obtain rfl:=M0.1 a;assumption,λh=>⟨z,M0.2 rfl,h⟩⟩⟩
theorem Spc.app{b:List (List Fct)}{Q:(Fct->Prop)->Prop}(h:Spc vars b Q){z:List Fct}(hz:FactsOk vars z):Spc vars (b++[z]) λc=>Q c\/∀g∈z,c g:=⟨λq hq=>(Q8.1 hq).elim (h.1 q) λhq=>by obtain rfl:=M0.1 hq;exact hz,λc a=>by
  show _↔(Q c\/_);rw[<- h.2 c a];constructor
  . rintro⟨q,hq,h⟩;rcases Q8.1 hq with hq|hq
    . exact .inl ⟨q,hq,h⟩
    . obtain rfl:=M0.1 hq;exact .inr h
  . rintro(⟨q,hq,h⟩|h)
    . exact⟨q,H0 _ hq,h⟩
    . exact⟨z,by simp,h⟩⟩
theorem Spc.old{c:List (List Fct)}{Q:(Fct->Prop)->Prop}(h:Spc vars c Q){z:List Fct}(hz:z∈c):Spc vars c λd=>Q d\/∀g∈z,d g:=h.imp λd b=>⟨.inl,λa=>a.elim id λa=>(h.2 d b).1 ⟨z,hz,a⟩⟩
theorem Tq(C:ZW vars){a b:List (List Fct)}{H o:(Fct→Prop)→Prop}(I:Spc vars a H)(hb:Spc vars b o):∃p,Fb a b=some (p,⟨0⟩)∧p.length≤1024∧Spc vars p λV=>H V∧o V:=by
  unfold Fb;refine ND ?_;have r:∀{s:List (List Fct)×List (List Fct)} {Q},SrtN s.2->s.2.Perm s.1->Spc vars s.1 Q->s.1.length<=1024/\s.2.length<=1024:=λd c i=>by
    have:=C.2.2 _ (c.nodup_iff.1 d.nodup) i.1;exact⟨this,by rw[c.length_eq];exact this⟩
  refine Cr (λk s=>SrtN s.2/\s.2.Perm s.1/\Spc vars s.1 λV=>∃x∈a.take k,(∀g∈x,V g)/\o V) (λ_=>False) ⟨List.Pairwise.nil,T5 _,⟨λz hz=>by simp at hz,λV _=>by simp⟩⟩ (λk x s hk D=>.inl ?_) (λs hs=>?_) (λq E=>E.elim)
  . have L  := H2 hk;have m:=I.1 x L;obtain⟨v,I2,I3⟩:=D;have M:Spc vars s.1 λV=>(∃x∈a.take k,(∀g∈x,V g)/\o V)\/∃y∈b.take 0,(∀g∈x,V g)/\∀g∈y,V g:=I3.imp λV _=>(by simp);refine JX ?_;refine Cr (λj s=>SrtN s.2/\s.2.Perm s.1/\Spc vars s.1 λV=>(∃x∈a.take k,(∀g∈x,V g)/\o V)\/∃y∈b.take j,(∀g∈x,V g)/\∀g∈y,V g) (λ_=>False) ⟨v,I2,M⟩ (λj y s hj D=>.inl ?_) (λs hs=>⟨_,rfl,_,rfl,hs.1,hs.2.1,hs.2.2.imp λV t=>?_⟩) (λq E=>E.elim)
    . have N:=H2 hj;have n:=hb.1 y N;have T:=m.short C;have U:=n.short C;obtain⟨v,I2,I3⟩:=D;obtain⟨z,O,j1,j2⟩:=VL (x:=x) (y:=y) (by omega) (by omega) m.ps n.ps;rw[j1,Ah];have u:∀{W:List (List Fct)}{R:(Fct->Prop)->Prop},(∀V,OkZ vars V->(R V↔(∀g∈x,V g)/\∀g∈y,V g))->Spc vars W (λV=>((∃x∈a.take k,(∀g∈x,V g)/\o V)\/∃y∈b.take j,(∀g∈x,V g)/\∀g∈y,V g)\/R V)->Spc vars W λV=>(∃x∈a.take k,(∀g∈x,V g)/\o V)\/∃y∈b.take (j+1),(∀g∈x,V g)/\∀g∈y,V g:=λe h=>h.imp λV t=>by
        rw[e V t,M4,hj,or_assoc];simp only[L8,Q8,M0,or_and_right,exists_or,exists_eq_left]
      cases O with
      |false =>
        refine⟨_,if_pos rfl,v,I2,u (R:=λ_=>False) (λV t=>⟨False.elim,λ⟨d,c⟩=>?_⟩) (I3.imp λV _=>by simp)⟩;have:=VS (by omega) (by omega) m.ps n.ps (λf hf g P=>t.2 f g (hf.elim (d f) (c f)) (P.elim (d g) (c g))) j1;cases this
      |true =>
        obtain⟨S,_,j4⟩:=j2 rfl;rw[if_neg (by simp)];have hl:=r v I2 I3;obtain⟨g,F,b1,b2,b3,b4⟩:=AbB (l:=s.2) (by omega) v z;dsimp only;rw[b1,Ah];have J:∀V,OkZ vars V->((∀g∈z,V g)↔(∀g∈x,V g)/\∀g∈y,V g):=λV _=>(by simp only[j4,or_imp,forall_and]);cases F with
        |true=>exact⟨_,if_pos rfl,v,I2,u J (I3.old (I2.mem_iff.1 (b3.1 rfl)))⟩
        |false =>
          have G:=S.facts m n j4;have K:(s.2.take g++z::s.2.drop g).Perm (s.1++[z]):=by
            refine List.perm_middle.trans ?_;rw[F7];exact((List.perm_cons z).2 I2).trans (G2 (l₁:=[z]))
          have w:=u J (I3.app G);have A:=(r (s:=(s.1++[z],s.2.take g++z::s.2.drop g)) (b4 rfl) K w).1;dsimp only at A;rw[K4,G1]at A;dsimp only;rw[if_neg (by simp),if_neg (by omega)];have B:CM s.2 (g:Int) [z]=some (s.2.take g++z::s.2.drop g):=by
            unfold CM AbI;dsimp only;rw[if_pos ⟨by omega,by omega,by omega⟩,N1]
          rw[B,Ah,Cg (by simp;omega) (by simp;omega),Ah];exact⟨_,rfl,b4 rfl,K,w⟩
    . rw[Q3,M4,hk,<- hb.2 V t];simp only[L8,Q8,M0,or_and_right,exists_or,exists_eq_left];refine or_congr X1 ⟨λ⟨y,d,c,i⟩=>⟨c,y,d,i⟩,λ⟨c,y,d,i⟩=>⟨y,d,c,i⟩⟩
  . rw[Bw];refine⟨_,rfl,_,rfl,(r hs.1 hs.2.1 hs.2.2).1,hs.2.2.imp λV t=>?_⟩;rw[Q3,<- I.2 V t];exact⟨λ⟨x,d,c,i⟩=>⟨⟨x,d,c⟩,i⟩,λ⟨⟨x,d,c⟩,i⟩=>⟨x,d,c,i⟩⟩
def Qt(c:List Fct)(a:Fct->Prop):Prop:=∃g∈c,∃y,y≠g.val/\a ⟨g.var,y⟩
theorem UL(l:ZW vars){e:Eff}(he:FactsOk vars e.cond):∃b,ET vars e=some (b,⟨0⟩)∧Spc vars b (Qt e.cond):=by
  unfold ET;have p:=he.short l;refine ND ?_;refine Cr (λk s=>s.length<=64*k/\Spc vars s (Qt (e.cond.take k))) (λ_=>False) ⟨W3 _,λz hz=>by simp at hz,λA _=>by simp[Qt]⟩ (λk g s hk o=>.inl ?_) (λs hs=>?_) (λq i=>i.elim)
  . have r:=Az hk;obtain⟨t,g1,n,gn,gl⟩:=he.1 k g hk;obtain⟨x,n2⟩:=l.2.1 _ _ gn;rw[show g.var=((g.var.toNat:Nat):Int)by omega,BG,gn,Ah];obtain⟨N,rfl⟩:∃N:Nat,n=(N:Int):=⟨n.toNat,by omega⟩;rw[Tc,Ah];have u:((g.var.toNat:Nat):Int)=g.var:=(by omega);rw[u];refine JX ?_;refine Mn (λj d=>d.length<=64*k+j/\Spc vars d λA=>Qt (e.cond.take k) A\/∃y:Nat,y<j/\(y:Int)≠g.val/\A ⟨g.var,y⟩) ⟨by have:=o.1;omega,o.2.imp λA _=>by simp⟩ (λj d hj a=>?_) (λd hs=>⟨_,rfl,_,rfl,by have:=hs.1;omega,hs.2.imp λA v=>?_⟩)
    . by_cases f:(j:Int)≠g.val
      . rw[if_pos f,Cg (by have:=a.1;simp;omega) (by have:=a.1;simp;omega),Ah];refine⟨_,rfl,by have:=a.1;simp;omega,(a.2.app (z:=[⟨g.var,j⟩]) (HD.2 ⟨t,by dsimp only;omega,_,gn,by dsimp only;omega⟩)).imp λA _=>?_⟩;rw[or_assoc];refine or_congr X1 ⟨?_,?_⟩
        . rintro(⟨y,c,h2⟩|h)
          . exact⟨y,by omega,h2⟩
          . exact⟨j,by omega,f,h _ (by simp)⟩
        . rintro⟨y,c,h2,h3⟩;by_cases w:y=j
          . subst w;exact .inr λq i=>by obtain rfl:=M0.1 i;exact h3
          . exact .inl ⟨y,by omega,h2,h3⟩
      . rw[if_neg f];refine⟨_,rfl,by have:=a.1;omega,a.2.imp λA _=>or_congr X1 ⟨λ⟨y,c,h2⟩=>⟨y,by omega,h2⟩,λ⟨y,c,h2⟩=>⟨y,?_,h2⟩⟩⟩;rcases Nat.lt_or_eq_of_le (Nat.le_of_lt_succ c)with h|h
        . exact h
        . subst h;exact absurd h2.1 f
    . unfold Qt;rw[M4,hk];simp only[L8,Q8,M0,or_and_right,exists_or,exists_eq_left];refine or_congr X1 ⟨λ⟨y,_,h⟩=>⟨_,h⟩,λ⟨y,c,h2⟩=>?_⟩;obtain⟨_,h3,m,hm,h4⟩:=v.1 _ h2;dsimp only at h3 hm h4;rw[gn]at hm;have:=R1 hm;exact⟨y.toNat,by omega,by omega,by rw[show((y.toNat:Nat):Int)=y by omega];exact h2⟩
  . rw[Bw,if_neg (by have:=hs.1;omega)];refine⟨_,rfl,s,rfl,?_⟩;have:=hs.2;rwa[Q3]at this
def QuZ(f:Fct)(a:List Eff)(b:Fct->Prop):Prop:=∀e∈a,e.val≠f.val->Qt e.cond b
theorem Ts(m:ZW vars){f:Fct}{i:List (List Fct)}{Q:(Fct->Prop)->Prop}(hn:i.Nodup)(p:Spc vars i Q){u:List Eff}(hu:∀e∈u,ZT vars e){l0:List Fct}(t:FactsOk vars l0) :
    ∃c,Aa0 vars f i u [l0]=some (.done c)/\c.Nodup/\Spc vars c λy=>Q y\/((∀g∈l0,y g)/\QuZ f u y):=by
  unfold Aa0;refine ND ?_;refine Cr (λk A=>Spc vars A λy=>(∀g∈l0,y g)/\QuZ f (u.take k) y) (λ_=>False) ((Tp t).imp λy _=>by simp[QuZ]) (λk e A hk j=>.inl ?_) (λA j=>?_) (λq n=>n.elim)
  . have o:=hu e (H2 hk);have d:∀y,QuZ f (u.take (k+1)) y↔QuZ f (u.take k) y/\(e.val≠f.val->Qt e.cond y):=λy=>by
      unfold QuZ;rw[M4,hk];simp only[L8,Q8,M0,or_imp,forall_and,forall_eq]
    by_cases hv:e.val=f.val
    . rw[if_pos hv];exact⟨_,rfl,j.imp λy _=>by rw[d];simp[hv]⟩
    . rw[if_neg hv];obtain⟨q,q1,q2⟩:=UL m o.1;rw[q1,Ah,if_neg (λh=>h rfl)];obtain⟨r,r1,_,r3⟩:=Tq m j q2;dsimp only;rw[r1,Ah,if_neg (λh=>h rfl)];exact⟨_,rfl,r3.imp λy _=>by rw[d,and_assoc];simp[hv]⟩
  . rw[Q3]at j;rw[Bw];refine Cr (λk s=>s.Nodup/\Spc vars s λy=>Q y\/∃z∈A.take k,∀g∈z,y g) (λ_=>False) ⟨hn,p.imp λy _=>by simp⟩ (λk z s hk l=>.inl ?_) (λs hs=>⟨_,rfl,s,rfl,hs.1,hs.2.imp λy v=>by rw[Q3,j.2 y v]⟩) (λq n=>n.elim);have hz:=j.1 z (H2 hk);obtain⟨b,b1,b2⟩:=WR s z;rw[b1,Ah];have d:∀y,(Q y\/∃z∈A.take (k+1),∀g∈z,y g)↔(Q y\/∃z∈A.take k,∀g∈z,y g)\/∀g∈z,y g:=λy=>by
      rw[M4,hk,or_assoc];simp only[L8,Q8,M0,or_and_right,exists_or,exists_eq_left]
    cases b with
    |true=>exact⟨_,if_pos rfl,l.1,(l.2.old (b2.1 rfl)).imp λy _=>(d y).symm⟩
    |false =>
      have w:=m.2.2 s l.1 l.2.1;rw[BT,Cg (by simp;omega) (by simp;omega),Ah];refine⟨_,rfl,N9.2 ⟨l.1,by simp,λa x b hb e=>?_⟩,(l.2.app hz).imp λy _=>(d y).symm⟩;obtain rfl:=M0.1 hb;subst e;have:=b2.2 x;cases this
def CsE(o:Opr)(f:Fct)(i:Int)(a:Fct->Prop):Prop:=∃(j:Nat) (e:Eff),i<j/\(efV o f)[j]?=some e/\e.val=f.val/\(∀g∈e.cond,a g)/\QuZ f ((efV o f).drop (j+1)) a
def Cse(o:Opr)(f:Fct)(a:Fct->Prop):Prop:=CsE o f (-1) a\/(a f/\QuZ f (efV o f) a)
theorem VT(A:ZW vars){o:Opr}(I:∀e∈o.effs,ZT vars e)(B:o.effs.length≤1000){f:Fct}(hf:YU vars f):∃c,GR vars o f=some (c,⟨0⟩)∧Spc vars c (Cse o f):=by
  unfold GR;have J:rng (ρ:=(List (List Fct))×Err) (λ(K:Nat)(t:Eff)(v:(List Eff))=>if t.var=f.var then(bnd (Y0 40 v [t]) λC=>some (.next C))else(some (.next v))) o.effs 0 ([]:List Eff)=some (.done (efV o f)):=by
    rw[Gh (λk=>(o.effs.take k).filter λe=>decide (e.var=f.var)) (by simp) λk e hk=>?_]
    . rw[Q3];rfl
    . have hl:((o.effs.take k).filter λe=>decide (e.var=f.var)).length<=1000:=V6 (G4 _ _) (by rw[P9];omega);rw[M4,hk,List.filter_append];by_cases he:e.var=f.var
      . rw[if_pos he,Cg (by simp;omega) (by simp;omega),Ah];simp[he]
      . rw[if_neg he];simp[he]
  have L:(efV o f).length<=1000:=V6 (G4 _ _) B;have p:∀e∈efV o f,ZT vars e:=λe he=>I e (R8.1 he).1;rw[J,Ah,Bw,BQ (by unfold X2;omega),Ah];refine ND ?_;refine IA (λs=>s.1=efV o f/\s.2.1.Nodup/\-2<=s.2.2/\s.2.2<(efV o f).length/\Spc vars s.2.1 λP=>CsE o f s.2.2 P\/(s.2.2 < -1/\P f/\QuZ f (efV o f) P)) (λs=>s.2.1.Nodup/\Spc vars s.2.1 (Cse o f)) (λ_=>False) (λs=>(s.2.2+2).toNat) ⟨rfl,T6,by dsimp only;omega,by dsimp only;omega,λz hz=>by simp at hz,λP _=>⟨λ⟨z,hz,_⟩=>by simp at hz,?_⟩⟩ ?_ (λs hs=>?_) (λq M=>M.elim)
  . rintro(⟨j,e,w,h3,_⟩|⟨w,_⟩)
    . have:=Az h3;dsimp only at w;omega
    . dsimp only at w;omega
  . rintro⟨Q,c,i⟩ ⟨hE,hN,hi1,hi2,hI⟩;dsimp only at hE hN hI hi1 hi2 ⊢;subst hE;by_cases F:-1<=i
    . rw[if_pos F];refine .inl ?_;have d:∀a,a.Nodup->Spc vars a (λP=>CsE o f (i-1) P\/(i-1 < -1/\P f/\QuZ f (efV o f) P))->∃n,(fin (.done a:CsT) λ(x:(List (List Fct)))=>bnd (X7 (i-1)) λy=>some (Ctl.next (ρ:=(List (List Fct))×Err) (efV o f,x,y)))=some (.next n)/\(n.1=efV o f/\n.2.1.Nodup/\-2<=n.2.2/\n.2.2<(efV o f).length/\Spc vars n.2.1 λP=>CsE o f n.2.2 P\/(n.2.2 < -1/\P f/\QuZ f (efV o f) P))/\(n.2.2+2).toNat<(i+2).toNat:=λa hn N=>by
        rw[Bw,BQ (by unfold X2;omega),Ah];exact⟨_,rfl,⟨rfl,hn,by dsimp only;omega,by dsimp only;omega,N⟩,by dsimp only;omega⟩
      have r:Spc vars c (CsE o f i):=hI.imp λP _=>⟨λh=>h.elim id λh=>absurd h.1 (by omega),.inl⟩;by_cases G:0<=i
      . obtain⟨j,rfl⟩:∃j:Nat,i=(j:Int):=⟨i.toNat,by omega⟩;obtain⟨e,he⟩:=AG (l:=efV o f) (k:=j) (by omega);have H:∀P,(CsE o f (j-1) P\/((j:Int)-1 < -1/\P f/\QuZ f (efV o f) P))↔CsE o f j P\/(e.val=f.val/\(∀g∈e.cond,P g)/\QuZ f ((efV o f).drop (j+1)) P):=λP=>by
          constructor
          . rintro(⟨m,b,w,h3,h4⟩|⟨h,_⟩)
            . by_cases O:m=j
              . subst O;rw[he]at h3;obtain rfl:=R1 h3;exact .inr h4
              . exact .inl ⟨m,b,by omega,h3,h4⟩
            . omega
          . rintro(⟨m,b,w,h3⟩|h)
            . exact .inl ⟨m,b,by omega,h3⟩
            . exact .inl ⟨j,e,by omega,he,h⟩
        rw[if_pos G,BG,he,Ah];by_cases hv:e.val≠f.val
        . rw[if_pos hv,Ah];exact d c hN (r.imp λP _=>by rw[H];simp[hv])
        . rw[if_neg hv,Ah,BQ (by unfold X2;omega),Ah,show(j:Int)+1=((j+1:Nat):Int)by omega,Kx (by omega) (W3 _),Ah,Q3];have D:=p e (H2 he);obtain⟨a,r1,r2,r3⟩:=Ts A (f:=f) hN r (u:=(efV o f).drop (j+1)) (l0:=e.cond) (λb E=>p b (H8 E)) D.1;unfold Aa0 at r1;rw[r1,Ah];exact d a r2 (r3.imp λP _=>by rw[H];simp[N6.1 hv])
      . obtain rfl:i=-1:=(by omega);rw[if_neg G,show(-1:Int)+1=((0:Nat):Int)from rfl,BQ (by decide),Ah,Kx (by omega) (W3 _),Ah,Q3,List.drop_zero];obtain⟨a,r1,r2,r3⟩:=Ts A (f:=f) hN r (u:=efV o f) (l0:=[f]) p (HD.2 hf);unfold Aa0 at r1;rw[r1,Ah];refine d a r2 (r3.imp λP _=>or_congr ⟨λ⟨m,b,_,h⟩=>⟨m,b,by omega,h⟩,λ⟨m,b,_,h⟩=>⟨m,b,by omega,h⟩⟩ ?_);simp
    . rw[if_neg F];refine .inr (.inl ⟨_,rfl,hN,hI.imp λP _=>or_congr ⟨λ⟨m,b,_,h⟩=>⟨m,b,by omega,h⟩,λ⟨m,b,_,h⟩=>⟨m,b,by omega,h⟩⟩ ⟨λh=>h.2,λh=>⟨by omega,h⟩⟩⟩)
  . have hl:=A.2.2 s.2.1 hs.1 hs.2.1;rw[Bw,if_neg (by omega)];exact⟨_,rfl,_,rfl,hs.2⟩
theorem Qm{a b:List Fct}(c:Ps a)(hb:Ps b):ctn a b=true↔∀f∈b,f∈a:=by
  unfold ctn;rw[P7];refine⟨λh f hf=>?_,λh f hf=>decide_eq_true (LM c f (h f hf))⟩;have e:=of_decide_eq_true (h f hf);rcases PD a f.var with d|⟨g,hg,d,h3⟩
  . have:=(hb.1 f hf).2;omega
  . have:g=f:=(by cases g;cases f;simp_all);rwa[<- this]
theorem TS(D:ZW vars){l:List (List Fct)}(hl:l.length≤1024){Q:(Fct→Prop)→Prop}(h:Spc vars l Q):∃p,Gj l=some p∧p.length≤1024∧Spc vars p Q:=by
  unfold Gj;refine Cr (λk s=>s.length<=k/\(∀z∈s,z∈l)/\∀j x,j<k->l[j]?=some x->x∈s\/∃(i:Nat) (y:List Fct),l[i]?=some y/\(∀f∈y,f∈x)/\(y.length<x.length\/(y.length=x.length/\i<j))) (λ_=>False) ⟨W3 _,λz hz=>by simp at hz,λj x hj=>absurd hj (by omega)⟩ (λk x s hk F=>.inl ?_) (λs hs=>⟨_,rfl,V6 hs.1 hl,λz hz=>h.1 z (hs.2.1 z hz),λO G=>?_⟩) (λq H=>H.elim)
  . have u  := H2 hk;have I:=Az hk;have r:=h.1 x u;have L:=r.short D;obtain⟨M,I2,I3⟩:=F;rw[Ia (by omega) r.ps,Ah,BA];have E:∀w:List (List Fct),(∀z∈s,z∈w)->(x∈w\/∃(i:Nat) (y:List Fct),l[i]?=some y/\(∀f∈y,f∈x)/\(y.length<x.length\/(y.length=x.length/\i<k)))->∀j a,j<k+1->l[j]?=some a->a∈w\/∃(i:Nat) (y:List Fct),l[i]?=some y/\(∀f∈y,f∈a)/\(y.length<a.length\/(y.length=a.length/\i<j)):=λw m o j a hj A=>by
      by_cases e:j=k
      . subst e;rw[hk]at A;obtain rfl:=R1 A;exact o
      . exact(I3 j a (by omega) A).imp (m a) id
    refine JX ?_;refine WT (λ_ b=>b=true) (λb=>b=false/\∃(i:Nat) (y:List Fct),l[i]?=some y/\(∀f∈y,f∈x)/\(y.length<x.length\/(y.length=x.length/\i<k))) rfl (λj y b B hb=>?_) (λb hb=>?_)
    . have d:=h.1 y (H2 B);have N:=d.short D;by_cases m:(k:Int)≠(j:Int)
      . rw[if_pos m,Ia (by omega) d.ps,Ah,BA,KN,Ah];cases hc:ctn x y with
        |false=>rw[BT,Ah,BT];exact .inl ⟨_,rfl,hb⟩
        |true =>
          have c:=(Qm r.ps d.ps).1 hc;rw[BA];by_cases o:(y.length:Int)<(x.length:Int)
          . rw[if_pos o,Ah,BA];exact .inr ⟨_,rfl,rfl,j,y,B,c,.inl (by omega)⟩
          . rw[if_neg o];by_cases t:(j:Int)<(k:Int)
            . rw[if_pos t,Ah,BA];have:=(OJ d.ps).length_le_of_subset c;exact .inr ⟨_,rfl,rfl,j,y,B,c,.inr ⟨by omega,by omega⟩⟩
            . rw[if_neg t,Ah,BT];exact .inl ⟨_,rfl,hb⟩
      . rw[if_neg m,Ah,BT];exact .inl ⟨_,rfl,hb⟩
    . rw[Bw];rcases hb with rfl|⟨rfl,hb⟩
      . rw[BA,Hr (by omega),Ah,Cg (by simp;omega) (by simp;omega),Ah];refine⟨_,rfl,_,rfl,by simp;omega,λz hz=>?_,E _ (λz hz=>H0 _ hz) (.inl (by simp))⟩;rcases Q8.1 hz with hz|hz
        . exact I2 z hz
        . obtain rfl:=M0.1 hz;exact u
      . exact⟨_,BT,_,rfl,by omega,I2,E _ (λ_ h=>h) (.inr hb)⟩
  . rw[←  h.2 O G];refine⟨λ⟨z,m,o⟩=>⟨z,hs.2.1 z m,o⟩,λ⟨z,m,o⟩=>?_⟩;have C:∀(n:Nat)(j:Nat)(x:List Fct),x.length*(l.length+1)+j<n->l[j]?=some x->(∀g∈x,O g)->∃z∈s,∀g∈z,O g:=by
      intro n
      induction n with
      |zero=>intro j x hn;omega
      |succ n J =>
        intro j x hn hj u;rcases hs.2.2 j x (Az hj) hj with t|⟨i,y,t,h4,v⟩
        . exact⟨x,t,u⟩
        . refine J i y ?_ t λg K=>u g (h4 g K);have:=Az t;rcases v with v|⟨v,h6⟩
          . have:(y.length+1)*(l.length+1)<=x.length*(l.length+1):=G9 _ v;rw[W4,Nat.one_mul]at this;omega
          . rw[v];omega
    obtain⟨j,hj⟩:=H3 m;exact C _ j z (Q1 _) hj o
def Cmb(o:Opr)(p:List Fct)(a:Fct->Prop):Prop:=(∀g∈o.pre,a g)/\∀f∈p,Cse o f a
theorem Ks{t:Tsk}(v:TaskOk t)(u:ZW t.vars){i:Nat}{o:Opr}(A:t.ops[i]?=some o){p:List Fct}(B:FactsOk t.vars p):∃a,DL t (i:Int) p=some (a,⟨0⟩)∧a.length≤1024∧Spc t.vars a (Cmb o p):=by
  have C:∃a,FY t (i:Int) p=some (a,⟨0⟩)/\a.length<=1024/\Spc t.vars a (Cmb o p):=by
    unfold FY Cz Fg;have b:=v.2.2.2.2.2 i o A;have H:=Az A;have D:∀e∈o.effs,ZT t.vars e:=λe he=>by
      obtain⟨j,hj⟩:=H3 he;exact b.2.2.2.2.2 j e hj
    have I:=B.short u;have E:=FactsOk.short u b.2.2.2.2.1;rw[FH.2 v,Ah,if_neg (λh=>h rfl),if_neg (by omega),if_neg (by omega),Ah,BT,BI B,Ah,BA,BG,A,Ah,HT (by omega) (by omega),Ah];refine ND ?_;refine Cr (λk(s:List (List (List Fct)))=>s.length=p.length/\∀j g,j<k->p[j]?=some g->∃N,s[j]?=some N/\Spc t.vars N (Cse o g)) (λ_=>False) ⟨by simp,λj g hj=>absurd hj (by omega)⟩ (λk g s hk G=>.inl ?_) (λs hs=>?_) (λq w=>w.elim)
    . obtain⟨N,l1,l2⟩:=VT u D (by have:=b.2.2.1;omega) (B.1 k g hk);have c:=Az hk;obtain⟨y,hy⟩:=AG (l:=s) (k:=k) (by omega);rw[l1,Ah,if_neg (λh=>h rfl),hy,Ah];refine⟨_,rfl,by rw[R6];exact G.1,λj J hj d=>?_⟩;by_cases e:j=k
      . subst e;rw[hk]at d;obtain rfl:=R1 d;exact⟨N,F2 (by omega),l2⟩
      . obtain⟨K,h1,h2⟩:=G.2 j J (by omega) d;exact⟨K,by rw[H7 (by omega)];exact h1,h2⟩
    . rw[Bw,Hr (by omega),Ah];refine Cr (λk N=>N.length<=1024/\Spc t.vars N λO=>(∀g∈o.pre,O g)/\∀f∈p.take k,Cse o f O) (λ_=>False) ⟨by show 1<=1024;decide,(Tp b.2.2.2.2.1).imp λO _=>by simp⟩ (λk g N hk z=>.inl ?_) (λN z=>?_) (λq w=>w.elim)
      . have c:=Az hk;rw[F9]at c;obtain⟨g,hg⟩:=AG (l:=p) (k:=k) c;obtain⟨P,m1,m2⟩:=hs.2 k g (by rw[show p.length=_ from rfl];exact c) hg;rw[m1,Ah];obtain⟨r,r1,r2,r3⟩:=Tq u z.2 m2;rw[r1,Ah,if_neg (λh=>h rfl)];refine⟨_,rfl,r2,r3.imp λO _=>?_⟩;rw[M4,hg,and_assoc];simp only[L8,Q8,M0,or_imp,forall_and,forall_eq]
      . rw[Bw];refine⟨_,rfl,_,rfl,z.1,z.2.imp λO _=>?_⟩;rw[F9,Q3];exact X1
  unfold DL;obtain⟨l,l1,l2,l3⟩:=C;rw[l1,Ah,if_neg (λh=>h rfl)];obtain⟨m,m1,m2,m3⟩:=TS u l2 l3;dsimp only;rw[m1,Ah,if_pos (by omega),Ah];have n:=MX m;have L:=Ip m;refine ND ?_;refine Mn (λ_ s=>s=Dg m) rfl (λk s hk hs=>?_) (λs hs=>?_)
  . subst hs;obtain⟨x,hx⟩:=AG (l:=Dg m) (k:=k) (by omega);have F:=m3.1 x (n.mem_iff.1 (H2 hx));have:=F.short u;rw[hx,Ah,Hr (by omega),Ah,Ah,VJ hx];exact⟨_,rfl,rfl⟩
  . subst hs;rw[Bw];exact⟨_,rfl,_,rfl,by omega,λq w=>m3.1 q (n.mem_iff.1 w),λO M=>by simp only[n.mem_iff];exact m3.2 O M⟩
end
end
section
open Go Go.RowKit
attribute [local irreducible] ewp owp hwp hwq hws Ev Evg Fn X6 Y1 YZ YY
attribute [local irreducible] hwx Y6
noncomputable def Mp{α:Type}{tS c:TypeId}(mL:List α->Int->Int->Option Bool)(i:List α->Int->Int->Option (List α))(j:BxR tS c α)(k:Int):Option (BxR tS c α) :=
  bnd (lop (ρ:=(BxR tS c α)) (λ(b:Int×(BxR tS c α))=>bnd (X7 (b.1-1)) λd=>bnd (Aaf d 2) λa=>bnd (if a=b.1 then(some true)else(bnd (mL b.2.l b.1 a) λe=>if e=true then some false else some true):Option Bool) λf=>if f=true then(some (.brk (b.1,b.2)))else(bnd (i b.2.l a b.1) λg=>some (.next (a,(⟨g⟩:BxR tS c α))))) (k,j)) λres3=>fin res3 λ(h:Int×(BxR tS c α))=>some h.2
theorem WE{α : Type}[Rp α]{tS tE T tP : TypeId}[TPtr prog T tP][TOne prog tP]{fL fS : FuncId}[TMth prog T "Less" fL false][TMth prog T "Swap" fS false][Callable prog fL][Callable prog fS]{mL : List α→Int→Int→Option Bool}{mS : List α→Int→Int→Option (List α)}(cL : ∀{w : World}{A : Nat→Prop}, (∀k, A k→k<w.heap.size) → ∀{vx0 : Value}{x0 : List α}, Vb w A vx0 x0 → ∀{x1 : Int}, X2 x1 → ∀{x2 : Int}, X2 x2 → ∀{r : Bool}, mL x0 x1 x2=some r→Fn prog fL [vx0, (.int .i64 x1), (.int .i64 x2)] w fun v w'=>Ext w w'∧Vb w' (upA A w w') v r)(cS : ∀{w : World}{O : Lab}{A0 : Option Addr}{m0 c0 i0 : Nat}{x0 : List α}, Rw i0 w O tE (.slice A0 m0 c0) x0 → ∀{x1 : Int}, X2 x1 → ∀{x2 : Int}, X2 x2 → ∀{r : List α}, mS x0 x1 x2=some r→Fn prog fS [(.slice A0 m0 c0), (.int .i64 x1), (.int .i64 x2)] w fun v w' => ∃O', St (eT i0) w O w' O'∧Rw i0 w' O' tE (.slice A0 m0 c0) r){w : World}{O : Lab}{p0 i0 : Nat}{x0 : BxR tS tE α}(hx0 : Ob i0 w O (.pointer (some ⟨p0, 0, none⟩)) x0){x1 : Int}(rx1 : X2 x1){r : (BxR tS tE α)}(hm : Mp mL mS x0 x1=some r) :
    Fn prog 83 [(.iface T (.pointer (some ⟨p0,0,none⟩))),(.int .i64 x1)] w λv w'=>∃O',St (eT i0) w O w' O'/\Ob i0 w' O' (.pointer (some ⟨p0,0,none⟩)) r:=by
 obtain⟨O0,hE,hz0,hl2⟩:=ZB (w:=w) (O:=O) hx0.2;have hx0':=Ob.leave hx0 hz0 hl2 (j:=2) (by decide);have hB:Bm w O0 w O0:=Bm.refl;refine AC func83 rfl ntmps83 ?_;unfold Mp at hm;obtain⟨res3,hL4,hm⟩:=bs hm;refine AZ (aft res3 (λ(s5:Int×(BxR tS tE α))(x6:Unit)=>[]) (λs5 x6 w'=>∃O':Lab,Bm w O0 w' O'/\Ob 2 w' O' (.pointer (some ⟨p0,0,none⟩)) s5.2/\X2 s5.1)) ?_ ?_
 ·refine BK (Gy (σ:=Int×(BxR tS tE α)) (X:=Unit) hL4 (λ(s5:Int×(BxR tS tE α))(x6:Unit)=>[(0,(.iface T (.pointer (some ⟨p0,0,none⟩)))),(1,(.int .i64 s5.1))]) _ (λs5 x6 w'=>∃O':Lab,Bm w O0 w' O'/\Ob 2 w' O' (.pointer (some ⟨p0,0,none⟩)) s5.2/\X2 s5.1) _ () ⟨O0,hB,hx0',rx1⟩ B5 ?_);rintro s5 x6 w9 cc11 ⟨O10,hB,h21,r20⟩ hf13 hret14 hbrk15;refine BK (Ak (Am (Aw rfl ?_)));obtain⟨n22,e23,hf13⟩:=bs hf13;have r24:=(Bx e23);refine Gb (he:=e23) rfl rfl ?_;obtain⟨n25,e26,hf13⟩:=bs hf13;have r27:=PY e26 r24;refine WC (he:=e26) (hr:=r24) rfl rfl rfl (Ay rfl (o_z (Ak (Ak ?_))));obtain⟨y28,hy29,hf13⟩:=bs hf13;refine AZ (λl' w'=>∃(x31:Unit) (O':Lab),X5 l' [(0,(.iface T (.pointer (some ⟨p0,0,none⟩)))),(1,(.int .i64 s5.1)),(4,(.int .i64 n25)),(17,(.bool y28))]/\Bm w O0 w' O'/\Ob 2 w' O' (.pointer (some ⟨p0,0,none⟩)) s5.2) ?_ ?_
  ·refine zz ?_;refine EA rfl rfl (λc32=>?_) λc32=>?_
   ·replace hy29:=ip hy29 c32;refine zz ?_;obtain rfl:=sm hy29;exact⟨(),_,A5,hB,h21⟩
   replace hy29:=im hy29 c32;refine zz ?_;obtain⟨O33,v37,S34,ha36,h35,h38⟩:=BxR.opn h21 2 3 (by decide);obtain⟨A39,c40,rfl⟩:=h38.form;obtain⟨q42,e43,hy29⟩:=bs hy29;refine Iy (O:=O33) (A:=All w9) (R:=λw' F v=>Vb w' F v q42) (cL (λ_ h=>h) (h38).all r20 r27 e43) (FF (Blk.cell (i:=0) h35.1 rfl)) rfl rfl λv48 w44 O45 S46 h47=>?_;obtain rfl:=h47.bool;cases q42
   case false =>
    replace hy29:=iF hy29;refine zz ?_;replace h35:=h35.st S46;replace h38:=h38.st S46;obtain⟨O49,S50,hz52,ha53,h51⟩:=BxR.shut (x:=s5.2) (l0:=2) (by decide) h35 h38;obtain rfl:=sm hy29;replace hB:=((hB.st S34).st S46).st S50;exact⟨(),_,A5,hB,h51⟩
   replace hy29:=iT hy29;refine zz ?_;replace h35:=h35.st S46;replace h38:=h38.st S46;obtain⟨O54,S55,hz57,ha58,h56⟩:=BxR.shut (x:=s5.2) (l0:=2) (by decide) h35 h38;obtain rfl:=sm hy29;replace hB:=((hB.st S34).st S46).st S55;exact⟨(),_,A5,hB,h56⟩
  rintro l59 w60 ⟨x31,O61,hs62,hB,h21⟩;refine AM _ hs62 ?_;refine Bg rfl (λc63=>?_) (λc63=>?_)
  ·replace hf13:=ip hf13 c63;refine Cn ?_;obtain rfl:=sm hf13;exact show Exists _ from⟨_,(),hbrk15 _ rfl,trivial,_,hB,h21,r20⟩
  replace hf13:=im' hf13 c63;refine zz ?_;obtain⟨O64,v68,S65,ha67,h66,h69⟩:=BxR.opn h21 2 3 (by decide);obtain⟨A70,c71,rfl⟩:=h69.form;obtain⟨q73,e74,hf13⟩:=bs hf13;refine HV (O:=O64) (cS h69 r27 r20 e74) (FF (Blk.cell (i:=0) h66.1 rfl)) rfl rfl λv79 w75 O76 S77 h80=>?_;refine zz ?_;replace h66:=h66.st S77;obtain⟨O81,S82,hz84,ha85,h83⟩:=BxR.shut (x:=(⟨q73⟩:BxR tS tE α)) (l0:=2) (by decide) (by have q:=h66;rw[<- h80.len.1.symm]at q;exact q) h80.relen;obtain rfl:=sm hf13;replace hB:=((hB.st S65).st S77).st S82;exact show Exists _ from⟨_,(),rfl,B5,_,hB,h83,r27⟩
 rintro l86 w87 ⟨s90,x91,rfl,hs89,O88,hB,h21,r20⟩;replace hm:=AS hm;obtain rfl:=sm hm;obtain⟨O',hS',hz,hl⟩:=hE.leave (λq=>if q=2 then i0 else 0) rfl hB;exact ZN rfl  ⟨O',hS',(Ob.leave h21 hz (hl 2 (by decide) (by decide)) hx0.2)⟩
noncomputable def JI{α:Type}{tS f:TypeId}(mL:List α->Int->Int->Option Bool)(r:List α->Int->Int->Option (List α))(s:BxR tS f α)(p:Int)(q:Int):Option (Bool×(BxR tS f α)) :=
  bnd (lop (ρ:=Bool×(BxR tS f α)) (λ(b:Int×(BxR tS f α))=>bnd (X7 (2*b.1)) λj=>bnd (X7 (j+1)) λa=>bnd (if q<=a then(some true)else(if a<0 then(some true)else(some false)):Option Bool) λk=>if k=true then(some (.brk (b.1,b.2)))else(bnd (bnd (X7 (a+1)) λd=>bnd (if d<q then(bnd (mL b.2.l d a) λm=>if m=true then some true else some false)else(some false):Option Bool) λn=>if n=true then(some d)else(some a):Option Int) λe=>bnd (mL b.2.l e b.1) λo=>if o=true then bnd (r b.2.l b.1 e) λg=>some (.next (e,(⟨g⟩:BxR tS f α)))else some (.brk (b.1,b.2)))) (p,s)) λh=>fin h λ(c:Int×(BxR tS f α))=>bnd (if p<c.1 then(some true)else(some false):Option Bool) λi=>some (i,c.2)
theorem Tt{α : Type}[Rp α]{tS tE T tP : TypeId}[TPtr prog T tP][TOne prog tP]{fL fS : FuncId}[TMth prog T "Less" fL false][TMth prog T "Swap" fS false][Callable prog fL][Callable prog fS]{mL : List α→Int→Int→Option Bool}{mS : List α→Int→Int→Option (List α)}(cL : ∀{w : World}{A : Nat→Prop}, (∀k, A k→k<w.heap.size) → ∀{vx0 : Value}{x0 : List α}, Vb w A vx0 x0 → ∀{x1 : Int}, X2 x1 → ∀{x2 : Int}, X2 x2 → ∀{r : Bool}, mL x0 x1 x2=some r→Fn prog fL [vx0, (.int .i64 x1), (.int .i64 x2)] w fun v w'=>Ext w w'∧Vb w' (upA A w w') v r)(cS : ∀{w : World}{O : Lab}{A0 : Option Addr}{m0 c0 i0 : Nat}{x0 : List α}, Rw i0 w O tE (.slice A0 m0 c0) x0 → ∀{x1 : Int}, X2 x1 → ∀{x2 : Int}, X2 x2 → ∀{r : List α}, mS x0 x1 x2=some r→Fn prog fS [(.slice A0 m0 c0), (.int .i64 x1), (.int .i64 x2)] w fun v w' => ∃O', St (eT i0) w O w' O'∧Rw i0 w' O' tE (.slice A0 m0 c0) r){w : World}{O : Lab}{p0 i0 : Nat}{x0 : BxR tS tE α}(hx0 : Ob i0 w O (.pointer (some ⟨p0, 0, none⟩)) x0){x1 : Int}(rx1 : X2 x1){x2 : Int}(rx2 : X2 x2){r : Bool×(BxR tS tE α)}(hm : JI mL mS x0 x1 x2=some r) :
    Fn prog 75 [(.iface T (.pointer (some ⟨p0,0,none⟩))),(.int .i64 x1),(.int .i64 x2)] w λv w'=>∃O',St (eT i0) w O w' O'/\Ob i0 w' O' (.pointer (some ⟨p0,0,none⟩)) r.2/\Vb w' (Fr 0 w' O') v r.1:=by
 obtain⟨O0,hE,hz0,hl2⟩:=ZB (w:=w) (O:=O) hx0.2;have hx0':=Ob.leave hx0 hz0 hl2 (j:=2) (by decide);have hB:Bm w O0 w O0:=Bm.refl;refine AC func75 rfl ntmps75 ?_;unfold JI at hm;refine Ak (Am (Ay rfl (o_z (Ak (Am (Aw rfl (Ay rfl (o_z (Ak ?_)))))))));obtain⟨res4,hL5,hm⟩:=bs hm;refine AZ (aft res4 (λ(s6:Int×(BxR tS tE α))(x7:Unit)=>[(1,(.int .i64 x1)),(7,(.int .i64 s6.1))]) (λs6 x7 w'=>∃O':Lab,Bm w O0 w' O'/\Ob 2 w' O' (.pointer (some ⟨p0,0,none⟩)) s6.2/\X2 s6.1)) ?_ ?_
 ·refine BK (Gy (σ:=Int×(BxR tS tE α)) (X:=Unit) hL5 (λ(s6:Int×(BxR tS tE α))(x7:Unit)=>[(0,(.iface T (.pointer (some ⟨p0,0,none⟩)))),(1,(.int .i64 x1)),(2,(.int .i64 x2)),(7,(.int .i64 s6.1))]) _ (λs6 x7 w'=>∃O':Lab,Bm w O0 w' O'/\Ob 2 w' O' (.pointer (some ⟨p0,0,none⟩)) s6.2/\X2 s6.1) _ () ⟨O0,hB,hx0',rx1⟩ A5 ?_);rintro s6 x7 w10 cc12 ⟨O11,hB,h22,r21⟩ hf14 hret15 hbrk16;refine BK (Ak (Am (Aw rfl ?_)));obtain⟨n23,e24,hf14⟩:=bs hf14;have r25:=(Bx e24);refine TL (he:=e24) rfl rfl rfl ?_;obtain⟨n26,e27,hf14⟩:=bs hf14;have r28:=(Bx e27);refine Fw (he:=e27) rfl rfl (Ay rfl (o_z (Ak (Ak ?_))));obtain⟨y29,hy30,hf14⟩:=bs hf14;refine AZ (λl' w'=>∃(x32:Unit) (O':Lab),X5 l' [(0,(.iface T (.pointer (some ⟨p0,0,none⟩)))),(1,(.int .i64 x1)),(2,(.int .i64 x2)),(7,(.int .i64 s6.1)),(8,(.int .i64 n26)),(21,(.bool y29))]/\Bm w O0 w' O'/\Ob 2 w' O' (.pointer (some ⟨p0,0,none⟩)) s6.2) ?_ ?_
  ·refine zz ?_;refine EM rfl rfl (λc33=>?_) λc33=>?_
   ·replace hy30:=ip hy30 c33;refine zz ?_;obtain rfl:=sm hy30;exact⟨(),_,A9,hB,h22⟩
   replace hy30:=im hy30 c33;refine zz ?_;refine CL rfl rfl (λc34=>?_) λc34=>?_
   ·replace hy30:=ip hy30 c34;refine zz ?_;obtain rfl:=sm hy30;exact⟨(),_,A9,hB,h22⟩
   replace hy30:=im hy30 c34;refine zz ?_;obtain rfl:=sm hy30;exact⟨(),_,A9,hB,h22⟩
  rintro l35 w36 ⟨x32,O37,hs38,hB,h22⟩;refine AM _ hs38 ?_;refine Bg rfl (λc39=>?_) (λc39=>?_)
  ·replace hf14:=ip hf14 c39;refine Cn ?_;obtain rfl:=sm hf14;exact show Exists _ from⟨_,(),hbrk16 _ rfl,B5,_,hB,h22,r21⟩
  replace hf14:=im' hf14 c39;refine Bf (Ak (Am (Aw rfl (Ay rfl (o_z (Ak ?_))))));obtain⟨y40,hy41,hf14⟩:=bs hf14;refine AZ (λl' w'=>∃(x43:Unit) (O':Lab),X5 l' [(0,(.iface T (.pointer (some ⟨p0,0,none⟩)))),(1,(.int .i64 x1)),(2,(.int .i64 x2)),(7,(.int .i64 s6.1)),(9,(.int .i64 y40))]/\Bm w O0 w' O'/\Ob 2 w' O' (.pointer (some ⟨p0,0,none⟩)) s6.2/\X2 y40) ?_ ?_
  ·refine zz ?_;obtain⟨n45,e46,hy41⟩:=bs hy41;have r47:=(Bx e46);refine Fw (he:=e46) rfl rfl (Ay rfl (o_z (Ak ?_)));obtain⟨y48,hy49,hy41⟩:=bs hy41;refine AZ (λl' w'=>∃(x51:Unit) (O':Lab),X5 l' [(0,(.iface T (.pointer (some ⟨p0,0,none⟩)))),(1,(.int .i64 x1)),(2,(.int .i64 x2)),(7,(.int .i64 s6.1)),(9,(.int .i64 n26)),(10,(.int .i64 n45)),(33,(.bool y48))]/\Bm w O0 w' O'/\Ob 2 w' O' (.pointer (some ⟨p0,0,none⟩)) s6.2) ?_ ?_
   ·refine zz ?_;refine CL rfl rfl (λc52=>?_) λc52=>?_
    ·replace hy49:=ip hy49 c52;refine zz ?_;obtain⟨O53,v57,S54,ha56,h55,h58⟩:=BxR.opn h22 2 3 (by decide);obtain⟨A59,c60,rfl⟩:=h58.form;obtain⟨q62,e63,hy49⟩:=bs hy49;refine Iy (O:=O53) (A:=All w36) (R:=λw' F v=>Vb w' F v q62) (cL (λ_ h=>h) (h58).all r47 r28 e63) (FF (Blk.cell (i:=0) h55.1 rfl)) rfl rfl λv68 w64 O65 S66 h67=>?_;obtain rfl:=h67.bool;cases q62
     case false =>
      replace hy49:=iF hy49;refine zz ?_;replace h55:=h55.st S66;replace h58:=h58.st S66;obtain⟨O69,S70,hz72,ha73,h71⟩:=BxR.shut (x:=s6.2) (l0:=2) (by decide) h55 h58;obtain rfl:=sm hy49;replace hB:=((hB.st S54).st S66).st S70;exact⟨(),_,B3,hB,h71⟩
     replace hy49:=iT hy49;refine zz ?_;replace h55:=h55.st S66;replace h58:=h58.st S66;obtain⟨O74,S75,hz77,ha78,h76⟩:=BxR.shut (x:=s6.2) (l0:=2) (by decide) h55 h58;obtain rfl:=sm hy49;replace hB:=((hB.st S54).st S66).st S75;exact⟨(),_,B3,hB,h76⟩
    replace hy49:=im hy49 c52;refine zz ?_;obtain rfl:=sm hy49;exact⟨(),_,B3,hB,h22⟩
   rintro l79 w80 ⟨x51,O81,hs82,hB,h67⟩;refine AM _ hs82 ?_;refine Bg rfl (λc83=>?_) (λc83=>?_)
   ·replace hy41:=ip hy41 c83;refine zz ?_;obtain rfl:=sm hy41;exact⟨(),_,A7,hB,h67,r47⟩
   replace hy41:=im' hy41 c83;refine Bf ?_;obtain rfl:=sm hy41;exact⟨(),_,A7,hB,h67,r28⟩
  rintro l84 w85 ⟨x43,O86,hs87,hB,h62,r44⟩;refine AM _ hs87 ?_;refine zz ?_;obtain⟨O88,v92,S89,ha91,h90,h93⟩:=BxR.opn h62 2 3 (by decide);obtain⟨A94,c95,rfl⟩:=h93.form;obtain⟨q97,e98,hf14⟩:=bs hf14;refine Iy (O:=O88) (A:=All w85) (R:=λw' F v=>Vb w' F v q97) (cL (λ_ h=>h) (h93).all r44 r21 e98) (FF (Blk.cell (i:=0) h90.1 rfl)) rfl rfl λv103 w99 O100 S101 h102=>?_;obtain rfl:=h102.bool;cases q97
  case false =>
   replace hf14:=iF hf14;refine zz ?_;refine Cn ?_;replace h90:=h90.st S101;replace h93:=h93.st S101;obtain⟨O104,S105,hz107,ha108,h106⟩:=BxR.shut (x:=s6.2) (l0:=2) (by decide) h90 h93;obtain rfl:=sm hf14;replace hB:=((hB.st S89).st S101).st S105;exact show Exists _ from⟨_,(),hbrk16 _ rfl,B5,_,hB,h106,r21⟩
  replace hf14:=iT hf14;refine zz ?_;obtain⟨q109,e110,hf14⟩:=bs hf14;replace h90:=h90.st S101;replace h93:=h93.st S101;refine HV (O:=O100) (cS h93 r21 r44 e110) (FF (Blk.cell (i:=0) h90.1 rfl)) rfl rfl λv115 w111 O112 S113 h116=>?_;refine zz ?_;replace h90:=h90.st S113;obtain⟨O117,S118,hz120,ha121,h119⟩:=BxR.shut (x:=(⟨q109⟩:BxR tS tE α)) (l0:=2) (by decide) (by have q:=h90;rw[<- h116.len.1.symm]at q;exact q) h116.relen;obtain rfl:=sm hf14;replace hB:=(((hB.st S89).st S101).st S113).st S118;exact show Exists _ from⟨_,(),rfl,A5,_,hB,h119,r44⟩
 rintro l122 w123 ⟨s126,x127,rfl,hs125,O124,hB,h22,r21⟩;replace hm:=AS hm;refine AM _ hs125 ?_;refine Ak ?_;obtain⟨y128,hy129,hm⟩:=bs hm;refine AZ (λl' w'=>∃(x131:Unit) (O':Lab),X5 l' [(6,(.bool y128))]/\Bm w O0 w' O'/\Ob 2 w' O' (.pointer (some ⟨p0,0,none⟩)) s126.2) ?_ ?_
 ·refine zz ?_;refine Dc rfl rfl (λc132=>?_) λc132=>?_
  ·replace hy129:=ip hy129 c132;refine zz ?_;obtain rfl:=sm hy129;exact⟨(),_,Ad,hB,h22⟩
  replace hy129:=im hy129 c132;refine zz ?_;obtain rfl:=sm hy129;exact⟨(),_,Ad,hB,h22⟩
 rintro l133 w134 ⟨x131,O135,hs136,hB,h22⟩;refine AM _ hs136 ?_;refine AV ?_;obtain rfl:=sm hm;obtain⟨O',hS',hz,hl⟩:=hE.leave (λq=>if q=2 then i0 else 0) rfl hB;exact YW rfl (AD rfl) ⟨O',hS',(Ob.leave h22 hz (hl 2 (by decide) (by decide)) hx0.2),vBool⟩
end
end Go.Proofs.YtonclmjaphieiaaGreat

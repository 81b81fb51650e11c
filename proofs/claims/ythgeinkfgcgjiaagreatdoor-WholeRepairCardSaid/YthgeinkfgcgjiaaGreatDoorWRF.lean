/- WholeRepair returns true for every task, every list of texts and every weight, and these read behind the call as before. No conditions. -/
import Derived.Test.YthgeinkfgcgjiaaGreatDoorWRE
import Derived.Test.YthgeinkfgcgjiaaGreatDoorRows
set_option linter.unusedVariables false
set_option linter.unusedSimpArgs false
namespace Go.Proofs.YthgeinkfgcgjiaaGreatDoor
open Go Go.RowKit Go.Proofs.Tryz
section
open Go Go.RowKit
section
variable {P:Program}{n:Nat}{ops:Array Oper}{Q:X0}{rest:List Oper}{l:Env}{w:World}{ty:TypeId}{pos:String}{aft:Array Edge}
theorem XX{dst:Option Nat}{t u:TypeId}{k:IntKind}{x y:Operand}{a b c:Int}(d:opv l x=some (.int k a))(e:opv l y=some (.int k b))(he:AaN a b=some c):Ev P ⟨dst,.binOp .rem t x y u,ty,pos,aft,none⟩ l w (.int k c):=by
  obtain⟨f,h2,rfl⟩:=Pp he;exact Xa d e f h2
theorem YG{f:Nat}{t u:TypeId}{k:IntKind}{x y:Operand}{a b c:Int}(d:opv l x=some (.int k a))(e:opv l y=some (.int k b))(hd:Nat.blt f n=true)(g:owp P n ops Q rest ((f,.int k c)::l) w)(he:AaN a b=some c:=by assumption):owp P n ops Q (⟨some f,.binOp .rem t x y u,ty,pos,aft,none⟩::rest) l w:=AT (XX d e he) hd g
end
attribute [local irreducible] ewp owp hwp hwq hws Ev Evg Fn W6 X7 X4 X1
attribute [local irreducible] hwx YW hwz ZY
noncomputable def HC(i:Tsk):Option Bool :=
  bnd (JL i) λj=>if j=true then bnd (rng (ρ:=Bool) (λ(n:Nat)(d:Int)(o:Unit)=>bnd (if d<2 then(some true)else(if 4<d then(some true)else(some false)):Option Bool) λk=>if k=true then(some (.ret false))else(some (.next ()))) i.vars 0 ()) λa=>fin a λ(p:Unit)=>bnd (rng (ρ:=Bool) (λ(q:Nat)(l:Opr)(r:Unit)=>bnd (rng (ρ:=Ctl Unit Bool) (λ(s:Nat)(e:Eff)(f:Int)=>if 2<(e.cond.length:Int)then(some (.ret (.ret false)))else(if 0<(e.cond.length:Int)then(bnd (W5 (f+1)) λg=>some (.next g))else(some (.next f)))) l.effs 0 0) λb=>fin b λ(h:Int)=>if 3<h then(some (.ret false))else(some (.next ()))) i.ops 0 ()) λc=>fin c λ(m:Unit)=>some true else some false
section
attribute [local irreducible] Vb Lc Rw Ob
theorem RU{w:World}{A:Nat->Prop}(hA:∀k,A k->k<w.heap.size){e:Value}{n:Tsk}(p:Vb w A e n){r:Bool}(hm:HC n=some r) :
    Fn prog 4 [e] w λv w'=>Ext w w'/\Vb w' (upA A w w') v r:=by
 obtain⟨_,_,_⟩:=Db hA;apply CZ p;intros;refine AG func4 rfl ntmps4 ?_;unfold HC at hm;refine Aj (Ae (Gx 2 ?_));intros;refine Au rfl (o_z (Aj (Aj (Ae (Ep ?_)))));obtain⟨q,s0,hm⟩:=bs hm;refine DE rfl (QC (λ_ M=>M) zA s0) ?_;intros;cases q
 case false =>
  replace hm:=iF hm;refine Cx rfl (o_z (Am rfl (Aj (Ae (Au rfl (o_z (AD ?_)))))));obtain rfl:=sm hm;exact Ca
 replace hm:=iT hm;refine Cw rfl (o_z (Ah rfl (AE (Aj (Aj (Ae (AJ rfl (BN (AO rfl (Ar rfl (o_z ?_)))))))))));refine Fq (X:=Unit) hm [1,14] [] [] [] (λ_ _ _ _ t=>t) (λ_ _ _ _ t=>t) () ?_ ?_
 ·intro x y z _ _ _ _ c B _ s;intros;refine Aj (Ae (FW ?_));intros;refine Le (Au rfl (o_z (Aj ?_)));refine Dp (X:=Unit) c [1,14,15,16] [] [] [] (λ_ _ l0 _ t=>(25,.bool l0)::t) (λ_ _ _ _ t=>t) ?_ ?_
  ·intro l0 b;refine Ae (Ar rfl (Cp rfl rfl (λg=>?_) λg=>?_))
   ·replace b:=ip b g;refine Ar rfl (Ay rfl rfl (Ay rfl rfl (AV rfl rfl (o_z ?_))));obtain rfl:=sm b;exact Bb ()
   replace b:=im b g;refine Ar rfl (Az rfl rfl (Ar rfl (Az rfl rfl (Cq rfl rfl (λh=>?_) λh=>?_))))
   ·replace b:=ip b h;refine AS rfl rfl (o_z ?_);obtain rfl:=sm b;exact Bb ()
   replace b:=im b h;refine AS rfl rfl (o_z ?_);obtain rfl:=sm b;exact Bb ()
  intro l0 _ _ _ _ c;intros;refine BP ?_;refine Bx rfl (λi=>?_) (λi=>?_)
  ·replace c:=ip c i;refine Aj (Ae (Au rfl (o_z (AD ?_))));obtain rfl:=sm c;obtain rfl:=s _ rfl;exact Ca
  replace c:=im' c i;refine AE ?_;exact EI () c
 intro C _ _ _ _ hm;intros;refine BP ?_;refine Aj (Aj (Ae (AJ rfl (BN (AO rfl (Ar rfl (o_z ?_)))))));refine Fq (X:=Unit) hm [28] [] [3,4] [] (λ_ _ _ _ t=>t) (λ_ _ _ _ t=>t) () ?_ ?_
 ·intro D E F _ _ _ _ d G _ o;intros;refine Aj (Ae (FW ?_));intros;refine Gp ?_;refine Cv 3 ?_;intros;refine BW ?_;intros;refine o_z (Aj (Ae (Au rfl (o_z (Aj (Aj (Ae (AJ rfl (BN (AO rfl (Ar rfl (o_z ?_))))))))))));refine Fq (X:=Unit) d [28,29,30,35] [] [4] [] (λ_ _ f _ t=>(7,.int .i64 f)::t) (λ_ _ f _ t=>fI f::t) () ?_ ?_
  ·intro H I f _ _ _ _ a J _ u;intros;refine Aj (Ae (FW ?_));intros;refine Gp ?_;refine Cv 4 ?_;intros;refine BW ?_;intros;refine o_z (Aj (Aj (Ae (AJ rfl (BN (AO rfl (Cq rfl rfl (λj=>?_) λj=>?_)))))))
   ·replace a:=ip a j;refine o_z (Am rfl (Aj (Ae (Au rfl (o_z (AD ?_))))));obtain rfl:=sm a;obtain rfl:=u _ rfl;obtain rfl:=o _ rfl;exact Ca
   replace a:=im a j;refine o_z (Ah rfl (AE (Aj (Ae (AJ rfl (BN (AO rfl (Cq rfl rfl (λl=>?_) λl=>?_))))))))
   ·replace a:=ip a l;refine o_z (Am rfl (Ae (Ar rfl ?_)));obtain⟨K,p0,a⟩:=bs a;refine DM (he:=p0) rfl rfl (Au rfl (o_z ?_));exact EI () a
   replace a:=im a l;refine o_z (Ah rfl (AE ?_));exact EI () a
  intro L _ _ _ _ d;intros;refine BP ?_;refine Aj (Ae (Ar rfl (Cq rfl rfl (λm=>?_) λm=>?_)))
  ·replace d:=ip d m;refine o_z (Am rfl (Aj (Ae (Au rfl (o_z (AD ?_))))));obtain rfl:=sm d;obtain rfl:=o _ rfl;exact Ca
  replace d:=im d m;refine o_z (Ah rfl (AE ?_));exact EI () d
 intro z0 _ _ _ _ hm;intros;refine BP ?_;refine Aj (Ae (Au rfl (o_z (AD ?_))));obtain rfl:=sm hm;exact Ca
end
noncomputable def FB  : Option Bool :=
  bnd (Dc (⟨([2]:List Int),([0]:List Int),[(⟨0,1⟩:Fct)],[(⟨(⟨#[]⟩:ByteArray),2,([]:List Fct),[(⟨([]:List Fct),0,1⟩:Eff)]⟩:Opr)]⟩:Tsk) 2 10) λa=>bnd (FP a.1) λb=>bnd (if a.2.n=0 then(if b.2.n=0 then(if b.1=(⟨#[108,111,119,101,114,32,50,10,110,111,103,111,111,100,32,48,58,32,48,61,49,10]⟩:ByteArray)then(bnd (Dz (⟨([2]:List Int),([0]:List Int),[(⟨0,1⟩:Fct)],[(⟨(⟨#[]⟩:ByteArray),2,([]:List Fct),[(⟨([]:List Fct),0,1⟩:Eff)]⟩:Opr)]⟩:Tsk) a.1 100) λc=>if c.n=0 then(some true)else(some false))else(some false))else(some false))else(some false):Option Bool) λd=>some d
section
attribute [local irreducible] Vb Lc Rw Ob
theorem Ml{w:World}{A:Nat->Prop}(hA:∀k,A k->k<w.heap.size)  {r:Bool} (hm:FB  = some r) :
    Fn prog 17 [] w λv w'=>Ext w w'/\Vb w' (upA A w w') v r:=by
 obtain⟨_,_,_⟩:=Db hA;refine AG func17 rfl ntmps17 ?_;unfold FB at hm;refine Aj (Ae (Au rfl (o_z (Aj (Ae (GC 2 (([2]:List Int):List Int) ?_))))));intros;refine GC 3 (([0]:List Int):List Int) ?_;intros;refine am ?_;refine GC 4 ([(⟨0,1⟩:Fct)]:List Fct) ?_;intros;refine am ?_;refine GC 5 ([(⟨([]:List Fct),0,1⟩:Eff)]:List Eff) ?_;intros;refine am ?_;refine GP 5 ?_;intros;refine GC 6 ([(⟨(⟨#[]⟩:ByteArray),2,([]:List Fct),[(⟨([]:List Fct),0,1⟩:Eff)]⟩:Opr)]:List Opr) ?_;intros;refine am ?_;refine Cv 7 ?_;intros;refine BW ?_;intros;refine o_z (Aj (Ae (Ep ?_)));refine GP 2 ?_;intros;refine GP 3 ?_;intros;refine GP 4 ?_;intros;refine GP 6 ?_;intros;obtain⟨j,g0,hm⟩:=bs hm;refine KB rfl (Ks Fr.lt zV zI zI g0) λ_ _ _ _ _ g h=>?_;apply Dw g;intros;apply Dw h;intros;refine Ar rfl (AZ rfl rfl (AZ rfl rfl (Cv 8 ?_)));intros;refine BW ?_;intros;refine Au rfl (o_z (Aj (Ae (Ep ?_))));obtain⟨l,j0,hm⟩:=bs hm;refine SZ rfl (Lu (λ_ n=>n) zA j0) λ_ _ _ _ _ i l0=>?_;apply Dw i;intros;apply Dw l0;intros;refine Ar rfl (AZ rfl rfl (AZ rfl rfl (Au rfl (Au rfl (o_z (Aj (Dp (X:=Unit) hm [] [] [] [] (λ_ _ b _ t=>(0,.bool b)::t) (λ_ _ _ _ t=>t) ?_ ?_)))))))
 ·intro b a;refine Ae (Ar rfl (NY rfl rfl (λc=>?_) λc=>?_))
  ·replace a:=ip a c;refine Ar rfl (Az rfl rfl (Ar rfl (Az rfl rfl (NY rfl rfl (λd=>?_) λd=>?_))))
   ·replace a:=ip a d;refine AV rfl rfl (Ar rfl (Az rfl rfl (Ar rfl (Az rfl rfl (Qh rfl rfl rfl (λe=>?_) λe=>?_)))))
    ·replace a:=ip a e;refine AV rfl rfl (Ar rfl (Az rfl rfl (Ep (Az rfl rfl ?_))));refine Ep (Az rfl rfl ?_);obtain⟨m,m0,a⟩:=bs a;refine DE rfl (JY (λ_ n=>n) zA zA zI m0) ?_;intros;refine Az rfl rfl (NY rfl rfl (λf=>?_) λf=>?_)
     ·replace a:=ip a f;refine AV rfl rfl (Au rfl (o_z ?_));obtain rfl:=sm a;exact Bb ()
     replace a:=im a f;refine AV rfl rfl (Au rfl (o_z ?_));obtain rfl:=sm a;exact Bb ()
    replace a:=im a e;refine AV rfl rfl (Ar rfl (Ay rfl rfl (Ay rfl rfl (Ay rfl rfl (Ay rfl rfl (AS rfl rfl (Au rfl (o_z ?_))))))));obtain rfl:=sm a;exact Bb ()
   replace a:=im a d;refine AV rfl rfl (Ar rfl (Ay rfl rfl (Ay rfl rfl (AS rfl rfl (Ar rfl (Ay rfl rfl (Ay rfl rfl (Ay rfl rfl (Ay rfl rfl (AS rfl rfl (Au rfl (o_z ?_))))))))))));obtain rfl:=sm a;exact Bb ()
  replace a:=im a c;refine Ar rfl (Ay rfl rfl (Ay rfl rfl (AS rfl rfl (Ar rfl (Ay rfl rfl (Ay rfl rfl (AS rfl rfl (Ar rfl (Ay rfl rfl (Ay rfl rfl (Ay rfl rfl (Ay rfl rfl (AS rfl rfl (Au rfl ?_))))))))))))));refine o_z ?_;obtain rfl:=sm a;exact Bb ()
 intro b _ _ _ _ hm;intros;refine BP ?_;refine AD ?_;obtain rfl:=sm hm;exact Ca
end
noncomputable def EU  : Option Bool :=
  bnd (DP (⟨([2]:List Int),([0]:List Int),[(⟨0,1⟩:Fct)],[(⟨(⟨#[97]⟩:ByteArray),3,([]:List Fct),[(⟨([]:List Fct),0,1⟩:Eff)]⟩:Opr)]⟩:Tsk) [(⟨#[97]⟩:ByteArray)] 5 100) λa=>bnd (if a.2.2.n=0 then(if a.2.1=0 then(if a.1.cost=3 then(bnd (FB) λb=>if b=true then some true else some false)else(some false))else(some false))else(some false):Option Bool) λc=>some c
section
attribute [local irreducible] Vb Lc Rw Ob
theorem Jd{w:World}{A:Nat->Prop}(hA:∀k,A k->k<w.heap.size)  {r:Bool} (hm:EU  = some r) :
    Fn prog 6 [] w λv w'=>Ext w w'/\Vb w' (upA A w w') v r:=by
 obtain⟨_,_,_⟩:=Db hA;refine AG func6 rfl ntmps6 ?_;unfold EU at hm;refine Aj (Ae (Au rfl (o_z (Aj (Ae (GC 2 (([2]:List Int):List Int) ?_))))));intros;refine GC 3 (([0]:List Int):List Int) ?_;intros;refine am ?_;refine GC 4 ([(⟨0,1⟩:Fct)]:List Fct) ?_;intros;refine am ?_;refine GC 5 ([(⟨([]:List Fct),0,1⟩:Eff)]:List Eff) ?_;intros;refine am ?_;refine GP 5 ?_;intros;refine GC 6 ([(⟨(⟨#[97]⟩:ByteArray),3,([]:List Fct),[(⟨([]:List Fct),0,1⟩:Eff)]⟩:Opr)]:List Opr) ?_;intros;refine am ?_;refine Cv 7 ?_;intros;refine BW ?_;intros;refine o_z (Aj (Ae (Ep ?_)));refine GC 8 ([(⟨#[97]⟩:ByteArray)]:List ByteArray) ?_;intros;refine GP 2 ?_;intros;refine GP 3 ?_;intros;refine GP 4 ?_;intros;refine GP 6 ?_;intros;refine GP 8 ?_;intros;obtain⟨l0,f0,hm⟩:=bs hm;refine Qx rfl (Kv Fr.lt zV zV zI zI f0) λ_ _ _ _ _ _ f g h=>?_;apply Dw f;intros;apply Dw g;intros;apply Dw h;intros;refine Ar rfl (AZ rfl rfl (AZ rfl rfl (AZ rfl rfl (Cv 9 ?_))));intros;refine BW ?_;intros;refine Au rfl (Au rfl (o_z (Aj (Dp (X:=Unit) hm [] [] [] [] (λ_ _ b _ t=>(0,.bool b)::t) (λ_ _ _ _ t=>t) ?_ ?_))))
 ·intro b a;refine Ae (Ar rfl (NY rfl rfl (λc=>?_) λc=>?_))
  ·replace a:=ip a c;refine Ar rfl (Az rfl rfl (Ar rfl (Az rfl rfl (EH rfl rfl (λd=>?_) λd=>?_))))
   ·replace a:=ip a d;refine AV rfl rfl (Ar rfl (Az rfl rfl (AJ rfl (Az rfl rfl (BN (Az rfl rfl (EH rfl rfl (λe=>?_) λe=>?_)))))))
    ·replace a:=ip a e;refine AV rfl rfl (Ar rfl (Az rfl rfl ?_));obtain⟨i,k0,a⟩:=bs a;refine DE rfl (Ml (λ_ j=>j) k0) ?_;intros;cases i
     case false =>
      replace a:=iF a;refine AV rfl rfl (Au rfl (o_z ?_));obtain rfl:=sm a;exact Bb ()
     replace a:=iT a;refine AV rfl rfl (Au rfl (o_z ?_));obtain rfl:=sm a;exact Bb ()
    replace a:=im a e;refine AV rfl rfl (Ar rfl (Ay rfl rfl (AS rfl rfl (Au rfl (o_z ?_)))));obtain rfl:=sm a;exact Bb ()
   replace a:=im a d;refine AV rfl rfl (Ar rfl (Ay rfl rfl (Ay rfl rfl (Ay rfl rfl (AS rfl rfl (Ar rfl (Ay rfl rfl (AS rfl rfl (Au rfl (o_z ?_))))))))));obtain rfl:=sm a;exact Bb ()
  replace a:=im a c;refine Ar rfl (Ay rfl rfl (Ay rfl rfl (AS rfl rfl (Ar rfl (Ay rfl rfl (Ay rfl rfl (Ay rfl rfl (AS rfl rfl (Ar rfl (Ay rfl rfl (AS rfl rfl (Au rfl (o_z ?_)))))))))))));obtain rfl:=sm a;exact Bb ()
 intro b _ _ _ _ hm;intros;refine BP ?_;refine AD ?_;obtain rfl:=sm hm;exact Ca
end
noncomputable def Gz(b:Tsk)(k:List ByteArray)(F:Byt):Option Bool :=
  bnd (bnd (HC b) λz=>if z=true then if 5<(b.ops.length:Int)then(some true)else(if 3<(k.length:Int)then(some true)else(bnd (HB b.vars 12) λA=>if 12<A then(some true)else(bnd (EU) λB=>if B=true then some false else some true)))else some true:Option Bool) λC=>if C=true then(bnd (bnd (EU) λD=>if D=true then some true else some false:Option Bool) λE=>some E)else(bnd (AaN F.n 6) λj=>bnd (DP b k j 1000) λa=>bnd (Fm b k j) λe=>bnd (if a.2.2.n≠0 then(some true)else(if e.2.n≠0 then(some true)else(some false)):Option Bool) λl=>if l=true then(bnd (bnd (Hk (⟨a.2.2.n⟩:Err)) λm=>bnd (Hk (⟨e.2.n⟩:Err)) λo=>if m=o then(some true)else(some false):Option Bool) λp=>some p)else(bnd (if a.1.verdict=1 then(bnd (Gw b b.init a.1.plan) λf=>bnd (if(!f.2)=true then(some true)else(bnd (W5 (j*a.2.1)) λq=>bnd (W5 (f.1+q)) λr=>if r≠a.1.cost then(some true)else(some false)):Option Bool) λs=>if s=true then(some (.ret false))else(some (.done a.1.cost)))else(if a.1.verdict=2 then(some (.done (-1)))else(some (.ret false))):Option (Fin Int Bool)) λt=>fin t λ(u:Int)=>bnd (Dc e.1 u 4096) λg=>if g.2.n≠0 then(some false)else(bnd (Dz e.1 g.1 1048576) λh=>bnd (if h.n≠0 then(bnd (HS (⟨h.n⟩:Err) 10) λv=>if v=true then some false else some true)else(some false):Option Bool) λw=>if w=true then(some false)else(bnd (FF b k) λc=>if c.2.2.n≠0 then(some false)else(bnd (Gw b b.init c.1) λi=>bnd (if i.2=true then(if c.2.1=(k.length:Int)then(if a.1.verdict≠1 then(some true)else(if i.1<a.1.cost then(some true)else(some false)))else(some false))else(some false):Option Bool) λx=>if x=true then(some false)else(bnd (CV b 1000) λd=>bnd (if d.2.n=0 then(if d.1.verdict=a.1.verdict then(if d.1.cost<=a.1.cost then(some true)else(some false))else(some false))else(some false):Option Bool) λy=>some y))))))
section
attribute [local irreducible] Vb Lc Rw Ob
set_option maxHeartbeats 1000000 in
theorem MO{w:World}{A:Nat->Prop}(hA:∀k,A k->k<w.heap.size){vx0:Value}{x0:Tsk}(s2:Vb w A vx0 x0){vx1:Value}{x1:List ByteArray}(t2:Vb w A vx1 x1){x2:Byt}{r:Bool}(hm:Gz x0 x1 x2=some r) :
    Fn prog 3 [vx0,vx1,(.int .u8 x2.n)] w λv w'=>Ext w w'/\Vb w' (upA A w w') v r:=by
 obtain⟨_,_,_⟩:=Db hA;apply CZ s2;intros;apply CZ t2;intros;refine AG func3 rfl ntmps3 ?_;unfold Gz at hm;refine Aj (Ae (Gx 2 ?_));intros;refine Au rfl (o_z (Aj (Aj (Dp (X:=Unit) hm [1,2,3] [] [] [] (λ_ _ m1 _ t=>(46,.bool m1)::t) (λ_ _ _ _ t=>t) ?_ ?_))))
 ·intro m1 a0;refine Ae (Ep ?_);obtain⟨u2,v2,a0⟩:=bs a0;refine DE rfl (RU (λ_ h=>h) zA v2) ?_;intros;cases u2
  case false =>
   replace a0:=iF a0;refine Cx rfl (Ar rfl (Ay rfl rfl (Ay rfl rfl (Ay rfl rfl (Ay rfl rfl (AV rfl rfl (Ar rfl (Ay rfl rfl (Ay rfl rfl (Ay rfl rfl (AV rfl rfl (Ar rfl (Ay rfl rfl (Ay rfl rfl ?_))))))))))))));refine Ay rfl rfl (Ay rfl rfl (AV rfl rfl (Ar rfl (Ay rfl rfl (Ay rfl rfl (AV rfl rfl (o_z ?_)))))));obtain rfl:=sm a0;exact Bb ()
  replace a0:=iT a0;refine Cw rfl (Ar rfl (Az rfl rfl (AJ rfl (Az rfl rfl (BN (Az rfl rfl (AO rfl (Az rfl rfl (Cq rfl rfl (λn1=>?_) λn1=>?_)))))))))
  ·replace a0:=ip a0 n1;refine AS rfl rfl (Ar rfl (Ay rfl rfl (Ay rfl rfl (Ay rfl rfl (AV rfl rfl (Ar rfl (Ay rfl rfl (Ay rfl rfl (Ay rfl rfl (Ay rfl rfl (AV rfl rfl (Ar rfl (Ay rfl rfl (Ay rfl rfl ?_))))))))))))));refine AV rfl rfl (o_z ?_);obtain rfl:=sm a0;exact Bb ()
  replace a0:=im a0 n1;refine AS rfl rfl (Ar rfl (Az rfl rfl (Ar rfl (Az rfl rfl (AO rfl (Az rfl rfl (Cq rfl rfl (λo1=>?_) λo1=>?_)))))))
  ·replace a0:=ip a0 o1;refine AS rfl rfl (Ar rfl (Ay rfl rfl (Ay rfl rfl (Ay rfl rfl (Ay rfl rfl (AV rfl rfl (Ar rfl (Ay rfl rfl (Ay rfl rfl (AV rfl rfl (o_z ?_)))))))))));obtain rfl:=sm a0;exact Bb ()
  replace a0:=im a0 o1;refine AS rfl rfl (Ar rfl (Az rfl rfl (AJ rfl (Az rfl rfl (BN (Az rfl rfl ?_))))));obtain⟨t3,w2,a0⟩:=bs a0;refine DE rfl (RN (λ_ h=>h) zA zI w2) ?_;intros;refine Az rfl rfl (Cq rfl rfl (λp1=>?_) λp1=>?_)
  ·replace a0:=ip a0 p1;refine AS rfl rfl (Ar rfl (Ay rfl rfl (Ay rfl rfl (AV rfl rfl (o_z ?_)))));obtain rfl:=sm a0;exact Bb ()
  replace a0:=im a0 p1;refine AS rfl rfl (Ar rfl (Az rfl rfl ?_));obtain⟨y2,z2,a0⟩:=bs a0;refine DE rfl (Jd (λ_ h=>h) z2) ?_;intros;cases y2
  case false =>
   replace a0:=iF a0;refine Az rfl rfl (Cx rfl (AS rfl rfl (o_z ?_)));obtain rfl:=sm a0;exact Bb ()
  replace a0:=iT a0;refine Az rfl rfl (Cw rfl (AS rfl rfl (o_z ?_)));obtain rfl:=sm a0;exact Bb ()
 intro m1 _ _ _ _ hm;intros;refine BP ?_;refine Bx rfl (λq1=>?_) (λq1=>?_)
 ·replace hm:=ip hm q1;refine Aj (Dp (X:=Unit) hm [] [] [] [] (λ_ _ r1 _ t=>(6,.bool r1)::t) (λ_ _ _ _ t=>t) ?_ ?_)
  ·intro r1 i0;refine Ae ?_;obtain⟨a3,b3,i0⟩:=bs i0;refine DE rfl (Jd (λ_ h=>h) b3) ?_;intros;cases a3
   case false =>
    replace i0:=iF i0;refine Au rfl (o_z ?_);obtain rfl:=sm i0;exact Bb ()
   replace i0:=iT i0;refine Au rfl (o_z ?_);obtain rfl:=sm i0;exact Bb ()
  intro r1 _ _ _ _ hm;intros;refine BP ?_;refine AD ?_;obtain rfl:=sm hm;exact Ca
 replace hm:=im' hm q1;refine AE (Aj (Ae (Ar rfl ?_)));obtain⟨u3,c3,hm⟩:=bs hm;refine YG (he:=c3) rfl rfl rfl (YM (hr:=zI) rfl rfl (Au rfl (o_z (Aj (Ae (Ep (Ar rfl (Ar rfl ?_))))))));obtain⟨v3,d3,hm⟩:=bs hm;refine Qx rfl (Kv Fr.lt zV zV zI zI d3) λ_ _ _ _ _ _ e3 f3 g3=>?_;apply Dw e3;intros;apply Dw f3;intros;apply Dw g3;intros;refine Ar rfl (AZ rfl rfl (AZ rfl rfl (AZ rfl rfl (Cv 3 ?_))));intros;refine BW ?_;intros;refine Au rfl (Au rfl (o_z (Aj (Ae (Ep (Ar rfl (Ar rfl ?_)))))));obtain⟨w3,h3,hm⟩:=bs hm;refine KB rfl (Nz Fr.lt zV zV zI h3) λ_ _ _ _ _ i3 j3=>?_;apply Dw i3;intros;apply Dw j3;intros;refine Ar rfl (AZ rfl rfl (AZ rfl rfl (Cv 4 ?_)));intros;refine BW ?_;intros;refine Au rfl (o_z (Aj (Aj (Dp (X:=Unit) hm [1,3,7,8,9,10,11,12] [] [] [] (λ_ _ m0 _ t=>(71,.bool m0)::t) (λ_ _ _ _ t=>t) ?_ ?_))))
 ·intro m0 g0;refine Ae (Ar rfl (Cy rfl (λn0=>?_) λn0=>?_))
  ·replace g0:=ip g0 n0;refine Ar rfl (Ay rfl rfl (Ay rfl rfl (AV rfl rfl (o_z ?_))));obtain rfl:=sm g0;exact Bb ()
  replace g0:=im g0 n0;refine Ar rfl (Az rfl rfl (Ar rfl (Az rfl rfl (Cy rfl (λo0=>?_) λo0=>?_))))
  ·replace g0:=ip g0 o0;refine AS rfl rfl (o_z ?_);obtain rfl:=sm g0;exact Bb ()
  replace g0:=im g0 o0;refine AS rfl rfl (o_z ?_);obtain rfl:=sm g0;exact Bb ()
 intro m0 _ _ _ _ hm;intros;refine BP ?_;refine Bx rfl (λp0=>?_) (λp0=>?_)
 ·replace hm:=ip hm p0;refine Aj (Dp (X:=Unit) hm [] [] [] [] (λ_ _ q0 _ t=>(6,.bool q0)::t) (λ_ _ _ _ t=>t) ?_ ?_)
  ·intro q0 h0;refine Ae (Ar rfl ?_);obtain⟨k3,s1,h0⟩:=bs h0;refine DE rfl (Lh (λ_ h=>h) zI s1) ?_;intros;refine ac ?_;obtain⟨l3,t1,h0⟩:=bs h0;refine DE rfl (Lh (λ_ h=>h) zI t1) ?_;intros;refine EH rfl rfl (λr0=>?_) λr0=>?_
   ·replace h0:=ip h0 r0;refine Au rfl (o_z ?_);obtain rfl:=sm h0;exact Bb ()
   replace h0:=im h0 r0;refine Au rfl (o_z ?_);obtain rfl:=sm h0;exact Bb ()
  intro q0 _ _ _ _ hm;intros;refine BP ?_;refine AD ?_;obtain rfl:=sm hm;exact Ca
 replace hm:=im' hm p0;refine AE (Aj (Ae (AJ rfl (BN (Au rfl (o_z (Aj ?_)))))));refine Ws (X:=Unit) hm [1,3,8,11] [] [] [] (λ_ _ l0 _ t=>(13,.int .i64 l0)::t) (λ_ _ l0 _ t=>fI l0::t) ?_ ?_
 ·intro m3 c0 hr147;refine Aj (Ae (AJ rfl (BN (o_z (BC (Aj (Ae (EH rfl rfl (λs0=>?_) λs0=>?_))))))))
  ·replace c0:=ip c0 s0;refine Au rfl (o_z (Am rfl (Aj (Ae (Ep (AJ rfl ?_))))));refine BN (AJ rfl ?_);refine BN ?_;obtain⟨u1,v1,c0⟩:=bs c0;refine SZ rfl (MV (λ_ h=>h) zA zA zA v1) λ_ _ _ _ _ w1 y1=>?_;apply Dw w1;intros;apply Dw y1;intros;refine Ar rfl (AZ rfl rfl (AZ rfl rfl (Au rfl (Au rfl (o_z (Aj (Dp (X:=Unit) c0 [1,3,8,11,13] [] [] [] (λ_ _ t0 _ t=>(103,.bool t0)::t) (λ_ _ _ _ t=>t) ?_ ?_)))))))
   ·intro t0 e0;refine Ae (Ar rfl (Em rfl (Ar rfl ?_)));rcases E2 (!u1.2)with j0|j0
    ·(try simp only[j0]);replace e0:=ip e0 j0;refine Ay rfl rfl (Ay rfl rfl (Ay rfl rfl (Ay rfl rfl (Ay rfl rfl (Ay rfl rfl (Ay rfl rfl (Ay rfl rfl (AV rfl rfl (o_z ?_)))))))));obtain rfl:=sm e0;exact Bb ()
    (try simp only[j0]);replace e0:=im' e0 j0;refine Az rfl rfl (Ar rfl (Az rfl rfl (Ar rfl (Az rfl rfl (Ar rfl (Az rfl rfl ?_))))));obtain⟨n3,z1,e0⟩:=bs e0;refine Mv (he:=z1) rfl rfl rfl (Az rfl rfl ?_);obtain⟨o3,a2,e0⟩:=bs e0;refine DM (he:=a2) rfl rfl (Az rfl rfl (AJ rfl (Az rfl rfl (BN (Az rfl rfl (Gm rfl rfl (λu0=>?_) λu0=>?_))))))
    ·replace e0:=ip e0 u0;refine AS rfl rfl (o_z ?_);obtain rfl:=sm e0;exact Bb ()
    replace e0:=im e0 u0;refine AS rfl rfl (o_z ?_);obtain rfl:=sm e0;exact Bb ()
   intro t0 _ _ _ _ c0;intros;refine BP ?_;refine Bx rfl (λv0=>?_) (λv0=>?_)
   ·replace c0:=ip c0 v0;refine Aj (Ae (Au rfl (o_z (AD ?_))));obtain rfl:=sm c0;obtain rfl:=hr147 _ rfl;exact Ca
   replace c0:=im' c0 v0;refine AE ?_;exact XM () c0
  replace c0:=im c0 s0;refine Au rfl (o_z (Ah rfl (Aj (Ae (EH rfl rfl (λw0=>?_) λw0=>?_)))))
  ·replace c0:=ip c0 w0;refine Au rfl (o_z (Am rfl (Ae (Au rfl (o_z ?_)))));exact XM () c0
  replace c0:=im c0 w0;refine Au rfl (o_z (Ah rfl (Aj (Ae (Au rfl (o_z (AD ?_)))))));obtain rfl:=sm c0;obtain rfl:=hr147 _ rfl;exact Ca
 intro l0 _ _ _ _ hm;intros;refine BP ?_;refine Aj (Ae (Ep (Ar rfl ?_)));obtain⟨p3,b2,hm⟩:=bs hm;refine KB rfl (Ks Fr.lt zV zI zI b2) λ_ _ _ _ _ c2 d2=>?_;apply Dw c2;intros;apply Dw d2;intros;refine Ar rfl (AZ rfl rfl (AZ rfl rfl (Cv 5 ?_)));intros;refine BW ?_;intros;refine Au rfl (o_z (Aj (Aj (Ae (Ar rfl (Cy rfl (λy0=>?_) λy0=>?_))))))
 ·replace hm:=ip hm y0;refine o_z (Am rfl (Aj (Ae (Au rfl (o_z (AD ?_))))));obtain rfl:=sm hm;exact Ca
 replace hm:=im hm y0;refine o_z (Ah rfl (AE (Aj (Aj (Ae (Ep ?_))))));refine Ep ?_;obtain⟨q3,e2,hm⟩:=bs hm;refine DE rfl (JY (λ_ h=>h) zA zA zI e2) ?_;intros;refine Au rfl (o_z (Aj (Dp (X:=Unit) hm [1,3,8] [] [] [] (λ_ _ z0 _ t=>(123,.bool z0)::t) (λ_ _ _ _ t=>t) ?_ ?_)))
 ·intro z0 f0;refine Ae (Ar rfl (Cy rfl (λa1=>?_) λa1=>?_))
  ·replace f0:=ip f0 a1;refine Ar rfl (Az rfl rfl (Ar rfl (Az rfl rfl ?_)));obtain⟨f2,g2,f0⟩:=bs f0;refine DE rfl (Um (λ_ h=>h) zI zI g2) ?_;intros;cases f2
   case false =>
    replace f0:=iF f0;refine Az rfl rfl (Cx rfl (AV rfl rfl (o_z ?_)));obtain rfl:=sm f0;exact Bb ()
   replace f0:=iT f0;refine Az rfl rfl (Cw rfl (AV rfl rfl (o_z ?_)));obtain rfl:=sm f0;exact Bb ()
  replace f0:=im f0 a1;refine Ar rfl (Ay rfl rfl (Ay rfl rfl (Ay rfl rfl (AS rfl rfl (o_z ?_)))));obtain rfl:=sm f0;exact Bb ()
 intro z0 _ _ _ _ hm;intros;refine BP ?_;refine Bx rfl (λb1=>?_) (λb1=>?_)
 ·replace hm:=ip hm b1;refine Aj (Ae (Au rfl (o_z (AD ?_))));obtain rfl:=sm hm;exact Ca
 replace hm:=im' hm b1;refine AE (Aj (Ae (Ep (Ar rfl ?_))));obtain⟨r3,h2,hm⟩:=bs hm;refine Qx rfl (OB Fr.lt zV zV h2) λ_ _ _ _ _ _ i2 j2 k2=>?_;apply Dw i2;intros;apply Dw j2;intros;apply Dw k2;intros;refine Ar rfl (AZ rfl rfl (AZ rfl rfl (AZ rfl rfl (Au rfl (Au rfl (Au rfl (o_z (Aj (Aj (Ae (Ar rfl (Cy rfl (λc1=>?_) λc1=>?_))))))))))))
 ·replace hm:=ip hm c1;refine o_z (Am rfl (Aj (Ae (Au rfl (o_z (AD ?_))))));obtain rfl:=sm hm;exact Ca
 replace hm:=im hm c1;refine o_z (Ah rfl (AE (Aj (Aj (Ae (Ep (AJ rfl ?_)))))));refine BN (Ar rfl ?_);obtain⟨l2,m2,hm⟩:=bs hm;refine SZ rfl (MV (λ_ h=>h) zA zA zA m2) λ_ _ _ _ _ n2 o2=>?_;apply Dw n2;intros;apply Dw o2;intros;refine Ar rfl (AZ rfl rfl (AZ rfl rfl (Au rfl (Au rfl (o_z (Aj (Dp (X:=Unit) hm [3,8] [] [] [] (λ_ _ d1 _ t=>(158,.bool d1)::t) (λ_ _ _ _ t=>t) ?_ ?_)))))))
 ·intro d1 b0;refine Ae (Ar rfl (Ar rfl ?_));rcases E2 l2.2 with k0|k0
  ·(try simp only[k0]);replace b0:=ip b0 k0;refine Az rfl rfl (Ar rfl (Az rfl rfl (Ar rfl (Az rfl rfl (AO rfl (Az rfl rfl (EH rfl rfl (λe1=>?_) λe1=>?_)))))))
   ·replace b0:=ip b0 e1;refine AV rfl rfl (Ar rfl (Az rfl rfl (AJ rfl (Az rfl rfl (BN (Az rfl rfl (Gm rfl rfl (λf1=>?_) λf1=>?_)))))))
    ·replace b0:=ip b0 f1;refine Az rfl rfl (Ar rfl (Ay rfl rfl (Ay rfl rfl (Ay rfl rfl (Ay rfl rfl (Az rfl rfl (AV rfl rfl (AV rfl rfl (o_z ?_)))))))));obtain rfl:=sm b0;exact Bb ()
    replace b0:=im b0 f1;refine Az rfl rfl (Ar rfl (Az rfl rfl (AJ rfl (Az rfl rfl (BN (Az rfl rfl (Ar rfl (Az rfl rfl (Cq rfl rfl (λg1=>?_) λg1=>?_)))))))))
    ·replace b0:=ip b0 g1;refine Az rfl rfl (AS rfl rfl (AV rfl rfl (o_z ?_)));obtain rfl:=sm b0;exact Bb ()
    replace b0:=im b0 g1;refine Az rfl rfl (AS rfl rfl (AV rfl rfl (o_z ?_)));obtain rfl:=sm b0;exact Bb ()
   replace b0:=im b0 e1;refine AV rfl rfl (Ar rfl (Ay rfl rfl (Ay rfl rfl (Ay rfl rfl (Ay rfl rfl (Ay rfl rfl (Ay rfl rfl (Ay rfl rfl (Ay rfl rfl (Ay rfl rfl (AS rfl rfl (o_z ?_))))))))))));obtain rfl:=sm b0;exact Bb ()
  (try simp only[k0]);replace b0:=im' b0 k0;refine Ay rfl rfl (Ay rfl rfl (Ay rfl rfl (Ay rfl rfl (AS rfl rfl (Ar rfl (Ay rfl rfl (Ay rfl rfl (Ay rfl rfl (Ay rfl rfl (Ay rfl rfl (Ay rfl rfl (Ay rfl rfl (Ay rfl rfl (Ay rfl rfl ?_))))))))))))));refine AS rfl rfl (o_z ?_);obtain rfl:=sm b0;exact Bb ()
 intro d1 _ _ _ _ hm;intros;refine BP ?_;refine Bx rfl (λh1=>?_) (λh1=>?_)
 ·replace hm:=ip hm h1;refine Aj (Ae (Au rfl (o_z (AD ?_))));obtain rfl:=sm hm;exact Ca
 replace hm:=im' hm h1;refine AE (Aj (Ae (Ep ?_)));obtain⟨s3,p2,hm⟩:=bs hm;refine KB rfl (Jc Fr.lt zV zI p2) λ_ _ _ _ _ q2 r2=>?_;apply Dw q2;intros;apply Dw r2;intros;refine Ar rfl (AZ rfl rfl (AZ rfl rfl (Cv 6 ?_)));intros;refine BW ?_;intros;refine Au rfl (o_z (Aj (Dp (X:=Unit) hm [] [] [] [] (λ_ _ i1 _ t=>(6,.bool i1)::t) (λ_ _ _ _ t=>t) ?_ ?_)))
 ·intro i1 d0;refine Ae (Ar rfl (NY rfl rfl (λj1=>?_) λj1=>?_))
  ·replace d0:=ip d0 j1;refine Ar rfl (Az rfl rfl (AJ rfl (Az rfl rfl (BN (Az rfl rfl (AJ rfl (Az rfl rfl ?_)))))));refine BN (Az rfl rfl (EH rfl rfl (λk1=>?_) λk1=>?_))
   ·replace d0:=ip d0 k1;refine AV rfl rfl (Ar rfl (Az rfl rfl (AJ rfl (Az rfl rfl (BN (Az rfl rfl (AJ rfl (Az rfl rfl ?_))))))));refine BN (Az rfl rfl (Mt rfl rfl rfl (λl1=>?_) λl1=>?_))
    ·replace d0:=ip d0 l1;refine AV rfl rfl (Au rfl (o_z ?_));obtain rfl:=sm d0;exact Bb ()
    replace d0:=im d0 l1;refine AV rfl rfl (Au rfl (o_z ?_));obtain rfl:=sm d0;exact Bb ()
   replace d0:=im d0 k1;refine AV rfl rfl (Ar rfl (Ay rfl rfl (Ay rfl rfl (Ay rfl rfl (Ay rfl rfl (Ay rfl rfl (AS rfl rfl (Au rfl (o_z ?_)))))))));obtain rfl:=sm d0;exact Bb ()
  replace d0:=im d0 j1;refine Ar rfl (Ay rfl rfl (Ay rfl rfl (Ay rfl rfl (Ay rfl rfl (Ay rfl rfl (AS rfl rfl (Ar rfl (Ay rfl rfl (Ay rfl rfl (Ay rfl rfl (Ay rfl rfl (Ay rfl rfl (AS rfl rfl (Au rfl ?_))))))))))))));refine o_z ?_;obtain rfl:=sm d0;exact Bb ()
 intro i1 _ _ _ _ hm;intros;refine BP ?_;refine AD ?_;obtain rfl:=sm hm;exact Ca
end
end
section
section
variable {α:Type}
inductive Scr:List α->List α->Nat->Prop
  |nil:Scr [] [] 0
  |del {x xs ys n}:Scr xs ys n->Scr (x::xs) ys (n+1)
  |ins {y xs ys n}:Scr xs ys n->Scr xs (y::ys) (n+1)
  |keep {x xs ys n}:Scr xs ys n->Scr (x::xs) (x::ys) n
theorem Scr.bound{xs ys:List α}{n:Nat}(b:Scr xs ys n):n<=xs.length+ys.length/\xs.length<=ys.length+n/\ys.length<=xs.length+n/\(xs.length+ys.length-n)%2=0:=by
  induction b with
  |nil=>simp
  |del _ a=>simp only[M8];omega
  |ins _ a=>simp only[M8];omega
  |keep _ a=>simp only[M8];omega
theorem Scr.all:∀xs ys:List α,Scr xs ys (xs.length+ys.length)
  |[],[]=>.nil
  |[],y::ys=>.ins (Scr.all [] ys)
  |x::xs,ys=>by
    have:=Scr.del (x:=x) (Scr.all xs ys);rwa[show xs.length+ys.length+1=(x::xs).length+ys.length from by simp only[M8];omega]at this
end
section
variable {α:Type}[DecidableEq α]
def ed:List α->List α->Nat
  |[],ys=>ys.length
  |xs,[]=>xs.length
  |x::xs,y::ys=>if x=y then min (min (ed (x::xs) ys) (ed xs (y::ys))+1) (ed xs ys)else min (ed (x::xs) ys) (ed xs (y::ys))+1
termination_by xs ys=>xs.length+ys.length
theorem Mm(ys:List α):ed [] ys=ys.length:=by cases ys<;>simp[ed]
theorem Ph(xs:List α):ed xs []=xs.length:=by cases xs<;>simp[ed]
theorem Jz(x:α)(xs:List α)(y:α)(ys:List α):ed (x::xs) (y::ys)=if x=y then min (min (ed (x::xs) ys) (ed xs (y::ys))+1) (ed xs ys)else min (ed (x::xs) ys) (ed xs (y::ys))+1:=by rw[ed]
theorem XY(n:Nat):∀xs ys:List α,xs.length+ys.length≤n→Scr xs ys (ed xs ys):=by
  induction n with
  |zero =>
    intro xs ys f;have a:xs=[]:=B2 (by omega);have b:ys=[]:=B2 (by omega);subst a b;rw[Mm];exact .nil
  |succ n c =>
    intro xs ys f
    match xs,ys,f with
    |[],ys,_=>rw[Mm];simpa using Scr.all [] ys
    |x::xs,[],_=>rw[Ph];simpa using Scr.all (x::xs) []
    |x  :: xs,y::ys,f =>
      simp only[M8]at f;have a:=c (x::xs) ys (by simp only[M8];omega);have b:=c xs (y::ys) (by simp only[M8];omega);have d:=c xs ys (by omega);have hm:Scr (x::xs) (y::ys) (min (ed (x::xs) ys) (ed xs (y::ys))+1):=by
        rcases Nat.le_total (ed (x::xs) ys) (ed xs (y::ys))with q|q
        . rw[Q8 q];exact .ins a
        . rw[P3 q];exact .del b
      rw[Jz];by_cases e:x=y
      . rw[if_pos e];subst e;rcases Nat.le_total (min (ed (x::xs) ys) (ed xs (x::ys))+1) (ed xs ys)with q|q
        . rw[Q8 q];exact hm
        . rw[P3 q];exact .keep d
      . rw[if_neg e];exact hm
theorem YH{xs ys:List α}{n:Nat}(b:Scr xs ys n):ed xs ys<=n:=by
  induction b with
  |nil=>rw[Mm];simp
  |@del x xs ys n _ a =>
    cases ys with
    |nil=>rw[Ph]at a ⊢;simp only[M8];omega
    |cons y ys=>rw[Jz];split<;>omega
  |@ins y xs ys n _ a =>
    cases xs with
    |nil=>rw[Mm]at a ⊢;simp only[M8];omega
    |cons x xs=>rw[Jz];split<;>omega
  |@keep x xs ys n _ a=>rw[Jz,if_pos rfl];omega
theorem Wg(xs ys:List α):Scr xs ys (ed xs ys):=XY _ xs ys (V2 _)
end
end
section
open Go Go.RowKit
def dE(ar b:List ByteArray)(j:Nat):Int:=((ed ar (b.take j).reverse:Nat):Int)
theorem Wh(ar b:List ByteArray)(j:Nat):0<=dE ar b j/\dE ar b j<=(ar.length:Int)+b.length:=by
  have a:=(Wg ar (b.take j).reverse).bound.1;rw[J0,N8]at a;unfold dE;omega
theorem XZ(b:List ByteArray){j:Nat}(a:j<=b.length):dE [] b j=(j:Int):=by
  unfold dE;rw[Mm,J0,N8];omega
theorem WR(ar b:List ByteArray):dE ar b 0=(ar.length:Int):=by unfold dE;simp[Ph]
theorem NA{α:Type}{b:List α}{k:Nat}{y:α}(a:b[k]?=some y):(b.take (k+1)).reverse=y::(b.take k).reverse:=by
  rw[M2,a];simp
theorem Ya{x:ByteArray}{ar b:List ByteArray}{k:Nat}(a:b[k]?=some x):dE (x::ar) b (k+1)=min (min (dE (x::ar) b k) (dE ar b (k+1))+1) (dE ar b k):=by
  unfold dE;rw[NA a,Jz,if_pos rfl];omega
theorem YI{x y:ByteArray}{ar b:List ByteArray}{k:Nat}(a:b[k]?=some y)(hn:¬x=y):dE (x::ar) b (k+1)=min (dE (x::ar) b k) (dE ar b (k+1))+1:=by
  unfold dE;rw[NA a,Jz,if_neg hn];omega
def RowK(ar b:List ByteArray)(k:Nat)(s:List Int):Prop:=s.length=b.length+1/\∀j,j<=k->s[j]?=some (dE ar b j)
theorem RowK.set{ar b:List ByteArray}{k:Nat}{s:List Int}(c:RowK ar b k s)(hk:k<b.length){v:Int}(a:v=dE ar b (k+1)):RowK ar b (k+1) (s.set (k+1) v):=by
  refine⟨by rw[Q7];exact c.1,λj hj=>?_⟩;rcases T9 j (k+1)with hl|hl
  . rw[H7 (by omega)];exact c.2 j (by omega)
  . have:j=k+1:=(by omega);subst this;rw[E9 (by rw[c.1];omega),a]
theorem Ux{b:List ByteArray}{f:Nat→List Int→Option (Ctl (List Int) Int)}(hf:∀(k:Nat)(s:List Int),f k s=bnd (s[k]?) λ_=>some (.next (s.set k (k:Int)))) :
    ∃s,Zb (ρ:=Int) f (List.replicate (b.length+1) (0:Int)).length (List.replicate (b.length+1) (0:Int))=some (.done s)/\RowK [] b b.length s:=by
  obtain⟨s,h1,h2,h3⟩:=QK (f:=f) (N:=(List.replicate (b.length+1) (0:Int)).length) (s₀:=List.replicate (b.length+1) (0:Int)) (λk s=>s.length=b.length+1/\∀j,j<k->s[j]?=some (j:Int))
    ⟨by simp,λj hj=>by omega⟩ (λk s hk ⟨hl,hs⟩=>by
      rw[F7]at hk;have a:s[k]?=some (s[k]'(by omega)):=D1 _;refine⟨s.set k (k:Int),by rw[hf,a,At],by rw[Q7];exact hl,λj hj=>?_⟩;rcases T9 j k with hl'|hl'
      . rw[H7 (by omega)];exact hs j hl'
      . have:j=k:=(by omega);subst this;rw[E9 (by omega)])
  refine⟨s,h1,h2,λj hj=>?_⟩;rw[h3 j (by rw[F7];omega),XZ b hj]
theorem Uy{ar b:List ByteArray}:RowK ar b 0 ((List.replicate (b.length+1) (0:Int)).set (0:Int).toNat (ar.length:Int)):=by
  refine⟨by simp,λj hj=>?_⟩;have:j=0:=(by omega);subst this;rw[WR];exact E9 (by simp)
theorem Ab6{k:Nat}(a:k<=8796093022208):W5 ((k:Int)+1)=some ((k+1:Nat):Int):=by rw[Br (by unfold W1;omega)];simp
theorem Yb{a b:List ByteArray}(E:a.length≤8796093022208)(hb:b.length≤8796093022208):FJ a b=some ((ed a.reverse b.reverse:Nat):Int):=by
  unfold FJ;rw[Ab6 hb,At,LN (by omega) (by omega),At];obtain⟨F,h1,h2⟩:=Ux (b:=b) (f:=λk s=>bnd (s[k]?) λ_=>some (.next (s.set k (k:Int)))) (λ_ _=>rfl);rw[h1,At,BH];refine Jx (λi s=>RowK (a.take i).reverse b b.length s) (by simpa using h2) ?_ ?_
  . intro i x s A v;have hi:=AF A;rw[At,LN (by omega) (by omega),At,Ab6 (k:=i) (by omega),At];rw[show atI (List.replicate (b.length+1) (0:Int)) 0=some 0 from by rw[show(0:Int)=((0:Nat):Int)from rfl,BD];simp,At];have w:RowK (x::(a.take i).reverse) b 0 ((List.replicate (b.length+1) (0:Int)).set (0:Int).toNat ((i+1:Nat):Int)):=by
      have:=Uy (ar:=x::(a.take i).reverse) (b:=b);rwa[M8,J0,N8,Q8 (by omega)]at this
    have j:((a.take i).reverse).length=i:=(by rw[J0,N8];omega);obtain⟨B,h3,h4⟩:=Jw (f:=λ(c:Nat)(m:ByteArray)(d:List Int)=>bnd (W5 ((c:Int)+1)) λg=>bnd (d[c]?) λn=>bnd (W5 ((c:Int)+1)) λo=>bnd (atI s o) λp=>bnd (W5 ((min n p)+1)) λh=>bnd (atI d g) λ_=>if x=m then(bnd (W5 ((c:Int)+1)) λl=>bnd (W5 ((c:Int)+1)) λq=>bnd (atI (d.set (g:Int).toNat h) q) λr=>bnd (s[c]?) λt=>bnd (atI (d.set (g:Int).toNat h) l) λ_=>some (.next ((d.set (g:Int).toNat h).set (l:Int).toNat (min r t))))else(some (.next (d.set (g:Int).toNat h):Ctl (List Int) (Ctl (List Int) Int)))) (xs:=b) (RowK (x::(a.take i).reverse) b) w (λk y u z hu=>by
        have hk:=AF z;have C:=Wh (x::(a.take i).reverse) b k;have D:=Wh (a.take i).reverse b (k+1);rw[M8,j]at C;rw[j]at D;rw[Ab6 (by omega),At,hu.2 k (V2 _),At,At,BD,v.2 (k+1) (by omega),At,Br (by unfold W1;omega),At];rw[BD,D1 (by rw[hu.1];omega),At,M6];by_cases e:x=y
        . subst e;rw[if_pos rfl,At,At,BD,E9 (by rw[hu.1];omega),At,v.2 k (by omega),At,At,M6,List.set_set];exact⟨_,rfl,hu.set hk (Ya z).symm⟩
        . rw[if_neg e];exact⟨_,rfl,hu.set hk (YI z e).symm⟩)
    rw[h3,At,BH];refine⟨B,rfl,?_⟩;rw[NA A];exact h4
  . intro s v;rw[BH,v.2 b.length (V2 _),At];unfold dE;rw[P4,P4]
end
section
open Go Go.RowKit
theorem Scr.append{α:Type}{a b:List α}{n:Nat}(f:Scr a b n):∀{c g:List α}{m:Nat},Scr c g m->Scr (a++c) (b++g) (n+m):=by
  induction f with
  |nil=>intro c g m d;simpa using d
  |del _ e=>intro c g m d;have:=(e d).del (x:=‹α›);rw[Nat.add_right_comm]at this;exact this
  |ins _ e=>intro c g m d;have:=(e d).ins (y:=‹α›);rw[Nat.add_right_comm]at this;exact this
  |keep _ e=>intro c g m d;exact(e d).keep
theorem Scr.rev{α:Type}{a b:List α}{n:Nat}(d:Scr a b n):Scr a.reverse b.reverse n:=by
  induction d with
  |nil=>exact .nil
  |@del x xs ys n _ c=>have:=c.append (.del (x:=x) .nil);simpa using this
  |@ins y xs ys n _ c=>have:=c.append (.ins (y:=y) .nil);simpa using this
  |@keep x xs ys n _ c=>have:=c.append (.keep (x:=x) .nil);simpa using this
def ZK(a b:List ByteArray):Nat:=ed a.reverse b.reverse
theorem NB{a b:List ByteArray}{n:Nat}(c:Scr a b n):ZK a b<=n:=YH c.rev
theorem Mn(a b:List ByteArray):Scr a b (ZK a b):=by have:=(Wg a.reverse b.reverse).rev;simpa[ZK]using this
def nmO(t:Tsk)(i:Int):ByteArray:=match t.ops[i.toNat]? with|some o=>o.name|none=>⟨#[]⟩
theorem OC{t:Tsk}{i:Nat}{o:Opr}(a:t.ops[i]?=some o):nmO t (i:Int)=o.name:=by unfold nmO;rw[M6,a]
theorem MH{α:Type}{l:List α}{q:α×Nat}:q∈l.zipIdx↔l[q.2]?=some q.1:=by
  constructor
  . intro a;obtain⟨k,hk⟩:=H4 a;rw[H9]at hk;obtain⟨o,ho,rfl⟩:=E7.1 hk;simpa using ho
  . intro a;refine H1 (i:=q.2) ?_;rw[H9,a];simp
theorem PP{t:Tsk}{v p:Int}{a:ByteArray}{q:Opr×Prt}:q∈ZO t.ops.zipIdx v p a↔∃(i:Nat) (o:Opr),t.ops[i]?=some o/\o.name=a/\q=(ZX o v p,⟨(i:Int)⟩):=by
  unfold ZO;rw[U9];constructor
  . rintro⟨x,hx,rfl⟩;obtain⟨b,h2⟩:=Q9.1 hx;exact⟨x.2,x.1,MH.1 b,by simpa using h2,rfl⟩
  . rintro⟨i,o,b,h2,rfl⟩;exact⟨(o,i),Q9.2 ⟨MH.2 b,by simpa using h2⟩,rfl⟩
theorem Rs{t:Tsk}{w v:Int}{q:Opr×Prt}:∀{l:List ByteArray}{p:Nat},q∈delL t w v p l↔∃(j:Nat) (a:ByteArray),l[j]?=some a/\q∈Z9 t w v ((p+j:Nat):Int) a
  |[],p=>by simp[delL]
  |x  :: l,p=>by
    rw[delL,P8,Rs (l:=l)];constructor
    . rintro(b|⟨j,a,h1,h2⟩)
      . exact⟨0,x,rfl,by simpa using b⟩
      . exact⟨j+1,a,by simpa using h1,by rw[show p+(j+1)=p+1+j from by omega];exact h2⟩
    . rintro⟨j,a,h1,h2⟩;cases j with
      |zero=>simp at h1;subst h1;exact .inl (by simpa using h2)
      |succ j=>exact .inr ⟨j,a,by simpa using h1,by rw[show p+1+j=p+(j+1)from by omega];exact h2⟩
theorem Kc{t:Tsk}{old:List ByteArray}{w:Int}{q:Opr×Prt}:q∈cmpL t old w ↔
    (∃(i:Nat) (o:Opr),t.ops[i]?=some o/\q=(⟨o.name,o.cost+w,o.pre,o.effs⟩,⟨(i:Int)⟩)) \/
    (∃(p i:Nat) (o:Opr),old[p]?=some o.name/\t.ops[i]?=some o/\q=(ZX o (t.vars.length:Int) (p:Int),⟨(i:Int)⟩)) \/
    (∃(p:Nat) (a:ByteArray),old[p]?=some a/\q=Abk w (t.vars.length:Int) (p:Int)):=by
  unfold cmpL;rw[P8,Rs];constructor
  . rintro(b|⟨j,a,h1,h2⟩)
    . obtain⟨x,hx,rfl⟩:=U9.1 b;exact .inl ⟨x.2,x.1,MH.1 hx,rfl⟩
    . rw[U4]at h2;unfold Z9 at h2;rcases P8.1 h2 with h2|h2
      . obtain⟨i,o,g1,g2,rfl⟩:=PP.1 h2;exact .inr (.inl ⟨j,i,o,by rw[g2];exact h1,g1,rfl⟩)
      . exact .inr (.inr ⟨j,a,h1,by simpa using h2⟩)
  . rintro(⟨i,o,b,rfl⟩|⟨p,i,o,h1,h2,rfl⟩|⟨p,a,h1,rfl⟩)
    . exact .inl (U9.2 ⟨(o,i),MH.2 b,rfl⟩)
    . exact .inr ⟨p,o.name,h1,by rw[U4];exact G9 _ (PP.2 ⟨i,o,h2,rfl,rfl⟩)⟩
    . exact .inr ⟨p,a,h1,by rw[U4];exact List.mem_append_right _ (by simp)⟩
section
variable {vars x:List Int}
theorem WS{f:Fct}(hf:Y8 vars f)(a:x.length=vars.length)(p:Int):hasB (x++[p]) f=hasB x f:=by
  obtain⟨b,_,y,h3,_⟩:=hf;have:=AF h3;unfold hasB;rw[C4 (by omega)]
theorem Kw{a:List Fct}(hf:FactsOk vars a)(c:x.length=vars.length)(p:Int):holdsB a (x++[p])=holdsB a x:=by
  have b:∀l:List Fct,(∀f∈l,Y8 vars f)->l.all (hasB (x++[p]))=l.all (hasB x):=λl hl=>by
    induction l with
    |nil=>rfl
    |cons f l d=>rw[T4,T4,WS (hl f K6) c,d λg e=>hl g (H0 _ e)]
  exact b a λf hm=>by obtain⟨i,hi⟩:=H4 hm;exact hf.1 i f hi
theorem NC{v:Nat}(b:x.length=v)(p a:Int):hasB (x++[p]) ⟨(v:Int),a⟩=decide (p=a):=by
  unfold hasB;subst b;simp
theorem Lw{a:List Fct}(hf:FactsOk vars a)(b:x.length=vars.length)(p c:Int):holdsB (a++[⟨(vars.length:Int),c⟩]) (x++[p])=(holdsB a x&&decide (p=c)):=by
  have:=Kw hf b p;unfold holdsB at this ⊢;rw[List.all_append,this,T4,List.all_nil,NC b,Bool.and_true]
theorem Rt{a:List Eff}(he:∀e∈a,Zg vars e)(g:x.length=vars.length)(p:Int):∀y:List Int,y.length=vars.length->effsOn (x++[p]) a (y++[p])=effsOn x a y++[p]:=by
  induction a with
  |nil=>intro y _;rfl
  |cons e l d =>
    intro y f;obtain⟨h,h2,_,z,h3,_⟩:=he e K6;have hlt:=AF h3;simp only at h2 hlt;simp only[effsOn];rw[Kw h g];by_cases hb:holdsB e.cond x=true
    . rw[if_pos hb,if_pos hb,List.set_append_left _ _ (by omega)];exact d (λb c=>he b (H0 _ c)) _ (by simpa using f)
    . rw[if_neg hb,if_neg hb];exact d (λb c=>he b (H0 _ c)) _ f
end
theorem SF{t:Tsk}(a:TaskOk t){k:Nat}{o:Opr}(b:t.ops[k]?=some o):∀e∈o.effs,Zg t.vars e:=λe he=>by
  obtain⟨i,hi⟩:=H4 he;exact(a.2.2.2.2.2 k o b).2.2.2.2.2 i e hi
theorem HK(o:Opr)(x:List Int):(succ o x).length=x.length:=GT x o.effs x
section
variable {t:Tsk}{old:List ByteArray}{w:Int}
theorem Ru(a:TaskOk t){i:Nat}{o:Opr}(d:t.ops[i]?=some o){x:List Int}(b:x.length=t.vars.length)(p c:Int):succ ⟨o.name,c,o.pre,o.effs⟩ (x++[p])=succ o x++[p]:=Rt (SF a d) b p x b
theorem PQ{x y:List Int}{v:Nat}(a:y.length=v)(p q:Int):effsOn (x++[p]) [⟨[],(v:Int),q⟩] (y++[p])=y++[q]:=by
  show(y++[p]).set (v:Int).toNat q=_;subst a;rw[M6,F6 _ _ (V2 _)];simp
theorem PR(b:TaskOk t){i:Nat}{o:Opr}(d:t.ops[i]?=some o){x:List Int}(c:x.length=t.vars.length)(p a:Int):succ (ZX o (t.vars.length:Int) a) (x++[p])=succ o x++[a+1]:=by
  show effsOn (x++[p]) (o.effs++[⟨[],(t.vars.length:Int),a+1⟩]) (x++[p])=_;rw[HE,Rt (SF b d) c p x c];exact PQ (by rw[GT];exact c) p (a+1)
theorem Rv{x:List Int}(b:x.length=t.vars.length)(p a:Int):succ (Abk w (t.vars.length:Int) a).1 (x++[p])=x++[a+1]:=by
  show effsOn (x++[p]) ([]++[⟨[],(t.vars.length:Int),a+1⟩]) (x++[p])=_;exact PQ b p (a+1)
def Abh(L:List (Opr×Prt))(k:Int):List Int:=match L[k.toNat]? with|some q=>if 0<=q.2.op then[q.2.op]else[]|none=>[]
def Y4(L:List (Opr×Prt))(P:List Int):List Int:=P.flatMap (Abh L)
theorem PS{L:List (Opr×Prt)}{k:Nat}{q:Opr×Prt}(a:L[k]?=some q)(P:List Int):Y4 L ((k:Int)::P)=(if 0<=q.2.op then[q.2.op]else[])++Y4 L P:=by
  unfold Y4;rw[M1];unfold Abh;rw[M6,a]
theorem SG{k:Nat}{o:Opr}(b:(YX t old w).ops[k]?=some o):∃q,(cmpL t old w)[k]?=some q/\q.1=o:=by
  have a:((cmpL t old w).map (·.1))[k]?=some o:=b;rw[M3]at a;obtain⟨q,h1,h2⟩:=E7.1 a;exact⟨q,h1,h2⟩
theorem Lx{α:Type}{l:List α}{p:Nat}{x:α}(a:l[p]?=some x):l.drop p=x::l.drop (p+1):=by
  obtain⟨hlt,rfl⟩:=C3.1 a;exact C5 hlt
theorem VJ(g:TaskOk t){s m P:List Int}{C:Int}(B:PlanR (YX t old w) s P m C):∀(x:List Int)(p:Nat),s=x++[(p:Int)]→x.length=t.vars.length→p≤old.length →
    ∃(h:List Int) (b:Nat) (c:Int) (n:Nat),m=h++[(b:Int)]/\p<=b/\b<=old.length/\PlanR t x (Y4 (cmpL t old w) P) h c/\Scr ((Y4 (cmpL t old w) P).map (nmO t)) ((old.take b).drop p) n/\C=c+w*n:=by
  induction B with
  |nil =>
    rintro x p rfl f r;refine⟨x,p,0,0,rfl,V2 _,r,.nil,?_,by simp⟩;have:(old.take p).drop p=[]:=F0 (by simp;omega);rw[this];exact .nil
  |@cons s y m k o C A e _ u =>
    rintro x p rfl f r;obtain⟨q,z,rfl⟩:=SG A;rw[PS z];rcases Kc.1 (H1 z)with⟨i,o,hi,rfl⟩|⟨d,i,o,hn,hi,rfl⟩|⟨d,name,hn,rfl⟩
    . have hf:=(g.2.2.2.2.2 i o hi).2.2.2.2.1;have a:holdsB o.pre x=true:=(by rw[<- Kw hf f];exact e);obtain⟨h,b,c,n,h1,h2,h3,h4,h5,h6⟩:=u (succ o x) p (Ru g hi f _ _) (by rw[HK];exact f) r;refine⟨h,b,o.cost+c,n+1,h1,h2,h3,?_,?_,?_⟩
      . rw[if_pos (by show(0:Int)<=(i:Int);omega)];exact .cons hi a h4
      . rw[if_pos (by show(0:Int)<=(i:Int);omega)];simp only[G2,R9];exact h5.del
      . show o.cost+w+C=_;rw[h6,R4,Int.mul_add];simp;omega
    . have hf:=(g.2.2.2.2.2 i o hi).2.2.2.2.1;have a:holdsB (o.pre++[⟨(t.vars.length:Int),(d:Int)⟩]) (x++[(p:Int)])=true:=e;rw[Lw hf f,N1,decide_eq_true_eq]at a;have j:d=p:=(by omega);subst j;have hlt:=AF hn;obtain⟨h,b,c,n,h1,h2,h3,h4,h5,h6⟩:=u (succ o x) (d+1) (by rw[PR g hi f];simp) (by rw[HK];exact f) hlt;have l:(old.take b).drop d=o.name::(old.take b).drop (d+1):=Lx (by rw[K3,if_pos (by omega)];exact hn);refine⟨h,b,o.cost+c,n,h1,by omega,h3,?_,?_,?_⟩
      . rw[if_pos (by show(0:Int)<=(i:Int);omega)];exact .cons hi a.1 h4
      . rw[if_pos (by show(0:Int)<=(i:Int);omega),l];simp only[G2,R9];rw[OC hi];exact h5.keep
      . show o.cost+C=_;omega
    . have a:holdsB ([]++[⟨(t.vars.length:Int),(d:Int)⟩]) (x++[(p:Int)])=true:=e;have v:hasB (x++[(p:Int)]) ⟨(t.vars.length:Int),(d:Int)⟩=true:=(by simpa[holdsB]using a);rw[NC f,decide_eq_true_eq]at v;have j:d=p:=(by omega);subst j;have hlt:=AF hn;obtain⟨h,b,c,n,h1,h2,h3,h4,h5,h6⟩:=u x (d+1) (by rw[Rv f];simp) f hlt;have l:(old.take b).drop d=name::(old.take b).drop (d+1):=Lx (by rw[K3,if_pos (by omega)];exact hn);refine⟨h,b,c,n+1,h1,by omega,h3,?_,?_,?_⟩
      . rw[if_neg (by show¬(0:Int)<=-1;omega)];exact h4
      . rw[if_neg (by show¬(0:Int)<=-1;omega),l];exact h5.ins
      . show w+C=_;rw[h6,R4,Int.mul_add];simp;omega
theorem Rx{q:Opr×Prt}(a:q∈cmpL t old w):∃k:Nat,(YX t old w).ops[k]?=some q.1:=by
  obtain⟨k,hk⟩:=H4 a;exact⟨k,by show((cmpL t old w).map (·.1))[k]?=_;rw[M3,hk];rfl⟩
theorem Uz(j:TaskOk t){xs ys:List ByteArray}{n:Nat}(h:Scr xs ys n):∀(x b l:List Int)(c:Int)(p:Nat),PlanR t x l b c->l.map (nmO t)=xs->ys=old.drop p->p<=old.length->x.length=t.vars.length ->
    ∃P,PlanR (YX t old w) (x++[(p:Int)]) P (b++[(old.length:Int)]) (c+w*n):=by
  induction h with
  |nil =>
    intro x b l c p m hn a hl d;have v:l=[]:=(by simpa using hn);subst v;have z:p=old.length:=by
      have:=congrArg List.length a;simp at this;omega
    subst z;cases m;exact⟨[],by simpa using PlanR.nil⟩
  |@del y xs ys n _ q =>
    intro x b l c p m hn a hl d;cases m with
    |nil=>simp at hn
    |@cons _ f _ i o C hi g hr =>
      simp only[R9,List.cons.injEq]at hn;have hf:=(j.2.2.2.2.2 i o hi).2.2.2.2.1;obtain⟨P,hP⟩:=q (succ o x) b f C p hr hn.2 a hl (by rw[HK];exact d);obtain⟨k,hk⟩:=Rx (old:=old) (w:=w) (Kc.2 (.inl ⟨i,o,hi,rfl⟩));refine⟨(k:Int)::P,?_⟩;have r:PlanR (YX t old w) (succ ⟨o.name,o.cost+w,o.pre,o.effs⟩ (x++[(p:Int)])) P (b++[(old.length:Int)]) (C+w*n):=(by rw[Ru j hi d];exact hP);have s:=PlanR.cons hk (by show holdsB o.pre (x++[(p:Int)])=true;rw[Kw hf d];exact g) r;have e:o.cost+C+w*((n+1:Nat):Int)=o.cost+w+(C+w*n):=(by rw[R4,Int.mul_add];simp;omega);rw[e];exact s
  |@ins y xs ys n _ q =>
    intro x b l c p m hn a hl d;have hlt:p<old.length:=by
      rcases T9 p old.length with h|h
      . exact h
      . rw[F0 h]at a;cases a
    have u:old[p]?=some old[p]:=D1 hlt;rw[Lx u]at a;injection a with D A;obtain⟨P,hP⟩:=q x b l c (p+1) m hn A hlt d;obtain⟨k,hk⟩:=Rx (old:=old) (w:=w) (Kc.2 (.inr (.inr ⟨p,old[p],u,rfl⟩)));refine⟨(k:Int)::P,?_⟩;have r:PlanR (YX t old w) (succ (Abk w (t.vars.length:Int) (p:Int)).1 (x++[(p:Int)])) P (b++[(old.length:Int)]) (c+w*n):=(by rw[Rv d];simpa using hP);have s:=PlanR.cons hk (by show holdsB ([]++[⟨(t.vars.length:Int),(p:Int)⟩]) (x++[(p:Int)])=true;simp only[holdsB,Q4,T4,List.all_nil,Bool.and_true];rw[NC d];simp) r;have e:c+w*((n+1:Nat):Int)=w+(c+w*n):=(by rw[R4,Int.mul_add];simp;omega);rw[e];exact s
  |@keep y xs ys n _ q =>
    intro x b l c p m hn a hl d;have hlt:p<old.length:=by
      rcases T9 p old.length with h|h
      . exact h
      . rw[F0 h]at a;cases a
    have u:old[p]?=some old[p]:=D1 hlt;rw[Lx u]at a;injection a with D A;cases m with
    |nil=>simp at hn
    |@cons _ f _ i o C hi g hr =>
      simp only[R9,List.cons.injEq]at hn;have hf:=(j.2.2.2.2.2 i o hi).2.2.2.2.1;obtain⟨P,hP⟩:=q (succ o x) b f C (p+1) hr hn.2 A hlt (by rw[HK];exact d);have B:old[p]?=some o.name:=(by rw[u,<- D,<- hn.1,OC hi]);obtain⟨k,hk⟩:=Rx (old:=old) (w:=w) (Kc.2 (.inr (.inl ⟨p,i,o,B,hi,rfl⟩)));refine⟨(k:Int)::P,?_⟩;have r:PlanR (YX t old w) (succ (ZX o (t.vars.length:Int) (p:Int)) (x++[(p:Int)])) P (b++[(old.length:Int)]) (C+w*n):=(by rw[PR j hi d];simpa using hP);have s:=PlanR.cons hk (by show holdsB (o.pre++[⟨(t.vars.length:Int),(p:Int)⟩]) (x++[(p:Int)])=true;rw[Lw hf d,g];simp) r;have e:o.cost+C+w*(n:Int)=o.cost+(C+w*n):=(by omega);rw[e];exact s
theorem ND(a:TaskOk t){x:List Int}(b:x.length=t.vars.length)(p:Int):holdsB (YX t old w).goal (x++[p])=(holdsB t.goal x&&decide (p=(old.length:Int))):=Lw a.2.2.2.2.1 b p _
end
end
section
open Go Go.RowKit
abbrev BQ:=BxR 104 102 Itm
abbrev AI:=An 102 Itm
def toQ(x:Itm):QEn:=⟨x.cost,0,x.id,x.order⟩
def qs(l:List Itm):List QEn:=l.map toQ
theorem HD(l:List Itm):(qs l).length=l.length:=by simp[qs]
theorem IR{l:List Itm}{i:Nat}{x:Itm}(a:l[i]?=some x):(qs l)[i]?=some (toQ x):=by unfold qs;rw[M3,a];rfl
theorem Mo(l:List Itm)(i:Nat)(x:Itm):qs (l.set i x)=(qs l).set i (toQ x):=by unfold qs;rw[V0]
theorem WT(l:List Itm)(n:Nat):qs (l.take n)=(qs l).take n:=by unfold qs;rw[List.map_take]
theorem NE{l:List Itm}{i j:Nat}{a b:Itm}(f:l[i]?=some a)(hb:l[j]?=some b):Cz l (i:Int) (j:Int)=some (decide (bfr (toQ a) (toQ b))):=by
  unfold Cz;rw[BD,f,At,BD,hb,At,At,At,At,At];unfold bfr toQ;by_cases d:a.cost<b.cost
  . rw[if_pos d,At];simp[d]
  . rw[if_neg d];by_cases c:a.cost=b.cost
    . rw[if_pos c];by_cases e:a.order<b.order
      . rw[if_pos e,At];simp[c,e]
      . rw[if_neg e,At];simp[c,e]
    . rw[if_neg c,At];simp[d,c]
theorem NF{l:List Itm}{i j:Nat}{a b:Itm}(e:l[i]?=some a)(hb:l[j]?=some b):Cf l (i:Int) (j:Int)=some ((l.set i b).set j a):=by
  have f:=AF e;have d:=AF hb;obtain⟨c,hc⟩:=AK (l:=l.set i b) (k:=j) (by simp;exact d);unfold Cf;rw[BD,hb,At,BD,e,At,At,M6,BD,hc,At,M6]
theorem Yc{q:BQ}{i:Nat}(hi:i<q.l.length)(hl:q.l.length≤1000000)(o:UpI (qs q.l) i):∃r,Ff q (i:Int)=some r∧X8 (qs r.l)∧(qs r.l).Perm (qs q.l):=by
  unfold Ff;refine JR (λs=>∃i:Nat,s.1=(i:Int)/\i<s.2.l.length/\UpI (qs s.2.l) i/\(qs s.2.l).Perm (qs q.l)) (λs=>X8 (qs s.2.l)/\(qs s.2.l).Perm (qs q.l)) (λ_=>False) (λs=>s.1.toNat) ⟨i,rfl,hi,o,R8 _⟩ ?_ (λs hs=>⟨_,rfl,hs⟩) (λs hs=>hs.elim);rintro⟨c,s⟩ ⟨i,hc,hi,hu,hp⟩;dsimp only at hc hi hu hp ⊢;subst hc;have e:=hp.length_eq;rw[HD,HD]at e;rw[Br (by unfold W1;omega),At];by_cases n:0<(i:Int)
  . have f:Zn ((i:Int)-1) 2=some (((i-1)/2:Nat):Int):=by
      unfold Zn;rw[if_pos (by omega),if_pos (by omega)];congr 1;omega
    obtain⟨a,ha⟩:=AK (l:=s.l) (k:=i) hi;obtain⟨b,hb⟩:=AK (l:=s.l) (k:=(i-1)/2) (by omega);rw[f,At,if_neg (by omega),NE ha hb,At];by_cases d:bfr (toQ a) (toQ b)
    . rw[decide_eq_true d,Cd,At,BY,NF hb ha,At];have h:qs ((s.l.set ((i-1)/2) a).set i b)=((qs s.l).set i (toQ b)).set ((i-1)/2) (toQ a):=by
        rw[Mo,Mo,List.set_comm _ _ (by omega)]
      refine .inl ⟨_,rfl,⟨(i-1)/2,rfl,by simp;omega,?_,?_⟩,?_⟩
      . dsimp only;rw[h];exact hu.step (by omega) (IR ha) (IR hb) d
      . dsimp only;rw[h];exact(QZ (IR ha) (IR hb)).trans hp
      . dsimp only;omega
    . rw[decide_eq_false d,BY,At,Cd];refine .inr (.inl ⟨_,rfl,hu.heap (.inr λx y j m=>?_),hp⟩);rw[IR ha]at j;rw[IR hb]at m;obtain rfl:=Q1 j;obtain rfl:=Q1 m;exact d
  . have g:i=0:=(by omega);subst g;have f:Zn (((0:Nat):Int)-1) 2=some 0:=rfl;rw[f,At,if_pos (show(0:Int)=((0:Nat):Int)from rfl),At,Cd];exact .inr (.inl ⟨_,rfl,hu.heap (.inl rfl),hp⟩)
theorem Ry{q:BQ}(m:X8 (qs q.l))(hl:q.l.length<=900000)(x:Itm):∃r,DQ q ⟨x⟩=some r/\X8 (qs r.l)/\(qs r.l).Perm (toQ x::qs q.l):=by
  unfold DQ FN Co;rw[Cb (by simp;omega) (by simp;omega),At,At,At,Br (by unfold W1;simp;omega),At];have b:(((q.l++[x]).length:Int)-1)=((q.l.length:Nat):Int):=(by simp);rw[b];have c:qs (q.l++[x])=qs q.l++[toQ x]:=(by simp[qs]);obtain⟨r,r1,r2,r3⟩:=Yc (q:=⟨q.l++[x]⟩) (i:=q.l.length) (by simp) (by simp;omega) ⟨λj y z hj f a d=>by
    dsimp only at a d;rw[c]at a d;have e:j<(qs q.l).length:=(by have:=AF a;simp at this;rw[HD]at this ⊢;omega);rw[C4 e]at a;rw[C4 (by omega)]at d;exact m j y z hj a d,λj y z g h k a d=>by
    dsimp only at a;have:=AF a;rw[HD]at this;simp at this;omega⟩
  rw[r1,At];refine⟨_,rfl,r2,r3.trans ?_⟩;dsimp only;rw[c];exact G1 (l₁:=qs q.l) (l₂:=[_])
theorem VL{q:BQ}{n:Nat}(hn:n≤q.l.length)(hl:q.l.length≤1000000)(E:DownI (qs (q.l.take n)) 0):∃r,Ez q 0 (n:Int)=some r∧X8 (qs (r.2.l.take n))∧(qs (r.2.l.take n)).Perm (qs (q.l.take n))∧r.2.l.drop n=q.l.drop n∧r.2.l.length=q.l.length:=by
  unfold Ez;refine JR (λs=>∃i:Nat,s.1=(i:Int)/\DownI (qs (s.2.l.take n)) i/\i<=n/\(qs (s.2.l.take n)).Perm (qs (q.l.take n))/\s.2.l.drop n=q.l.drop n/\s.2.l.length=q.l.length) (λs=>X8 (qs (s.2.l.take n))/\(qs (s.2.l.take n)).Perm (qs (q.l.take n))/\s.2.l.drop n=q.l.drop n/\s.2.l.length=q.l.length) (λ_=>False) (λs=>n-s.1.toNat) ⟨0,rfl,E,by omega,R8 _,rfl,rfl⟩ ?_ ?_ (λs hs=>hs.elim)
  . rintro⟨c,s⟩ ⟨i,hc,hd,hi,hp,hdr,hsl⟩;dsimp only at hc hd hi hp hdr hsl ⊢;subst hc;rw[Br (by unfold W1;omega),At,Br (by unfold W1;omega),At];by_cases A:(n:Int)<=2*(i:Int)+1
    . rw[if_pos A,At,Cd];refine .inr (.inl ⟨_,rfl,hd.heap λj x y hj h d _=>?_,hp,hdr,hsl⟩);have:=AF d;rw[HD,N8]at this;omega
    rw[if_neg A,if_neg (by omega),At,BY];obtain⟨a,ha⟩:=AK (l:=s.l) (k:=i) (by omega);obtain⟨b,hb⟩:=AK (l:=s.l) (k:=2*i+1) (by omega);have t:∀{k:Nat}{x:Itm},k<n->s.l[k]?=some x->(qs (s.l.take n))[k]?=some (toQ x):=λ{k x} hk d=>IR (by rw[D9 hk];exact d);have m:2*(i:Int)+1=((2*i+1:Nat):Int):=(by omega);have w:2*(i:Int)+1+1=((2*i+2:Nat):Int):=(by omega);have o:∀(c:Nat)(F:Itm),(c=2*i+1\/c=2*i+2)->c<n->s.l[c]?=some F->(∀(j:Nat) x,0<j->(j-1)/2=i->(qs (s.l.take n))[j]?=some x->nb x (toQ F))->(∃g,(bnd (Cz s.l (c:Int) (i:Int)) λp=>if p=true then bnd (Cf s.l (i:Int) (c:Int)) λf=>some (Ctl.next (ρ:=Bool×BQ) ((c:Int),(⟨f⟩:BQ)))else some (.brk ((i:Int),s)))=some (.next g)/\(∃i:Nat,g.1=(i:Int)/\DownI (qs (g.2.l.take n)) i/\i<=n/\(qs (g.2.l.take n)).Perm (qs (q.l.take n))/\g.2.l.drop n=q.l.drop n/\g.2.l.length=q.l.length)/\n-g.1.toNat<n-((i:Int)).toNat)\/(∃g,(bnd (Cz s.l (c:Int) (i:Int)) λp=>if p=true then bnd (Cf s.l (i:Int) (c:Int)) λf=>some (Ctl.next (ρ:=Bool×BQ) ((c:Int),(⟨f⟩:BQ)))else some (.brk ((i:Int),s)))=some (.brk g)/\X8 (qs (g.2.l.take n))/\(qs (g.2.l.take n)).Perm (qs (q.l.take n))/\g.2.l.drop n=q.l.drop n/\g.2.l.length=q.l.length)\/∃r,(bnd (Cz s.l (c:Int) (i:Int)) λp=>if p=true then bnd (Cf s.l (i:Int) (c:Int)) λf=>some (Ctl.next (ρ:=Bool×BQ) ((c:Int),(⟨f⟩:BQ)))else some (.brk ((i:Int),s)))=some (.ret r)/\False:=by
      intro c F hc z e hs;rw[NE e ha,At];have B:qs (((s.l.set i F).set c a).take n)=((qs (s.l.take n)).set i (toQ F)).set c (toQ a):=by
        rw[T5,T5,Mo,Mo]
      by_cases u:bfr (toQ F) (toQ a)
      . rw[decide_eq_true u,Cd,NF ha e,At];refine .inl ⟨_,rfl,⟨c,rfl,?_,by omega,?_,?_,by simp;exact hsl⟩,?_⟩
        . dsimp only;rw[B];exact hd.step hc (t (by omega) ha) (t z e) u hs
        . dsimp only;rw[B];exact(QZ (t (by omega) ha) (t z e)).trans hp
        . dsimp only;rw[<- hdr];apply M0;intro k;rw[K2,K2,H7 (by omega),H7 (by omega)]
        . dsimp only;omega
      . rw[decide_eq_false u,BY];refine .inr (.inl ⟨_,rfl,hd.heap λj x y hj h d C=>?_,hp,hdr,hsl⟩);rw[t (by omega) ha]at C;obtain rfl:=Q1 C;exact JW (hs j x hj h d) u
    rw[Br (by unfold W1;omega),At];by_cases D:2*(i:Int)+1+1<(n:Int)
    . obtain⟨F,e⟩:=AK (l:=s.l) (k:=2*i+2) (by omega);rw[if_pos D,w,m,NE e hb,At];by_cases v:bfr (toQ F) (toQ b)
      . rw[decide_eq_true v,Cd,At,Cd,At];refine o (2*i+2) F (.inr rfl) (by omega) e λj x hj h d=>?_;have:j=2*i+1\/j=2*i+2:=(by omega);rcases this with rfl|rfl
        . rw[t (by omega) hb]at d;obtain rfl:=Q1 d;exact Oj v
        . rw[t (by omega) e]at d;obtain rfl:=Q1 d;exact JX _
      . rw[decide_eq_false v,BY,At,BY,At];refine o (2*i+1) b (.inl rfl) (by omega) hb λj x hj h d=>?_;have:j=2*i+1\/j=2*i+2:=(by omega);rcases this with rfl|rfl
        . rw[t (by omega) hb]at d;obtain rfl:=Q1 d;exact JX _
        . rw[t (by omega) e]at d;obtain rfl:=Q1 d;exact v
    . rw[if_neg D,At,BY,At,m];refine o (2*i+1) b (.inl rfl) (by omega) hb λj x hj h d=>?_;have:j=2*i+1:=(by have:=AF d;rw[HD,N8]at this;omega);subst this;rw[t (by omega) hb]at d;obtain rfl:=Q1 d;exact JX _
  . intro s hs;by_cases hz:0<s.1
    . rw[BH,if_pos hz,At];exact⟨_,rfl,hs⟩
    . rw[BH,if_neg hz,At];exact⟨_,rfl,hs⟩
theorem WU{q:BQ}(F:X8 (qs q.l))(o:0<q.l.length)(hl:q.l.length≤900000):∃r,Ed q=some r∧∃(e:Itm) (p:BQ),r=((⟨e⟩:AI),p)∧X8 (qs p.l)∧(qs q.l).Perm (toQ e::qs p.l)∧∀x∈qs q.l,nb x (toQ e):=by
  obtain⟨e,he⟩:=AK (l:=q.l) (k:=0) o;obtain⟨z,hz⟩:=AK (l:=q.l) (k:=q.l.length-1) (by omega);have t:((q.l.length:Int)-1)=((q.l.length-1:Nat):Int):=(by omega);have C:Cf q.l 0 ((q.l.length-1:Nat):Int)=some ((q.l.set 0 z).set (q.l.length-1) e):=NF (i:=0) he hz;unfold Ed Co;rw[At,Br (by unfold W1;omega),At,t,C,At];have u:((q.l.set 0 z).set (q.l.length-1) e).take (q.l.length-1)=(q.l.set 0 z).take (q.l.length-1):=by
    rw[T5];exact List.set_eq_of_length_le (by simp)
  have b:(qs q.l).Perm (toQ e::qs ((q.l.set 0 z).take (q.l.length-1))):=by
    have:q.l.Perm (e::(q.l.set 0 z).take (q.l.length-1)):=by
      cases v:q.l with
      |nil=>rw[v]at o;simp at o
      |cons a s =>
        rw[v]at he hz;simp at he;subst he;cases d:s.reverse with
        |nil =>
          have:s=[]:=(by simpa using d);subst this;simp
        |cons w r =>
          have f:s=r.reverse++[w]:=(by have:=congrArg List.reverse d;simpa using this);subst f;simp at hz;subst hz;simp
    exact this.map toQ
  obtain⟨r,r1,r2,r3,r4,r5⟩:=VL (q:=⟨(q.l.set 0 z).set (q.l.length-1) e⟩) (n:=q.l.length-1) (by simp) (by simp;omega) (by
    dsimp only;rw[u];refine⟨λj x y hj D A B=>?_,λj x y E=>by omega⟩;rw[WT,Mo]at A B;have g:=Kr A;have h:=Kr B;rw[H7 (by omega)]at g h;exact F j x y hj g h)
  dsimp only at r3 r4 r5;rw[u]at r3;simp only[Q7]at r5;rw[r1,At];unfold Gd;have c:r.2.l[q.l.length-1]?=some e:=by
    have:(r.2.l.drop (q.l.length-1))[0]?=some e:=by
      rw[r4,K2,U0,E9 (by simp;omega)]
    rwa[K2,U0]at this
  have m:Zi r.2.l 0 ((q.l.length-1:Nat):Int)=some (r.2.l.take (q.l.length-1)):=by
    unfold Zi;rw[if_pos (by simp;omega)];simp
  rw[r5,t,Br (by unfold W1;omega),At,BD,c,At,m,At,At];exact⟨_,rfl,e,⟨r.2.l.take (q.l.length-1)⟩,rfl,r2,b.trans (List.Perm.cons _ r3.symm),PH F (IR he)⟩
end
section
open Go Go.RowKit
abbrev Few(t:Tsk):Prop:=Mid t
def AbU(t:Tsk)(s:List Int)(k:Nat):Bool:=match t.ops[k]? with|some o=>holdsB o.pre s|none=>false
def AcX(t:Tsk)(s:List Int)(m:Nat):List Nat:=(List.range m).filter (AbU t s)
def AbN(t:Tsk)(s:List Int)(k:Nat):List Int:=match t.ops[k]? with|some o=>succ o s|none=>s
theorem Yd(t:Tsk)(s:List Int):ZC t s=(AcX t s t.ops.length).map λk:Nat=>(k:Int):=rfl
theorem WV(t:Tsk)(s:List Int)(k:Nat):Aaq t s (k:Int)=⟨(k:Int),AbN t s k⟩:=rfl
theorem SH{t:Tsk}{s:List Int}{k:Nat}{o:Opr}(a:t.ops[k]?=some o):AbU t s k=holdsB o.pre s/\AbN t s k=succ o s:=by unfold AbU AbN;rw[a];exact⟨rfl,rfl⟩
theorem PlanR.rch{t:Tsk}{s p a:List Int}{C:Int}(e:PlanR t s p a C)(hs:Rch t s):Rch t a:=by
  induction e with
  |nil=>exact hs
  |cons b c _ d=>exact d (hs.step b c)
end
section
open Go Go.RowKit
theorem VM{t:Tsk}(a:TaskOk t):∃b,FE t=some (some ⟨t,b,some ⟨t⟩⟩,⟨0⟩)/\RegI t.vars b [t.init]/\Y1 b=[⟨-1,-1,0⟩]:=by
  obtain⟨c,n1,b,rfl,n2,n3⟩:=Uj a.1 a.2.2.1;rcases PM a.1 n2 a.2.2.2.1 (by simp)with⟨i,hi,_⟩|⟨_,r',hadd,hr',hlk⟩
  . simp at hi
  refine⟨r',?_,hr',by rw[hlk,n3];rfl⟩;unfold FE;rw[XW a,At,if_neg (by simp),n1,At,if_neg (by simp),At,hadd,At,if_neg (by simp)]
theorem UA{vars:List Int}{r:Reg}{L:List (List Int)}(a:RegI vars r L):(Y1 r).length=L.length:=by unfold Y1;rw[R1,a.len]
theorem Ye{t:Tsk}(u:TaskOk t){s p g:List Int}{C:Int}(hr:PlanR t s p g C):∀(j:Nat)(c:Int),0<=c->c+p.length*1048576<=1000000000000000 ->
    rng (ρ:=Rsl×Err) (λ(_:Nat)(e:Int)(f:Int)=>bnd (atI t.ops e) λa=>bnd (W5 (f+a.cost)) λb=>some (.next b)) p j c=some (.done (c+C)):=by
  induction hr with
  |nil=>intro j c _ _;simp[rng]
  |@cons s h g k o C i n hr l =>
    intro j c hc hb;simp only[M8]at hb;have d:=u.2.2.2.2.2 k o i;have q:=d.1;have r:=d.2.1;have m:(bnd (atI t.ops (k:Int)) λa=>bnd (W5 (c+a.cost)) λb=>some (Ctl.next (ρ:=Rsl×Err) b))=some (.next (c+o.cost)):=by
      rw[BD,i,At,Br (by unfold W1;omega),At]
    simp only[rng,m];rw[l (j+1) (c+o.cost) (by omega) (by omega),Int.add_assoc]
theorem UB{t:Tsk}{s:List Int}(a:TaskOk t)(hs:StateOk t.vars s):s.length<=1000000:=by have:=hs.1;have:=a.1;omega
end
section
open Go Go.RowKit
structure SQ(t:Tsk)(L:List (List Int))(x:Spc):Prop where
  tt:x.t=t
  gen:x.gen=some ⟨t⟩
  reg:RegI t.vars x.reg L
theorem OD:∀(l:List (List Int))(bs:List Bool),(marked l bs).Sublist l
  |[],bs=>by simp[marked]
  |s::l,[]=>by simp[marked]
  |s::l,b::bs=>by
    have a:=OD l bs;simp only[marked];split
    . exact a.cons_cons s
    . exact a.cons s
theorem Jq:∀{l:List (List Int)}{bs:List Bool}{s:List Int},s∈marked l bs->∃i:Nat,l[i]?=some s/\bs[i]?=some true
  |[],bs,s,h=>by simp[marked]at h
  |s::l,[],s',h=>by simp[marked]at h
  |s  :: l,b::bs,s',h=>by
    simp only[marked]at h;by_cases hb:b=true
    . rw[if_pos hb]at h;rcases S0.1 h with rfl|h
      . exact⟨0,rfl,by simp[hb]⟩
      . obtain⟨i,h1,h2⟩:=Jq h;exact⟨i+1,by simpa using h1,by simpa using h2⟩
    . rw[if_neg hb]at h;obtain⟨i,h1,h2⟩:=Jq h;exact⟨i+1,by simpa using h1,by simpa using h2⟩
end
section
open Go Go.RowKit
abbrev US:=(List Int)×(List Bool)×Int×Int×Spc×BQ
abbrev UT:=(List Int)×(List Bool)×Int×Spc×BQ
noncomputable def uIn(t:Tsk)(n2 d e:Int)(s:UT)(a:Suc):Option (Ctl UT (Ctl US (Rsl×Err))):=bnd (CN s.2.2.2.1.reg a.state) λq=>if q.2.2.1.n≠0 then(bnd (DI 3 n2) λz=>some (.ret (.ret (z.1,(⟨z.2.n⟩:Err)))))else(bnd (atI t.ops a.op) λo=>bnd (W5 (d+o.cost)) λn=>bnd (if q.2.1=true then(bnd (X6 8 s.1 [n]) λu=>bnd (X6 1 s.2.1 [false]) λv=>some (.done (u,v)))else(bnd (bnd (atI s.2.1 q.1) λb=>if b=true then(some true)else(bnd (atI s.1 q.1) λc=>if c<=n then(some true)else(some false)):Option Bool) λy=>if y=true then(some (.ret (.next (s.1,s.2.1,s.2.2.1,(⟨s.2.2.2.1.t,q.2.2.2,s.2.2.2.1.gen⟩:Spc),s.2.2.2.2))))else(some (.done (s.1,s.2.1)))):Option (Fin ((List Int)×(List Bool)) (Ctl UT (Ctl US (Rsl×Err))))) λy=>fin y λ(z:(List Int)×(List Bool))=>bnd (atI z.1 q.1) λ_=>bnd (Dm q.2.2.2 q.1 e a.op n) λk=>if k.1.n≠0 then(some (.ret (.ret ((⟨0,([]:List Int),0,0⟩:Rsl),(⟨k.1.n⟩:Err)))))else(bnd (DQ s.2.2.2.2 (⟨(⟨n,s.2.2.1,q.1⟩:Itm)⟩:AI)) λf=>bnd (W5 (s.2.2.1+1)) λm=>some (.next ((z.1.set (q.1:Int).toNat n),z.2,m,(⟨s.2.2.2.1.t,k.2,s.2.2.2.1.gen⟩:Spc),f))))
noncomputable def Zu(t:Tsk)(c:Int):US->Option (Ctl US (Rsl×Err)):=λs=>bnd (Co s.2.2.2.2.2.l) λq=>if 0<q then(bnd (Ed s.2.2.2.2.2) λe=>bnd (atI s.2.1 e.1.x.id) λb=>if b=true then(some (.next (s.1,s.2.1,s.2.2.1,s.2.2.2.1,s.2.2.2.2.1,e.2)))else(bnd (DA s.2.2.2.2.1.reg e.1.x.id) λw=>if w.2.n≠0 then(some (.ret ((⟨0,([]:List Int),0,0⟩:Rsl),(⟨w.2.n⟩:Err))))else(bnd (DJ t.goal w.1) λg=>if g=true then bnd (DN s.2.2.2.2.1 e.1.x.id s.2.2.2.1) λz=>some (.ret (z.1,(⟨z.2.n⟩:Err)))else if c<=s.2.2.2.1 then(bnd (DI 3 s.2.2.2.1) λz=>some (.ret (z.1,(⟨z.2.n⟩:Err))))else(bnd (atI s.2.1 e.1.x.id) λ_=>bnd (W5 (s.2.2.2.1+1)) λn2=>bnd (Cg s.2.2.2.2.1.gen w.1) λl=>bnd (rng (ρ:=Ctl US (Rsl×Err)) (λ(_:Nat)(a:Suc)(y:UT)=>uIn t n2 e.1.x.cost e.1.x.id y a) l 0 (s.1,(s.2.1.set (e.1.x.id:Int).toNat true),s.2.2.1,s.2.2.2.2.1,e.2)) λr=>fin r λ(z:UT)=>some (.next (z.1,z.2.1,z.2.2.1,n2,z.2.2.2.1,z.2.2.2.2))))))else(some (.brk s))
noncomputable def Ab7:Fin US (Rsl×Err)->Option (Rsl×Err):=λr=>fin r λ(s:US)=>bnd (DI 2 s.2.2.2.1) λq=>some (q.1,(⟨q.2.n⟩:Err))
theorem WW(t:Tsk)(a:Int):CV t a=bnd (FE t) λq=>if q.2.n≠0 then(some ((⟨0,([]:List Int),0,0⟩:Rsl),(⟨q.2.n⟩:Err)))else(bnd q.1 λo=>bnd (lop (Zu t a) (([0]:List Int),[false],1,0,o,(⟨[(⟨0,0,0⟩:Itm)]⟩:BQ))) Ab7):=rfl
theorem Rz{t:Tsk}{s:List Int}{k:Nat}{o:Opr}(a:t.ops[k]?=some o)(b:holdsB o.pre s=true):(k:Int)∈ZC t s:=by
  rw[Yd,U9];exact⟨k,Q9.2 ⟨R5.2 (AF a),by rw[(SH a).1];exact b⟩,rfl⟩
theorem Mp{t:Tsk}{s:List Int}{C:Int}(b:Walk t s C):WalkS t (ZC t) s C:=by
  induction b with
  |goal e=>exact .goal e
  |step a c _ d=>exact .step a (Rz a c) d
theorem Ly{t:Tsk}(hs:Few t){r:Reg}{L:List (List Int)}(a:RegI t.vars r L):L.length<=600:=by
  refine U8 (IQ (Re a.nodup) λs hm=>?_) hs.many;obtain⟨i,hi⟩:=H4 hm;exact HA.2 (a.st i s hi)
def KP(L:List (List Int))(g:List Int)(b:List Bool)(c:List (List Int))(d:List Int)(a:List Bool):Prop:=∀j:Nat,a[j]?=some true->b[j]?=some true/\d[j]?=g[j]?/\c[j]?=L[j]?
def HM(g:List Int)(a:List Bool)(c:Int):Prop:=∀(j:Nat) c',a[j]?=some true->g[j]?=some c'->c'<=c
def CO(t:Tsk)(g:List Int)(a:List Bool):Prop:=∀(j:Nat) c',a[j]?=some true->g[j]?=some c'->∀C,Walk t t.init C->c'<=C
theorem KP.rfl{L:List (List Int)}{g:List Int}{a:List Bool}:KP L g a L g a:=λ_ b=>⟨b,Eq.refl _,Eq.refl _⟩
theorem KP.upd{L c:List (List Int)}{g d:List Int}{f b:List Bool}{i:Nat}{s:List Int}{x:Int}(k:UpL i s L c)(l:UpL i x g d)(h:UpL i false f b):KP L g f c d b:=λj hj=>by
  have a:j≠i:=λe=>(by subst e;rw[h.1]at hj;cases hj);exact⟨by rw[<- h.2 j a];exact hj,l.2 j a,k.2 j a⟩
theorem HM.kp{L e:List (List Int)}{g b:List Int}{d a:List Bool}{c:Int}(i:HM g d c)(k:KP L g d e b a):HM b a c:=λj f hj hc=>by
  obtain⟨h,k2,_⟩:=k j hj;exact i j f h (by rw[<- k2];exact hc)
theorem CO.kp{t:Tsk}{L d:List (List Int)}{g b:List Int}{c a:List Bool}(h:CO t g c)(k:KP L g c d b a):CO t b a:=λj e hj hc=>by
  obtain⟨f,k2,_⟩:=k j hj;exact h j e f (by rw[<- k2];exact hc)
theorem YJ{t:Tsk}(hs:Few t){D:Nat→Int→Prop}{ord:Nat→Nat}{L:List (List Int)}{E:Nat}{g:List Int}{fn:List Bool}{order:Int}{x:Spc}{q:BQ}(hx:SQ t L x)(hinv:SrI t (ZC t) D L (Y1 x.reg) g fn (qs q.l) ord E)(hh:X8 (qs q.l))(ho0:0≤order)(ho1:order≤100000)(hql:q.l.length≤100000)(hE:E≤601)
    {p k:Nat} {o:Opr} {sp:List Int} {cp n2:Int} (ho:t.ops[k]?=some o) (hsp:L[p]?=some sp) (hfp:fn[p]?=some true) (hpre:holdsB o.pre sp=true) (hgp:g[p]?=some cp) (hmax:HM g fn cp) (hcb:cp+1048576<=(E:Int)*1048576) :
    ∃y:UT,uIn t n2 cp (p:Int) (g,fn,order,x,q) ⟨(k:Int),succ o sp⟩=some (.next y)/\∃L',SQ t L' y.2.2.2.1/\SrI t (ZC t) D L' (Y1 y.2.2.2.1.reg) y.1 y.2.1 (qs y.2.2.2.2.l) ord E/\X8 (qs y.2.2.2.2.l)/\0<=y.2.2.1/\y.2.2.1<=order+1/\y.2.2.2.2.l.length<=q.l.length+1/\KP L g fn L' y.1 y.2.1/\L'[p]?=some sp/\y.2.1[p]?=some true/\y.1[p]?=some cp/\∃(i:Nat) (c':Int),L'[i]?=some (succ o sp)/\y.1[i]?=some c'/\c'<=cp+o.cost:=by
  have hok:=hs.ok;have hoo:=hok.2.2.2.2.2 k o ho;have ho1':=hoo.1;have ho2:=hoo.2.1;have hL:=Ly hs hx.reg;have hcp:=(hinv.bound p cp hgp).1;have hsok:StateOk t.vars (succ o sp):=IB hok (hx.reg.st p sp hsp) ho;have hgl:=hinv.leng;have hfl:=hinv.lenf;have hlkl:=UA hx.reg;have hpl:=AF hsp;unfold uIn;dsimp only;rcases PM hok.1 hx.reg hsok (by omega)with⟨i,hi,hadd⟩|⟨hno,r',hadd,hr',hlk⟩
  . have hil:=AF hi;obtain⟨ci,hci⟩:=AK (l:=g) (k:=i) (by omega);obtain⟨b,hb⟩:=AK (l:=fn) (k:=i) (by omega);rw[hadd,At,if_neg (by simp),BD,ho,At,Br (by unfold W1;omega),At];dsimp only;rw[BY,BD,hb,At,BD,hci,At];have keep:ci<=cp+o.cost->∃y:UT,(some (.next (g,fn,order,(⟨x.t,x.reg,x.gen⟩:Spc),q)):Option (Ctl UT (Ctl US (Rsl×Err))))=some (.next y)/\∃L',SQ t L' y.2.2.2.1/\SrI t (ZC t) D L' (Y1 y.2.2.2.1.reg) y.1 y.2.1 (qs y.2.2.2.2.l) ord E/\X8 (qs y.2.2.2.2.l)/\0<=y.2.2.1/\y.2.2.1<=order+1/\y.2.2.2.2.l.length<=q.l.length+1/\KP L g fn L' y.1 y.2.1/\L'[p]?=some sp/\y.2.1[p]?=some true/\y.1[p]?=some cp/\∃(i:Nat) (c':Int),L'[i]?=some (succ o sp)/\y.1[i]?=some c'/\c'<=cp+o.cost:=λhle =>
      ⟨_,rfl,L,hx,hinv,hh,ho0,by dsimp only;omega,by dsimp only;omega,KP.rfl,hsp,hfp,hgp,i,ci,hi,hci,hle⟩
    cases b with
    |true =>
      rw[Cd,At,Cd,At];exact keep (by have:=hmax i ci hb hci;omega)
    |false =>
      rw[BY];by_cases hle:ci<=cp+o.cost
      . rw[if_pos hle,At,Cd,At];exact keep hle
      . have hip:p≠i:=λe=>(by subst e;rw[hfp]at hb;cases hb);obtain⟨reg',s1,s2,s3⟩:=On hx.reg hil (p:=(p:Int)) (o:=(k:Int)) (c:=cp+o.cost) (.inr ⟨p,rfl,hpl⟩);obtain⟨q',u1,u2,u3⟩:=Ry hh (by omega) ⟨cp+o.cost,order,(i:Int)⟩;have hplen:=u3.length_eq;simp only[M8,HD]at hplen;rw[if_neg hle,At,BY,At,BH];dsimp only;rw[BD,hci,At,s1,At,if_neg (by simp),u1,At,Br (by unfold W1;omega),At,M6];have v1:UpL i (succ o sp) L L:=Rc hi;have v3:UpL i (cp+o.cost) g (g.set i (cp+o.cost)):=SA (by omega);have v4:UpL i false fn fn:=Rc hb;refine⟨_,rfl,L,⟨hx.tt,hx.gen,s2⟩,?_,u2,by dsimp only;omega,by dsimp only;omega,by dsimp only;omega,KP.upd v1 v3 v4,hsp,hfp,?_,i,cp+o.cost,hi,v3.1,V4 _⟩
        . dsimp only;rw[s3];exact hinv.upd hok v1 (SA (by omega)) v3 v4 u3 rfl rfl (by simp;omega) (by simp;omega) (by omega) (by omega) rfl (.inr ⟨hi,hb,λc hc=>by rw[hci]at hc;have:=Q1 hc;omega⟩) ho hsp hfp hpre rfl hgp rfl hmax (by omega)
        . dsimp only;rw[v3.2 p hip];exact hgp
  . rw[hadd,At,if_neg (by simp),BD,ho,At,Br (by unfold W1;omega),At];dsimp only;have hg2:(g++[cp+o.cost])[L.length]?=some (cp+o.cost):=(by rw[<- hgl];simp);obtain⟨reg',s1,s2,s3⟩:=On hr' (i:=L.length) (by simp) (p:=(p:Int)) (o:=(k:Int)) (c:=cp+o.cost) (.inr ⟨p,rfl,by simp;omega⟩);obtain⟨q',u1,u2,u3⟩:=Ry hh (by omega) ⟨cp+o.cost,order,((L.length:Nat):Int)⟩;have hplen:=u3.length_eq;simp only[M8,HD]at hplen;rw[Cd,Cb (by simp;omega) (by simp;omega),At,Cb (by simp;omega) (by simp;omega),At,At,BH];dsimp only;rw[BD,hg2,At,s1,At,if_neg (by simp),u1,At,Br (by unfold W1;omega),At,M6];have sc:(g++[cp+o.cost]).set L.length (cp+o.cost)=g++[cp+o.cost]:=(by rw[<- hgl];simp);rw[sc];have hlk2:Y1 reg'=Y1 x.reg++[⟨(p:Int),(k:Int),cp+o.cost⟩]:=(by rw[s3,hlk,<- hlkl];simp);have v1:UpL L.length (succ o sp) L (L++[succ o sp]):=MF;have v2:UpL L.length (⟨(p:Int),(k:Int),cp+o.cost⟩:RLk) (Y1 x.reg) (Y1 x.reg++[⟨(p:Int),(k:Int),cp+o.cost⟩]):=(by rw[<- hlkl];exact MF);have v3:UpL L.length (cp+o.cost) g (g++[cp+o.cost]):=(by rw[<- hgl];exact MF);have v4:UpL L.length false fn (fn++[false]):=(by rw[<- hfl];exact MF);have hne:p≠L.length:=(by omega);refine⟨_,rfl,L++[succ o sp],⟨hx.tt,hx.gen,s2⟩,?_,u2,by dsimp only;omega,by dsimp only;omega,by dsimp only;omega,KP.upd v1 v3 v4,by rw[v1.2 p hne];exact hsp,by dsimp only;rw[v4.2 p hne];exact hfp,by dsimp only;rw[v3.2 p hne];exact hgp,L.length,cp+o.cost,v1.1,v3.1,V4 _⟩;dsimp only;rw[hlk2];exact hinv.upd hok v1 v2 v3 v4 u3 rfl rfl (by simp;omega) (by simp;omega) (by simp;omega) (by simp) (WG _) (.inl (F2 (V2 _))) ho hsp hfp hpre rfl hgp rfl hmax (by omega)
structure UJ(t:Tsk)(D:Nat->Int->Prop)(ord:Nat->Nat)(E N:Nat)(i:Nat)(s:List Int)(c:Int)(L:List (List Int))(y:UT):Prop where
  sq:SQ t L y.2.2.2.1
  inv:SrI t (ZC t) D L (Y1 y.2.2.2.1.reg) y.1 y.2.1 (qs y.2.2.2.2.l) ord E
  heap:X8 (qs y.2.2.2.2.l)
  ord0:0<=y.2.2.1
  ord1:y.2.2.1<=(N:Int)+1
  qlen:y.2.2.2.2.l.length<=N
  hi:L[i]?=some s
  hf:y.2.1[i]?=some true
  hc:y.1[i]?=some c
  hm:HM y.1 y.2.1 c
  co:CO t y.1 y.2.1
theorem YK{t:Tsk}(hs:Few t){h:Nat→Nat}{E N i:Nat}{s:List Int}{c n2:Int}{L:List (List Int)}{y:UT}(M:UJ t (λj _=>j≠i) h E N i s c L y)(J:N≤90000)(D:E≤601)(A:c+1048576≤(E:Int)*1048576) :
    ∃w:UT,rng (ρ:=Ctl US (Rsl×Err)) (λ(_:Nat)(a:Suc)(y:UT)=>uIn t n2 c (i:Int) y a) ((Zl t s).map (Aaq t s)) 0 y=some (.done w)/\∃p,UJ t (λ_ _=>True) h E (N+80) i s c p w:=by
  have F:=hs.ok;have r:t.ops.length<=80:=hs.ops;have u:=M.sq.reg.st i s M.hi;have C:(ZC t s).length<=80:=U8 (Rq t s) r;rw[MG u];obtain⟨w,h1,h2⟩:=Jw (ρ:=Ctl US (Rsl×Err)) (f:=λ(_:Nat)(a:Suc)(y:UT)=>uIn t n2 c (i:Int) y a) (xs:=(ZC t s).map (Aaq t s)) (s₀:=y) (λm z=>∃p,UJ t (λj q=>j≠i\/q∈(ZC t s).take m) h E (N+m) i s c p z)
    ⟨L, { M with inv:={ M.inv with rel:=λj B q hj b l hd=>M.inv.rel j B q hj b l (by rcases hd with hd|hd;exact hd;simp at hd) } }⟩ (λm a z hm hz=>by
      rw[M3]at hm;obtain⟨K,n,rfl⟩:=E7.1 hm;obtain⟨p,hz⟩:=hz;obtain⟨k,o,rfl,ho,hp⟩:=Ro (H1 n);have G:=AF n;have l:=hz.qlen;have v:=hz.ord1;have H:Aaq t s (k:Int)=⟨(k:Int),succ o s⟩:=(by rw[WV,(SH ho).2]);obtain⟨g,fn,order,x,q⟩:=z;obtain⟨I,z1,L'',z2,z3,z4,z5,z6,z7,z8,z9,z10,z11,i',c',z12,z13,z14⟩:=YJ hs (n2:=n2) hz.sq hz.inv hz.heap hz.ord0 (by have:=hz.ord1;dsimp only at this;omega) (by have:=hz.qlen;dsimp only at this;omega) D ho hz.hi hz.hf hp hz.hc hz.hm A;(try dsimp only at l);(try dsimp only at v);(try dsimp only at z6);(try dsimp only at z7);refine⟨I,by rw[H];exact z1,L'',⟨z2,?_,z4,z5,by omega,by omega,z9,z10,z11,hz.hm.kp z8,hz.co.kp z8⟩⟩;refine z3.more (j₀:=i) (q₀:=(k:Int)) (λj q hd=>?_) z9 rfl ho z12 z11 z13 z14;rcases hd with hd|hd
      . exact .inl (.inl hd)
      . rcases(Vs n).1 hd with hd|rfl
        . exact .inl (.inr hd)
        . by_cases e:j=i
          . exact .inr ⟨e,rfl⟩
          . exact .inl (.inl e))
  obtain⟨p,h2⟩:=h2;rw[R1]at h2;refine⟨w,h1,p,?_⟩;have d:=h2.inv;have l:=h2.qlen;have v:=h2.ord1;exact { h2 with
    inv:={ d with rel:=λj B q hj b l hd=>d.rel j B q hj b l (by
      by_cases e:j=i
      . right;rw[P4];subst e;rw[h2.hi]at b;obtain rfl:=Q1 b;exact l
      . exact .inl e) }
    ord1:=by omega
    qlen:=by omega }
structure UI(t:Tsk)(ord:Nat->Nat)(N:Nat)(L:List (List Int))(s:US):Prop where
  sq:SQ t L s.2.2.2.2.1
  inv:SrI t (ZC t) (λ_ _=>True) L (Y1 s.2.2.2.2.1.reg) s.1 s.2.1 (qs s.2.2.2.2.2.l) ord s.2.2.2.1.toNat
  heap:X8 (qs s.2.2.2.2.2.l)
  ord0:0<=s.2.2.1
  ord1:s.2.2.1<=(N:Int)+1
  qlen:s.2.2.2.2.2.l.length<=N
  exp0:0<=s.2.2.2.1
  co:CO t s.1 s.2.1
  nn:(N:Int)<=1+80*s.2.2.2.1
theorem UI.exp{t:Tsk}(hs:Few t){a:Nat->Nat}{N:Nat}{L:List (List Int)}{s:US}(f:UI t a N L s):s.2.2.2.1<=600:=by
  have b:=f.inv.num;have c:=Ul s.2.1;have d:=f.inv.lenf;have e:=Ly hs f.sq.reg;have:=f.exp0;omega
theorem SrI.ways{t:Tsk}{L:List (List Int)}{lk:List RLk}{g:List Int}{f:List Bool}{q:List QEn}{j:Nat->Nat}{E:Nat}(H:SrI t (ZC t) (λ_ _=>True) L lk g f q j E)(a:TaskOk t){h p s:List Int}{C:Int}(u:PlanR t h p s C):∀(i:Nat) c,L[i]?=some h->g[i]?=some c->(∃e∈q,e.key<=c+C)\/∃i:Nat,L[i]?=some s/\f[i]?=some true:=by
  induction u with
  |nil =>
    intro i c hi hc;obtain⟨b,hb⟩:=AK (l:=f) (k:=i) (by rw[H.lenf];exact AF hi);cases b with
    |false=>obtain⟨e,m,k1,_⟩:=H.opn i c hb hc;exact .inl ⟨e,m,by omega⟩
    |true=>exact .inr ⟨i,hi,hb⟩
  |@cons h r D k o C n d hr v =>
    intro i c hi hc;have F:=(hr.bound a).1;have G:=(a.2.2.2.2.2 k o n).1;obtain⟨b,hb⟩:=AK (l:=f) (k:=i) (by rw[H.lenf];exact AF hi);cases b with
    |false=>obtain⟨e,m,k1,_⟩:=H.opn i c hb hc;exact .inl ⟨e,m,by omega⟩
    |true =>
      obtain⟨w,o',x,c0,y,a1,a2,z,a4,A,a6⟩:=H.rel i h _ hb hi (Rz n d) trivial;have B:k=w:=(by omega);subst B;rw[n]at a2;obtain rfl:=Q1 a2;rw[hc]at a4;obtain rfl:=Q1 a4;rcases v x y z A with⟨e,m,k1⟩|h3
      . exact .inl ⟨e,m,by omega⟩
      . exact .inr h3
theorem Yf{t:Tsk}(hs:Few t){ord:Nat→Nat}{N:Nat}{L:List (List Int)}{st:US}(h:UI t ord N L st) :
    (∃st':US,(∀lim,Zu t lim st=some (.next st'))/\UI t ord N L st'/\st'.2.2.2.1=st.2.2.2.1/\st'.2.2.2.2.2.l.length<st.2.2.2.2.2.l.length) \/
    ((∀lim,Zu t lim st=some (.brk st))/\st.2.2.2.2.2.l.length=0) \/
    (∃p c,(∀lim,Zu t lim st=some (.ret (⟨1,p,c,st.2.2.2.1⟩,⟨0⟩)))/\p.length<=600/\(∃s',PlanR t t.init p s' c/\holdsB t.goal s'=true)/\(∀e∈qs st.2.2.2.2.2.l,c<=e.key)) \/
    (∃(st':US) (ord':Nat->Nat) (N':Nat) (L':List (List Int)),(∀lim,Zu t lim st=if lim<=st.2.2.2.1 then some (.ret (⟨3,[],0,st.2.2.2.1⟩,⟨0⟩))else some (.next st'))/\UI t ord' N' L' st'/\st'.2.2.2.1=st.2.2.2.1+1/\∃(i:Nat) (s:List Int) (c:Int),L[i]?=some s/\st.2.1[i]?=some false/\st.1[i]?=some c/\holdsB t.goal s=false/\∀C,Walk t t.init C->c<=C):=by
  have hok:=hs.ok;have hE:=h.exp hs;have hE0:=h.exp0;have hnn:=h.nn;have hql:=h.qlen;obtain⟨g,fn,order,exp,x,q⟩:=st;dsimp only at hE hE0 hnn hql ⊢;by_cases h0:q.l.length=0
  . refine .inr (.inl ⟨λlim=>?_,h0⟩);unfold Zu Co;dsimp only;rw[At,if_neg (by omega)]
  obtain⟨pr,p1,e,q',rfl,p3,p4,p5⟩:=WU (q:=q) h.heap (by omega) (by omega);have hem:toQ e∈qs q.l:=p4.mem_iff.2 K6;obtain⟨i,hei,hil,hek⟩:=h.inv.ent _ hem;change e.id=(i:Int)at hei;obtain⟨s,hsi⟩:=AK (l:=L) (k:=i) hil;obtain⟨b,hb⟩:=AK (l:=fn) (k:=i) (by have:=h.inv.lenf;dsimp only at this;omega);obtain⟨c,hc⟩:=AK (l:=g) (k:=i) (by have:=h.inv.leng;dsimp only at this;omega);have hpl:=p4.length_eq;simp only[M8,HD]at hpl;cases b with
  |true =>
    refine .inl ⟨(g,fn,order,exp,x,q'),λlim=>?_,⟨h.sq,h.inv.drop p4 hei (.inl hb),p3,h.ord0,h.ord1,by dsimp only;omega,h.exp0,h.co,h.nn⟩,rfl,by dsimp only;omega⟩;unfold Zu Co;dsimp only;rw[At,if_pos (by omega),p1,At];dsimp only;rw[hei,BD,hb,At,Cd]
  |false =>
    have hke:e.cost=c:=by
      obtain⟨e',m,k1,_⟩:=h.inv.opn i c hb hc;have h1:=Ol (p5 e' m);have h2:=hek c hc;change c<=e.cost at h2;change e.cost<=e'.key at h1;omega
    have start:∀lim,Zu t lim (g,fn,order,exp,x,q)=if holdsB t.goal s=true then bnd (DN x (i:Int) exp) λz=>some (.ret (z.1,(⟨z.2.n⟩:Err)))else if lim<=exp then(some (.ret (⟨3,[],0,exp⟩,⟨0⟩)))else(bnd (atI fn (i:Int)) λ_=>bnd (W5 (exp+1)) λn2=>bnd (Cg x.gen s) λl=>bnd (rng (ρ:=Ctl US (Rsl×Err)) (λ(_:Nat)(a:Suc)(y:UT)=>uIn t n2 c (i:Int) y a) l 0 (g,(fn.set i true),order,x,q')) λr=>fin r λ(z:UT)=>some (.next (z.1,z.2.1,z.2.2.1,n2,z.2.2.2.1,z.2.2.2.2))):=by
      intro lim;unfold Zu Co DI;dsimp only;rw[At,if_pos (by omega),p1,At];dsimp only;rw[hei,hke,BD,hb,At,BY,RM hok.1 h.sq.reg hsi,At,if_neg (by simp),GK,At,M6,At]
    have hkey:g[i]?=some (toQ e).key:=(by rw[hc,<- hke];rfl);have hleast:∀e'∈qs q.l,c<=e'.key:=λe' m=>(by have:=Ol (p5 e' m);change e.cost<=e'.key at this;omega);have hchp:∀C,Walk t t.init C->c<=C:=λC hw=>by
      obtain⟨e',m,k1⟩:=h.inv.front hok (Mp hw) 0 0 h.inv.root h.inv.root0;have:=hleast e' m;omega
    by_cases hg:holdsB t.goal s=true
    . obtain⟨p,g1,g2,g3⟩:=h.inv.path hsi hc;have hL:=Ly hs h.sq.reg;have hnum:=h.inv.num;have hcl:=Ul fn;have hfl:=h.inv.lenf;dsimp only at g1 g2 g3 hnum hcl hfl;refine .inr (.inr (.inl ⟨p,c,λlim=>?_,by omega,⟨s,g2,hg⟩,hleast⟩));rw[start,if_pos hg];unfold DN;rw[WF h.sq.reg (by omega) g1 (by omega),At,if_neg (by simp),h.sq.tt,Ye hok g2 0 0 (by omega) (by omega),At,BH,Int.zero_add,At]
    . have hgf:holdsB t.goal s=false:=(by simpa using hg);have hm:=h.inv.mark p4 p5 hei hb hkey hsi hgf;have hbd:=h.inv.bound i c hc;dsimp only at hm hbd;rw[I8 hE0]at hbd;have hfl:i<fn.length:=AF hb;have hset:∀(j:Nat) c',(fn.set i true)[j]?=some true->g[j]?=some c'->c'<=c/\∀C,Walk t t.init C->c'<=C:=λj c' hj hc'=>by
        by_cases e1:i=j
        . subst e1;rw[hc]at hc';obtain rfl:=Q1 hc';exact⟨V4 _,hchp⟩
        . rw[H7 e1]at hj;exact⟨by have:=h.inv.lower j c' hj hc' _ hem;change c'<=e.cost at this;omega,h.co j c' hj hc'⟩
      obtain⟨y',y1,L',y2⟩:=YK hs (n2:=exp+1) (E:=exp.toNat+1) (N:=N) (i:=i) (s:=s) (c:=c) (L:=L) (y:=(g,fn.set i true,order,x,q')) ⟨h.sq,hm,p3,h.ord0,h.ord1,by dsimp only;omega,hsi,E9 hfl,hc,λj c' hj hc'=>(hset j c' hj hc').1,λj c' hj hc'=>(hset j c' hj hc').2⟩ (by omega) (by omega) (by
        have:((exp.toNat+1:Nat):Int)=exp+1:=(by omega);rw[this];omega)
      have hsok:=h.sq.reg.st i s hsi;refine .inr (.inr (.inr ⟨(y'.1,y'.2.1,y'.2.2.1,exp+1,y'.2.2.2.1,y'.2.2.2.2),(λj=>if j=i then exp.toNat else ord j),N+80,L',λlim=>?_,⟨y2.sq,?_,y2.heap,y2.ord0,y2.ord1,y2.qlen,by dsimp only;omega,y2.co,by dsimp only;omega⟩,rfl,i,s,c,hsi,hb,hc,hgf,hchp⟩))
      . rw[start,if_neg hg];by_cases hlim:lim<=exp
        . rw[if_pos hlim,if_pos hlim]
        . rw[if_neg hlim,if_neg hlim,BD,hb,At,Br (by unfold W1;omega),At,h.sq.gen,WQ hok (UB hok hsok),At,y1,At,BH]
      . dsimp only;rw[show(exp+1).toNat=exp.toNat+1 from by omega];exact y2.inv
end
section
open Go Go.RowKit
def AaU(t:Tsk)(s:List Int):Prop:=holdsB t.goal s=false/\∃p c,PlanR t t.init p s c/\c<=1000000000/\∀C,Walk t t.init C->c<=C
def ResU(t:Tsk)(m:Int)(r:Rsl):Prop:=0<=r.expanded/\r.expanded<=m/\∃b:List (List Int),b.Nodup/\(b.length:Int)=r.expanded/\(∀s∈b,AaU t s) /\
  ((r.verdict=1/\r.plan.length<=600/\(∃a,PlanR t t.init r.plan a r.cost/\holdsB t.goal a=true)/\(∀C,Walk t t.init C->r.cost<=C)/\∀s p c,PlanR t t.init p s c->c<r.cost->s∈b) \/
   (r.verdict=2/\r.plan=[]/\r.cost=0/\(∀C,¬Walk t t.init C)/\∀s p c,PlanR t t.init p s c->s∈b) \/
   (r.verdict=3/\r.plan=[]/\r.cost=0/\m<=r.expanded/\∃s,¬s∈b/\AaU t s))
def Aa2:Fin US (Rsl×Err)->Rsl
  |.done s=>⟨2,[],0,s.2.2.2.1⟩
  |.ret r=>r.1
section
variable {t:Tsk}{ord:Nat → Nat}{N:Nat}{L:List (List Int)}{st:US}
theorem UI.set(hs:Few t)(d:UI t ord N L st):(marked L st.2.1).Nodup/\((marked L st.2.1).length:Int)=st.2.2.2.1/\∀s∈marked L st.2.1,AaU t s:=by
  have b:=d.exp hs;have a:=d.exp0;refine⟨(Re d.sq.reg.nodup).sublist (OD _ _),?_,λs hm=>?_⟩
  . rw[Oo L st.2.1 d.inv.lenf,d.inv.num,I8 d.exp0]
  . obtain⟨i,hi,hb⟩:=Jq hm;obtain⟨c,hc⟩:=AK (l:=st.1) (k:=i) (by rw[d.inv.leng];exact AF hi);obtain⟨p,_,g2,_⟩:=d.inv.path hi hc;have:=d.inv.bound i c hc;rw[I8 a]at this;exact⟨d.inv.nogoal i s hb hi,p,c,g2,by omega,d.co i c hb hc⟩
theorem UI.len(hs:Few t)(d:UI t ord N L st):st.2.2.2.2.2.l.length<=90000:=by
  have a:=d.exp hs;have b:=d.qlen;have c:=d.nn;have:=d.exp0;omega
end
theorem WX{g K a q d n:Nat}(e:a<g)(h:(g-a)*K+q<n+1)(f:d<K):(g-(a+1))*K+d<n:=by
  obtain⟨b,hb⟩:∃b,g-a=b+1:=⟨g-a-1,by omega⟩;have c:g-(a+1)=b:=(by omega);rw[hb,V3,V7]at h;rw[c];omega
theorem YL{t:Tsk}(hs:Few t)(d:Int):∀(n:Nat)(st:US)(ord:Nat→Nat)(N:Nat)(L:List (List Int)),UI t ord N L st→st.2.2.2.1≤max d 0→(601-st.2.2.2.1.toNat)*100000+st.2.2.2.2.2.l.length<n→∃f,lop (Zu t d) st=some f∧Ab7 f=some (Aa2 f,⟨0⟩)∧ResU t (max d 0) (Aa2 f)∧st.2.2.2.1≤(Aa2 f).expanded∧∀a,(Aa2 f).verdict≠3→(Aa2 f).expanded≤max a 0→lop (Zu t a) st=some f:=by
  intro n
  induction n with
  |zero=>intro st ord N L _ _ hn;omega
  |succ n B =>
    intro st ord N L H u hn;have F:=H.exp hs;have g:=H.exp0;have h:=hs.ok;obtain⟨w,m2,m3⟩:=H.set hs;rcases Yf hs H with⟨o,b,h2,h3,h4⟩|⟨b,h2⟩|⟨p,c,b,h2,h3,h4⟩|⟨o,ord',N',L',b,h2,h3,i,s,c,h4,h5,h6,h7,h8⟩
    . obtain⟨f,f1,f0,f2,f3,f4⟩:=B o ord N L h2 (by omega) (by rw[h3];omega);refine⟨f,by rw[GS,b];exact f1,f0,f2,by omega,λa v hl=>?_⟩;rw[GS,b];exact f4 a v hl
    . have q:∀e,¬e∈qs st.2.2.2.2.2.l:=λe he=>by
        have:=List.length_pos_of_mem he;rw[HD]at this;omega
      refine⟨.done st,by rw[GS,b],rfl,⟨g,u,marked L st.2.1,w,m2,m3,.inr (.inl ⟨rfl,rfl,rfl,λC x=>?_,λs p c y=>?_⟩)⟩,V4 _,λa _ _=>by rw[GS,b]⟩
      . obtain⟨z,m,_⟩:=H.inv.front h (Mp x) 0 0 H.inv.root H.inv.root0;exact q z m
      . rcases H.inv.ways h y 0 0 H.inv.root H.inv.root0 with⟨e,m,_⟩|⟨i,i1,i2⟩
        . exact absurd m (q e)
        . exact Lt i1 i2
    . refine⟨.ret (⟨1,p,c,st.2.2.2.1⟩,⟨0⟩),by rw[GS,b],rfl,⟨g,u,marked L st.2.1,w,m2,m3,.inl ⟨rfl,h2,h3,λC x=>?_,λs G E y hlt=>?_⟩⟩,V4 _,λa _ _=>by rw[GS,b]⟩
      . obtain⟨z,m,k⟩:=H.inv.front h (Mp x) 0 0 H.inv.root H.inv.root0;have:=h4 z m;show c<=C;omega
      . rcases H.inv.ways h y 0 0 H.inv.root H.inv.root0 with⟨e,m,k⟩|⟨i,i1,i2⟩
        . have:=h4 e m;change E<c at hlt;omega
        . exact Lt i1 i2
    . by_cases r:d<=st.2.2.2.1
      . refine⟨.ret (⟨3,[],0,st.2.2.2.1⟩,⟨0⟩),by rw[GS,b,if_pos r],rfl,⟨g,u,marked L st.2.1,w,m2,m3,.inr (.inr ⟨rfl,rfl,rfl,by show max d 0<=st.2.2.2.1;omega,s,λhm=>?_,?_⟩)⟩,V4 _,λa v _=>absurd rfl v⟩
        . obtain⟨j,j1,D⟩:=Jq hm;have:=H.sq.reg.nodup i j s h4 j1;subst this;rw[h5]at D;cases D
        . obtain⟨p,_,g2,_⟩:=H.inv.path h4 h6;have:=H.inv.bound i c h6;rw[I8 g]at this;exact⟨h7,p,c,g2,by omega,h8⟩
      . have A:=h2.len hs;obtain⟨f,f1,f0,f2,f3,f4⟩:=B o ord' N' L' h2 (by omega) (by
          have:o.2.2.2.1.toNat=st.2.2.2.1.toNat+1:=(by omega);rw[this];exact WX (by omega) hn (by omega))
        refine⟨f,by rw[GS,b,if_neg r];exact f1,f0,f2,by omega,λa v hl=>?_⟩;rw[GS,b,if_neg (by omega)];exact f4 a v hl
theorem Yg{t:Tsk}{d:Reg}(hr:RegI t.vars d [t.init])(f:Y1 d=[⟨-1,-1,0⟩]):UI t (λ_=>0) 1 [t.init] (([0]:List Int),[false],1,0,⟨t,d,some ⟨t⟩⟩,(⟨[(⟨0,0,0⟩:Itm)]⟩:BQ)):=by
  have one:∀{α:Type}{a b:α}{i:Nat},[a][i]?=some b->i=0/\b=a:=λ{α a b i} m=>by
    cases i with
    |zero=>simp at m;exact⟨rfl,m.symm⟩
    |succ i=>simp at m
  refine⟨⟨rfl,rfl,hr⟩,?_,λj x y hj h=>by have:=(one h).1;omega,by simp,by simp,by simp,by simp,(λj c hj=>by have:=(one hj).2;cases this),by simp⟩;dsimp only;rw[f];refine⟨rfl,rfl,rfl,rfl,rfl,λi s k c hi hk hc=>?_,λi hi=>?_,λj c hj=>?_,λe he=>?_,λi c hi hc=>?_,λi c hc=>?_,λj s hj=>?_,λj s q hj=>?_,rfl,λi s hi=>?_,λl=>by simp at l⟩
  . obtain⟨rfl,rfl⟩:=one hi;obtain⟨_,rfl⟩:=one hk;obtain⟨_,rfl⟩:=one hc;exact .inl ⟨rfl,rfl,rfl⟩
  . have:=(one hi).2;cases this
  . have:=(one hj).2;cases this
  . have g:e=toQ ⟨0,0,0⟩:=(by simpa[qs]using he);subst g;refine⟨0,rfl,by simp,λc hc=>?_⟩;have:=(one hc).2;rw[this];decide
  . obtain⟨rfl,_⟩:=one hi;have:=(one hc).2;refine⟨toQ ⟨0,0,0⟩,by simp[qs],?_,rfl⟩;rw[this];rfl
  . have:=(one hc).2;rw[this];decide
  . have:=(one hj).2;cases this
  . have:=(one hj).2;cases this
  . obtain⟨_,rfl⟩:=one hi;exact .init
theorem OE{t:Tsk}(hs:Few t)(b:Int):∃r,CV t b=some (r,⟨0⟩)/\ResU t (max b 0) r/\(r.verdict≠3->∀a,r.expanded<=max a 0->CV t a=some (r,⟨0⟩)):=by
  obtain⟨d,b1,b2,b3⟩:=VM hs.ok;have c:∀l,CV t l=bnd (lop (Zu t l) (([0]:List Int),[false],1,0,(⟨t,d,some ⟨t⟩⟩:Spc),(⟨[(⟨0,0,0⟩:Itm)]⟩:BQ))) Ab7:=λl=>by
    rw[WW,b1,At,if_neg (by simp),At]
  obtain⟨f,f1,f0,f2,f3,f4⟩:=YL hs b _ _ _ _ _ (Yg b2 b3) (by dsimp only;omega) (P1 _);refine⟨Aa2 f,by rw[c,f1,At,f0],f2,λe a hl=>?_⟩;rw[c,f4 a e hl,At,f0]
theorem OF{t:Tsk}(hs:Few t){m:Int}{r:Rsl}(e:ResU t m r)  (hm:600≤m:=by decide):r.verdict≠3:=λd=>by
  obtain⟨_,_,M,m1,m2,m3,h1|h1|⟨_,_,_,h4,s,h5,h6⟩⟩:=e
  . omega
  . omega
  . have b:(s::M).length<=(statesL t.vars).length:=IQ (R3.2 ⟨h5,m1⟩) λa hm'=>by
      have hc:AaU t a:=by
        rcases S0.1 hm' with rfl|hm'
        . exact h6
        . exact m3 a hm'
      obtain⟨_,p,c,hp,_⟩:=hc;exact HA.2 ((hp.rch .init).ok hs.ok)
    have:=hs.many;rw[M8]at b;omega
end
section
open Go Go.RowKit
structure Fit(t:Tsk)(old:List ByteArray):Prop where
  ok:TaskOk t
  ops:t.ops.length<=10
  old:old.length<=6
  states:∀k,(statesL (t.vars.take k)).length<=81
section
variable {t:Tsk}{old:List ByteArray}{w:Int}
theorem Fit.mid(c:Fit t old)(hu:TaskOk (YX t old w)):Mid (YX t old w):=by
  refine⟨hu,λk=>?_,?_⟩
  . show(statesL ((t.vars++[(old.length:Int)+1]).take k)).length<=600;rcases T9 t.vars.length k with hk|hk
    . have e:(t.vars++[(old.length:Int)+1]).take k=(t.vars++[(old.length:Int)+1]).take (t.vars.length+1):=by
        rw[E5 (by simp;omega),E5 (by simp)]
      rw[e,Me (n:=(old.length:Int)+1) (by simp),Aab,Ko,B6 (V2 _),P4];have a:=c.states t.vars.length;rw[P4]at a;have b:=c.old;have:(statesL t.vars).length*((old.length:Int)+1).toNat<=81*7:=R7 a (by omega);omega
    . rw[B6 hk];have:=c.states k;omega
  . show((cmpL t old w).map (·.1)).length<=80;rw[R1];have a:=QM t old w;have b:old.length*(t.ops.length+1)<=6*11:=R7 c.old (by have:=c.ops;omega);have:=c.ops;omega
theorem WY{u:Tsk}{s P a:List Int}{C:Int}(e:PlanR u s P a C):∀(i:Nat)(k:Int),P[i]?=some k->∃(j:Nat) (o:Opr),k=(j:Int)/\u.ops[j]?=some o:=by
  induction e with
  |nil=>intro i k hi;simp at hi
  |@cons s b a j o C c _ _ d =>
    intro i k hi;cases i with
    |zero=>simp at hi;exact⟨j,o,hi.symm,c⟩
    |succ i=>exact d i k (by simpa using hi)
theorem UC(L:List (Opr×Prt))(P:List Int)(k:Int):Y4 L (P++[k])=Y4 L P++Y4 L [k]:=by unfold Y4;rw[I7]
theorem Lz(L:List (Opr×Prt)):∀P:List Int,(Y4 L P).length<=P.length
  |[]=>by simp[Y4]
  |k  :: P=>by
    have:=Lz L P;unfold Y4 at this ⊢;rw[M1,K0,M8];have a:(Abh L k).length<=1:=by
      unfold Abh;split
      . split<;>simp
      . simp
    omega
theorem Tu(d:Fit t old)(a:0<=w)(b:w<=1000)(hu:¬TaskOk (YX t old w))(c:Int):DP t old w c=some (⟨0,[],0,0⟩,0,⟨Y0 (YX t old w)⟩)/\Y0 (YX t old w)≠0:=by
  have hn:Y0 (YX t old w)≠0:=λd=>hu (Ei.1 d);refine⟨?_,hn⟩;unfold DP;rw[Jo d.ok (by have:=d.ops;omega) (by have:=d.old;omega) a b,if_pos hn,At,if_pos hn]
theorem OG(y:Fit t old)(g:0≤w)(h:w≤1000)(hu:TaskOk (YX t old w))(b:Int):∃r,CV (YX t old w) b=some (r,⟨0⟩)∧ResU (YX t old w) (max b 0) r∧(r.verdict≠3→∀c,r.expanded≤max c 0→CV (YX t old w) c=some (r,⟨0⟩)) ∧
    DP t old w b=some (if r.verdict≠1 then(r,0,⟨0⟩)else(⟨r.verdict,Y4 (cmpL t old w) r.plan,r.cost,r.expanded⟩,(ZK ((Y4 (cmpL t old w) r.plan).map (nmO t)) old:Int),⟨0⟩)):=by
  obtain⟨r,r1,r2,r3⟩:=OE (y.mid hu) b;refine⟨r,r1,r2,r3,?_⟩;unfold DP;rw[Jo y.ok (by have:=y.ops;omega) (by have:=y.old;omega) g h,if_neg (by rw[Ei.2 hu];simp),At,if_neg (by simp)];dsimp only;rw[r1,At,if_neg (by simp)];by_cases e:r.verdict≠1
  . rw[if_pos e,if_pos e]
  rw[if_neg e,if_neg e];obtain⟨_,_,M,_,_,_,⟨_,hl,⟨s',hp,_⟩,_,_⟩|⟨d,_⟩|⟨d,_⟩⟩:=r2
  . have v:=y.ops;have u:=y.old;rw[He (λi=>(Y4 (cmpL t old w) (r.plan.take i),(Y4 (cmpL t old w) (r.plan.take i)).map (nmO t))) (by simp[Y4]) ?gg1,At,BH,P4]
    case gg1 =>
      intro i k hk;have x:=AF hk;obtain⟨j,o,rfl,hj⟩:=WY hp i k hk;obtain⟨q,l,_⟩:=SG hj;have f:=Lz (cmpL t old w) (r.plan.take i);rw[N8]at f;have n:r.plan.take (i+1)=r.plan.take i++[(j:Int)]:=(by rw[M2,hk];rfl);rw[n,UC,PS l,BD,M3,l,R0,At];have s:(0:Int)<=q.2.op->∃(m:Nat) (o:Opr),q.2.op=(m:Int)/\t.ops[m]?=some o:=λa=>by
        rcases Kc.1 (H1 l)with⟨m,o,hm,rfl⟩|⟨_,m,o,_,hm,rfl⟩|⟨p,_,_,rfl⟩
        . exact⟨m,o,rfl,hm⟩
        . exact⟨m,o,rfl,hm⟩
        . exact absurd (show(0:Int)<=-1 from a) (by omega)
      by_cases a:0<=q.2.op
      . obtain⟨m,o',hm,hmo⟩:=s a;rw[if_pos a,if_pos a,hm,BD,hmo,At,Cb (by simp;omega) (by simp;omega),At,Cb (by simp;omega) (by simp;omega),At];simp[Y4,OC hmo]
      . rw[if_neg a,if_neg a];simp[Y4]
    have f:=Lz (cmpL t old w) r.plan;dsimp only;rw[Yb (by simp;omega) (by omega),At];rfl
  . exact absurd (by rw[d];decide) e
  . exact absurd (by rw[d];decide) e
theorem SI(A:Fit t old)(j:0≤w){m:Int}{r:Rsl}(hr:ResU (YX t old w) m r)(z:r.verdict=1):∃x c,PlanR t t.init (Y4 (cmpL t old w) r.plan) x c∧holdsB t.goal x=true∧r.cost=c+w*(ZK ((Y4 (cmpL t old w) r.plan).map (nmO t)) old:Int) ∧
    ∀a b d,PlanR t t.init a b d->holdsB t.goal b=true->r.cost<=d+w*(ZK (a.map (nmO t)) old:Int):=by
  have hi:=A.ok.2.2.2.1.1;have e:∀a b d,(∀C,Walk (YX t old w) (YX t old w).init C->r.cost<=C)->PlanR t t.init a b d->holdsB t.goal b=true->r.cost<=d+w*(ZK (a.map (nmO t)) old:Int):=λa b d hb f i=>by
    have g:b.length=t.vars.length:=by
      have:∀{s p h:List Int}{C:Int},PlanR t s p h C->h.length=s.length:=λf=>by
        induction f with
        |nil=>rfl
        |cons _ _ _ k=>rw[k,HK]
      rw[this f,hi]
    obtain⟨P,hP⟩:=Uz (w:=w) A.ok (Mn (a.map (nmO t)) old) t.init b a d 0 f rfl rfl (by omega) hi;refine hb _ (hP.walk ?_);rw[ND A.ok g,i];simp
  obtain⟨_,_,M,_,_,_,⟨_,_,⟨h,f,i⟩,hb,_⟩|⟨l,_⟩|⟨l,_⟩⟩:=hr
  . obtain⟨b,p',c,n,rfl,_,hp2,hpl,hscr,hC⟩:=VJ A.ok f t.init 0 rfl hi (by omega);have g:b.length=t.vars.length:=by
      have:∀{s p h:List Int}{C:Int},PlanR t s p h C->h.length=s.length:=λf=>by
        induction f with
        |nil=>rfl
        |cons _ _ _ k=>rw[k,HK]
      rw[this hpl,hi]
    rw[ND A.ok g,N1,decide_eq_true_eq]at i;have o:p'=old.length:=(by omega);subst o;rw[P4,List.drop_zero]at hscr;have u:=NB hscr;have v:=e _ _ _ hb hpl i.1;refine⟨b,c,hpl,i.1,?_,λa b d q y=>e a b d hb q y⟩;have q:w*(ZK ((Y4 (cmpL t old w) r.plan).map (nmO t)) old:Int)<=w*(n:Int):=B4 (by omega) j;omega
  . omega
  . omega
theorem RB(k:Fit t old){m:Int}{r:Rsl}(hr:ResU (YX t old w) m r)(j:r.verdict=2):r.plan=[]∧r.cost=0∧∀a b d,PlanR t t.init a b d→holdsB t.goal b=true→False:=by
  have hi:=k.ok.2.2.2.1.1;obtain⟨_,_,M,_,_,_,⟨e,_⟩|⟨_,h1,h2,h3,_⟩|⟨e,_⟩⟩:=hr
  . omega
  . refine⟨h1,h2,λa b d c h=>?_⟩;have f:b.length=t.vars.length:=by
      have:∀{s p g:List Int}{C:Int},PlanR t s p g C->g.length=s.length:=λc=>by
        induction c with
        |nil=>rfl
        |cons _ _ _ i=>rw[i,HK]
      rw[this c,hi]
    obtain⟨P,hP⟩:=Uz (w:=w) k.ok (Mn (a.map (nmO t)) old) t.init b a d 0 c rfl rfl (by omega) hi;exact h3 _ (hP.walk (by rw[ND k.ok f,h];simp))
  . omega
theorem ResU.verd{u:Tsk}{m:Int}{r:Rsl}(a:ResU u m r):r.verdict=1\/r.verdict=2\/r.verdict=3:=by
  obtain⟨_,_,M,_,_,_,⟨a,_⟩|⟨a,_⟩|⟨a,_⟩⟩:=a<;>simp[a]
end
end
section
open Go Go.RowKit
def Abc(vars:List Int)(x:Fct):Bool:=decide (0<=x.var)&&(decide (0<=x.val)&&(match vars[x.var.toNat]? with|some y=>decide (x.val<y)|none=>false))
theorem RC{vars:List Int}{x:Fct}(d:Abc vars x=true):Y8 vars x:=by
  unfold Abc at d;simp only[N1,decide_eq_true_eq]at d;obtain⟨c,h2,a⟩:=d;cases b:vars[x.var.toNat]? with
  |none=>rw[b]at a;cases a
  |some y=>rw[b]at a;exact⟨c,h2,y,b,by simpa using a⟩
def AbA:List Fct->Bool
  |x::y::r=>decide (x.var<y.var)&&AbA (y::r)
  |_=>true
theorem SJ:∀{f:List Fct},AbA f=true->∀(i:Nat) x y,f[i]?=some x->f[i+1]?=some y->x.var<y.var
  |[],_,i,x,y,h,_=>by simp at h
  |[_],_,i,x,y,_,h=>by simp at h
  |a::b::r,h,i,x,y,h1,h2=>by
    simp only[AbA,N1,decide_eq_true_eq]at h;cases i with
    |zero=>simp at h1 h2;subst h1;subst h2;exact h.1
    |succ i=>exact SJ h.2 i x y (by simpa using h1) (by simpa using h2)
def Aax(vars:List Int)(f:List Fct):Bool:=f.all (Abc vars)&&AbA f
theorem Kx{vars:List Int}{f:List Fct}(b:Aax vars f=true):FactsOk vars f:=by
  unfold Aax at b;rw[N1,N6]at b;exact⟨λi x a=>RC (b.1 x (H1 a)),SJ b.2⟩
def Aal:List Int->List Int->Bool
  |[],[]=>true
  |y::vars,x::s=>decide (0<=x)&&(decide (x<y)&&Aal vars s)
  |_,_=>false
theorem PT:∀{vars s:List Int},Aal vars s=true->StateOk vars s
  |[],[],_=>⟨rfl,λi x y e=>by simp at e⟩
  |y::vars,x::s,e=>by
    simp only[Aal,N1,decide_eq_true_eq]at e;obtain⟨d,h2⟩:=PT e.2.2;refine⟨by simp[d],λi a b c hb=>?_⟩;cases i with
    |zero=>simp at c hb;subst c;subst hb;exact⟨e.1,e.2.1⟩
    |succ i=>exact h2 i a b (by simpa using c) (by simpa using hb)
  |[],_::_,e=>by simp[Aal]at e
  |_::_,[],e=>by simp[Aal]at e
def Abs(s:ByteArray):Bool:=decide (s.size<=256)&&s.data.toList.all λc=>decide (32<=c.toNat)&&decide (c.toNat<=126)
theorem VN{s:ByteArray}(a:Abs s=true):Aaj s:=by
  unfold Abs at a;simp only[N1,decide_eq_true_eq,N6]at a;refine⟨a.1,λi hi=>a.2 _ ?_⟩;show s.data[i]∈_;simp
def opB(vars:List Int)(o:Opr):Bool:=decide (0<=o.cost)&&(decide (o.cost<=1048576)&&(decide (o.effs.length<=64)&&(Abs o.name&&(Aax vars o.pre&&o.effs.all λe=>Aax vars e.cond&&Abc vars ⟨e.var,e.val⟩))))
theorem Yh{vars:List Int}{o:Opr}(b:opB vars o=true):OpOk vars o:=by
  unfold opB at b;simp only[N1,decide_eq_true_eq,N6]at b;obtain⟨a,h2,h3,h4,h5,h6⟩:=b;exact⟨a,h2,h3,VN h4,Kx h5,λi e he=>⟨Kx (h6 e (H1 he)).1,RC (h6 e (H1 he)).2⟩⟩
def Ace(t:Tsk):Bool:=decide (t.vars.length<=64)&&(decide (t.ops.length<=4096)&&((t.vars.all λn=>decide (1<=n)&&decide (n<=64))&&(Aal t.vars t.init&&(Aax t.vars t.goal&&t.ops.all (opB t.vars)))))
theorem NG{t:Tsk}  (c:Ace t=true:=by kernel_rfl):TaskOk t:=by
  unfold Ace at c;simp only[N1,decide_eq_true_eq,N6]at c;obtain⟨a,h2,h3,h4,h5,h6⟩:=c;exact⟨a,h2,λi n hn=>h3 n (H1 hn),PT h4,Kx h5,λi o b=>Yh (h6 o (H1 b))⟩
end
section
open Go Go.RowKit
theorem RV{t:Tsk}(hs:Few t){m:Int}{r:Rsl}(e:ResU t m r)(hm:((statesL t.vars).length:Int)≤m):r.verdict≠3:=λd=>by
  obtain⟨_,_,M,m1,m2,m3,h1|h1|⟨_,_,_,h4,s,h5,h6⟩⟩:=e
  . omega
  . omega
  . have b:(s::M).length<=(statesL t.vars).length:=IQ (R3.2 ⟨h5,m1⟩) λa hm'=>by
      have hc:AaU t a:=by
        rcases S0.1 hm' with rfl|hm'
        . exact h6
        . exact m3 a hm'
      obtain⟨_,p,c,hp,_⟩:=hc;exact HA.2 ((hp.rch .init).ok hs.ok)
    rw[M8]at b;omega
def ZF:Tsk:=⟨[2],[0],[⟨0,1⟩],[⟨⟨#[]⟩,2,[],[⟨[],0,1⟩]⟩]⟩
theorem okC:TaskOk ZF:=NG
theorem AcM:ZD [2]:=Ri (by decide) (λi n hn=>by
  cases i with
  |zero=>obtain rfl:=Q1 hn;decide
  |succ i=>simp at hn) (by decide)
theorem Abd:CertOk ZF 2 ZB.nogoods:=by
  have hf:FactsOk [2] [⟨0,1⟩]:=Kx (by decide);have hc:(⟨[⟨0,1⟩],0⟩:Ngd)∈ZB.nogoods:=K6;refine⟨by decide,λn hn=>?_,λ_=>⟨_,hc,V4 _,Nu hf.ps⟩,λn hn i o b d hd=>?_⟩
  . obtain rfl:=K9.1 hn;exact⟨⟨hf,V4 _,λe=>by omega,λe=>by decide,λs hs c=>⟨0,Walk.goal c,λ_=>V4 _⟩⟩,rfl⟩
  . obtain rfl:=K9.1 hn;cases i with
    |zero =>
      obtain rfl:=Q1 b;have a:(none:Option Int)=some d:=hd;cases a
    |succ i=>simp[ZF]at b
theorem Ac2:Dc ZF 2 10=some (ZB,⟨0⟩):=by
  unfold Dc CE ES;rw[Ei.2 okC,At,if_neg (λf=>f rfl),if_pos (by decide),if_pos (by decide),At,At,Cd,if_neg (by decide),Fz (by decide),At];refine So (λs=>s=(1,([]:List Ngd),(⟨[⟨ZF.goal,0,0⟩]⟩:CQ))\/s=(1,ZB.nogoods,(⟨[]⟩:CQ))) (λs=>s=(1,ZB.nogoods,(⟨[]⟩:CQ))) (λs=>s.2.2.l.length) (.inl rfl) ?_ (λs hs=>by subst hs;rfl);rintro s (rfl|rfl)
  . refine .inl ⟨(1,ZB.nogoods,(⟨[]⟩:CQ)),?_,.inr rfl,by decide⟩;dsimp only;unfold CI;rw[At,if_pos (by decide)];obtain⟨r,r1,e,q',rfl,r2,r3,r4⟩:=Ra (q:=(⟨[⟨ZF.goal,0,0⟩]⟩:CQ)) (λj x y hj a=>by
      have:=AF a;simp[qsC]at this;omega) (by decide) (by decide)
    have hl:=r3.length_eq;have he:e=⟨ZF.goal,0,0⟩:=K9.1 (r3.mem_iff.2 K6);obtain⟨l⟩:=q';have b:l=[]:=B2 (by simpa using hl);subst he;subst b;rw[r1,At];obtain⟨c,c1,c2,c3⟩:=Mg (p:=ZF.goal) (N:=[]) okC.2.2.2.2.1.ps (by decide) λn hn=>(by simp at hn);dsimp only;rw[c1,At];cases c with
    |true=>obtain⟨n,hn,_⟩:=c2 rfl;simp at hn
    |false =>
      rw[BY,GK,At,show holdsB ZF.goal ZF.init=false from rfl,BY,if_neg (by decide),Cb (by decide) (by decide),At];refine Jx (λ_ s=>s=(1,(⟨[]⟩:CQ))) rfl (λi o s hi hs=>?_) (λs hs=>by subst hs;rfl);subst hs;have d:o=⟨⟨#[]⟩,2,[],[⟨[],0,1⟩]⟩:=K9.1 (H1 hi);subst d;dsimp only;rw[show W5 ((0:Int)+2)=some 2 from rfl,At,if_neg (by decide),if_pos (by decide),At,II];exact⟨_,rfl,rfl⟩
  . exact .inr ⟨_,rfl,rfl⟩
theorem AcW:Dz ZF ZB 100=some ⟨0⟩:=by
  have d:EO ZF ZB 100=some (-1,-1,⟨0⟩):=by
    unfold EO CE;rw[Ei.2 okC,At,if_neg (λq=>q rfl),show Ee ZF.vars ZB=some ⟨0⟩from PJ (b:=2) okC (by decide) (by decide) Abd,At,if_neg (λq=>q rfl),Hf (λk n hk=>by
      rw[GK,(Abd.ng n (H1 hk)).2,At,BY]),At,BH,if_pos (by decide)]
    have f:Za ZF 2 ZB.nogoods ⟨⟨ZF.vars,ZF.init,ZF.goal,ZF.ops⟩,⟨ZB.bound,ZB.nogoods⟩,max 0 (min 100 1048576)⟩:=⟨rfl,rfl,by decide,by decide⟩;obtain⟨p,e,x',c1,l⟩:=Ls AcM Abd f okC.2.2.2.2.1 (Abd.gl (by decide));rw[c1,At];rcases l with⟨_,q⟩|⟨l,rfl,c4⟩
    . exact absurd q (by decide)
    rw[if_neg (by show¬e.n≠0;omega),if_neg (by simp),At,BH];refine Jx (λ_ s=>Za ZF 2 ZB.nogoods s) c4 (λi n s hi hs=>?_) (λs hs=>rfl);have hn:=K9.1 (H1 hi);subst hn;refine IA ?_;refine⟨_,Jx (r:=some (.next s)) (λ_ c=>c=s) rfl (λj o c hj a=>?_) (λc a=>by subst a;rfl),_,rfl,hs⟩;subst a;have g:j=0:=(by have:=AF hj;simp[ZF]at this;exact this);subst g;obtain⟨m,h2,_⟩:=hs;have h:CB c ⟨[⟨0,1⟩],0⟩ ((0:Nat):Int)=some (⟨0⟩,c):=by
      unfold CB;rw[m,h2];rfl
    rw[h,At,if_neg (λq=>q rfl)];exact⟨_,rfl,rfl⟩
  unfold Dz;rw[d,At]
theorem Acv:FB=some true:=by
  unfold FB;show bnd (Dc ZF 2 10) _=_;rw[Ac2,At,show FP ZB=some (Abl,⟨0⟩)from if_pos rfl,At,if_pos rfl,if_pos rfl];show bnd (if Abl=Abl then _ else _) _=_;rw[if_pos rfl];show bnd (bnd (Dz ZF ZB 100) _) _=_;rw[AcW,At,if_pos rfl,At]
def Z7:Tsk:=⟨[2],[0],[⟨0,1⟩],[⟨⟨#[97]⟩,3,[],[⟨[],0,1⟩]⟩]⟩
theorem okR:TaskOk Z7:=NG
theorem AcG:TaskOk (YX Z7 [⟨#[97]⟩] 5):=NG
theorem Abt:Fit Z7 [⟨#[97]⟩]:=⟨okR,by decide,by decide,λk=>by
  match k with
  |0=>decide
  |k+1=>rw[E5 (by show 1<=k+1;omega)];decide⟩
theorem AcC{d x:List Int}{c:Int}(g:PlanR Z7 Z7.init d x c)(e:holdsB Z7.goal x=true):3<=c:=by
  cases g with
  |nil=>exact absurd e (by decide)
  |@cons _ b _ k o C f _ hr =>
    have:=(hr.bound okR).1;have a:o=⟨⟨#[97]⟩,3,[],[⟨[],0,1⟩]⟩:=K9.1 (H1 f);subst a;show 3<=3+C;omega
theorem Acs:EU=some true:=by
  unfold EU;obtain⟨r,a1,a,a3,a4⟩:=OG Abt (w:=5) (by decide) (by decide) AcG 100;have d:PlanR Z7 [0] [((0:Nat):Int)] [1] (3+0):=.cons (o:=⟨⟨#[97]⟩,3,[],[⟨[],0,1⟩]⟩) rfl rfl .nil;have b:=RV (Abt.mid AcG) a (by decide);have e:r.verdict=1:=by
    rcases a.verd with h|h|h
    . exact h
    . exact((RB Abt a h).2.2 _ _ _ d rfl).elim
    . exact absurd h b
  obtain⟨x,c,p1,p2,p3,p4⟩:=SI Abt (by decide) a e;have f:=p4 _ _ _ d rfl;have hd:ZK ([((0:Nat):Int)].map (nmO Z7)) [⟨#[97]⟩]=0:=Nat.le_zero.1 (NB (show Scr [(⟨#[97]⟩:ByteArray)] [⟨#[97]⟩] 0 from .keep .nil));rw[hd]at f;have hc:=AcC p1 p2;rw[if_neg (by omega)]at a4;have hn:(ZK ((Y4 (cmpL Z7 [⟨#[97]⟩] 5) r.plan).map (nmO Z7)) [⟨#[97]⟩]:Int)=0/\r.cost=3:=(by omega);show bnd (DP Z7 [(⟨#[97]⟩:ByteArray)] 5 100) _=_;rw[a4,At,if_pos rfl,if_pos hn.1,if_pos hn.2,Acv,At,Cd,At]
end
section
open Go Go.RowKit
def fstI(a:ByteArray)(s:List Int):List Opr->Nat->Int
  |[],_=>-1
  |o::r,k=>if o.name=a/\holdsB o.pre s=true then(k:Int)else fstI a s r (k+1)
theorem Pi(a:ByteArray)(s:List Int):∀(l:List Opr)(k:Nat),fstI a s l k=-1\/∃(j:Nat) (o:Opr),fstI a s l k=((k+j:Nat):Int)/\l[j]?=some o/\o.name=a/\holdsB o.pre s=true
  |[],k=>.inl rfl
  |o  :: r,k=>by
    unfold fstI;by_cases c:o.name=a/\holdsB o.pre s=true
    . rw[if_pos c];exact .inr ⟨0,o,by simp,rfl,c.1,c.2⟩
    . rw[if_neg c];rcases Pi a s r (k+1)with b|⟨j,o',b,h2,h3,h4⟩
      . exact .inl b
      . exact .inr ⟨j+1,o',by rw[b];congr 1;omega,by simpa using h2,h3,h4⟩
theorem RD(ops:List Opr)(a:ByteArray)(s:List Int):Ba ops a s=some (fstI a s ops 0):=by
  unfold Ba;have c:∀(l:List Opr)(k:Nat),bnd (rng (ρ:=Int) (λ(d:Nat)(e:Opr)(_:Unit)=>bnd (EE e a s) λf=>if f=true then some (.ret (d:Int))else some (.next ())) l k ()) (λb=>fin b λ(_:Unit)=>some (-1))=some (fstI a s l k):=by
    intro l
    induction l with
    |nil=>intro k;rfl
    |cons o r g =>
      intro k;have h:EE o a s=some (decide (o.name=a/\holdsB o.pre s=true)):=by
        unfold EE;by_cases i:o.name=a
        . rw[if_pos i,GK,At];by_cases hb:holdsB o.pre s=true
          . rw[if_pos hb,At];simp[i,hb]
          . rw[if_neg hb,At];simp[hb]
        . rw[if_neg i,At];simp[i]
      unfold fstI;simp only[rng,h,At];by_cases i:o.name=a/\holdsB o.pre s=true
      . rw[if_pos i];simp only[decide_eq_true i,if_true];rfl
      . rw[if_neg i];simp only[i,decide_false,L0,if_false];exact g (k+1)
  exact c ops 0
theorem UD{t:Tsk}(c:TaskOk t){s:List Int}(hs:StateOk t.vars s){k:Nat}{o:Opr}(a:t.ops[k]?=some o)(b:holdsB o.pre s=true):FA t s (k:Int)=some (succ o s,⟨0⟩):=by
  have hk:=AF a;unfold FA CE;rw[Ei.2 c,At,if_neg (by simp)];unfold Ic IX;have hc:CM s=some s:=if_pos ⟨by have:=hs.1;have:=c.1;omega,by have:=hs.1;have:=c.1;omega⟩;rw[if_neg (by omega),if_neg (by omega),At,BY,At,Dq hs,Cd,BD,a,At,GK,At,if_pos b,hc,At,At,Nw (c.effs hs k o a) DJ GK s rfl,At,BH];rfl
def Y5(t:Tsk):List ByteArray→List Int→List Int
  |[],_=>[]
  |name::r,s=>match t.ops[(fstI name s t.ops 0).toNat]? with
    |some o=>if fstI name s t.ops 0<0 then[]else fstI name s t.ops 0::Y5 t r (succ o s)
    |none=>[]
theorem PU{t:Tsk}{a:ByteArray}{r:List ByteArray}{s:List Int}(b:fstI a s t.ops 0<0):Y5 t (a::r) s=[]:=by
  unfold Y5;cases t.ops[(fstI a s t.ops 0).toNat]? with
  |none=>rfl
  |some o=>simp[b]
theorem OH{t:Tsk}{a:ByteArray}{r:List ByteArray}{s:List Int}{j:Nat}{o:Opr}(c:fstI a s t.ops 0=(j:Int))(b:t.ops[j]?=some o):Y5 t (a::r) s=(j:Int)::Y5 t r (succ o s):=by
  rw[Y5,c,M6,b];simp only;rw[if_neg (by omega)]
theorem RW{t:Tsk}(f:TaskOk t):∀(xs:List ByteArray)(k:Nat)(a s:List Int),StateOk t.vars s→a.length+xs.length≤8796093022208 →
    ∃h,rng (ρ:=(List Int)×Int×Err) (λ(_:Nat)(i:ByteArray)(e:(List Int)×(List Int))=>bnd (Ba t.ops i e.2) λb=>if b<0 then(some (.brk (e.1,e.2)))else(bnd (FA t e.2 b) λc=>if c.2.n≠0 then(some (.brk (e.1,e.2)))else(bnd (X6 8 e.1 [b]) λd=>some (.next (d,c.1))))) xs k (a,s)=some (.done (a++Y5 t xs s,h)):=by
  intro xs
  induction xs with
  |nil=>intro k a s _ _;exact⟨s,by simp[rng,Y5]⟩
  |cons x xs l =>
    intro k a s hs hl;simp only[M8]at hl;rcases Pi x s t.ops 0 with g|⟨j,o,g,h2,h3,h4⟩
    . have step:(bnd (Ba t.ops x s) λb=>if b<0 then(some (.brk (a,s)))else(bnd (FA t s b) λc=>if c.2.n≠0 then(some (.brk (a,s)))else(bnd (X6 8 a [b]) λd=>some (.next (d,c.1)))):Option (Ctl (List Int×List Int) (List Int×Int×Err)))=some (.brk (a,s)):=by
        rw[RD,At,if_pos (by omega)]
      rw[PU (by omega)];exact⟨s,by simp only[rng,step,Q5]⟩
    . rw[U4]at g;have step:(bnd (Ba t.ops x s) λb=>if b<0 then(some (.brk (a,s)))else(bnd (FA t s b) λc=>if c.2.n≠0 then(some (.brk (a,s)))else(bnd (X6 8 a [b]) λd=>some (.next (d,c.1)))):Option (Ctl (List Int×List Int) (List Int×Int×Err)))=some (.next (a++[(j:Int)],succ o s)):=by
        rw[RD,At,g,if_neg (by omega),UD f hs h2 h4,At,if_neg (by simp),Cb (by simp;omega) (by simp;omega),At]
      obtain⟨h,hs'⟩:=l (k+1) (a++[(j:Int)]) (succ o s) (IB f hs h2) (by simp;omega);refine⟨h,?_⟩;rw[OH g h2];simp only[rng,step,hs',L8,G2]
theorem MX{t:Tsk}(a:TaskOk t):∀(xs:List ByteArray)(s:List Int),StateOk t.vars s->∃b C,PlanR t s (Y5 t xs s) b C/\(Y5 t xs s).map (nmO t)=xs.take (Y5 t xs s).length/\(Y5 t xs s).length<=xs.length
  |[],s,_=>⟨s,0,.nil,rfl,V2 _⟩
  |x::xs,s,hs=>by
    rcases Pi x s t.ops 0 with c|⟨j,o,c,h2,h3,h4⟩
    . rw[PU (by omega)];exact⟨s,0,.nil,rfl,V5 _⟩
    . rw[U4]at c;obtain⟨b,C,p1,p2,p3⟩:=MX a xs (succ o s) (IB a hs h2);rw[OH c h2];refine⟨b,o.cost+C,.cons h2 h4 p1,?_,by simp only[M8];omega⟩;rw[R9,M8,I6,p2,OC h2,h3]
theorem UE{t:Tsk}(a:TaskOk t){names:List ByteArray}(hl:names.length<=1000):FF t names=some (Y5 t names t.init,((Y5 t names t.init).length:Int),⟨0⟩):=by
  unfold FF CE;obtain⟨b,c⟩:=RW a names 0 [] t.init a.2.2.2.1 (by simp;omega);rw[Ei.2 a,At,if_neg (λc=>c rfl),c,At,BH];rfl
end
section
open Go Go.RowKit
theorem UF(t:Tsk):∃b,HC t=some b∧(b=true→SmallOk t∧∀n∈t.vars,2≤n):=by
  unfold HC JL;by_cases hs:SmallOk t
  case neg=>rw[BU hs,At,BY];exact⟨false,rfl,λJ=>by cases J⟩
  rw[Dq hs,At,Cd];have u:∃b,(bnd (rng (ρ:=Bool) (λ(C:Nat)(y:Opr)(D:Unit)=>bnd (rng (ρ:=Ctl Unit Bool) (λ(v:Nat)(g:Eff)(h:Int)=>if 2<(g.cond.length:Int)then(some (.ret (.ret false)))else(if 0<(g.cond.length:Int)then(bnd (W5 (h+1)) λi=>some (.next i))else(some (.next h)))) y.effs 0 0) λd=>fin d λ(l:Int)=>if 3<l then(some (.ret false))else(some (.next ()))) t.ops 0 ()) λp=>fin p λ(A:Unit)=>some true)=some b/\True:=by
    refine ED (λ_ _=>True) (λ_=>True) trivial (λk o s hk _=>?_) (λs _=>⟨_,rfl,trivial⟩) (λq _=>⟨_,rfl,trivial⟩);have hl:=(hs.ok.2.2.2.2.2 k o hk).2.2.1;have:∃c,(bnd (rng (ρ:=Ctl Unit Bool) (λ(v:Nat)(g:Eff)(h:Int)=>if 2<(g.cond.length:Int)then(some (.ret (.ret false)))else(if 0<(g.cond.length:Int)then(bnd (W5 (h+1)) λi=>some (.next i))else(some (.next h)))) o.effs 0 0) λd=>fin d λ(l:Int)=>if 3<l then(some (.ret false))else(some (.next ())))=some c/\((∃B,c=Ctl.next B)\/∃q,c=Ctl.ret q):=by
      refine ED (λj s=>0<=s/\s<=(j:Int)) (λc=>c=.ret false) ⟨by decide,by decide⟩ (λj e s hj E=>?_) (λs E=>?_) (λq F=>by subst F;exact⟨_,rfl,.inr ⟨_,rfl⟩⟩)
      . have:=AF hj;by_cases m:2<(e.cond.length:Int)
        . rw[if_pos m];exact .inr ⟨_,rfl,rfl⟩
        . rw[if_neg m];by_cases w:0<(e.cond.length:Int)
          . rw[if_pos w,Br (by unfold W1;omega),At];exact .inl ⟨_,rfl,by omega,by omega⟩
          . rw[if_neg w];exact .inl ⟨_,rfl,by omega,by omega⟩
      . rw[BH];by_cases w:3<s
        . rw[if_pos w];exact⟨_,rfl,.inr ⟨_,rfl⟩⟩
        . rw[if_neg w];exact⟨_,rfl,.inl ⟨_,rfl⟩⟩
    obtain⟨c,c1,⟨B,rfl⟩|⟨q,rfl⟩⟩:=this
    . exact .inl ⟨_,c1,trivial⟩
    . exact .inr ⟨_,c1,trivial⟩
  obtain⟨b,hb,_⟩:=u;rcases Sr (ρ:=Bool) (xs:=t.vars) (f:=λ(G:Nat)(x:Int)(H:Unit)=>bnd (if x<2 then(some true)else(if 4<x then(some true)else(some false)):Option Bool) λz=>if z=true then(some (.ret false))else(some (.next ()))) (λ_ a=>a<2\/4<a) false (λk a I=>by
    by_cases r:a<2
    . rw[if_pos r,At,Cd];exact .inl ⟨.inl r,rfl⟩
    . rw[if_neg r];by_cases m:4<a
      . rw[if_pos m,At,Cd];exact .inl ⟨.inr m,rfl⟩
      . rw[if_neg m,At,BY];exact .inr ⟨λJ=>by omega,rfl⟩)with⟨r,_⟩|⟨r,m⟩
  . rw[r,At,II];exact⟨false,rfl,λJ=>by cases J⟩
  . rw[r,At,BH,hb];refine⟨b,rfl,λ_=>⟨hs,λn hn=>?_⟩⟩;obtain⟨k,hk⟩:=H4 hn;exact Int.not_lt.1 λJ=>m k n hk (.inl J)
theorem Acx{t:Tsk}(a:TaskOk t):∃r,HB t.vars 12=some r∧(r≤12→∀k,(statesL (t.vars.take k)).length≤12):=by
  have j:=a.2.2.1;have hz:∀k,k<=0->(statesL (t.vars.take k)).length<=12:=λk hk=>by
    have:k=0:=(by omega);subst this;simp[statesL]
  unfold HB;refine ED (λm s=>s=((statesL (t.vars.take m)).length:Int)/\∀k,k<=m->(statesL (t.vars.take k)).length<=12) (λq=>q=13) ⟨by simp[statesL],hz⟩ ?_ ?_ ?_
  . rintro m n s hn ⟨rfl,hI⟩;obtain⟨u,n2⟩:=j m n hn;have v:=hI m (V2 _);have l:((statesL (t.vars.take (m+1))).length:Int)=((statesL (t.vars.take m)).length:Int)*n:=by
      rw[Me hn,Aab,Ko,Q0,I8 (by omega)]
    rw[show W5 ((12:Int)+1)=some 13 from rfl,At];have w:0<=((statesL (t.vars.take m)).length:Int)*(min (max n 0) 13):=R6 (by omega) (by omega);have z:((statesL (t.vars.take m)).length:Int)*(min (max n 0) 13)<=12*13:=Int.le_trans (Int.mul_le_mul_of_nonneg_right (show((statesL (t.vars.take m)).length:Int)<=12 by omega) (by omega)) (B4 (by omega) (by omega));rw[Br (by unfold W1;omega),At];by_cases b:12<((statesL (t.vars.take m)).length:Int)*(min (max n 0) 13)
    . rw[if_pos b,At];exact .inr ⟨13,rfl,rfl⟩
    . have f:1<=((statesL (t.vars.take m)).length:Int):=by
        rcases K4 (statesL (t.vars.take m)).length with h0|h0
        . exfalso;have:t.init.take m∈statesL (t.vars.take m):=HA.2 ⟨by rw[N8,N8,a.2.2.2.1.1],λi x y c d=>by
            rw[K3]at c d;split at c
            . rw[if_pos (by assumption)]at d;exact a.2.2.2.1.2 i x y c d
            . cases c⟩
          rw[B2 h0]at this;simp at this
        . omega
      have g:n<13:=Int.not_le.1 λo=>by
        have e:min (max n 0) 13=(13:Int):=(by omega);rw[e]at b;omega
      have e:min (max n 0) 13=n:=(by omega);rw[e]at b ⊢;rw[if_neg b];refine .inl ⟨_,rfl,l.symm,λk hk=>?_⟩;by_cases e:k=m+1
      . subst e;omega
      . exact hI k (by omega)
  . rintro s ⟨rfl,hI⟩;refine⟨_,rfl,λ_ k=>?_⟩;rcases T9 t.vars.length k with h|h
    . have p:=hI t.vars.length (V2 _);rw[E5 (by omega)];rwa[P4]at p
    . exact hI k h
  . rintro q rfl;exact⟨13,rfl,λh=>by omega⟩
theorem RE{α:Type}:∀l:List α,Scr l l 0
  |[]=>.nil
  |_::l=>.keep (RE l)
theorem VO(a b:List ByteArray):ZK a b<=a.length+b.length:=(Mn a b).bound.1
section
variable {t:Tsk}{old:List ByteArray}{w:Int}
theorem AcO(hs:SmallOk t)(d:∀n∈t.vars,2<=n)(a:∀k,(statesL (t.vars.take k)).length<=12)(c:old.length<=3):ZD (YX t old w).vars:=by
  have e:=hs.1;refine Ri (vars:=t.vars++[(old.length:Int)+1]) (by simp;omega) (λi n hn=>?_) ?_
  . rcases T9 i t.vars.length with h|h
    . rw[C4 h]at hn;exact hs.ok.2.2.1 i n hn
    . rw[C0 h]at hn;obtain rfl:=K9.1 (H1 hn);omega
  . rw[R2,R9,List.map_nil,Oq];have b:=a t.vars.length;rw[P4,KG]at b;have f:=Rj t.vars 1 d;have g:Y7 t.vars 1*Y7 t.vars 1<=12*12:=R7 b b;have j:Y7 (t.vars.map (· + 1)) 1*((old.length:Int)+1+1).toNat<=144*5:=R7 (by rw[V7]at f;omega) (by omega);omega
theorem SK(g:ZD (YX t old w).vars)(hu:TaskOk (YX t old w))(hm:Mid (YX t old w)){b:Int}(a:-1<=b)(d:b<=1099511627776)(j:∀C,Walk (YX t old w) (YX t old w).init C->0<=b/\b<=C):∃c e,Dc (YX t old w) b 4096=some (c,⟨0⟩)/\Dz (YX t old w) c 1048576=some e/\(e.n=0\/e.n=10):=by
  have i:=hm.ops;by_cases f:b=0
  . subst f;obtain⟨h,l2⟩:=Tl hu;obtain⟨e,v1,v2⟩:=PK hu g a d l2;exact⟨_,e,h,v1,v2⟩
  . obtain⟨N,h,l2⟩:=Vv hu g (by omega) f a d j;obtain⟨e,v1,v2⟩:=PK hu g a d l2;exact⟨_,e,h,v1,v2⟩
end
theorem Tv(t:Tsk)(old:List ByteArray)(x:Byt):Gz t old x=some true:=by
  unfold Gz;obtain⟨b,hb,htame⟩:=UF t;rw[hb,Acs];cases b with
  |false=>rfl
  |true =>
  obtain⟨hs,h2⟩:=htame rfl;rw[At,Cd];by_cases h5:5<(t.ops.length:Int)
  . rw[if_pos h5];rfl
  rw[if_neg h5];by_cases h3:3<(old.length:Int)
  . rw[if_pos h3];rfl
  rw[if_neg h3];obtain⟨m,m1,m2⟩:=Acx hs.ok;rw[m1,At];by_cases E:12<m
  . rw[if_pos E];rfl
  rw[if_neg E,At,Cd,At,BY,Wj x.lo (by decide),At];have F:=m2 (by omega);obtain⟨w,hw⟩:∃w,w=x.n%6:=⟨_,rfl⟩;rw[<- hw];have a:0<=w:=(by omega);have d0:w<6:=(by omega);have hf:Fit t old:=⟨hs.ok,by omega,by omega,λk=>by have:=F k;omega⟩;have R:old.length<=3:=(by omega);by_cases hu:TaskOk (YX t old w)
  case neg =>
    obtain⟨S,hc⟩:=Tu hf a (by omega) hu 1000;unfold Fm Hk;rw[S,At,Jo hs.ok (by omega) (by omega) a (by omega),if_pos hc,At,At,if_pos hc,At,Cd,At,At,if_pos rfl,At]
  obtain⟨r,a1,v,a3,a4⟩:=OG hf a (by omega) hu 1000;have g:=hf.mid hu;have hC:=AcO (w:=w) hs h2 F R;have G:=OF g v;have i:Fm t old w=some (YX t old w,⟨0⟩):=by
    unfold Fm;rw[Jo hs.ok (by omega) (by omega) a (by omega),if_neg (by rw[Ei.2 hu];simp),At]
  obtain⟨u,u1,u2,u3⟩:=OE hs.mid 1000;have H:=OF hs.mid u2;obtain⟨I,XC,p1,p2,p3⟩:=MX hs.ok old t.init hs.ok.2.2.2.1;have J:=UE hs.ok (names:=old) (by omega);have T:=Sy hs.ok hs.ok.2.2.2.1 p1 (by omega)
  -- what stands behind the certificate
  have q    : ∀(V:Rsl)(e:Err),(e.n=0∨e.n=10)→V.verdict=r.verdict→V.cost=r.cost→(r.verdict=1→∀p D P,PlanR t t.init p D P→holdsB t.goal D=true→r.cost≤P+w*(ZK (p.map (nmO t)) old:Int))→(r.verdict=2→∀p D P,PlanR t t.init p D P→holdsB t.goal D=true→False)→(u.verdict=r.verdict∧u.cost≤r.cost) →
      (bnd (if e.n≠0 then(bnd (HS (⟨e.n⟩:Err) 10) λj=>if j=true then some false else some true)else(some false):Option Bool) λK=>if K=true then(some false)else(bnd (FF t old) λl=>if l.2.2.n≠0 then(some false)else(bnd (Gw t t.init l.1) λs=>bnd (if s.2=true then(if l.2.1=(old.length:Int)then(if V.verdict≠1 then(some true)else(if s.1<V.cost then(some true)else(some false)))else(some false))else(some false):Option Bool) λL=>if L=true then(some false)else(bnd (CV t 1000) λo=>bnd (if o.2.n=0 then(if o.1.verdict=V.verdict then(if o.1.cost<=V.cost then(some true)else(some false))else(some false))else(some false):Option Bool) λN=>some N))))=some true:=λV e he U W y X f=>by
    have S:(if e.n≠0 then(bnd (HS (⟨e.n⟩:Err) 10) λj=>if j=true then some false else some true)else(some false):Option Bool)=some false:=by
      rcases he with he|he
      . rw[if_neg (by omega)]
      . unfold HS Hk;rw[he];rfl
    rw[S,At,BY,J,At,if_neg (λh=>h rfl)];dsimp only;rw[T,At,U,W]
    have e2 : (if holdsB t.goal I=true then(if((Y5 t old t.init).length:Int)=(old.length:Int)then(if r.verdict≠1 then(some true)else(if XC<r.cost then(some true)else(some false)))else(some false))else(some false):Option Bool)=some false:=by
      by_cases z:holdsB t.goal I=true
      . rw[if_pos z];by_cases hl:((Y5 t old t.init).length:Int)=(old.length:Int)
        . rw[if_pos hl];have Y:(Y5 t old t.init).map (nmO t)=old:=(by rw[p2,E5 (by omega)]);rcases v.verd with h|h|h
          . rw[if_neg (by omega)];have:=y h _ _ _ p1 z;have hd:ZK ((Y5 t old t.init).map (nmO t)) old=0:=by
              rw[Y];exact Nat.le_zero.1 (NB (RE old))
            rw[hd,show((0:Nat):Int)=0 from rfl,Int.mul_zero]at this;rw[if_neg (by omega)]
          . exact(X h _ _ _ p1 z).elim
          . exact absurd h G
        . rw[if_neg hl]
      . rw[if_neg z]
    dsimp only at e2 ⊢;rw[e2,At,BY,u1,At,if_pos rfl,if_pos f.1,if_pos f.2,At]
  rcases v.verd with hv|hv|hv
  . -- solved
    obtain⟨D,c,q1,q2,q3,q4⟩:=SI hf a v hv;rw[if_neg (by omega)]at a4;have d:=v;obtain⟨_,_,M,_,_,_,⟨_,hl,⟨s',hp,z⟩,hbst,_⟩|⟨A,_⟩|⟨A,_⟩⟩:=d
    rotate_left
    . omega
    . omega
    have Z:=hp.bound hu;obtain⟨ct,e,l1,l2,l3⟩:=SK hC hu g (b:=r.cost) (by omega) (by omega) λC B=>⟨Z.1,hbst C B⟩;have e0:=Lz (cmpL t old w) r.plan;have O:=Sy hs.ok hs.ok.2.2.2.1 q1 (by omega);have f0:=q1.bound hs.ok;have f:u.verdict=r.verdict/\u.cost<=r.cost:=by
      have g0:0<=w*(ZK ((Y4 (cmpL t old w) r.plan).map (nmO t)) old:Int):=R6 a (by omega);obtain⟨_,_,M',_,_,_,⟨Q,_,_,g2,_⟩|⟨Q,_,_,g2,_⟩|⟨Q,_⟩⟩:=u2
      . refine⟨by omega,?_⟩;have:=g2 _ (q1.walk q2);omega
      . exact absurd (q1.walk q2) (g2 _)
      . exact absurd Q H
    have a0:=VO ((Y4 (cmpL t old w) r.plan).map (nmO t)) old;rw[R1]at a0;have b0:0<=w*(ZK ((Y4 (cmpL t old w) r.plan).map (nmO t)) old:Int):=R6 a (by omega);have c0:w*(ZK ((Y4 (cmpL t old w) r.plan).map (nmO t)) old:Int)<=6*1000:=Int.mul_le_mul (by omega) (by omega) (by omega) (by omega);rw[a4,At,i,At,if_neg (λh=>h rfl),if_neg (λh=>h rfl),At,BY,if_pos hv];dsimp only;rw[O,At,q2,if_neg (by simp),Br (by unfold W1;omega),At,Br (by unfold W1;omega),At,if_neg (by omega),At,BY,At,BH,l1,At,if_neg (λh=>h rfl)];dsimp only;rw[l2,At];exact q ⟨r.verdict,Y4 (cmpL t old w) r.plan,r.cost,r.expanded⟩ e l3 rfl rfl (λ_=>q4) (λh=>by omega) f
  . -- unsolvable
    obtain⟨Q,g2,g3⟩:=RB hf v hv;rw[if_pos (by omega)]at a4;have d:=v;obtain⟨_,_,M,_,_,_,⟨A,_⟩|⟨_,_,_,hnw,_⟩|⟨A,_⟩⟩:=d
    . omega
    rotate_left
    . omega
    obtain⟨ct,e,l1,l2,l3⟩:=SK hC hu g (b:=-1) (by omega) (by omega) λC B=>absurd B (hnw C);have f:u.verdict=r.verdict/\u.cost<=r.cost:=by
      obtain⟨_,_,M',_,_,_,⟨k1,_,⟨s',hp,z⟩,_⟩|⟨k1,_,k2,_⟩|⟨k1,_⟩⟩:=u2
      . exact(g3 _ _ _ hp z).elim
      . exact⟨by omega,by omega⟩
      . exact absurd k1 H
    rw[a4,At,i,At,if_neg (λh=>h rfl),if_neg (λh=>h rfl),At,BY,if_neg (by show¬r.verdict=1;omega),if_pos (show r.verdict=2 from hv),At,BH];dsimp only;rw[l1,At,if_neg (λh=>h rfl)];dsimp only;rw[l2,At];exact q r e l3 rfl rfl (λh=>by omega) (λ_=>g3) f
  . exact absurd hv G
end
section
open Go Go.RowKit Go.ChangeShapes Go.WideShapes Go.Deep
theorem Abw{w:World}{a:Value}{b:Tsk}(g:V w a b){c:Value}{d:List ByteArray}(h:V w c d){e:Value}{f:Byt}(i:V w e f):Fn prog 3 [a,c,e] w λv w'=>v=.bool true/\Ext w w':=by
  obtain rfl:=Vb.byte i;exact(MO (λ_ j=>j) g h (Tv b d f)).mono λ_ _ j=>⟨j.2.bool,j.1⟩
set_option maxRecDepth 100000 in
theorem Aci(os:Os)(a:Array Value):laidMetH prog Rows.wholeRepairRow.laid ((World.doorLaid prog 4000 os).forCall (λ_ _=>0) ⟨#[],a,[]⟩).memory :=
  laidMetH_of_parts3 (fuel:=8) (laidMet_of_run' 8 (by kernel_rfl) (by kernel_rfl)) (by kernel_rfl) (by kernel_rfl)
set_option maxRecDepth 100000 in
theorem Mq(os:Os)(d:os.Started)(A:Type)(enc:TypeId×Value->A) :
    ReturnsInHanded {} checked os 3 .any (λw b=>(Rows.wholeRepairSpec.pre enc prog f3 Rows.wholeRepairRow.domain false w b/\laidMetH prog Rows.wholeRepairRow.laid w)/\sizedMet enc prog f3 (OpenSpec.ofChange Rows.wholeRepairSpec) false w b) (Rows.wholeRepairSpec.post enc prog f3 false true false false):=by
  refine returnsInHanded_of_change_and (C:=checked) (X:=λw _=>laidMetH prog Rows.wholeRepairRow.laid w) (λ_ _ _ x B=>B.of_heap x) AcH d (by kernel_rfl) func3 (ChangeSpec.witness_shaped (enc:=enc) (C:=checked) (os:=os) (X:=λw _=>laidMetH prog Rows.wholeRepairRow.laid w) false (World.doorLaid prog 4000 os) #[(.agg #[.slice none 0 0,.slice none 0 0,.slice none 0 0,.slice none 0 0]),.slice none 0 0,(.int .u8 0)] 8 rfl (World.shaped_of_RefB (by kernel_rfl) (by kernel_rfl)) (by kernel_rfl) (by kernel_rfl) (by kernel_rfl) (Aci os _)) ?_;intro D base b u z o c y _ _ _ _;have f:∀p,DataW.TrodAll enc prog D 0 (λ_=>true) true f3.params.toList b.toList u p->∃h i k l m n,b=#[h,i,k]/\u=[l,m,n]/\(∃a:Tsk,V D h a)/\(∃a:List ByteArray,V D i a)/\(∃a:Byt,V D k a):=by
    intro p hA;rw[params3]at hA;replace c:∀(j:Nat) t v,(#[26,27,5]:Array TypeId)[j]?=some t->b[j]?=some v->Value.okWide prog D .any base t v:=(by rw[<- params3];exact c);obtain⟨h,vs0,l,ds0,p0,q0,g0,e0,_,q,r0⟩:=trodAll_cons hA;obtain⟨i,vs1,m,ds1,p1,q1,g1,e1,_,r,r1⟩:=trodAll_cons r0;obtain⟨k,vs2,n,ds2,p2,q2,g2,e2,_,s,r2⟩:=trodAll_cons r1;obtain⟨g,e,_⟩:=trodAll_nil r2;rw[g]at g2;rw[e]at e2;rw[g2]at g1;rw[e2]at e1;rw[g1]at g0;rw[e1]at e0;obtain rfl:b=#[h,i,k]:=(by cases b;simp_all);exact⟨h,i,k,l,m,n,rfl,e0,(by first|exact openAgg rfl (c 0 26 h rfl rfl) q|exact openOne rfl (c 0 26 h rfl rfl) q),(by first|exact openAgg rfl (c 1 27 i rfl rfl) r|exact openOne rfl (c 1 27 i rfl rfl) r),(by first|exact openAgg rfl (c 2 5 k rfl rfl) s|exact openOne rfl (c 2 5 k rfl rfl) s)⟩
  refine Acg rfl (by kernel_rfl) (by rw[params3];exact of_decide_eq_true (by kernel_rfl)) y ?_ ?_
  . intro p hA;obtain⟨h,i,k,l,m,n,_,rfl,_⟩:=f p hA;rfl
  . intro p hA;obtain⟨h,i,k,l,m,n,rfl,_,⟨a0,q⟩,⟨a1,r⟩,⟨a2,s⟩⟩:=f p hA;exact Abw q r s
theorem NH:Rows.WholeRepairSaid :=
  OpenClaim.holds_of_wide 3 f3 rfl rfl rfl rfl rfl rfl rfl ⟨rfl,rfl,rfl,rfl,rfl⟩ rfl rfl rfl rfl rfl (by kernel_rfl) func3 (by kernel_rfl)
    (of_decide_eq_true (by kernel_rfl)) (by unfold Func.isWrapper;first|(rw[if_pos (by decide +kernel)];kernel_rfl)|(rw[if_neg (by decide +kernel)];exact⟨rfl,rfl⟩))
    (λos a b enc _=>Mq os a b enc)
theorem wholeRepair_holds:Rows.WholeRepairCardSaid :=
  Claim7.holds_tied_plain_at .later [] [.data, .data, .data] true (true, "d76095d490c0cf12c793efbfa1d0fc24dcc4d93f2c954a9ddb51d3bed8d1988a") true
    NH (λ_ e=>by cases e) (by kernel_rfl) (λ_ e=>by cases e) wholeRepair_row_tie rfl ⟨rfl,rfl⟩ (by kernel_rfl) rfl
    (λf d hf b=>by
      obtain rfl : f=3:=Q1 ((show prog.funcNamed "stratagem/stratagemtop.WholeRepair" = some 3 by kernel_rfl).symm.trans hf) |>.symm;obtain rfl:d=f3:=(Q1 (func3.symm.trans b)).symm;exact⟨by kernel_rfl,λj t c=>by
        rw[params3]at c;have hm:t∈[26,27,5]:=(by simpa using Array.mem_of_getElem? c);have a:([26,27,5].all λu=>!prog.wantsStandIn u)=true:=(by kernel_rfl);exact(show prog.wantsStandIn t=false by simpa using N6.1 a t hm)⟩)
    (by kernel_rfl)
#print axioms wholeRepair_holds
end
end Go.Proofs.YthgeinkfgcgjiaaGreatDoor

/- Own text: what the proof of wholeSymmetry_holds uses, part 4: rules, models and their proofs, plain laws. -/
import Derived.Test.YtonclmjaphieiaaGreatWSzC
set_option linter.unusedVariables false
set_option linter.unusedSimpArgs false
namespace Go.Proofs.YtonclmjaphieiaaGreat
open Go Go.RowKit Go.Proofs.Tryz
section
open Go Go.RowKit
attribute [local irreducible] ewp owp hwp hwq hws Ev Evg Fn X6 Y1 YZ YY
attribute [local irreducible] hwx Y6
instance tm106_Len : TMth prog 106 "Len" 41 false:=⟨by kernel_rfl⟩
instance tm106_Less : TMth prog 106 "Less" 213 false:=⟨by kernel_rfl⟩
instance tm106_Pop : TMth prog 106 "Pop" 214 true:=⟨by kernel_rfl⟩
instance tm106_Push : TMth prog 106 "Push" 215 true:=⟨by kernel_rfl⟩
instance tm106_Swap : TMth prog 106 "Swap" 216 false:=⟨by kernel_rfl⟩
noncomputable def Dj(a:List CEn):Option Int :=
  some (a.length:Int)
section
attribute [local irreducible] Vb Lc Rw Ob
theorem Hl{w:World}{A:Nat->Prop}(hA:∀k,A k->k<w.heap.size){a:Value}{b:List CEn}(c:Vb w A a b){r:Int}(hm:Dj b=some r) :
    Fn prog 41 [a] w λv w'=>Ext w w'/\Vb w' (upA A w w') v r:=by
 obtain⟨_,_,_⟩:=BS hA;apply Br c;intros;refine AC func41 rfl ntmps41 ?_;unfold Dj at hm;refine zz ?_;obtain rfl:=sm hm;exact By
end
noncomputable def CZ(a:List CEn)(b:Int)(c:Int):Option Bool :=
  bnd (bnd (atI a b) λd=>bnd (atI a c) λe=>if d.dist<e.dist then(some true)else(bnd (atI a b) λf=>bnd (atI a c) λg=>if f.dist=g.dist then(bnd (atI a b) λh=>bnd (atI a c) λi=>if h.order<i.order then(some true)else(some false))else(some false)):Option Bool) λj=>some j
section
attribute [local irreducible] Vb Lc Rw Ob
theorem IB{w:World}{A:Nat->Prop}(hA:∀k,A k->k<w.heap.size){b:Value}{h:List CEn}(i:Vb w A b h){c:Int}(j:X2 c){d:Int}(l:X2 d){r:Bool}(hm:CZ h c d=some r) :
    Fn prog 213 [b,(.int .i64 c),(.int .i64 d)] w λv w'=>Ext w w'/\Vb w' (upA A w w') v r:=by
 obtain⟨_,_,_⟩:=BS hA;apply Br i;intros;refine AC func213 rfl ntmps213 ?_;unfold CZ at hm;refine Ak (Am (Ay rfl (o_z (Ak (Cu (X:=Unit) hm [] [] [] [] (λ_ _ e _ t=>(6,.bool e)::t) (λ_ _ _ _ t=>t) ?_ ?_)))))
 ·intro e a;refine Jz (Bc (Db 0 38)) ?_;refine zz ?_;obtain⟨m,g0,a⟩:=bs a;refine Ei rfl ?_;intros;refine AL rfl rfl (Jf rfl (AI rfl rfl (AI rfl rfl ?_)));obtain⟨n,i0,a⟩:=bs a;refine Ei rfl ?_;intros;refine AL rfl rfl (Jf rfl (Gq rfl rfl rfl (λf=>?_) λf=>?_))
  ·replace a:=ip a f;refine zz ?_;obtain rfl:=sm a;exact AP ()
  replace a:=im a f;refine zz ?_;obtain⟨o,k0,a⟩:=bs a;refine HN ?_;intros;refine zz ?_;refine Nw (Au rfl (At rfl rfl (Cm rfl (Au rfl (At rfl rfl (Cm rfl (Au rfl (At rfl rfl ?_))))))));obtain⟨l0,m0,a⟩:=bs a;refine HN ?_;intros;refine zz ?_;refine Nw (Au rfl (At rfl rfl (AQ (λ_ _=>JQ rfl rfl) (λc0=>?_) (λc0=>?_))))
  ·replace a:=ip a c0;refine zz ?_;obtain⟨p,o0,a⟩:=bs a;refine HN ?_;intros;refine zz ?_;refine Nw (Au rfl (At rfl rfl (Cm rfl (Au rfl (At rfl rfl (Cm rfl (Au rfl (At rfl rfl ?_))))))));obtain⟨q,q0,a⟩:=bs a;refine HN ?_;intros;refine zz ?_;refine Nw (Au rfl (At rfl rfl (AQ (λ_ _=>CO rfl rfl) (λg=>?_) (λg=>?_))))
   ·replace a:=ip a g;refine zz ?_;obtain rfl:=sm a;exact AP ()
   replace a:=im a g;refine zz ?_;obtain rfl:=sm a;exact AP ()
  replace a:=im a c0;refine Au rfl (At rfl rfl (Cm rfl (Ci rfl rfl rfl (Ci rfl rfl rfl (Ci rfl rfl rfl (Ci rfl rfl rfl (Ci rfl rfl rfl (Ci rfl rfl rfl (Ci rfl rfl rfl (Ci rfl rfl rfl (Ci rfl rfl rfl (Ci rfl rfl rfl (Ci rfl rfl rfl (Au rfl ?_))))))))))))));refine At rfl rfl (Rq rfl rfl rfl (Dy rfl rfl rfl (Eu rfl rfl (h_z ?_))));obtain rfl:=sm a;exact AP ()
 intro e _ _ _ _ hm;intros;refine Ba ?_;refine AV ?_;obtain rfl:=sm hm;exact By
end
noncomputable def Dm(a:List CEn)(b:Int)(c:Int):Option (List CEn) :=
  bnd (atI a c) λe=>bnd (atI a b) λd=>bnd (atI a b) λf=>bnd (atI (a.set (b:Int).toNat e) c) λg=>some ((a.set (b:Int).toNat e).set (c:Int).toNat d)
theorem GX{w:World}{O:Lab}{l:Option Addr}{e c0 f:Nat}{m:List CEn}(g:Rw f w O 108 (.slice l e c0) m){n:Int}(u:X2 n){o:Int}(y:X2 o){r:(List CEn)}(hm:Dm m n o=some r) :
    Fn prog 216 [(.slice l e c0),(.int .i64 n),(.int .i64 o)] w λv w'=>∃k,St (eT f) w O w' k/\Rw f w' k 108 (.slice l e c0) r:=by
 obtain⟨p,hE,w0,y0⟩:=ZB (w:=w) (O:=O) g.2.2;obtain rfl:e=m.length:=g.len.1;have b:=Rw.leave g w0 y0 (j:=2) (by decide);have s:Bm w p w p:=Bm.refl;refine AC func216 rfl ntmps216 ?_;unfold Dm at hm;refine BR [(13,[2])] p ?_;refine AJ (fuel:=5) [] (Bc [0,1,4,5,6,7,8,9,10,11,12]) rfl (AI rfl rfl (AI rfl rfl (AI rfl rfl (AI rfl rfl ?_))));obtain⟨c,e5,hm⟩:=bs hm;obtain⟨z,x6⟩:=BJ e5;obtain⟨H,o9,z0,g0,h0,j0,k0,a2,rfl,t0,a1,b1⟩:=b.elemF x6;obtain⟨A,d1,rfl⟩:=t0.form;refine CB (hA:=g0) (hj:=z) (hlt:=j0) rfl rfl rfl (Gp (hl:=rfl) (hb:=OA h0 k0) rfl rfl (AI rfl rfl (AI rfl rfl ?_)));obtain⟨d,e1,hm⟩:=bs hm;obtain⟨B,g1⟩:=BJ e1;obtain⟨I,c2,h1,l0,n0,o0,p0,d2,rfl,f0,i1,j1⟩:=b.elemF g1;obtain⟨C,l1,rfl⟩:=f0.form;refine CB (hA:=l0) (hj:=B) (hlt:=o0) rfl rfl rfl (Gp (hl:=rfl) (hb:=OA n0 p0) rfl rfl ?_);obtain⟨J,m1,hm⟩:=bs hm;obtain⟨D,u0⟩:=BJ m1;obtain⟨K,g2,o1,d0,p1,q0,q1,h2,rfl,r1,i2,j2⟩:=b.elemF u0;obtain⟨L,l2,rfl⟩:=r1.form;refine CB (hA:=d0) (hj:=D) (hlt:=q0) rfl rfl rfl (AB ?_);refine AJ (fuel:=3) [2] (Bc [2,3]) rfl (AI rfl rfl (AI rfl rfl (AB (AH (i:=13) rfl ?_))));refine FS rfl b (a:=c) (Vb.ofAgg (cs:=[(.slice A c.facts.length d1),(.int .i64 c.dist),(.int .i64 c.order)]) (x:=c) rfl ⟨_,rfl,t0,a1,b1⟩) d0 rfl rfl (Az u0) λM t b=>?_;have E:=t.lst [2] (λ_ h=>by cases h;decide);refine BE [] E ?_;refine AJ (fuel:=1) [] [(14,true)] rfl ?_;obtain⟨N,s1,hm⟩:=bs hm;obtain⟨F,v0⟩:=BJ s1;obtain⟨P,p2,u1,e0,v1,s0,w1,q2,rfl,y1,r2,s2⟩:=b.elemF v0;obtain⟨Q,u2,rfl⟩:=y1.form;refine CB (hA:=e0) (hj:=F) (hlt:=s0) rfl rfl rfl (AB (AH (i:=15) rfl ?_));replace f0:=f0.st t;refine FS rfl b (a:=d) (Vb.ofAgg (cs:=[(.slice C d.facts.length l1),(.int .i64 d.dist),(.int .i64 d.order)]) (x:=d) rfl ⟨_,rfl,f0,i1,j1⟩) e0 rfl rfl (Az v0) λR G b=>?_;refine Cs (Bh ?_);obtain rfl:=sm hm;replace s:=(s.st t).st G;obtain⟨k,hS',hz,hl⟩:=hE.leave (λq=>if q=2 then f else 0) rfl s;exact ZN rfl  ⟨k,hS',(Rw.leave b hz (hl 2 (by decide) (by decide)) g.2.2)⟩
noncomputable def FQ(b:BxR 110 108 CEn)(c:An 108 CEn):Option (BxR 110 108 CEn) :=
  bnd (Y0 40 b.l [c.x]) λa=>some (⟨a⟩:BxR 110 108 CEn)
theorem Lq{w:World}{O:Lab}{l e:Nat}{A:BxR 110 108 CEn}(m:Ob e w O (.pointer (some ⟨l,0,none⟩)) A){d:Value}{a:An 108 CEn}(n:Vb w (Fr 0 w O) d a){r:(BxR 110 108 CEn)}(hm:FQ A a=some r) :
    Fn prog 215 [(.pointer (some ⟨l,0,none⟩)),d] w λv w'=>∃f,St (eT e) w O w' f/\Ob e w' f (.pointer (some ⟨l,0,none⟩)) r:=by
 obtain⟨o,hE,o0,s0⟩:=ZB (w:=w) (O:=O) m.2;have b:=Ob.leave m o0 s0 (j:=2) (by decide);have p:Bm w o w o:=Bm.refl;replace n:=n.mono o0;obtain⟨G,rfl,h4⟩:=n.any;obtain⟨H,rfl,v6,rfl,h7,t0,u0⟩:=h4;obtain⟨D,c9,rfl⟩:=h7.form;refine AC func215 rfl ntmps215 ?_;unfold FQ at hm;refine zz ?_;refine Nu rfl rfl (Aw rfl (ER rfl rfl (ER rfl rfl ?_)));refine BF 3 o λI J K s c0=>?_;refine AO c0 rfl rfl rfl (Bi) (allOne) λL t c0=>?_;refine zz ?_;replace b:=(b.st s).st t;obtain⟨B,k1,k0,v0,c,d0⟩:=BxR.opn b 2 4 (by decide);obtain⟨l1,m1,rfl⟩:=d0.form;refine BR [(6,[4])] B ?_;refine AJ (fuel:=5) [] (Bc [1,2,3,4]) rfl (AI rfl rfl (CT rfl rfl (Bl (hc:=BD c 0 rfl) rfl rfl ?_)));replace c0:=c0.st k0;refine Gp (hl:=rfl) (hb:=Mc c0) rfl rfl (AB ?_);refine AJ (fuel:=4) [4] [(0,true)] rfl (AI rfl rfl (AB (AH (i:=5) rfl ?_)));replace h7:=((h7.st s).st t).st k0;refine CC 5 B (xs:=([a.x]:List CEn)) rfl rfl rfl ⟨(Vb.ofAgg (cs:=[(.slice D a.x.facts.length c9),(.int .i64 a.x.dist),(.int .i64 a.x.order)]) (x:=a.x) rfl ⟨_,rfl,h7,t0,u0⟩),trivial⟩ λM N P g E=>?_;have u:=lZ g;refine BE [(6,[4])] u (AH (i:=6) rfl ?_);obtain⟨F,y,hm⟩:=bs hm;obtain⟨y,z0,a1⟩:=BH y;replace d0:=d0.st g;refine CD rfl d0 (E.rd) rfl rfl z0 a1 λQ R S T z k=>?_;rw[<- y]at k ⊢;have u:=z.lst [4] (λ_ h=>by cases h;decide);refine BE [] u ?_;refine AJ (fuel:=1) [] [(7,true)] rfl (CT rfl rfl (AB (AH (i:=8) rfl ?_)));replace c:=(c.st g).st z;refine AO c rfl rfl rfl (Bi) (allOne) λU C c=>?_;refine Cs (Bh ?_);replace k:=k.st C;obtain⟨V,b1,c1,d1,e1⟩:=BxR.shut (x:=(⟨F⟩:BxR 110 108 CEn)) (l0:=2) (by decide) c k;obtain rfl:=sm hm;replace p:=((((((p.st s).st t).st k0).st g).st z).st C).st b1;obtain⟨f,hS',hz,hl⟩:=hE.leave (λq=>if q=2 then e else 0) rfl p;exact ZN rfl  ⟨f,hS',(Ob.leave e1 hz (hl 2 (by decide) (by decide)) m.2)⟩
noncomputable def Gd(b:BxR 110 108 CEn):Option ((An 108 CEn)×(BxR 110 108 CEn)) :=
  bnd (X7 ((b.l.length:Int)-1)) λa=>bnd (atI b.l a) λc=>bnd (Zl b.l 0 a) λd=>some ((⟨c⟩:An 108 CEn),(⟨d⟩:BxR 110 108 CEn))
theorem LN{w:World}{O:Lab}{h d:Nat}{o:BxR 110 108 CEn}(k:Ob d w O (.pointer (some ⟨h,0,none⟩)) o){r:(An 108 CEn)×(BxR 110 108 CEn)}(hm:Gd o=some r) :
    Fn prog 214 [(.pointer (some ⟨h,0,none⟩))] w λv w'=>∃b,St (eT d) w O w' b/\Ob d w' b (.pointer (some ⟨h,0,none⟩)) r.2/\Vb w' (Fr 0 w' b) v r.1:=by
 obtain⟨p,hE,q0,r0⟩:=ZB (w:=w) (O:=O) k.2;have l:=Ob.leave k q0 r0 (j:=2) (by decide);have m:Bm w p w p:=Bm.refl;refine AC func214 rfl ntmps214 ?_;unfold Gd at hm;refine zz ?_;obtain⟨s,v6,S3,i1,a,h7⟩:=BxR.opn l 2 3 (by decide);obtain⟨A,c9,rfl⟩:=h7.form;refine AF (hc:=Blk.cell (i:=0) (a.1) rfl) rfl (AT rfl ?_);have t:=Bo h7.len;have B:=rngNat t;obtain⟨C,n0,hm⟩:=bs hm;have l1:=(Bx n0);refine Gb (he:=n0) rfl rfl (Ay rfl (o_z (Ak (Am (Aw rfl (EQ rfl (AF (hc:=Blk.cell (i:=0) (a.1) rfl) rfl (Aw rfl ?_))))))));obtain⟨c0,t0,hm⟩:=bs hm;obtain⟨u,v0⟩:=BJ t0;obtain⟨D,n1,w0,h0,j0,k0,o1,rfl,d0,y0,z0⟩:=h7.elem v0;obtain⟨y,b1,rfl⟩:=d0.form;refine Bn (hA:=h0) (hj:=u) (hlt:=j0) rfl rfl (Bv (hl:=rfl) (hc:=k0) rfl ?_);refine BF 4 s λE F G e c=>?_;refine AO c rfl rfl rfl (Bi) (allOne) λH f c=>?_;refine zz ?_;replace a:=(a.st e).st f;refine AF (hc:=Blk.cell (i:=0) (a.1) rfl) rfl (Aw rfl ?_);obtain⟨z,d1,hm⟩:=bs hm;replace h7:=(h7.st e).st f;obtain⟨n,e1⟩:=Abi h7 d1;refine Rv (hc:=e1) rfl rfl rfl (EQ rfl ?_);refine AO a rfl rfl rfl (Bi) (allOne) λI g a=>?_;refine zz ?_;replace c:=c.st g;refine Bv (hl:=rfl) (hc:=(c.1).cellsAt) rfl (JM rfl (Ay rfl (o_z (AV ?_))));replace n:=n.st g;obtain⟨J,o0,f1,g1,h1⟩:=BxR.shut (x:=(⟨z⟩:BxR 110 108 CEn)) (l0:=2) (by decide) a n;obtain rfl:=sm hm;replace m:=((((m.st S3).st e).st f).st g).st o0;obtain⟨b,hS',hz,hl⟩:=hE.leave (λq=>if q=2 then d else 0) rfl m;replace d0:=(((d0.st e).st f).st g).st o0;exact YW rfl (AD rfl) ⟨b,hS',(Ob.leave h1 hz (hl 2 (by decide) (by decide)) k.2),(Vb.mono (Zt (Vb.ofAgg (cs:=[(.slice y c0.facts.length b1),(.int .i64 c0.dist),(.int .i64 c0.order)]) (x:=c0) rfl ⟨_,rfl,d0,y0,z0⟩)) hz)⟩
noncomputable def GY(a:BxR 110 108 CEn)(b:Int):Option (BxR 110 108 CEn):=Mp CZ Dm a b
theorem Lr{w:World}{O:Lab}{a b:Nat}{e:BxR 110 108 CEn}(g:Ob b w O (.pointer (some ⟨a,0,none⟩)) e){c:Int}(d:X2 c){r:(BxR 110 108 CEn)}(hm:GY e c=some r) :
    Fn prog 83 [(.iface 106 (.pointer (some ⟨a,0,none⟩))),(.int .i64 c)] w λv w'=>∃f,St (eT b) w O w' f/\Ob b w' f (.pointer (some ⟨a,0,none⟩)) r:=WE IB GX g d hm
noncomputable def GH(a:BxR 110 108 CEn)(b:Int)(c:Int):Option (Bool×(BxR 110 108 CEn)):=JI CZ Dm a b c
theorem KQ{w:World}{O:Lab}{a b:Nat}{h:BxR 110 108 CEn}(i:Ob b w O (.pointer (some ⟨a,0,none⟩)) h){c:Int}(d:X2 c){e:Int}(f:X2 e){r:Bool×(BxR 110 108 CEn)}(hm:GH h c e=some r) :
    Fn prog 75 [(.iface 106 (.pointer (some ⟨a,0,none⟩))),(.int .i64 c),(.int .i64 e)] w λv w'=>∃g,St (eT b) w O w' g/\Ob b w' g (.pointer (some ⟨a,0,none⟩)) r.2/\Vb w' (Fr 0 w' g) v r.1:=Tt IB GX i d f hm
noncomputable def Eb(e:BxR 110 108 CEn)(f:An 108 CEn):Option (BxR 110 108 CEn) :=
  bnd (FQ e (⟨f.x⟩:An 108 CEn)) λa=>bnd (Dj a.l) λb=>bnd (X7 (b-1)) λc=>bnd (GY a c) λd=>some d
theorem KR{w:World}{O:Lab}{e c:Nat}{o:BxR 110 108 CEn}(f:Ob c w O (.pointer (some ⟨e,0,none⟩)) o){b:Value}{a:An 108 CEn}(g:Vb w (Fr 0 w O) b a){r:(BxR 110 108 CEn)}(hm:Eb o a=some r) :
    Fn prog 46 [(.iface 106 (.pointer (some ⟨e,0,none⟩))),b] w λv w'=>∃d,St (eT c) w O w' d/\Ob c w' d (.pointer (some ⟨e,0,none⟩)) r:=by
 obtain⟨k,hE,f0,h0⟩:=ZB (w:=w) (O:=O) f.2;have l:=Ob.leave f f0 h0 (j:=2) (by decide);have m:Bm w k w k:=Bm.refl;replace g:=g.mono f0;obtain⟨H,rfl,h4⟩:=g.any;obtain⟨I,rfl,v6,rfl,h7,j0,k0⟩:=h4;obtain⟨p,c9,rfl⟩:=h7.form;refine AC func46 rfl ntmps46 ?_;unfold Eb at hm;refine zz ?_;obtain⟨s,n0,hm⟩:=bs hm;refine HV (O:=k) (Lq l (Zt (Vb.ofAgg (cs:=[(.slice p a.x.facts.length c9),(.int .i64 a.x.dist),(.int .i64 a.x.order)]) (x:=a.x) rfl ⟨_,rfl,h7,j0,k0⟩)) n0) Ky rfl rfl λJ t K u y=>?_;refine zz ?_;obtain⟨z,l1,t0,u0,c0,b0⟩:=BxR.opn y 2 3 (by decide);obtain⟨L,n1,rfl⟩:=b0.form;obtain⟨B,w0,hm⟩:=bs hm;refine Iy (O:=z) (A:=All t) (R:=λw' F v=>Vb w' F v B) (Hl (λ_ h=>h) (b0).all w0) (FF (Blk.cell (i:=0) c0.1 rfl)) rfl rfl λM N P n C=>?_;obtain⟨rfl,r1⟩:=C.int;obtain⟨Q,g0,hm⟩:=bs hm;have z0:=(Bx g0);refine Gb (he:=g0) rfl rfl ?_;replace c0:=c0.st n;replace b0:=b0.st n;obtain⟨D,b1,c1,d1,e1⟩:=BxR.shut (x:=s) (l0:=2) (by decide) c0 b0;obtain⟨S,f1,hm⟩:=bs hm;refine Cj (O:=D) (Lr e1 z0 f1) rfl λT U V E G=>?_;refine o_z ?_;obtain rfl:=sm hm;replace m:=((((m.st u).st t0).st n).st b1).st E;obtain⟨d,hS',hz,hl⟩:=hE.leave (λq=>if q=2 then c else 0) rfl m;exact ZN rfl  ⟨d,hS',(Ob.leave G hz (hl 2 (by decide) (by decide)) f.2)⟩
noncomputable def Er(f:BxR 110 108 CEn):Option ((An 108 CEn)×(BxR 110 108 CEn)) :=
  bnd (Dj f.l) λc=>bnd (X7 (c-1)) λa=>bnd (Dm f.l 0 a) λd=>bnd (GH (⟨d⟩:BxR 110 108 CEn) 0 a) λe=>bnd (Gd e.2) λb=>some ((⟨b.1.x⟩:An 108 CEn),b.2)
theorem KX{w:World}{O:Lab}{d b:Nat}{k:BxR 110 108 CEn}(e:Ob b w O (.pointer (some ⟨d,0,none⟩)) k){r:(An 108 CEn)×(BxR 110 108 CEn)}(hm:Er k=some r) :
    Fn prog 42 [(.iface 106 (.pointer (some ⟨d,0,none⟩)))] w λv w'=>∃a,St (eT b) w O w' a/\Ob b w' a (.pointer (some ⟨d,0,none⟩)) r.2/\Vb w' (Fr 0 w' a) v r.1:=by
 obtain⟨l,hE,j0,k0⟩:=ZB (w:=w) (O:=O) e.2;have f:=Ob.leave e j0 k0 (j:=2) (by decide);have g:Bm w l w l:=Bm.refl;refine AC func42 rfl ntmps42 ?_;unfold Er at hm;refine zz ?_;obtain⟨p,v6,S3,q1,h4,h7⟩:=BxR.opn f 2 3 (by decide);obtain⟨K,c9,rfl⟩:=h7.form;obtain⟨s,n0,hm⟩:=bs hm;refine Iy (O:=p) (A:=All w) (R:=λw' F v=>Vb w' F v s) (Hl (λ_ h=>h) (h7).all n0) (FF (Blk.cell (i:=0) h4.1 rfl)) rfl rfl λL M t c0 u=>?_;obtain⟨rfl,t1⟩:=u.int;obtain⟨N,d0,hm⟩:=bs hm;have m:=(Bx d0);refine Gb (he:=d0) rfl rfl (Ay rfl (o_z (Ak (Am (Aw rfl (Aw rfl ?_))))));obtain⟨y,s0,hm⟩:=bs hm;replace h4:=h4.st c0;replace h7:=h7.st c0;refine HV (O:=t) (GX h7 (X9 0) m s0) (FF (Blk.cell (i:=0) h4.1 rfl)) rfl rfl λP Q S n o=>?_;refine zz ?_;replace h4:=h4.st n;obtain⟨z,u0,v0,w0,y0⟩:=BxR.shut (x:=(⟨y⟩:BxR 110 108 CEn)) (l0:=2) (by decide) (by have q:=h4;rw[<- o.len.1.symm]at q;exact q) o.relen;obtain⟨T,z0,hm⟩:=bs hm;refine Cj (O:=z) (KQ y0 (X9 0) m z0) rfl λU V B C D=>?_;obtain⟨E,e1⟩:=D;obtain rfl:=e1.bool;refine zz ?_;obtain⟨c,f1,hm⟩:=bs hm;refine HV (O:=B) (LN E f1) Ky rfl rfl λW X Y G H=>?_;obtain⟨I,j1⟩:=H;obtain⟨Z,rfl,k1⟩:=j1.any;obtain⟨l1,rfl,f2,rfl,h0,m1,n1⟩:=k1;obtain⟨J,p1,rfl⟩:=h0.form;refine zz ?_;obtain rfl:=sm hm;replace g:=(((((g.st S3).st c0).st n).st u0).st C).st G;obtain⟨a,hS',hz,hl⟩:=hE.leave (λq=>if q=2 then b else 0) rfl g;exact YW rfl (AD rfl) ⟨a,hS',(Ob.leave I hz (hl 2 (by decide) (by decide)) e.2),(Vb.mono (Zt (Vb.ofAgg (cs:=[(.slice J c.1.x.facts.length p1),(.int .i64 c.1.x.dist),(.int .i64 c.1.x.order)]) (x:=c.1.x) rfl ⟨_,rfl,h0,m1,n1⟩)) hz)⟩
end
section
open Go Go.RowKit
inductive Walk(t:Tsk):List Int->Int->Prop
  |goal {s:List Int}:YV t.goal s=true->Walk t s 0
  |step {s:List Int} {k:Nat} {o:Opr} {c:Int}:t.ops[k]?=some o->YV o.pre s=true->Walk t (succ o s) c->Walk t s (c+o.cost)
def Inf:Int:=1125899906842624
theorem XU{σ ρ:Type}{f:σ→Option (Ctl σ ρ)}(I:σ→Prop)(g:σ→Prop)(b:σ→Nat)(h:∀s,I s→(∃a,f s=some (.next a)∧I a∧b a<b s)∨(∃a,f s=some (.brk a)∧g a)):∀s,I s→∃a,lop f s=some (.done a)∧g a:=by
  have c:∀(n:Nat) s,I s->b s<n->∃a,itr f n s=some (.done a)/\g a:=by
    intro n
    induction n with
    |zero=>intro s _ e;omega
    |succ n d =>
      intro s hs hn;rcases h s hs with⟨a,h1,h2,h3⟩|⟨a,h1,h2⟩
      . obtain⟨r,hr,hb⟩:=d a h2 (by omega);exact⟨r,by simp only[itr,h1];exact hr,hb⟩
      . exact⟨a,by simp only[itr,h1],h2⟩
  intro s hs;obtain⟨r,hr,hb⟩:=c (b s+1) s hs (by omega);exact⟨r,KG.2 ⟨_,hr⟩,hb⟩
def sumN:List Int->Nat
  |[]=>0
  |x::l=>x.toNat+sumN l
theorem RZ:∀(l:List Int)(i:Nat)(x y:Int),l[i]?=some x->0<=y->y<x->sumN (l.set i y)<sumN l
  |[],i,x,y,h,_,_=>by simp at h
  |a::l,0,x,y,h,h1,h2=>by
    obtain rfl:a=x:=(by simpa using h);show y.toNat+sumN l<a.toNat+sumN l;omega
  |a::l,i+1,x,y,h,h1,h2=>by
    have:=RZ l i x y (by simpa using h) h1 h2;show a.toNat+sumN (l.set i y)<a.toNat+sumN l;omega
def Aae(t:Tsk)(d:List Int):Prop:=d.length=(statesL t.vars).length/\∀(i:Nat) s,(statesL t.vars)[i]?=some s->∃c,d[i]?=some c/\0<=c/\c<=Inf/\(c<Inf->Walk t s c)/\(YV t.goal s=true->c=0)
def AbW(t:Tsk)(d:List Int):Prop:=Aae t d/\∀(i:Nat) s c C,(statesL t.vars)[i]?=some s->d[i]?=some c->Walk t s C->c<=C
theorem VU{α:Type}{l:List α}{k:Nat}{x y:α}(h:l[k]?=some x):y∈l.take (k+1)↔y∈l.take k\/y=x:=by
  rw[M4,h,Q8];simp
theorem WU      {t:Tsk} (h:Mid t):∃d,GG t=some d∧AbW t d:=by
  have i0:(statesL t.vars).length<=600:=(by have:=h.states t.vars.length;rwa[Q3]at this);unfold GG;rw[KP h,Ah,HT (by omega) (by omega),Ah];obtain⟨d0,h1,h2,h3⟩:=HE (ρ:=List Int) (f:=λ(G:Nat)(e0:List Int)(M:(List Int))=>bnd (M[G]?) λ_=>bnd (GA t.goal e0) λf0=>if f0=true then bnd ((M.set G 1125899906842624)[G]?) λ_=>some (.next ((M.set G 1125899906842624).set G 0))else some (.next (M.set G 1125899906842624))) (xs:=statesL t.vars) (s₀:=List.replicate (statesL t.vars).length 0)
    (λn d=>d.length=(statesL t.vars).length/\∀(i:Nat) s,i<n->(statesL t.vars)[i]?=some s->d[i]?=some (if YV t.goal s=true then 0 else Inf)) ⟨by simp,λi s hi=>by omega⟩ (λn s d hn hI=>by
      obtain⟨J,i2⟩:=hI;have hlt:=Az hn;obtain⟨u,hu⟩:=AG (l:=d) (k:=n) (by omega);rw[hu,Ah,Mo,Ah];by_cases H:YV t.goal s=true
      . rw[if_pos H,F2 (by omega),Ah];refine⟨_,rfl,by simpa using J,λi Q hi q=>?_⟩;by_cases e:i=n
        . subst e;obtain rfl:Q=s:=(by rw[hn]at q;exact(R1 q).symm);rw[F2 (by simp;omega),if_pos H]
        . rw[H7 (by omega),H7 (by omega)];exact i2 i Q (by omega) q
      . rw[if_neg H];refine⟨_,rfl,by simpa using J,λi Q hi q=>?_⟩;by_cases e:i=n
        . subst e;obtain rfl:Q=s:=(by rw[hn]at q;exact(R1 q).symm);rw[F2 (by omega),if_neg H];rfl
        . rw[H7 (by omega)];exact i2 i Q (by omega) q)
  obtain⟨N,he,hes⟩:=VP h;rw[h1,Ah,Bw,he,Ah];have g0:Aae t d0:=⟨h2,λi s hi=>by
    refine⟨_,h3 i s (Az hi) hi,?_⟩;by_cases H:YV t.goal s=true
    . rw[if_pos H];exact⟨by omega,by unfold Inf;omega,λ_=>.goal H,λ_=>rfl⟩
    . rw[if_neg H];exact⟨by unfold Inf;omega,by omega,λI=>absurd I (by omega),λI=>absurd I H⟩⟩
  -- one R over the edges
  have R    : ∀d,Aae t d→∃(S:List Int) (b:Bool),rng (ρ:=Ctl ((List Int)×Bool) (List Int)) (λ(_:Nat)(g:Edg)(a:(List Int)×Bool)=>bnd (atI t.ops g.op) λp=>bnd (bnd (atI a.1 g.dst) λv=>if v<1125899906842624 then(bnd (atI a.1 g.dst) λw=>bnd (X7 (w+p.cost)) λz=>bnd (atI a.1 g.src) λA=>if z<A then(some true)else(some false))else(some false):Option Bool) λB=>if B=true then(bnd (atI a.1 g.dst) λD=>bnd (X7 (D+p.cost)) λE=>bnd (atI a.1 g.src) λ_=>some (.next ((a.1.set (g.src).toNat E),true)))else(some (.next (a.1,a.2)))) N 0 (d,false)=some (.done (S,b))∧Aae t S∧(b=true→sumN S<sumN d)∧(b=false→S=d∧∀e∈N,∀(i k j:Nat) o x y,e=⟨i,k,j⟩→t.ops[k]?=some o→d[i]?=some x→d[j]?=some y→y<Inf→x≤y+o.cost):=by
    intro d hd;obtain⟨⟨S,b⟩,g1,g2,g3,g4⟩:=HE (ρ:=Ctl ((List Int)×Bool) (List Int)) (f:=λ(_:Nat)(g:Edg)(a:(List Int)×Bool)=>bnd (atI t.ops g.op) λp=>bnd (bnd (atI a.1 g.dst) λv=>if v<1125899906842624 then(bnd (atI a.1 g.dst) λw=>bnd (X7 (w+p.cost)) λz=>bnd (atI a.1 g.src) λA=>if z<A then(some true)else(some false))else(some false):Option Bool) λB=>if B=true then(bnd (atI a.1 g.dst) λD=>bnd (X7 (D+p.cost)) λE=>bnd (atI a.1 g.src) λ_=>some (.next ((a.1.set (g.src).toNat E),true)))else(some (.next (a.1,a.2)))) (xs:=N) (s₀:=(d,false))
      (λm r=>Aae t r.1/\(r.2=true->sumN r.1<sumN d)/\(r.2=false->r.1=d/\∀e∈N.take m,∀(i k j:Nat) o x y,e=⟨i,k,j⟩->t.ops[k]?=some o->d[i]?=some x->d[j]?=some y->y<Inf->x<=y+o.cost)) ⟨hd,λI=>by simp at I,λ_=>⟨rfl,λe he=>by simp at he⟩⟩ (λm e r hm hI=>by
        obtain⟨J,i2,i3⟩:=hI;obtain⟨O,Y⟩:=r;simp only at J i2 i3;obtain⟨i,k,j,s,o,rfl,a1,a2,a3,a4⟩:=(hes e).1 (H2 hm);obtain⟨x,x1,x2,x3,x4,x5⟩:=J.2 i s a1;obtain⟨y,y1,y2,y3,y4,y5⟩:=J.2 j _ a4;have V:=h.ok.2.2.2.2.2 k o a2;have j0:=V.1;have k0:=V.2.1;simp only;rw[BG,a2,Ah,BG,y1,Ah,BG,x1];have T:∀(K:y<Inf->x<=y+o.cost),Aae t O/\(Y=true->sumN O<sumN d)/\(Y=false->O=d/\∀e∈N.take (m+1),∀(i k j:Nat) o x y,e=⟨i,k,j⟩->t.ops[k]?=some o->d[i]?=some x->d[j]?=some y->y<Inf->x<=y+o.cost):=λK=>by
          refine⟨J,i2,λhf=>⟨(i3 hf).1,λe' h0=>?_⟩⟩;obtain⟨W,e2⟩:=i3 hf;rcases(VU hm).1 h0 with I|rfl
          . exact e2 e' I
          . intro Z k' j' o' x' y' hE a0 b0 c0 hlt;injection hE with h1 h2 h3;obtain rfl:i=Z:=(by omega);obtain rfl:k=k':=(by omega);obtain rfl:j=j':=(by omega);obtain rfl:o=o':=(by rw[a2]at a0;exact R1 a0);rw[<- W,x1]at b0;rw[<- W,y1]at c0;obtain rfl:=R1 b0;obtain rfl:=R1 c0;exact K hlt
        by_cases L:y<1125899906842624
        . rw[if_pos L,Ah,BQ (by unfold X2;unfold Inf at *;omega),Ah,Ah];by_cases K:y+o.cost<x
          . rw[if_pos K,Ah,BA,Ah,BQ (by unfold X2;unfold Inf at *;omega),Ah,Ah];refine⟨_,rfl,⟨by simpa using J.1,λZ Q q=>?_⟩,λ_=>?_,λI=>by simp at I⟩
            . show ∃c,(O.set ((i:Int)).toNat (y+o.cost))[Z]?=some c/\_;rw[show((i:Int)).toNat=i from by omega];by_cases e:i=Z
              . subst e;obtain rfl:s=Q:=(by rw[a1]at q;exact R1 q);refine⟨_,by rw[F2 (Az x1)],by omega,by omega,λ_=>.step a2 a3 (y4 L),λH=>?_⟩;have:=x5 H;omega
              . rw[H7 e];exact J.2 Z Q q
            . show sumN (O.set ((i:Int)).toNat (y+o.cost))<_;rw[show((i:Int)).toNat=i from by omega];have hlt:=RZ O i x (y+o.cost) x1 (by omega) K;cases hr:Y with
              |true=>have:=i2 hr;omega
              |false=>rw[(i3 hr).1]at hlt;rwa[(i3 hr).1]
          . rw[if_neg K,Ah,BT];exact⟨_,rfl,T λ_=>by omega⟩
        . rw[if_neg L,Ah,BT];exact⟨_,rfl,T λI=>absurd I L⟩)
    refine⟨S,b,g1,g2,g3,λhb=>?_⟩;obtain⟨W,e2⟩:=g4 hb;rw[Q3]at e2;exact⟨W,e2⟩
  obtain⟨⟨d,b⟩,l1,l2,l3⟩:=XU (ρ:=List Int) (f:=λ(F:(List Int)×Bool)=>if F.2=true then(bnd (rng (ρ:=Ctl ((List Int)×Bool) (List Int)) (λ(_:Nat)(g:Edg)(a:(List Int)×Bool)=>bnd (atI t.ops g.op) λp=>bnd (bnd (atI a.1 g.dst) λv=>if v<1125899906842624 then(bnd (atI a.1 g.dst) λw=>bnd (X7 (w+p.cost)) λz=>bnd (atI a.1 g.src) λA=>if z<A then(some true)else(some false))else(some false):Option Bool) λB=>if B=true then(bnd (atI a.1 g.dst) λD=>bnd (X7 (D+p.cost)) λE=>bnd (atI a.1 g.src) λ_=>some (.next ((a.1.set (g.src).toNat E),true)))else(some (.next (a.1,a.2)))) N 0 (F.1,false)) λP=>fin P λ(U:(List Int)×Bool)=>some (.next (U.1,U.2)))else(some (.brk (F.1,F.2))))
    (λr=>Aae t r.1/\(r.2=false->∀e∈N,∀(i k j:Nat) o x y,e=⟨i,k,j⟩->t.ops[k]?=some o->r.1[i]?=some x->r.1[j]?=some y->y<Inf->x<=y+o.cost)) (λr=>Aae t r.1/\∀e∈N,∀(i k j:Nat) o x y,e=⟨i,k,j⟩->t.ops[k]?=some o->r.1[i]?=some x->r.1[j]?=some y->y<Inf->x<=y+o.cost) (λr=>2*sumN r.1+if r.2=true then 1 else 0) (λr hr=>by
      obtain⟨O,Y⟩:=r;obtain⟨J,i2⟩:=hr;cases Y with
      |true =>
        obtain⟨S,b,p1,p2,p3,p4⟩:=R O J;refine .inl ⟨(S,b),?_,⟨p2,λhb=>?_⟩,?_⟩
        . simp only[if_true];rw[p1,Ah,Bw]
        . obtain⟨W,e2⟩:=p4 hb;show ∀e∈N,_;intro e he i k j o x y hE X K L;simp only at K L;rw[W]at K L;exact e2 e he i k j o x y hE X K L
        . cases b with
          |true=>have:=p3 rfl;simp;omega
          |false=>rw[(p4 rfl).1];simp
      |false=>exact .inr ⟨(O,false),by simp,J,i2 rfl⟩) (d0,true) ⟨g0,λI=>by simp at I⟩
  refine⟨d,by rw[l1,Ah,Bw],l2,λi s c C hi hc hw=>?_⟩
  induction hw generalizing i c with
  |goal H =>
    obtain⟨c',q1,_,_,_,q5⟩:=l2.2 i _ hi;rw[hc]at q1;obtain rfl:=R1 q1;have:=q5 H;omega
  |@step s k o C' X hp hw ih =>
    have hs:StateOk t.vars s:=JN.1 (H2 hi);obtain⟨j,_,hj⟩:=Qk h (NE h.ok hs X);obtain⟨y,y1,y2,y3,y4,y5⟩:=l2.2 j _ hj;have h5:=ih j y hj y1;obtain⟨x,x1,x2,x3,x4,x5⟩:=l2.2 i s hi;rw[x1]at hc;obtain rfl:=R1 hc;have V:=(h.ok.2.2.2.2.2 k o X).1;by_cases L:y<Inf
    . have:=l3 ⟨i,k,j⟩ ((hes _).2 ⟨i,k,j,s,o,rfl,hi,X,hp,hj⟩) i k j o x y rfl X x1 y1 L;omega
    . omega
end
section
open Go Go.RowKit
structure QEn where
  key:Int
  tie:Int
  item:Int
  number:Int
theorem QK{α:Type}{l:List α}{m i:Nat}{x:α}(h:(l.take m)[i]?=some x):l[i]?=some x:=by
  by_cases hi:i<m
  . rwa[D8 hi]at h
  . rw[List.getElem?_take_eq_none (by omega)]at h;cases h
def bfr(x y:QEn):Prop:=x.key<y.key\/(x.key=y.key/\(x.tie<y.tie\/(x.tie=y.tie/\x.number<y.number)))
instance(x y:QEn):Decidable (bfr x y):=by unfold bfr;infer_instance
def nb(x y:QEn):Prop:=¬bfr x y
theorem Mq{x y z:QEn}(a:nb x y)(b:nb y z):nb x z:=by unfold nb bfr at *;omega
theorem Rg{x y:QEn}(h:bfr x y):nb y x:=by unfold nb bfr at *;omega
theorem PE(x:QEn):nb x x:=by unfold nb bfr;omega
theorem UM{x y:QEn}(h:nb x y):y.key<=x.key:=by unfold nb bfr at h;omega
def Y8(l:List QEn):Prop:=∀(j:Nat) x y,0<j->l[j]?=some x->l[(j-1)/2]?=some y->nb x y
def Acj(l:List QEn)(i:Nat):Prop:=∀(j:Nat) x y,0<i->0<j->(j-1)/2=i->l[j]?=some x->l[(i-1)/2]?=some y->nb x y
def UpI(l:List QEn)(i:Nat):Prop:=(∀(j:Nat) x y,0<j->j≠i->l[j]?=some x->l[(j-1)/2]?=some y->nb x y)/\Acj l i
def DownI(l:List QEn)(i:Nat):Prop:=(∀(j:Nat) x y,0<j->(j-1)/2≠i->l[j]?=some x->l[(j-1)/2]?=some y->nb x y)/\Acj l i
theorem LO{l:List QEn}{i j:Nat}{a b:QEn}(hi:l[i]?=some a)(hj:l[j]?=some b)(e:i≠j)(k:Nat):((l.set i b).set j a)[k]?=if k=j then some a else if k=i then some b else l[k]?:=by
  by_cases c:k=j
  . subst c;rw[if_pos rfl,F2 (by simpa using Az hj)]
  . rw[if_neg c,H7 (by omega)];by_cases d:k=i
    . subst d;rw[if_pos rfl,F2 (Az hi)]
    . rw[if_neg d,H7 (by omega)]
theorem UpI.step{l:List QEn}{i:Nat}{a b:QEn}(h:UpI l i)(q:0<i)(hi:l[i]?=some a)(hj:l[(i-1)/2]?=some b)(hb:bfr a b):UpI ((l.set i b).set ((i-1)/2) a) ((i-1)/2):=by
  have g:i≠(i-1)/2:=(by omega);constructor
  . intro j x y e k c d;rw[LO hi hj g,if_neg k]at c;rw[LO hi hj g]at d;by_cases f:j=i
    . subst f;rw[if_pos rfl]at c d;obtain rfl:=R1 c;obtain rfl:=R1 d;exact Rg hb
    . rw[if_neg f]at c;by_cases n:(j-1)/2=(i-1)/2
      . rw[if_pos n]at d;obtain rfl:=R1 d;have:=h.1 j x b e f c (by rw[n];exact hj);exact Mq this (Rg hb)
      . rw[if_neg n]at d;by_cases o:(j-1)/2=i
        . rw[if_pos o]at d;obtain rfl:=R1 d;exact h.2 j x b q e o c hj
        . rw[if_neg o]at d;exact h.1 j x y e f c d
  . intro j x y p e k c d;rw[LO hi hj g]at c d;have r:((i-1)/2-1)/2≠(i-1)/2:=(by omega);have s:((i-1)/2-1)/2≠i:=(by omega);rw[if_neg r,if_neg s]at d;have m:=h.1 ((i-1)/2) b y p (by omega) hj d;rw[if_neg (by omega)]at c;by_cases f:j=i
    . subst f;rw[if_pos rfl]at c;obtain rfl:=R1 c;exact m
    . rw[if_neg f]at c;exact Mq (h.1 j x b e f c (by rw[k];exact hj)) m
theorem UpI.heap{l:List QEn}{i:Nat}(h:UpI l i)(hi:i=0\/∀x y,l[i]?=some x->l[(i-1)/2]?=some y->nb x y):Y8 l:=λj x y hj a b=>by
  by_cases e:j=i
  . subst e;rcases hi with c|h1
    . omega
    . exact h1 x y a b
  . exact h.1 j x y hj e a b
theorem DownI.step{l:List QEn}{i c:Nat}{a b:QEn}(h:DownI l i)(hc:c=2*i+1∨c=2*i+2)(hi:l[i]?=some a)(hj:l[c]?=some b)(hb:bfr b a)(hs:∀(j:Nat) x,0<j→(j-1)/2=i→l[j]?=some x→nb x b):DownI ((l.set i b).set c a) c:=by
  have k:i≠c:=(by omega);have g:(c-1)/2=i:=(by omega);constructor
  . intro j x y f n e d;rw[LO hi hj k]at e d;rw[if_neg n]at d;by_cases p:j=c
    . subst p;rw[if_pos rfl]at e;rw[if_pos g]at d;obtain rfl:=R1 e;obtain rfl:=R1 d;exact Rg hb
    . rw[if_neg p]at e;by_cases q:j=i
      . subst q;rw[if_pos rfl]at e;rw[if_neg (by omega)]at d;obtain rfl:=R1 e;exact h.2 c _ y f (by omega) g hj d
      . rw[if_neg q]at e;by_cases m:(j-1)/2=i
        . rw[if_pos m]at d;obtain rfl:=R1 d;exact hs j x f m e
        . rw[if_neg m]at d;exact h.1 j x y f m e d
  . intro j x y r f o e d;rw[LO hi hj k]at e d;rw[if_neg (by omega),if_neg (by omega)]at e;rw[if_neg (by omega),if_pos g]at d;obtain rfl:=R1 d;exact h.1 j x _ f (by omega) e (by rw[o];exact hj)
theorem DownI.heap{l:List QEn}{i:Nat}(h:DownI l i)(hi:∀(j:Nat) x y,0<j->(j-1)/2=i->l[j]?=some x->l[i]?=some y->nb x y):Y8 l:=λj x y hj a b=>by
  by_cases e:(j-1)/2=i
  . exact hi j x y hj e a (by rw[<- e];exact b)
  . exact h.1 j x y hj e a b
theorem UN{l:List QEn}(h:Y8 l){e:QEn}(he:l[0]?=some e):∀x∈l,nb x e:=by
  have b:∀(n j:Nat) x,j<=n->l[j]?=some x->nb x e:=by
    intro n
    induction n with
    |zero =>
      intro j x hj a;have c:j=0:=(by omega);rw[c,he]at a;rw[<- R1 a];exact PE _
    |succ n d =>
      intro j x hj a;by_cases f:j=0
      . exact d j x (by omega) a
      . obtain⟨y,hy⟩:=AG (l:=l) (k:=(j-1)/2) (by have:=Az a;omega);exact Mq (h j x y (by omega) a hy) (d ((j-1)/2) y (by omega) hy)
  intro x a;obtain⟨j,hj⟩:=H3 a;exact b j j x (by omega) hj
end
section
open Go Go.RowKit
theorem QL{α:Type}{l:List α}{i j:Nat}{a b:α}(hi:l[i]?=some a)(hj:l[j]?=some b):((l.set i b).set j a).Perm l:=by
  have c:=Az hi;have d:=Az hj;have e:l[i]=a:=(by rw[C9 c]at hi;exact R1 hi);have f:l[j]=b:=(by rw[C9 d]at hj;exact R1 hj);rw[<- e,<- f];exact List.set_set_perm c d
section
variable {α:Type}{t e:TypeId}{en:α → QEn}{mL:List α → Int → Int → Option Bool}{mS:List α → Int → Int → Option (List α)}
def qsG(en:α->QEn)(l:List α):List QEn:=l.map en
theorem NF(l:List α):(qsG en l).length=l.length:=by simp[qsG]
theorem Kz{l:List α}{i:Nat}{x:α}(h:l[i]?=some x):(qsG en l)[i]?=some (en x):=by unfold qsG;rw[M9,h];rfl
theorem LP(l:List α)(i:Nat)(x:α):qsG en (l.set i x)=(qsG en l).set i (en x):=by unfold qsG;rw[List.map_set]
theorem VV(l:List α)(n:Nat):qsG en (l.take n)=(qsG en l).take n:=by unfold qsG;rw[U1]
def LsG(en:α->QEn)(mL:List α->Int->Int->Option Bool):Prop:=∀{l:List α}{i j:Nat}{a b:α},l[i]?=some a->l[j]?=some b->mL l (i:Int) (j:Int)=some (decide (bfr (en a) (en b)))
def SwG(mS:List α->Int->Int->Option (List α)):Prop:=∀{l:List α}{i j:Nat}{a b:α},l[i]?=some a->l[j]?=some b->mS l (i:Int) (j:Int)=some ((l.set i b).set j a)
variable (hL:LsG en mL)(hS:SwG mS)
include hL hS
theorem WV{q:BxR t e α}{i:Nat}(hi:i<q.l.length)(hl:q.l.length≤1000000000)(h:UpI (qsG en q.l) i):∃r,Mp mL mS q (i:Int)=some r∧Y8 (qsG en r.l)∧r.l.Perm q.l:=by
  unfold Mp;refine IA (λs=>∃i:Nat,s.1=(i:Int)/\i<s.2.l.length/\UpI (qsG en s.2.l) i/\s.2.l.Perm q.l) (λs=>Y8 (qsG en s.2.l)/\s.2.l.Perm q.l) (λ_=>False) (λs=>s.1.toNat) ⟨i,rfl,hi,h,T5 _⟩ ?_ (λs hs=>⟨_,rfl,hs⟩) (λs hs=>hs.elim);rintro⟨c,s⟩ ⟨i,hc,hi,hu,hp⟩;dsimp only at hc hi hu hp ⊢;subst hc;have j:=hp.length_eq;rw[BQ (by unfold X2;omega),Ah];by_cases p:0<(i:Int)
  . have f:Aaf ((i:Int)-1) 2=some (((i-1)/2:Nat):Int):=by
      unfold Aaf;rw[if_pos (by omega),if_pos (by omega)];congr 1;omega
    obtain⟨a,ha⟩:=AG (l:=s.l) (k:=i) hi;obtain⟨b,hb⟩:=AG (l:=s.l) (k:=(i-1)/2) (by omega);rw[f,Ah,if_neg (by omega),hL ha hb,Ah];by_cases d:bfr (en a) (en b)
    . rw[decide_eq_true d,BA,Ah,BT,hS hb ha,Ah];have o:qsG en ((s.l.set ((i-1)/2) a).set i b)=((qsG en s.l).set i (en b)).set ((i-1)/2) (en a):=by
        rw[LP,LP,List.set_comm _ _ (by omega)]
      refine .inl ⟨_,rfl,⟨(i-1)/2,rfl,by simp;omega,?_,?_⟩,?_⟩
      . dsimp only;rw[o];exact hu.step (by omega) (Kz ha) (Kz hb) d
      . dsimp only;rw[List.set_comm _ _ (by omega)];exact(QL ha hb).trans hp
      . dsimp only;omega
    . rw[decide_eq_false d,BT,Ah,BA];refine .inr (.inl ⟨_,rfl,hu.heap (.inr λx y m n=>?_),hp⟩);rw[Kz ha]at m;rw[Kz hb]at n;obtain rfl:=R1 m;obtain rfl:=R1 n;exact d
  . have g:i=0:=(by omega);subst g;have f:Aaf (((0:Nat):Int)-1) 2=some 0:=rfl;rw[f,Ah,if_pos (show(0:Int)=((0:Nat):Int)from rfl),Ah,BA];exact .inr (.inl ⟨_,rfl,hu.heap (.inl rfl),hp⟩)
theorem QM{q:BxR t e α}(h:Y8 (qsG en q.l))(hl:q.l.length<=900000000)(x:α):∃r,Mp mL mS (⟨q.l++[x]⟩:BxR t e α) (((q.l++[x]).length:Int)-1)=some r/\Y8 (qsG en r.l)/\r.l.Perm (x::q.l):=by
  have b:(((q.l++[x]).length:Int)-1)=((q.l.length:Nat):Int):=(by simp);rw[b];have d:qsG en (q.l++[x])=qsG en q.l++[en x]:=(by simp[qsG]);obtain⟨r,r1,r2,r3⟩:=WV hL hS (q:=(⟨q.l++[x]⟩:BxR t e α)) (i:=q.l.length) (by simp) (by simp;omega) ⟨λj y z hj g a c=>by
    dsimp only at a c;rw[d]at a c;have f:j<(qsG en q.l).length:=(by have:=Az a;simp at this;rw[NF]at this ⊢;omega);rw[C2 f]at a;rw[C2 (by omega)]at c;exact h j y z hj a c,λj y z k m n a c=>by
    dsimp only at a;have:=Az a;rw[NF]at this;simp at this;omega⟩
  refine⟨_,r1,r2,r3.trans ?_⟩;exact G2 (l₁:=q.l) (l₂:=[_])
theorem UO{q:BxR t e α}{n:Nat}(hn:n≤q.l.length)(hl:q.l.length≤1000000000)(h:DownI (qsG en (q.l.take n)) 0):∃r,JI mL mS q 0 (n:Int)=some r∧Y8 (qsG en (r.2.l.take n))∧(r.2.l.take n).Perm (q.l.take n)∧r.2.l.drop n=q.l.drop n∧r.2.l.length=q.l.length:=by
  unfold JI;refine IA (λs=>∃i:Nat,s.1=(i:Int)/\DownI (qsG en (s.2.l.take n)) i/\i<=n/\(s.2.l.take n).Perm (q.l.take n)/\s.2.l.drop n=q.l.drop n/\s.2.l.length=q.l.length) (λs=>Y8 (qsG en (s.2.l.take n))/\(s.2.l.take n).Perm (q.l.take n)/\s.2.l.drop n=q.l.drop n/\s.2.l.length=q.l.length) (λ_=>False) (λs=>n-s.1.toNat) ⟨0,rfl,h,by omega,T5 _,rfl,rfl⟩ ?_ ?_ (λs hs=>hs.elim)
  . rintro⟨c,s⟩ ⟨i,hc,hd,hi,hp,hdr,hsl⟩;dsimp only at hc hd hi hp hdr hsl ⊢;subst hc;rw[BQ (by unfold X2;omega),Ah,BQ (by unfold X2;omega),Ah];by_cases E:(n:Int)<=2*(i:Int)+1
    . rw[if_pos E,Ah,BA];refine .inr (.inl ⟨_,rfl,hd.heap λj x y hj p f _=>?_,hp,hdr,hsl⟩);have:=Az f;rw[NF,P9]at this;omega
    rw[if_neg E,if_neg (by omega),Ah,BT];obtain⟨a,ha⟩:=AG (l:=s.l) (k:=i) (by omega);obtain⟨b,hb⟩:=AG (l:=s.l) (k:=2*i+1) (by omega);have B:∀{k:Nat}{x:α},k<n->s.l[k]?=some x->(qsG en (s.l.take n))[k]?=some (en x):=λ{k x} hk f=>Kz (by rw[D8 hk];exact f);have u:2*(i:Int)+1=((2*i+1:Nat):Int):=(by omega);have C:2*(i:Int)+1+1=((2*i+2:Nat):Int):=(by omega);have v:∀(c:Nat)(d:α),(c=2*i+1\/c=2*i+2)->c<n->s.l[c]?=some d->(∀(j:Nat) x,0<j->(j-1)/2=i->(qsG en (s.l.take n))[j]?=some x->nb x (en d))->(∃o,(bnd (mL s.l (c:Int) (i:Int)) λw=>if w=true then bnd (mS s.l (i:Int) (c:Int)) λm=>some (Ctl.next (ρ:=Bool×BxR t e α) ((c:Int),(⟨m⟩:BxR t e α)))else some (.brk ((i:Int),s)))=some (.next o)/\(∃i:Nat,o.1=(i:Int)/\DownI (qsG en (o.2.l.take n)) i/\i<=n/\(o.2.l.take n).Perm (q.l.take n)/\o.2.l.drop n=q.l.drop n/\o.2.l.length=q.l.length)/\n-o.1.toNat<n-((i:Int)).toNat)\/(∃o,(bnd (mL s.l (c:Int) (i:Int)) λw=>if w=true then bnd (mS s.l (i:Int) (c:Int)) λm=>some (Ctl.next (ρ:=Bool×BxR t e α) ((c:Int),(⟨m⟩:BxR t e α)))else some (.brk ((i:Int),s)))=some (.brk o)/\Y8 (qsG en (o.2.l.take n))/\(o.2.l.take n).Perm (q.l.take n)/\o.2.l.drop n=q.l.drop n/\o.2.l.length=q.l.length)\/∃r,(bnd (mL s.l (c:Int) (i:Int)) λw=>if w=true then bnd (mS s.l (i:Int) (c:Int)) λm=>some (Ctl.next (ρ:=Bool×BxR t e α) ((c:Int),(⟨m⟩:BxR t e α)))else some (.brk ((i:Int),s)))=some (.ret r)/\False:=by
      intro c d hc D g hs;rw[hL g ha,Ah];have H:qsG en (((s.l.set i d).set c a).take n)=((qsG en (s.l.take n)).set i (en d)).set c (en a):=by
        rw[U4,U4,LP,LP]
      by_cases z:bfr (en d) (en a)
      . rw[decide_eq_true z,BA,hS ha g,Ah];refine .inl ⟨_,rfl,⟨c,rfl,?_,by omega,?_,?_,by simp;exact hsl⟩,?_⟩
        . dsimp only;rw[H];exact hd.step hc (B (by omega) ha) (B D g) z hs
        . dsimp only;rw[U4,U4];exact(QL (i:=i) (j:=c) (by rw[D8 (by omega)];exact ha) (by rw[D8 D];exact g)).trans hp
        . dsimp only;rw[<- hdr];apply M5;intro k;rw[K6,K6,H7 (by omega),H7 (by omega)]
        . dsimp only;omega
      . rw[decide_eq_false z,BT];refine .inr (.inl ⟨_,rfl,hd.heap λj x y hj p f F=>?_,hp,hdr,hsl⟩);rw[B (by omega) ha]at F;obtain rfl:=R1 F;exact Mq (hs j x hj p f) z
    rw[BQ (by unfold X2;omega),Ah];by_cases G:2*(i:Int)+1+1<(n:Int)
    . obtain⟨d,g⟩:=AG (l:=s.l) (k:=2*i+2) (by omega);rw[if_pos G,C,u,hL g hb,Ah];by_cases A:bfr (en d) (en b)
      . rw[decide_eq_true A,BA,Ah,BA,Ah];refine v (2*i+2) d (.inr rfl) (by omega) g λj x hj p f=>?_;have:j=2*i+1\/j=2*i+2:=(by omega);rcases this with rfl|rfl
        . rw[B (by omega) hb]at f;obtain rfl:=R1 f;exact Rg A
        . rw[B (by omega) g]at f;obtain rfl:=R1 f;exact PE _
      . rw[decide_eq_false A,BT,Ah,BT,Ah];refine v (2*i+1) b (.inl rfl) (by omega) hb λj x hj p f=>?_;have:j=2*i+1\/j=2*i+2:=(by omega);rcases this with rfl|rfl
        . rw[B (by omega) hb]at f;obtain rfl:=R1 f;exact PE _
        . rw[B (by omega) g]at f;obtain rfl:=R1 f;exact A
    . rw[if_neg G,Ah,BT,Ah,u];refine v (2*i+1) b (.inl rfl) (by omega) hb λj x hj p f=>?_;have:j=2*i+1:=(by have:=Az f;rw[NF,P9]at this;omega);subst this;rw[B (by omega) hb]at f;obtain rfl:=R1 f;exact PE _
  . intro s hs;by_cases hz:0<s.1
    . rw[Bw,if_pos hz,Ah];exact⟨_,rfl,hs⟩
    . rw[Bw,if_neg hz,Ah];exact⟨_,rfl,hs⟩
theorem Sa{q:BxR t e α}(h:Y8 (qsG en q.l))(p:0<q.l.length)(hl:q.l.length≤900000000):∃(l:List α) (r:Bool×BxR t e α) (y:α),mS q.l 0 ((q.l.length:Int)-1)=some l∧JI mL mS (⟨l⟩:BxR t e α) 0 ((q.l.length:Int)-1)=some r∧r.2.l.length=q.l.length∧r.2.l[q.l.length-1]?=some y∧Y8 (qsG en (r.2.l.take (q.l.length-1)))∧q.l.Perm (y::r.2.l.take (q.l.length-1))∧∀x∈qsG en q.l,nb x (en y):=by
  obtain⟨b,he⟩:=AG (l:=q.l) (k:=0) p;obtain⟨z,hz⟩:=AG (l:=q.l) (k:=q.l.length-1) (by omega);have C:((q.l.length:Int)-1)=((q.l.length-1:Nat):Int):=(by omega);have D:mS q.l 0 ((q.l.length-1:Nat):Int)=some ((q.l.set 0 z).set (q.l.length-1) b):=hS (i:=0) he hz;rw[C];have u:((q.l.set 0 z).set (q.l.length-1) b).take (q.l.length-1)=(q.l.set 0 z).take (q.l.length-1):=by
    rw[U4];exact List.set_eq_of_length_le (by simp)
  have c:q.l.Perm (b::(q.l.set 0 z).take (q.l.length-1)):=by
    have:q.l.Perm (b::(q.l.set 0 z).take (q.l.length-1)):=by
      cases v:q.l with
      |nil=>rw[v]at p;simp at p
      |cons a s =>
        rw[v]at he hz;simp at he;subst he;cases f:s.reverse with
        |nil =>
          have:s=[]:=(by simpa using f);subst this;simp
        |cons w r =>
          have g:s=r.reverse++[w]:=(by have:=congrArg List.reverse f;simpa using this);subst g;simp at hz;subst hz;simp
    exact this
  obtain⟨r,r1,r2,r3,r4,r5⟩:=UO hL hS (q:=(⟨(q.l.set 0 z).set (q.l.length-1) b⟩:BxR t e α)) (n:=q.l.length-1) (by simp) (by simp;omega) (by
    dsimp only;rw[u];refine⟨λj x y hj E A B=>?_,λj x y F=>by omega⟩;rw[VV,LP]at A B;have m:=QK A;have o:=QK B;rw[H7 (by omega)]at m o;exact h j x y hj m o)
  dsimp only at r3 r4 r5;rw[u]at r3;simp only[R6]at r5;have d:r.2.l[q.l.length-1]?=some b:=by
    have:(r.2.l.drop (q.l.length-1))[0]?=some b:=by
      rw[r4,K6,U9,F2 (by simp;omega)]
    rwa[K6,U9]at this
  exact⟨_,r,b,D,r1,r5,d,r2,c.trans (List.Perm.cons _ r3.symm),UN h (Kz he)⟩
end
end
section
open Go Go.RowKit
abbrev CQ:=BxR 110 108 CEn
abbrev CA:=An 108 CEn
def toC(x:CEn):QEn:=⟨x.dist,0,0,x.order⟩
abbrev qsC(l:List CEn):List QEn:=qsG toC l
theorem Sd{l:List CEn}{i j:Nat}{a b:CEn}(f:l[i]?=some a)(hb:l[j]?=some b):CZ l (i:Int) (j:Int)=some (decide (bfr (toC a) (toC b))):=by
  unfold CZ;rw[BG,f,Ah,BG,hb,Ah,Ah,Ah,Ah,Ah];unfold bfr toC;by_cases d:a.dist<b.dist
  . rw[if_pos d,Ah];simp[d]
  . rw[if_neg d];by_cases c:a.dist=b.dist
    . rw[if_pos c];by_cases e:a.order<b.order
      . rw[if_pos e,Ah];simp[c,e]
      . rw[if_neg e,Ah];simp[c,e]
    . rw[if_neg c,Ah];simp[d,c]
theorem Se{l:List CEn}{i j:Nat}{a b:CEn}(e:l[i]?=some a)(hb:l[j]?=some b):Dm l (i:Int) (j:Int)=some ((l.set i b).set j a):=by
  have f:=Az e;have d:=Az hb;obtain⟨c,hc⟩:=AG (l:=l.set i b) (k:=j) (by simp;exact d);unfold Dm;rw[BG,hb,Ah,BG,e,Ah,Ah,N1,BG,hc,Ah,N1]
theorem UP{q:CQ}(h:Y8 (qsC q.l))(hl:q.l.length<=900000000)(x:CEn):∃r,Eb q ⟨x⟩=some r/\Y8 (qsC r.l)/\r.l.Perm (x::q.l):=by
  unfold Eb FQ Dj;rw[Cg (by simp;omega) (by simp;omega),Ah,Ah,Ah,BQ (by unfold X2;simp;omega),Ah];obtain⟨r,h1,h2⟩:=QM (mL:=CZ) Sd Se h hl x;unfold GY;rw[h1,Ah];exact⟨_,rfl,h2⟩
theorem VW{q:CQ}(h:Y8 (qsC q.l))(b:0<q.l.length)(hl:q.l.length<=900000000):∃r,Er q=some r/\∃(e:CEn) (a:CQ),r=((⟨e⟩:CA),a)/\Y8 (qsC a.l)/\q.l.Perm (e::a.l)/\∀x∈qsC q.l,nb x (toC e):=by
  obtain⟨l,r,y,h1,h2,h3,h4,h5,h6,h7⟩:=Sa (mL:=CZ) Sd Se h b hl;have c:((q.l.length:Int)-1)=((q.l.length-1:Nat):Int):=(by omega);unfold Er Dj GH;rw[Ah,BQ (by unfold X2;omega),Ah,h1,Ah,h2,Ah];unfold Gd;rw[h3,c,BQ (by unfold X2;omega),Ah,BG,h4,Ah,show(0:Int)=((0:Nat):Int)from rfl,Kx (by omega) (by omega),Ah,Ah];exact⟨_,rfl,y,⟨r.2.l.take (q.l.length-1)⟩,rfl,h5,h6,h7⟩
end
section
open Go Go.RowKit
attribute [local irreducible] ewp owp hwp hwq hws Ev Evg Fn X6 Y1 YZ YY
attribute [local irreducible] hwx Y6
noncomputable def DH(e:Chk)(m:Ngd)(o:Int):Option (Err×Chk) :=
  bnd (if 0<=e.c.bound then(bnd (atI e.t.ops o) λj=>bnd (X7 (m.dist+j.cost)) λf=>if e.c.bound<=f then(some (.ret ((⟨0⟩:Err),e)))else(some (.done f)))else(some (.done 0)):Option (Fin Int (Err×Chk))) λk=>fin k λ(l:Int)=>bnd (DL e.t o m.facts) λb=>if b.2.n≠0 then(some ((⟨b.2.n⟩:Err),e))else(bnd (rng (ρ:=Err×Chk) (λ(p:Nat)(g:List Fct)(h:Chk)=>bnd (CV h g l) λa=>if a.2.1.n≠0 then(some (.ret ((⟨a.2.1.n⟩:Err),a.2.2)))else(if(!a.1)=true then(some (.ret ((⟨19⟩:Err),a.2.2)))else(some (.next a.2.2)))) b.1 0 e) λd=>fin d λ(i:Chk)=>some ((⟨0⟩:Err),i))
theorem Ls{w:World}{O:Lab}{f e:Nat}{c:Chk}(g:Ob e w O (.pointer (some ⟨f,0,none⟩)) c){k:Value}{p:Ngd}(y:Vb w (Fr 0 w O) k p){s:Int}(A:X2 s){r:Err×Chk}(hm:DH c p s=some r) :
    Fn prog 86 [(.pointer (some ⟨f,0,none⟩)),k,(.int .i64 s)] w λv w'=>∃b,St (eT e) w O w' b/\Ob e w' b (.pointer (some ⟨f,0,none⟩)) r.2/\Vb w' (Fr 0 w' b) v r.1:=by
 obtain⟨l,hE,e3,r3⟩:=ZB (w:=w) (O:=O) g.2;have h:=Ob.leave g e3 r3 (j:=2) (by decide);have a:Bm w l w l:=Bm.refl;replace y:=y.mono e3;obtain⟨w5,rfl,v5,rfl,h6,r9⟩:=id y;obtain⟨Q,c8,rfl⟩:=h6.form;refine AC func86 rfl ntmps86 ?_;unfold DH at hm;refine Ak (Am (EB 3 l rfl λK S x5 m d=>?_));refine Ay rfl (o_z (Ak (Am (Ay rfl (o_z (Ak ?_))))));obtain⟨T,b0,hm⟩:=bs hm;refine AZ (λU w'=>∃(n:Int) (V:Unit) (b:Lab),T=.done n/\X5 U [(0,(.pointer (some ⟨f,0,none⟩))),(2,(.int .i64 s)),(4,(.pointer (some ⟨K,0,none⟩))),(7,(.int .i64 n))]/\Bm w l w' b/\Ob 2 w' b (.pointer (some ⟨f,0,none⟩)) c/\Lc 3 w' b K 55 [(.slice Q p.facts.length c8),(.int .i64 p.dist)]/\X2 n) ?_ ?_
 ·refine zz ?_;replace h:=h.st m;obtain⟨y5,z5,a6,b6,c6,d6,f1,v3,c1,s1,t1,u1,g1,z1,v1,a2⟩:=Chk.opn h 2 (by decide);obtain⟨e6,f6,rfl⟩:=s1.form;obtain⟨g6,i6,rfl⟩:=t1.form;obtain⟨j6,k6,rfl⟩:=u1.form;obtain⟨l6,m6,rfl⟩:=g1.form;obtain⟨n6,o6,rfl⟩:=v1.form;refine zz ?_;refine AF (hc:=Blk.cell (i:=4) (c1.1) rfl) rfl (EM rfl rfl (λB=>?_) λB=>?_)
  ·replace b0:=ip b0 B;refine zz ?_;refine Df (·=S) [(0,true),(1,true),(2,true),(3,true),(4,true),(5,true),(6,true),(7,true),(8,true),(9,true),(10,true),(11,true),(12,true)] rfl rfl ?_;refine AL rfl rfl ?_;replace d:=d.st f1;refine Dw (hc:=Blk.cell (i:=1) (d.1) rfl) rfl rfl (AI rfl rfl (CT rfl rfl (AL rfl rfl (AL rfl rfl (Dw (hc:=Blk.cell (i:=3) (c1.1) rfl) rfl rfl (AI rfl rfl ?_))))));obtain⟨p6,w3,b0⟩:=bs b0;obtain⟨W,y3⟩:=BJ w3;obtain⟨q6,r6,z3,c2,d2,e2,s6,t6,rfl,a4,b4,u6,v6⟩:=g1.elem' y3;obtain⟨w6,x6,rfl⟩:=a4.form;obtain⟨y6,z6,rfl⟩:=b4.form;refine CB (hA:=c2) (hj:=W) (hlt:=d2) rfl rfl rfl (AL rfl rfl (Dw (hc:=cat1 e2) rfl rfl ?_));obtain⟨a7,g3,b0⟩:=bs b0;have Y:=(Bx g3);refine Km (he:=g3) rfl rfl rfl (Eu rfl rfl (h_z (Ak (Am (Aw rfl (Aw rfl (EQ rfl (AN rfl (AN rfl (AF (hc:=Blk.cell (i:=4) (c1.1) rfl) rfl (EM rfl rfl (λC=>?_) λC=>?_)))))))))))
   ·replace b0:=ip b0 C;refine zz ?_;obtain⟨b7,d4,e4,f4,g2⟩:=Chk.shut (x:=c) (l0:=2) (by decide) c1 s1 t1 u1 g1 z1 v1 a2;obtain rfl:=sm b0;obtain rfl:=sm (Ca hm);replace a:=((a.st m).st f1).st d4;obtain⟨b,hS',hz,hl⟩:=hE.leave (λq=>if q=2 then e else 0) rfl a;exact YW rfl (AD rfl) ⟨b,hS',(Ob.leave g2 hz (hl 2 (by decide) (by decide)) g.2),(vErr (X9 0))⟩
   replace b0:=im b0 C;refine zz ?_;obtain⟨c7,h3,g4,h4,i4⟩:=Chk.shut (x:=c) (l0:=2) (by decide) c1 s1 t1 u1 g1 z1 v1 a2;obtain rfl:=sm b0;exact⟨_,(),_,rfl,A5,((a.st m).st f1).st h3,i4,d.st h3,Y⟩
  replace b0:=im b0 B;refine zz ?_;obtain⟨d7,i3,j4,k4,l4⟩:=Chk.shut (x:=c) (l0:=2) (by decide) c1 s1 t1 u1 g1 z1 v1 a2;obtain rfl:=sm b0;exact⟨_,(),_,rfl,A5,((a.st m).st f1).st i3,l4,(d.st f1).st i3,(X9 0)⟩
 replace a:=a.st m;rintro e7 f7 ⟨n,V,g7,rfl,h2,a,g2,d,m4⟩;replace hm:=AS hm;refine AM _ h2 ?_;refine Ak ?_;obtain⟨L,h7,i7,n4,o4,p4,k3,q4,t0,r0,e0,f0,g0,h1,h0,i1⟩:=Chk.opn g2 2 (by decide);obtain⟨Z,s4,rfl⟩:=r0.form;obtain⟨i2,j2,rfl⟩:=e0.form;obtain⟨k2,l2,rfl⟩:=f0.form;obtain⟨m2,n2,rfl⟩:=g0.form;obtain⟨t4,u4,rfl⟩:=h0.form;refine BR [] L ?_;refine AJ (fuel:=6) [] (Bc (Db 0 7)) rfl (AI rfl rfl (CT rfl rfl (AL rfl rfl (Gp (hl:=rfl) (hb:=λw' ⟨b,hq⟩=>(Jd 0 4 ((t0.st hq (by decide)).1).cellsAt)) rfl rfl ?_))));refine zz ?_;replace d:=d.st k3;refine Bl (hc:=BD d 0 rfl) rfl rfl (AB (AH (i:=7) rfl ?_));obtain⟨o,o2,hm⟩:=bs hm;replace a:=a.st k3;refine EH (O:=L) (R:=λw' F v=>T2 w' F v o) (Kh Fr.lt (Vb.ofAgg (cs:=[(.slice Z c.t.vars.length s4),(.slice i2 c.t.init.length j2),(.slice k2 c.t.goal.length l2),(.slice m2 c.t.ops.length n2)]) (x:=c.t) rfl ⟨_,_,_,_,rfl,r0,e0,f0,g0⟩) A (h6.z a) o2) rfl λv4 w4 x4 c0 p2=>?_;obtain⟨y4,z4,rfl,d0,q2⟩:=p2;obtain⟨M,k1,rfl⟩:=d0.form;obtain⟨rfl,r2⟩:=q2.err;have hZ:=lZ c0;refine BE [] hZ ?_;refine AJ (fuel:=0) [] (Bc (Db 8 5)) rfl (AI rfl rfl (HJ rfl rfl rfl (HJ rfl rfl rfl (Eu rfl rfl (Eu rfl rfl (AB (Bh (Ak (Ak (Am (Aw rfl (CU rfl (λD=>?_) λD=>?_))))))))))))
 ·replace hm:=ip hm D;refine zz ?_;replace t0:=t0.st c0;replace r0:=r0.st c0;replace e0:=e0.st c0;replace f0:=f0.st c0;replace g0:=g0.st c0;replace h0:=h0.st c0;obtain⟨a5,s2,l3,m3,t2⟩:=Chk.shut (x:=c) (l0:=2) (by decide) t0 r0 e0 f0 g0 h1 h0 i1;obtain rfl:=sm hm;replace a:=(a.st c0).st s2;obtain⟨b,hS',hz,hl⟩:=hE.leave (λq=>if q=2 then e else 0) rfl a;exact YW rfl (AD rfl) ⟨b,hS',(Ob.leave t2 hz (hl 2 (by decide) (by decide)) g.2),(vErr r2)⟩
 replace hm:=im hm D;refine zz ?_;have E:=Bo d0.len;have b5:=rngNat E;replace t0:=t0.st c0;replace r0:=r0.st c0;replace e0:=e0.st c0;replace f0:=f0.st c0;replace g0:=g0.st c0;replace h0:=h0.st c0;obtain⟨u2,l1,n3,o3,v2⟩:=Chk.shut (x:=c) (l0:=2) (by decide) t0 r0 e0 f0 g0 h1 h0 i1;obtain⟨w2,m1,hm⟩:=bs hm;replace a:=(a.st c0).st l1;replace d0:=d0.st l1;refine Cp (X:=Unit) (o.1.length) m1 rfl E (λG N=>[(0,(.pointer (some ⟨f,0,none⟩))),(7,(.int .i64 n)),(53,(.slice M o.1.length k1))]) (λG N w'=>∃b:Lab,Bm w l w' b/\Ob 2 w' b (.pointer (some ⟨f,0,none⟩)) G/\Vb w' (Fr 0 w' b) (.slice M o.1.length k1) o.1) () ⟨u2,a,v2,d0⟩ A7 (λ_ _=>rfl) ?_ ?_
 ·rintro c5 d5 G N e5 p3 P ⟨y2,a,y0,d0⟩ a0 j0 w1;have H:=Y2 P E;refine Ak (Am ?_);obtain⟨f5,g5,q3,o1,p1,q1,h5,rfl,o0⟩:=d0.elem' P;replace o0:=Vb.of_slice o0;obtain⟨i5,j5,rfl⟩:=o0.form;refine Bn (hA:=o1) (hj:=rfl) (hlt:=p1) rfl rfl (AF (hc:=cat0 q1) rfl (Ay rfl (o_z (Ak (Am (Aw rfl (Aw rfl (Aw rfl ?_))))))));obtain⟨k5,z2,a0⟩:=bs a0;refine Cj (O:=y2) (HO y0 o0 m4 z2) rfl λl5 m5 n5 u a3=>?_;obtain⟨o5,p5,z0,rfl,b3,c3⟩:=a3;obtain rfl:=b3.bool;obtain⟨rfl,d3⟩:=c3.err;refine zz ?_;refine CU rfl (λI=>?_) λI=>?_
  ·replace a0:=ip a0 I;refine zz ?_;obtain rfl:=sm a0;obtain rfl:=j0 _ rfl;obtain rfl:=sm (Ca hm);replace a:=a.st u;obtain⟨b,hS',hz,hl⟩:=hE.leave (λq=>if q=2 then e else 0) rfl a;exact YW rfl (AD rfl) ⟨b,hS',(Ob.leave z0 hz (hl 2 (by decide) (by decide)) g.2),(vErr d3)⟩
  replace a0:=im a0 I;refine zz ?_;refine DY rfl (o_z (Bg rfl (λJ=>?_) (λJ=>?_)))
  ·replace a0:=ip a0 J;refine Ak (Am (EE rfl (Ay rfl (o_z (AV ?_)))));obtain rfl:=sm a0;obtain rfl:=j0 _ rfl;obtain rfl:=sm (Ca hm);replace a:=a.st u;obtain⟨b,hS',hz,hl⟩:=hE.leave (λq=>if q=2 then e else 0) rfl a;exact YW rfl (AD rfl) ⟨b,hS',(Ob.leave z0 hz (hl 2 (by decide) (by decide)) g.2),(vErr (by decide))⟩
  replace a0:=im' a0 J;refine Bf ?_;obtain rfl:=sm a0;exact show Exists _ from⟨_,(),rfl,A7,_,a.st u,z0,d0.st u⟩
 rintro q5 r5 ⟨s5,t5,rfl,r1,u5,a,y0,d0⟩;replace hm:=AS hm;refine AM _ r1 ?_;refine zz ?_;obtain rfl:=sm hm;obtain⟨b,hS',hz,hl⟩:=hE.leave (λq=>if q=2 then e else 0) rfl a;exact YW rfl (AD rfl) ⟨b,hS',(Ob.leave y0 hz (hl 2 (by decide) (by decide)) g.2),(vErr (X9 0))⟩
noncomputable def GS(b:Tsk)(f:Crt)(u:Int):Option (Int×Int×Err) :=
  bnd (Cz b) λi=>if i.n≠0 then(some ((-1),(-1),(⟨i.n⟩:Err)))else(bnd (Fj b.vars f) λj=>if j.n≠0 then(some ((-1),(-1),(⟨j.n⟩:Err)))else(bnd (rng (ρ:=Int×Int×Err) (λ(y:Nat)(s:Ngd)(z:Unit)=>bnd (GB s.facts b.init) λt=>if t=true then some (.ret ((-1),(-1),(⟨20⟩:Err)))else some (.next ())) f.nogoods 0 ()) λh=>fin h λ(v:Unit)=>bnd (if f.bound≠0 then(bnd (CV (⟨(⟨b.vars,b.init,b.goal,b.ops⟩:Tsk),(⟨f.bound,f.nogoods⟩:Crt),(max 0 (min u 1048576))⟩:Chk) b.goal 0) λa=>if a.2.1.n≠0 then(some (.ret ((-1),(-1),(⟨a.2.1.n⟩:Err))))else(if(!a.1)=true then(some (.ret ((-1),(-1),(⟨13⟩:Err))))else(some (.done a.2.2))))else(some (.done (⟨(⟨b.vars,b.init,b.goal,b.ops⟩:Tsk),(⟨f.bound,f.nogoods⟩:Crt),(max 0 (min u 1048576))⟩:Chk))):Option (Fin Chk (Int×Int×Err))) λk=>fin k λ(l:Chk)=>bnd (rng (ρ:=Int×Int×Err) (λ(m:Nat)(o:Ngd)(p:Chk)=>bnd (rng (ρ:=Ctl Chk (Int×Int×Err)) (λ(g:Nat)(w:Opr)(q:Chk)=>bnd (DH q o (g:Int)) λc=>if c.1.n≠0 then(some (.ret (.ret ((m:Int),(g:Int),(⟨c.1.n⟩:Err)))))else(some (.next c.2))) b.ops 0 p) λd=>fin d λ(r:Chk)=>some (.next r)) f.nogoods 0 l) λe=>fin e λ(x:Chk)=>some ((-1),(-1),(⟨0⟩:Err))))
set_option maxHeartbeats 1000000 in
theorem PF{w:World}{A:Nat->Prop}(hA:∀k,A k->k<w.heap.size){q:Value}{b:Tsk}(j4:Vb w A q b){s:Value}{e:Crt}(k4:Vb w A s e){o:Int}(t:X2 o){r:Int×Int×Err}(hm:GS b e o=some r) :
    Fn prog 47 [q,s,(.int .i64 o)] w λv w'=>Ext w w'/\T3 w' (upA A w w') v r:=by
 obtain⟨O,hB,g7⟩:=enter hA;obtain⟨h7,rfl,v5,v6,v7,v8,rfl,h9,f2,g2,h2⟩:=id j4;obtain⟨B,j2,rfl⟩:=h9.form;obtain⟨C,l2,rfl⟩:=f2.form;obtain⟨D,n2,rfl⟩:=g2.form;obtain⟨E,p2,rfl⟩:=h2.form;obtain⟨a5,rfl,i7,rfl,w0,l4⟩:=id k4;obtain⟨u,o1,rfl⟩:=w0.form;refine AC func47 rfl ntmps47 ?_;unfold GS at hm;refine Ak (Am (EB 2 O rfl λg j7 b5 c5 a=>?_));refine EB 3 b5 rfl λG d5 m4 n4 c=>?_;refine zz ?_;replace a:=a.st n4;refine Bv (hl:=rfl) (hc:=(a.1).cellsAt) rfl ?_;obtain⟨k7,e5,hm⟩:=bs hm;replace hB:=(hB.st c5).st n4;refine BO (O:=m4) (FU (λ_ h=>h) (Vb.mono (F:=Fr 0 d5 m4) (j4.zs hA hB) Fr.lt) e5) rfl λl7 o4 P H f5=>?_;obtain⟨rfl,g5⟩:=f5.err;refine zz ?_;refine CU rfl (λQ=>?_) λQ=>?_
 ·replace hm:=ip hm Q;refine zz ?_;obtain rfl:=sm hm;replace hB:=hB.st H;exact Z6 rfl (AD rfl) (AD rfl) (AD rfl) ⟨hB.ext,_,_,_,rfl,(vInt (X9 (-1))),(vInt (X9 (-1))),(vErr g5)⟩
 replace hm:=im hm Q;refine zz ?_;replace a:=a.st H;refine AF (hc:=Blk.cell (i:=0) (a.1) rfl) rfl ?_;replace c:=c.st H;refine Bv (hl:=rfl) (hc:=(c.1).cellsAt) rfl ?_;obtain⟨m7,h5,hm⟩:=bs hm;replace hB:=hB.st H;refine BO (O:=P) (Mj (λ_ h=>h) (Vb.mono (F:=Fr 0 o4 P) (h9.zs hA hB) Fr.lt) (Vb.mono (F:=Fr 0 o4 P) (k4.zs hA hB) Fr.lt) h5) rfl λn7 o7 i5 I j5=>?_;obtain⟨rfl,k5⟩:=j5.err;refine zz ?_;refine CU rfl (λR=>?_) λR=>?_
 ·replace hm:=ip hm R;refine zz ?_;obtain rfl:=sm hm;replace hB:=hB.st I;exact Z6 rfl (AD rfl) (AD rfl) (AD rfl) ⟨hB.ext,_,_,_,rfl,(vInt (X9 (-1))),(vInt (X9 (-1))),(vErr k5)⟩
 replace hm:=im hm R;refine zz ?_;replace c:=c.st I;refine AF (hc:=Blk.cell (i:=1) (c.1) rfl) rfl (AT rfl ?_);have S:=Bo w0.len;have p7:=rngNat S;refine zz ?_;obtain⟨p4,e3,hm⟩:=bs hm;replace hB:=hB.st I;replace a:=a.st I;refine Cp (X:=Unit) (e.nogoods.length) e3 rfl S (λq4 r4=>[(2,(.int .i64 o)),(3,(.pointer (some ⟨g,0,none⟩))),(4,(.pointer (some ⟨G,0,none⟩))),(33,(.slice u e.nogoods.length o1))]) (λq4 r4 w'=>∃d:Lab,Bs w A w' d/\Lc 2 w' d g 26 [(.slice B b.vars.length j2),(.slice C b.init.length l2),(.slice D b.goal.length n2),(.slice E b.ops.length p2)]/\Lc 3 w' d G 50 [(.int .i64 e.bound),(.slice u e.nogoods.length o1)]) () ⟨i5,hB,a,c⟩ A9 (λ_ _=>rfl) ?_ ?_
 ·rintro q7 r7 q4 r4 s7 l5 p1 ⟨m5,hB,a,c⟩ f0 y0 f3;have h8:=Y2 p1 S;refine Ak (Am ?_);obtain⟨t7,u7,n5,g3,h3,i3,w7,rfl,t2,x7⟩:=(w0.zs hA hB).elem' p1;obtain⟨y7,z7,rfl⟩:=t2.form;refine Bn (hA:=g3) (hj:=rfl) (hlt:=h3) rfl rfl (Bv (hl:=rfl) (hc:=i3) rfl ?_);refine BF 4 m5 λa8 b8 s4 J T=>?_;refine AO T rfl rfl rfl (Bi) (allOne) λo5 K T=>?_;refine zz ?_;refine AF (hc:=Blk.cell (i:=0) (T.1) rfl) rfl (AN rfl ?_);replace a:=(a.st J).st K;refine AF (hc:=Blk.cell (i:=1) (a.1) rfl) rfl ?_;obtain⟨p5,q5,f0⟩:=bs f0;replace hB:=(hB.st J).st K;replace t2:=(t2.st J).st K;refine BO (O:=s4) (Jh (λ_ h=>h) (vMo t2) (Vb.mono (F:=Fr 0 o5 s4) (f2.zs hA hB) Fr.lt) q5) rfl λc8 d8 e8 L r5=>?_;obtain rfl:=r5.bool;cases p5
  case false =>
   replace f0:=iF f0;refine zz ?_;obtain rfl:=sm f0;exact show Exists _ from⟨_,(),rfl,A9,_,hB.st L,a.st L,((c.st J).st K).st L⟩
  replace f0:=iT f0;refine zz ?_;refine EE rfl (Ay rfl (Ay rfl (Ay rfl (o_z (AV ?_)))));obtain rfl:=sm f0;obtain rfl:=y0 _ rfl;obtain rfl:=sm (Ca hm);replace hB:=hB.st L;exact Z6 rfl (AD rfl) (AD rfl) (AD rfl) ⟨hB.ext,_,_,_,rfl,(vInt (X9 (-1))),(vInt (X9 (-1))),(vErr (by decide))⟩
 rintro f8 g8 ⟨s5,t5,rfl,q1,k3,hB,a,c⟩;replace hm:=AS hm;refine AM _ q1 ?_;refine Ak (Am (Bv (hl:=rfl) (hc:=(a.1).cellsAt) rfl (Bv (hl:=rfl) (hc:=(c.1).cellsAt) rfl (Aw rfl (Pe rfl rfl rfl (Np rfl rfl rfl (ES rfl rfl ?_)))))));refine EB 5 k3 rfl λp u5 w5 j r1=>?_;refine Ay rfl (o_z (Ak ?_));obtain⟨l3,a0,hm⟩:=bs hm;refine AZ (λl' w'=>∃(z0:Chk) (m3:Unit) (d:Lab),l3=.done z0/\X5 l' [(3,(.pointer (some ⟨g,0,none⟩))),(4,(.pointer (some ⟨G,0,none⟩))),(13,(.pointer (some ⟨p,0,none⟩)))]/\Bs w A w' d/\Lc 2 w' d g 26 [(.slice B b.vars.length j2),(.slice C b.init.length l2),(.slice D b.goal.length n2),(.slice E b.ops.length p2)]/\Lc 3 w' d G 50 [(.int .i64 e.bound),(.slice u e.nogoods.length o1)]/\Ob 5 w' d (.pointer (some ⟨p,0,none⟩)) z0) ?_ ?_
 ·refine zz ?_;replace c:=c.st j;refine AF (hc:=Blk.cell (i:=0) (c.1) rfl) rfl (HM rfl rfl (λU=>?_) λU=>?_)
  ·replace a0:=ip a0 U;refine zz ?_;replace a:=a.st j;refine AF (hc:=Blk.cell (i:=2) (a.1) rfl) rfl ?_;replace hB:=hB.st j;obtain⟨n3,b1,t4,u4,o3⟩:=Chk.shut (x:=(⟨(⟨b.vars,b.init,b.goal,b.ops⟩:Tsk),(⟨e.bound,e.nogoods⟩:Crt),(max 0 (min o 1048576))⟩:Chk)) (l0:=5) (by decide) r1 (h9.zs hA hB) (f2.zs hA hB) (g2.zs hA hB) (h2.zs hA hB) l4 (w0.zs hA hB) (rngMax (X9 0) (rngMin t (X9 1048576)));obtain⟨x5,p3,a0⟩:=bs a0;replace hB:=hB.st b1;refine Cj (O:=n3) (HO o3 (g2.zs hA hB) (X9 0) p3) rfl λy5 z5 a6 y q3=>?_;obtain⟨b6,c6,r3,rfl,s3,t3⟩:=q3;obtain rfl:=s3.bool;obtain⟨rfl,u3⟩:=t3.err;refine zz ?_;refine CU rfl (λV=>?_) λV=>?_
   ·replace a0:=ip a0 V;refine zz ?_;obtain rfl:=sm a0;obtain rfl:=sm (Ca hm);replace hB:=hB.st y;exact Z6 rfl (AD rfl) (AD rfl) (AD rfl) ⟨hB.ext,_,_,_,rfl,(vInt (X9 (-1))),(vInt (X9 (-1))),(vErr u3)⟩
   replace a0:=im a0 V;refine zz ?_;refine DY rfl (o_z (Bg rfl (λW=>?_) (λW=>?_)))
   ·replace a0:=ip a0 W;refine Ak (Am (EE rfl (Ay rfl (Ay rfl (Ay rfl (o_z (AV ?_)))))));obtain rfl:=sm a0;obtain rfl:=sm (Ca hm);replace hB:=hB.st y;exact Z6 rfl (AD rfl) (AD rfl) (AD rfl) ⟨hB.ext,_,_,_,rfl,(vInt (X9 (-1))),(vInt (X9 (-1))),(vErr (by decide))⟩
   replace a0:=im' a0 W;refine Bf ?_;obtain rfl:=sm a0;exact⟨_,(),_,rfl,Af,hB.st y,(a.st b1).st y,(c.st b1).st y,r3⟩
  replace a0:=im a0 U;refine zz ?_;replace hB:=hB.st j;obtain⟨d6,e1,v4,w4,v3⟩:=Chk.shut (x:=(⟨(⟨b.vars,b.init,b.goal,b.ops⟩:Tsk),(⟨e.bound,e.nogoods⟩:Crt),(max 0 (min o 1048576))⟩:Chk)) (l0:=5) (by decide) r1 (h9.zs hA hB) (f2.zs hA hB) (g2.zs hA hB) (h2.zs hA hB) l4 (w0.zs hA hB) (rngMax (X9 0) (rngMin t (X9 1048576)));obtain rfl:=sm a0;exact⟨_,(),_,rfl,Af,hB.st e1,(a.st j).st e1,c.st e1,v3⟩
 replace hB:=hB.st j;replace a:=a.st j;replace c:=c.st j;rintro e6 f6 ⟨z0,m3,w3,rfl,s1,hB,a,c,x3⟩;replace hm:=AS hm;refine AM _ s1 ?_;refine zz ?_;refine AF (hc:=Blk.cell (i:=1) (c.1) rfl) rfl (AT rfl ?_);have Y:=Bo w0.len;have g6:=rngNat Y;refine zz ?_;obtain⟨y3,t1,hm⟩:=bs hm;refine Cp (X:=Unit) (e.nogoods.length) t1 rfl Y (λZ u1=>[(3,(.pointer (some ⟨g,0,none⟩))),(13,(.pointer (some ⟨p,0,none⟩))),(70,(.slice u e.nogoods.length o1))]) (λZ u1 w'=>∃d:Lab,Bs w A w' d/\Lc 2 w' d g 26 [(.slice B b.vars.length j2),(.slice C b.init.length l2),(.slice D b.goal.length n2),(.slice E b.ops.length p2)]/\Ob 5 w' d (.pointer (some ⟨p,0,none⟩)) Z) () ⟨w3,hB,a,x3⟩ A7 (λ_ _=>rfl) ?_ ?_
 ·rintro v1 l Z u1 h6 x4 v0 ⟨z3,hB,a,p0⟩ e0 q0 y2;have m:=Y2 v0 Y;refine zz ?_;obtain⟨i6,j6,y4,w1,y1,z1,k6,rfl,h0,a4⟩:=(w0.zs hA hB).elem' v0;obtain⟨h1,i1,rfl⟩:=h0.form;refine Bn (hA:=w1) (hj:=rfl) (hlt:=y1) rfl rfl (Bv (hl:=rfl) (hc:=z1) rfl ?_);refine BF 6 z3 λa2 l6 b4 M n=>?_;refine Ay rfl (AO n rfl rfl rfl (Bi) (allOne) λm6 N n=>?_);refine zz ?_;replace a:=(a.st M).st N;refine AF (hc:=Blk.cell (i:=3) (a.1) rfl) rfl (AT rfl ?_);have j1:=Bo h2.len;have n6:=rngNat j1;refine zz ?_;obtain⟨c4,b2,e0⟩:=bs e0;replace hB:=(hB.st M).st N;replace p0:=(p0.st M).st N;replace h0:=(h0.st M).st N;refine Cp (X:=Unit) (b.ops.length) b2 rfl j1 (λk1 c2=>[(3,(.pointer (some ⟨g,0,none⟩))),(13,(.pointer (some ⟨p,0,none⟩))),(16,(.int .i64 (v1:Int))),(17,(.pointer (some ⟨a2,0,none⟩))),(70,(.slice u e.nogoods.length o1)),(71,(.int .i64 (e.nogoods.length:Int))),(72,(.int .i64 (v1:Int)))]) (λk1 c2 w'=>∃d:Lab,Bs w A w' d/\Lc 2 w' d g 26 [(.slice B b.vars.length j2),(.slice C b.init.length l2),(.slice D b.goal.length n2),(.slice E b.ops.length p2)]/\Ob 5 w' d (.pointer (some ⟨p,0,none⟩)) k1/\Lc 6 w' d a2 55 [(.slice h1 l.facts.length i1),(.int .i64 l.dist)]/\Vb w' (Fr 0 w' d) (.slice h1 l.facts.length i1) l.facts) () ⟨b4,hB,a,p0,n,h0⟩ Co (λ_ _=>rfl) ?_ ?_
  ·rintro o6 p6 k1 c2 q6 z4 d2 ⟨d4,hB,a,l1,n,h0⟩ c0 t0 z2;have f:=Y2 d2 j1;refine zz ?_;refine Bv (hl:=rfl) (hc:=(n.1).cellsAt) rfl (Aw rfl ?_);obtain⟨r6,e4,c0⟩:=bs c0;refine Cj (O:=d4) (Ls l1 (Vb.ofAgg (cs:=[(.slice h1 l.facts.length i1),(.int .i64 l.dist)]) (x:=l) rfl ⟨_,rfl,h0,a4⟩) f e4) rfl λs6 t6 u6 z f4=>?_;obtain⟨g4,h4⟩:=f4;obtain⟨rfl,i4⟩:=h4.err;refine zz ?_;refine CU rfl (λm1=>?_) λm1=>?_
   ·replace c0:=ip c0 m1;refine zz ?_;obtain rfl:=sm c0;obtain rfl:=t0 _ rfl;obtain rfl:=sm (Ca e0);obtain rfl:=q0 _ rfl;obtain rfl:=sm (Ca hm);replace hB:=hB.st z;exact Z6 rfl (AD rfl) (AD rfl) (AD rfl) ⟨hB.ext,_,_,_,rfl,(vInt m),(vInt f),(vErr i4)⟩
   replace c0:=im c0 m1;refine zz ?_;obtain rfl:=sm c0;exact show Exists _ from⟨_,(),rfl,Co,_,hB.st z,a.st z,g4,n.st z,h0.st z⟩
  rintro w6 x6 ⟨y6,z6,rfl,i0,a7,hB,a,l1,n,h0⟩;replace e0:=AS e0;obtain rfl:=sm e0;exact show Exists _ from⟨_,(),rfl,⟨(AR i0 _ _ rfl),(AR i0 _ _ rfl),(AR i0 _ _ rfl),(AR i0 _ _ rfl),(AR i0 _ _ rfl),trivial⟩,_,hB,a,l1⟩
 rintro b7 c7 ⟨d7,e7,rfl,e2,f7,hB,a,p0⟩;replace hm:=AS hm;refine AM _ e2 ?_;refine zz ?_;obtain rfl:=sm hm;exact Z6 rfl (AD rfl) (AD rfl) (AD rfl) ⟨hB.ext,_,_,_,rfl,(vInt (X9 (-1))),(vInt (X9 (-1))),(vErr (X9 0))⟩
noncomputable def GI(b:Tsk)(c:Crt)(d:Int):Option Err :=
  bnd (GS b c d) λa=>some (⟨a.2.2.n⟩:Err)
section
attribute [local irreducible] Vb Lc Rw Ob
theorem OK{w:World}{A:Nat->Prop}(hA:∀k,A k->k<w.heap.size){a:Value}{d:Tsk}(f:Vb w A a d){b:Value}{e:Crt}(g:Vb w A b e){c:Int}(i:X2 c){r:Err}(hm:GI d e c=some r) :
    Fn prog 19 [a,b,(.int .i64 c)] w λv w'=>Ext w w'/\Vb w' (upA A w w') v r:=by
 obtain⟨_,_,_⟩:=BS hA;apply Br f;intros;apply Br g;intros;refine AC func19 rfl ntmps19 ?_;unfold GI at hm;refine Ak (Am (Dx 2 ?_));intros;refine Dx 3 ?_;intros;refine zz ?_;refine Eh ?_;refine Eh (Aw rfl ?_);obtain⟨n,c0,hm⟩:=bs hm;refine YF rfl (PF (λ_ h=>h) zA zA zI c0) λ_ _ _ _ _ _ j l m=>?_;apply HW j;intros;apply HW l;intros;apply HW m;intros;refine zz ?_;obtain rfl:=sm hm;exact By
end
noncomputable def GT(o:Tsk)(m:Int)(G:Int):Option (Crt×Err) :=
  bnd (Cz o) λp=>if p.n≠0 then(some ((⟨0,([]:List Ngd)⟩:Crt),(⟨p.n⟩:Err)))else(bnd (Hc m) λD=>if D=true then if m=0 then(some ((⟨m,([]:List Ngd)⟩:Crt),(⟨0⟩:Err)))else(bnd (BN o.goal) λE=>bnd (lop (ρ:=Crt×Err) (λ(b:Int×(List Ngd)×(BxR 110 108 CEn))=>bnd (Dj b.2.2.l) λq=>if 0<q then(bnd (Er b.2.2) λa=>bnd (FW a.1.x.facts b.2.1) λr=>if r=true then some (.next (b.1,b.2.1,a.2))else bnd (GB a.1.x.facts o.init) λs=>if s=true then some (.ret ((⟨0,([]:List Ngd)⟩:Crt),(⟨13⟩:Err)))else if(b.2.1.length:Int)=(max 0 (min G 4096))then(some (.ret ((⟨0,([]:List Ngd)⟩:Crt),(⟨10⟩:Err))))else(bnd (Y0 32 b.2.1 [(⟨a.1.x.facts,a.1.x.dist⟩:Ngd)]) λt=>bnd (rng (ρ:=Ctl (Int×(List Ngd)×(BxR 110 108 CEn)) (Crt×Err)) (λ(u:Nat)(v:Opr)(c:Int×(BxR 110 108 CEn))=>bnd (X7 (a.1.x.dist+v.cost)) λh=>bnd (if m<0 then(some (.done 0))else(if m<=h then(some (.ret (.next (c.1,c.2))))else(some (.done h))):Option (Fin Int (Ctl (Int×(BxR 110 108 CEn)) (Ctl (Int×(List Ngd)×(BxR 110 108 CEn)) (Crt×Err))))) λw=>fin w λ(y:Int)=>bnd (DL o (u:Int) a.1.x.facts) λd=>if d.2.n≠0 then(some (.ret (.ret ((⟨0,([]:List Ngd)⟩:Crt),(⟨d.2.n⟩:Err)))))else(bnd (rng (ρ:=Ctl (Int×(BxR 110 108 CEn)) (Ctl (Int×(List Ngd)×(BxR 110 108 CEn)) (Crt×Err))) (λ(F:Nat)(z:List Fct)(e:Int×(BxR 110 108 CEn))=>bnd (Eb e.2 (⟨(⟨z,y,e.1⟩:CEn)⟩:An 108 CEn)) λA=>bnd (X7 (e.1+1)) λB=>some (.next (B,A))) d.1 0 (c.1,c.2)) λf=>fin f λ(i:Int×(BxR 110 108 CEn))=>some (.next (i.1,i.2)))) o.ops 0 (b.1,a.2)) λg=>fin g λ(j:Int×(BxR 110 108 CEn))=>some (.next (j.1,t,j.2))))else(some (.brk (b.1,b.2.1,b.2.2)))) (1,([]:List Ngd),(⟨[(⟨E,0,0⟩:CEn)]⟩:BxR 110 108 CEn))) λk=>fin k λ(C:Int×(List Ngd)×(BxR 110 108 CEn))=>some ((⟨m,C.2.1⟩:Crt),(⟨0⟩:Err)))else some ((⟨0,([]:List Ngd)⟩:Crt),(⟨1⟩:Err)))
set_option maxHeartbeats 1000000 in
theorem Jl{w:World}{A:Nat→Prop}(hA:∀k,A k→k<w.heap.size){aa:Value}{f:Tsk}(x4:Vb w A aa f){l:Int}(I:X2 l){J:Int}(ca:X2 J){r:Crt×Err}(hm:GT f l J=some r) :
    Fn prog 16 [aa,(.int .i64 l),(.int .i64 J)] w λv w'=>Ext w w'/\T2 w' (upA A w w') v r:=by
 obtain⟨O,hB,xB⟩:=enter hA;obtain⟨yB,rfl,v5,v6,v7,v8,rfl,h9,h7,i7,y4⟩:=id x4;obtain⟨j4,k4,rfl⟩:=h9.form;obtain⟨l4,m4,rfl⟩:=h7.form;obtain⟨n4,o4,rfl⟩:=i7.form;obtain⟨K,u2,rfl⟩:=y4.form;refine AC func16 rfl ntmps16 ?_;unfold GT at hm;refine Ak (Am (EB 2 O rfl λC zB z7 a8 e=>?_));refine BF 3 z7 λu b8 j7 k7 b=>?_;refine zz ?_;replace e:=e.st k7;refine Bv (hl:=rfl) (hc:=(e.1).cellsAt) rfl ?_;obtain⟨aC,c8,hm⟩:=bs hm;replace hB:=(hB.st a8).st k7;refine BO (O:=j7) (FU (λ_ h=>h) (Vb.mono (F:=Fr 0 b8 j7) (x4.zs hA hB) Fr.lt) c8) rfl λbC cC l7 y d8=>?_;obtain⟨rfl,e8⟩:=d8.err;refine zz ?_;refine CU rfl (λz4=>?_) λz4=>?_
 ·replace hm:=ip hm z4;refine zz ?_;refine aj ?_;refine ac ?_;replace b:=b.st y;refine AO b rfl rfl rfl (Bi) (allOne) λf8 g8 b=>?_;refine zz ?_;obtain rfl:=sm hm;replace hB:=(hB.st y).st g8;exact Y7 rfl (Ge (cs:=[(.int .i64 0),(.slice none 0 0)]) rfl rfl b.1.cellsAt) (AD rfl) ⟨hB.ext,_,_,rfl,(Vb.mono (F:=Fr 0 f8 l7) (Vb.ofAgg (cs:=[(.int .i64 0),(.slice none 0 0)]) (x:=(⟨0,([]:List Ngd)⟩:Crt)) rfl ⟨_,rfl,(Vb.nil _ _),(X9 0)⟩) hB.out),(vErr e8)⟩
 replace hm:=im hm z4;refine zz ?_;obtain⟨h8,i8,hm⟩:=bs hm;refine BO (O:=l7) (NO (λ_ h=>h) I i8) rfl λdC eC m7 D j8=>?_;obtain rfl:=j8.bool;cases h8
 case false =>
  replace hm:=iF hm;refine zz ?_;refine aj ?_;refine EE rfl ?_;replace b:=(b.st y).st D;refine AO b rfl rfl rfl (Bi) (allOne) λk8 l8 b=>?_;refine zz ?_;obtain rfl:=sm hm;replace hB:=((hB.st y).st D).st l8;exact Y7 rfl (Ge (cs:=[(.int .i64 0),(.slice none 0 0)]) rfl rfl b.1.cellsAt) (AD rfl) ⟨hB.ext,_,_,rfl,(Vb.mono (F:=Fr 0 k8 m7) (Vb.ofAgg (cs:=[(.int .i64 0),(.slice none 0 0)]) (x:=(⟨0,([]:List Ngd)⟩:Crt)) rfl ⟨_,rfl,(Vb.nil _ _),(X9 0)⟩) hB.out),(vErr (by decide))⟩
 replace hm:=iT hm;refine zz ?_;refine aj ?_;refine BF 4 m7 λz fC n7 j3 c=>?_;refine AO c rfl rfl rfl (Bi) (allOne) λgC k3 c=>?_;refine zz ?_;refine EA rfl rfl (λa5=>?_) λa5=>?_
 ·replace hm:=ip hm a5;refine zz ?_;refine Bv (hl:=rfl) (hc:=(c.1).cellsAt) rfl ?_;replace b:=(((b.st y).st D).st j3).st k3;refine AO b rfl rfl rfl (Bi) (allOne) λm8 n8 b=>?_;refine zz ?_;obtain rfl:=sm hm;replace hB:=((((hB.st y).st D).st j3).st k3).st n8;exact Y7 rfl (Ge (cs:=[(.int .i64 l),(.slice none 0 0)]) rfl rfl b.1.cellsAt) (AD rfl) ⟨hB.ext,_,_,rfl,(Vb.mono (F:=Fr 0 m8 n7) (Vb.ofAgg (cs:=[(.int .i64 l),(.slice none 0 0)]) (x:=(⟨l,([]:List Ngd)⟩:Crt)) rfl ⟨_,rfl,(Vb.nil _ _),I⟩) hB.out),(vErr (X9 0))⟩
 replace hm:=im hm a5;refine zz ?_;refine Pe rfl rfl rfl (Np rfl rfl rfl (Ay rfl (o_z (Ak (Am (AN rfl ?_))))));replace e:=(((e.st y).st D).st j3).st k3;refine AF (hc:=Blk.cell (i:=2) (e.1) rfl) rfl ?_;obtain⟨p4,o8,hm⟩:=bs hm;replace hB:=(((hB.st y).st D).st j3).st k3;refine ED 5 (O:=n7) (Ce Fr.lt (i7.zs hA hB) o8) rfl λp8 q8 hC iC q4 b5=>?_;refine aj ?_;obtain⟨r8,r4,b5⟩:=b5.freeze;refine CC 6 r8 (xs:=([(⟨p4,0,0⟩:CEn)]:List CEn)) rfl rfl rfl ⟨(Vb.ofAgg (cs:=[(.slice p8 p4.length q8),(.int .i64 0),(.int .i64 0)]) (x:=(⟨p4,0,0⟩:CEn)) rfl ⟨_,rfl,b5,(X9 0),(X9 0)⟩),trivial⟩ λjC kC s8 s4 c5=>?_;refine EB 7 s8 rfl λE lC mC l3 t8=>?_;refine Ay rfl (o_z (Ak (Am (Ay rfl (o_z (Ak ?_))))));replace c5:=c5.st l3;obtain⟨u8,t4,w8,x8,y8⟩:=BxR.shut (x:=(⟨[(⟨p4,0,0⟩:CEn)]⟩:BxR 110 108 CEn)) (l0:=7) (by decide) t8 c5;obtain⟨m3,d5,hm⟩:=bs hm;refine AZ (aft m3 (λ(m:Int×(List Ngd)×(BxR 110 108 CEn))(n:(Option Addr×Nat))=>[(6,(.pointer (some ⟨u,0,none⟩))),(9,(.pointer (some ⟨z,0,none⟩)))]) (λm n w'=>∃d:Lab,Bs w A w' d/\Lc 3 w' d u 50 [(.int .i64 0),(.slice none 0 0)]/\Lc 4 w' d z 50 [(.int .i64 l),(.slice n.1 m.2.1.length n.2)]/\Rw 10 w' d 55 (.slice n.1 m.2.1.length n.2) m.2.1/\X2 m.1)) ?_ ?_
 ·refine BK ?_;have y1:=(((q4.an r4).an s4).an l3).an t4;replace hB:=hB.st y1;replace e:=e.st y1;replace b:=((((((((b.st y).st D).st j3).st k3).st q4).st r4).st s4).st l3).st t4;replace c:=c.st y1;refine Gy (σ:=Int×(List Ngd)×(BxR 110 108 CEn)) (X:=(Option Addr×Nat)) d5 (λ(m:Int×(List Ngd)×(BxR 110 108 CEn))(n:(Option Addr×Nat))=>[(1,(.int .i64 l)),(2,(.int .i64 (max 0 (min J 4096)))),(3,(.pointer (some ⟨C,0,none⟩))),(6,(.pointer (some ⟨u,0,none⟩))),(9,(.pointer (some ⟨z,0,none⟩))),(10,(.pointer (some ⟨E,0,none⟩))),(11,(.int .i64 m.1))]) _ (λm n w'=>∃d:Lab,Bs w A w' d/\Lc 2 w' d C 26 [(.slice j4 f.vars.length k4),(.slice l4 f.init.length m4),(.slice n4 f.goal.length o4),(.slice K f.ops.length u2)]/\Lc 3 w' d u 50 [(.int .i64 0),(.slice none 0 0)]/\Lc 4 w' d z 50 [(.int .i64 l),(.slice n.1 m.2.1.length n.2)]/\Rw 10 w' d 55 (.slice n.1 m.2.1.length n.2) m.2.1/\Ob 7 w' d (.pointer (some ⟨E,0,none⟩)) m.2.2/\X2 m.1) _ (none,0) ⟨u8,hB,e,b,c,(Rw.nil 10 (by decide)),y8,(X9 1)⟩ B3 ?_;rintro m n nC z8 ⟨oC,hB,e,b,c,m0,e5,g2⟩ a0 a1 h2;refine zz ?_;obtain⟨f5,a9,b1,o7,k1,d1⟩:=BxR.opn e5 7 8 (by decide);obtain⟨b9,c9,rfl⟩:=d1.form;refine AF (hc:=Blk.cell (i:=0) (k1.1) rfl) rfl ?_;obtain⟨d9,g5,a0⟩:=bs a0;refine BO (O:=f5) (Hl (λ_ h=>h) (d1).all g5) rfl λe9 f9 g9 p h5=>?_;obtain⟨rfl,i9⟩:=h5.int;refine Dc rfl rfl (λv2=>?_) λv2=>?_
  ·replace a0:=ip a0 v2;refine zz ?_;refine BK (Ak (Am (Aw rfl (JM rfl ?_))));replace k1:=k1.st p;replace d1:=d1.st p;obtain⟨i5,e1,p7,q7,j5⟩:=BxR.shut (x:=m.2.2) (l0:=7) (by decide) k1 d1;obtain⟨g,k5,a0⟩:=bs a0;refine Cj (O:=i5) (KX j5 k5) rfl λj9 k9 l5 G m5=>?_;obtain⟨i2,n5⟩:=m5;obtain⟨l9,rfl,o5⟩:=n5.any;obtain⟨r7,rfl,m9,rfl,d0,p5,n9⟩:=o5;obtain⟨l1,m1,rfl⟩:=d0.form;refine Nu rfl rfl (Aw rfl (ER rfl rfl (ER rfl rfl ?_)));refine BF 9 l5 λw1 o9 q5 s c0=>?_;refine AO c0 rfl rfl rfl (Bi) (allOne) λp9 t c0=>?_;refine zz ?_;refine AF (hc:=Blk.cell (i:=0) (c0.1) rfl) rfl (AN rfl ?_);replace c:=(((((c.st b1).st p).st e1).st G).st s).st t;refine AF (hc:=Blk.cell (i:=1) (c.1) rfl) rfl ?_;obtain⟨r5,s5,a0⟩:=bs a0;replace m0:=(((((m0.st b1).st p).st e1).st G).st s).st t;replace d0:=(d0.st s).st t;refine BO (O:=q5) (MU (λ_ h=>h) (vMo d0) (m0).all s5) rfl λq9 t5 n3 o u5=>?_;obtain rfl:=u5.bool;cases r5
   case false =>
    replace a0:=iF a0;refine zz ?_;replace c0:=c0.st o;refine AF (hc:=Blk.cell (i:=0) (c0.1) rfl) rfl (AN rfl ?_);replace e:=((((((e.st b1).st p).st e1).st G).st s).st t).st o;refine AF (hc:=Blk.cell (i:=1) (e.1) rfl) rfl ?_;obtain⟨w5,x5,a0⟩:=bs a0;replace hB:=((((((hB.st b1).st p).st e1).st G).st s).st t).st o;replace d0:=d0.st o;refine BO (O:=n3) (Jh (λ_ h=>h) (vMo d0) (Vb.mono (F:=Fr 0 t5 n3) (h7.zs hA hB) Fr.lt) x5) rfl λr9 s9 o3 q y5=>?_;obtain rfl:=y5.bool;cases w5
    case false =>
     replace a0:=iF a0;refine zz ?_;replace c:=(c.st o).st q;refine AF (hc:=Blk.cell (i:=1) (c.1) rfl) rfl (AT rfl ?_);replace m0:=(m0.st o).st q;have z5:=Bo m0.len;have t9:=rngNat z5;refine Aw rfl (EA rfl rfl (λw2=>?_) λw2=>?_)
     ·replace a0:=ip a0 w2;refine zz ?_;refine aj ?_;refine EE rfl ?_;replace b:=(((((((b.st b1).st p).st e1).st G).st s).st t).st o).st q;refine AO b rfl rfl rfl (Bi) (allOne) λa6 b6 b=>?_;refine zz ?_;obtain rfl:=sm a0;obtain rfl:=a1 _ rfl;obtain rfl:=sm (Ca hm);replace hB:=(hB.st q).st b6;exact Y7 rfl (Ge (cs:=[(.int .i64 0),(.slice none 0 0)]) rfl rfl b.1.cellsAt) (AD rfl) ⟨hB.ext,_,_,rfl,(Vb.mono (F:=Fr 0 a6 o3) (Vb.ofAgg (cs:=[(.int .i64 0),(.slice none 0 0)]) (x:=(⟨0,([]:List Ngd)⟩:Crt)) rfl ⟨_,rfl,(Vb.nil _ _),(X9 0)⟩) hB.out),(vErr (by decide))⟩
     replace a0:=im a0 w2;refine zz ?_;refine AF (hc:=Blk.cell (i:=1) (c.1) rfl) rfl (AN rfl ?_);replace c0:=c0.st q;refine AF (hc:=Blk.cell (i:=0) (c0.1) rfl) rfl (AN rfl (AF (hc:=Blk.cell (i:=1) (c0.1) rfl) rfl (ES rfl rfl ?_)));obtain⟨B,y2,a0⟩:=bs a0;obtain⟨y2,c6,d6⟩:=BH y2;replace d0:=d0.st q;refine EC rfl (a:=(⟨g.1.x.facts,g.1.x.dist⟩:Ngd)) m0 (Vb.ofAgg (cs:=[(.slice l1 g.1.x.facts.length m1),(.int .i64 g.1.x.dist)]) (x:=(⟨g.1.x.facts,g.1.x.dist⟩:Ngd)) rfl ⟨_,rfl,d0,p5⟩) (λ_=>rfl) rfl c6 d6 ⟨rfl,rfl⟩ λu9 L M v9 e6 N j=>?_;rw[<- y2]at j ⊢;refine AN rfl ?_;replace c:=c.st N;refine AO c rfl rfl rfl (Bi) (allOne) λw9 P c=>?_;refine zz ?_;replace e:=((e.st q).st N).st P;refine AF (hc:=Blk.cell (i:=3) (e.1) rfl) rfl (AT rfl ?_);have z2:=Bo y4.len;have x9:=rngNat z2;refine zz ?_;obtain⟨f6,p3,a0⟩:=bs a0;replace hB:=((hB.st q).st N).st P;replace b:=(((((((((b.st b1).st p).st e1).st G).st s).st t).st o).st q).st N).st P;replace i2:=(((((i2.st s).st t).st o).st q).st N).st P;replace d0:=(d0.st N).st P;replace c0:=(c0.st N).st P;replace j:=j.st P;refine Cp (X:=Unit) (f.ops.length) p3 rfl z2 (λQ q3=>[(1,(.int .i64 l)),(2,(.int .i64 (max 0 (min J 4096)))),(3,(.pointer (some ⟨C,0,none⟩))),(6,(.pointer (some ⟨u,0,none⟩))),(9,(.pointer (some ⟨z,0,none⟩))),(10,(.pointer (some ⟨E,0,none⟩))),(11,(.int .i64 Q.1)),(12,(.pointer (some ⟨w1,0,none⟩))),(88,(.slice K f.ops.length u2))]) (λQ q3 w'=>∃d:Lab,Bs w A w' d/\Lc 2 w' d C 26 [(.slice j4 f.vars.length k4),(.slice l4 f.init.length m4),(.slice n4 f.goal.length o4),(.slice K f.ops.length u2)]/\Lc 3 w' d u 50 [(.int .i64 0),(.slice none 0 0)]/\Lc 4 w' d z 50 [(.int .i64 l),(.slice L B.length M)]/\Rw 10 w' d 55 (.slice L B.length M) B/\Ob 7 w' d (.pointer (some ⟨E,0,none⟩)) Q.2/\Lc 9 w' d w1 108 [(.slice l1 g.1.x.facts.length m1),(.int .i64 g.1.x.dist),(.int .i64 g.1.x.order)]/\Vb w' (Fr 0 w' d) (.slice l1 g.1.x.facts.length m1) g.1.x.facts/\X2 Q.1) () ⟨e6,hB,e,b,c,j,i2,c0,d0,g2⟩ D3 (λ_ _=>rfl) ?_ ?_
     ·rintro a3 y9 Q q3 z9 s7 q2 ⟨g6,hB,e,b,c,j,s0,c0,d0,j2⟩ e0 k2 u4;have S:=Y2 q2 z2;refine zz ?_;obtain⟨aA,bA,t7,r3,s3,t3,cA,dA,rfl,h6,i6,eA,fA⟩:=(y4.zs hA hB).elem' q2;obtain⟨gA,iA,rfl⟩:=h6.form;obtain⟨jA,kA,rfl⟩:=i6.form;refine Bn (hA:=r3) (hj:=rfl) (hlt:=s3) rfl rfl (Bv (hl:=rfl) (hc:=t3) rfl ?_);refine BF 11 g6 λlA mA nA z1 b3=>?_;refine Ay rfl (AO b3 rfl rfl rfl (Bi) (allOne) λoA a2 b3=>?_);refine zz ?_;replace c0:=(c0.st z1).st a2;refine AF (hc:=Blk.cell (i:=1) (c0.1) rfl) rfl (AN rfl (AF (hc:=Blk.cell (i:=1) (b3.1) rfl) rfl ?_));obtain⟨pA,u3,e0⟩:=bs e0;have j6:=(Bx u3);refine Fw (he:=u3) rfl rfl (Ay rfl (o_z (Ak ?_)));obtain⟨k6,j0,e0⟩:=bs e0;refine AZ (λl' w'=>∃(T:Int) (l6:Unit) (d:Lab),k6=.done T/\X5 l' [(1,(.int .i64 l)),(2,(.int .i64 (max 0 (min J 4096)))),(3,(.pointer (some ⟨C,0,none⟩))),(6,(.pointer (some ⟨u,0,none⟩))),(9,(.pointer (some ⟨z,0,none⟩))),(10,(.pointer (some ⟨E,0,none⟩))),(11,(.int .i64 Q.1)),(12,(.pointer (some ⟨w1,0,none⟩))),(14,(.int .i64 (a3:Int))),(16,(.int .i64 T)),(88,(.slice K f.ops.length u2)),(89,(.int .i64 (f.ops.length:Int))),(90,(.int .i64 (a3:Int)))]/\Bs w A w' d/\Lc 2 w' d C 26 [(.slice j4 f.vars.length k4),(.slice l4 f.init.length m4),(.slice n4 f.goal.length o4),(.slice K f.ops.length u2)]/\Lc 3 w' d u 50 [(.int .i64 0),(.slice none 0 0)]/\Lc 4 w' d z 50 [(.int .i64 l),(.slice L B.length M)]/\Rw 10 w' d 55 (.slice L B.length M) B/\Ob 7 w' d (.pointer (some ⟨E,0,none⟩)) Q.2/\Lc 9 w' d w1 108 [(.slice l1 g.1.x.facts.length m1),(.int .i64 g.1.x.dist),(.int .i64 g.1.x.order)]/\Vb w' (Fr 0 w' d) (.slice l1 g.1.x.facts.length m1) g.1.x.facts/\X2 T) ?_ ?_
      ·refine zz ?_;refine CL rfl rfl (λc3=>?_) λc3=>?_
       ·replace j0:=ip j0 c3;refine zz ?_;obtain rfl:=sm j0;have U:=z1.an a2;exact⟨_,(),_,rfl,⟨rfl,rfl,rfl,rfl,rfl,rfl,rfl,rfl,rfl,rfl,rfl,rfl,rfl,trivial⟩,hB.st U,e.st U,b.st U,c.st U,j.st U,s0.st U,c0,d0.st U,(X9 0)⟩
       replace j0:=im j0 c3;refine zz ?_;refine EM rfl rfl (λd3=>?_) λd3=>?_
       ·replace j0:=ip j0 d3;refine o_z (Aj rfl (Cn ?_));obtain rfl:=sm j0;obtain rfl:=sm (Ca e0);have V:=z1.an a2;exact show Exists _ from⟨_,(),rfl,D3,_,hB.st V,e.st V,b.st V,c.st V,j.st V,s0.st V,c0,d0.st V,j2⟩
       replace j0:=im j0 d3;refine zz ?_;obtain rfl:=sm j0;have W:=z1.an a2;exact⟨_,(),_,rfl,⟨rfl,rfl,rfl,rfl,rfl,rfl,rfl,rfl,rfl,rfl,rfl,rfl,rfl,trivial⟩,hB.st W,e.st W,b.st W,c.st W,j.st W,s0.st W,c0,d0.st W,j6⟩
      have Y:=z1.an a2;replace hB:=hB.st Y;replace e:=e.st Y;replace b:=b.st Y;replace c:=c.st Y;replace d0:=d0.st Y;replace j:=j.st Y;replace s0:=s0.st Y;rintro qA rA ⟨T,l6,m6,rfl,v3,hB,e,b,c,j,s0,c0,d0,n6⟩;replace e0:=AS e0;refine AM _ v3 ?_;refine Ak (Am (Bv (hl:=rfl) (hc:=(e.1).cellsAt) rfl (Aw rfl (AN rfl (AF (hc:=Blk.cell (i:=0) (c0.1) rfl) rfl ?_)))));obtain⟨b2,o6,e0⟩:=bs e0;refine EH (O:=m6) (R:=λw' F v=>T2 w' F v b2) (Kh Fr.lt (x4.zs hA hB) S d0 o6) rfl λsA tA w3 z0 p6=>?_;obtain⟨uA,vA,rfl,t1,q6⟩:=p6;obtain⟨x3,y3,rfl⟩:=t1.form;obtain⟨rfl,r6⟩:=q6.err;refine zz ?_;refine CU rfl (λe3=>?_) λe3=>?_
      ·replace e0:=ip e0 e3;refine zz ?_;refine aj ?_;refine ac ?_;replace b:=b.st z0;refine AO b rfl rfl rfl (Bi) (allOne) λs6 t6 b=>?_;refine zz ?_;obtain rfl:=sm e0;obtain rfl:=k2 _ rfl;obtain rfl:=sm (Ca a0);obtain rfl:=a1 _ rfl;obtain rfl:=sm (Ca hm);replace hB:=(hB.st z0).st t6;exact Y7 rfl (Ge (cs:=[(.int .i64 0),(.slice none 0 0)]) rfl rfl b.1.cellsAt) (AD rfl) ⟨hB.ext,_,_,rfl,(Vb.mono (F:=Fr 0 s6 w3) (Vb.ofAgg (cs:=[(.int .i64 0),(.slice none 0 0)]) (x:=(⟨0,([]:List Ngd)⟩:Crt)) rfl ⟨_,rfl,(Vb.nil _ _),(X9 0)⟩) hB.out),(vErr r6)⟩
      replace e0:=im e0 e3;refine zz ?_;have f3:=Bo t1.len;have wA:=rngNat f3;obtain⟨u6,z3,e0⟩:=bs e0;replace hB:=hB.st z0;replace e:=e.st z0;replace b:=b.st z0;replace c:=c.st z0;replace d0:=d0.st z0;replace c0:=c0.st z0;replace j:=j.st z0;replace s0:=s0.st z0;refine Cp (X:=Unit) (b2.1.length) z3 rfl f3 (λZ a4=>[(1,(.int .i64 l)),(2,(.int .i64 (max 0 (min J 4096)))),(3,(.pointer (some ⟨C,0,none⟩))),(6,(.pointer (some ⟨u,0,none⟩))),(9,(.pointer (some ⟨z,0,none⟩))),(10,(.pointer (some ⟨E,0,none⟩))),(11,(.int .i64 Z.1)),(12,(.pointer (some ⟨w1,0,none⟩))),(16,(.int .i64 T)),(88,(.slice K f.ops.length u2)),(89,(.int .i64 (f.ops.length:Int))),(90,(.int .i64 (a3:Int))),(117,(.slice x3 b2.1.length y3))]) (λZ a4 w'=>∃d:Lab,Bs w A w' d/\Lc 2 w' d C 26 [(.slice j4 f.vars.length k4),(.slice l4 f.init.length m4),(.slice n4 f.goal.length o4),(.slice K f.ops.length u2)]/\Lc 3 w' d u 50 [(.int .i64 0),(.slice none 0 0)]/\Lc 4 w' d z 50 [(.int .i64 l),(.slice L B.length M)]/\Rw 10 w' d 55 (.slice L B.length M) B/\Ob 7 w' d (.pointer (some ⟨E,0,none⟩)) Z.2/\Lc 9 w' d w1 108 [(.slice l1 g.1.x.facts.length m1),(.int .i64 g.1.x.dist),(.int .i64 g.1.x.order)]/\Vb w' (Fr 0 w' d) (.slice l1 g.1.x.facts.length m1) g.1.x.facts/\Vb w' (Fr 0 w' d) (.slice x3 b2.1.length y3) b2.1/\X2 Z.1) () ⟨w3,hB,e,b,c,j,s0,c0,d0,t1,j2⟩ ⟨rfl,rfl,rfl,rfl,rfl,rfl,rfl,rfl,rfl,rfl,rfl,rfl,rfl,rfl,rfl,trivial⟩ (λ_ _=>rfl) ?_ ?_
      ·rintro xA b4 Z a4 yA u7 r2 ⟨w6,hB,e,b,c,j,g3,c0,d0,t1,h3⟩ g1 v4 w4;have ba:=Y2 r2 f3;refine Ak (Am ?_);obtain⟨zA,aB,w7,c4,d4,e4,bB,rfl,l2⟩:=t1.elem' r2;replace l2:=Vb.of_slice l2;obtain⟨x6,y6,rfl⟩:=l2.form;refine Bn (hA:=c4) (hj:=rfl) (hlt:=d4) rfl rfl (AF (hc:=cat0 e4) rfl (Ay rfl (o_z (Ak (Am (Aw rfl (JM rfl (Aw rfl (Aw rfl (Aw rfl (ES rfl rfl ?_)))))))))));refine JM rfl ?_;obtain⟨cB,z6,g1⟩:=bs g1;refine Cj (O:=w6) (KR g3 (Zt (Vb.ofAgg (cs:=[(.slice x6 b4.length y6),(.int .i64 T),(.int .i64 Z.1)]) (x:=(⟨b4,T,Z.1⟩:CEn)) rfl ⟨_,rfl,l2,n6,h3⟩)) z6) rfl λdB eB fB H a7=>?_;refine zz ?_;obtain⟨gB,f4,g1⟩:=bs g1;have b7:=(Bx f4);refine Fw (he:=f4) rfl rfl (Ay rfl (o_z ?_));obtain rfl:=sm g1;exact show Exists _ from⟨_,(),rfl,⟨rfl,rfl,rfl,rfl,rfl,rfl,rfl,rfl,rfl,rfl,rfl,rfl,rfl,rfl,rfl,trivial⟩,_,hB.st H,e.st H,b.st H,c.st H,j.st H,a7,c0.st H,d0.st H,t1.st H,b7⟩
      rintro iB jB ⟨kB,lB,rfl,k0,mB,hB,e,b,c,j,g3,c0,d0,t1,h3⟩;replace e0:=AS e0;obtain rfl:=sm e0;exact show Exists _ from⟨_,(),rfl,⟨(AR k0 _ _ rfl),(AR k0 _ _ rfl),(AR k0 _ _ rfl),(AR k0 _ _ rfl),(AR k0 _ _ rfl),(AR k0 _ _ rfl),(AR k0 _ _ rfl),(AR k0 _ _ rfl),(AR k0 _ _ rfl),(AR k0 _ _ rfl),(AR k0 _ _ rfl),trivial⟩,_,hB,e,b,c,j,g3,c0,d0,h3⟩
     rintro nB oB ⟨pB,qB,rfl,y0,rB,hB,e,b,c,j,s0,c0,d0,j2⟩;replace a0:=AS a0;obtain rfl:=sm a0;exact show Exists _ from⟨_,(L,M),rfl,⟨(AR y0 _ _ rfl),(AR y0 _ _ rfl),(AR y0 _ _ rfl),(AR y0 _ _ rfl),(AR y0 _ _ rfl),(AR y0 _ _ rfl),(AR y0 _ _ rfl),trivial⟩,_,hB,e,b,c,j,s0,j2⟩
    replace a0:=iT a0;refine zz ?_;refine aj ?_;refine EE rfl ?_;replace b:=(((((((b.st b1).st p).st e1).st G).st s).st t).st o).st q;refine AO b rfl rfl rfl (Bi) (allOne) λc7 d7 b=>?_;refine zz ?_;obtain rfl:=sm a0;obtain rfl:=a1 _ rfl;obtain rfl:=sm (Ca hm);replace hB:=(hB.st q).st d7;exact Y7 rfl (Ge (cs:=[(.int .i64 0),(.slice none 0 0)]) rfl rfl b.1.cellsAt) (AD rfl) ⟨hB.ext,_,_,rfl,(Vb.mono (F:=Fr 0 c7 o3) (Vb.ofAgg (cs:=[(.int .i64 0),(.slice none 0 0)]) (x:=(⟨0,([]:List Ngd)⟩:Crt)) rfl ⟨_,rfl,(Vb.nil _ _),(X9 0)⟩) hB.out),(vErr (by decide))⟩
   replace a0:=iT a0;refine o_z (Aj rfl (Cn ?_));obtain rfl:=sm a0;have c2:=(((((b1.an p).an e1).an G).an s).an t).an o;exact show Exists _ from⟨_,(n.1,n.2),rfl,B3,_,hB.st c2,e.st c2,b.st c2,c.st o,m0.st o,((i2.st s).st t).st o,g2⟩
  replace a0:=im a0 v2;refine o_z (Ae rfl (Cn ?_));replace k1:=k1.st p;replace d1:=d1.st p;obtain⟨sB,e7,x7,y7,tB⟩:=BxR.shut (x:=m.2.2) (l0:=7) (by decide) k1 d1;obtain rfl:=sm a0;have v1:=(b1.an p).an e7;exact show Exists _ from⟨_,(n.1,n.2),h2 _ rfl,B5,_,hB.st v1,b.st v1,c.st v1,m0.st v1,g2⟩
 have s2:=(((q4.an r4).an s4).an l3).an t4;replace hB:=hB.st s2;replace b:=((((((((b.st y).st D).st j3).st k3).st q4).st r4).st s4).st l3).st t4;replace c:=c.st s2;rintro uB vB ⟨i3,m2,rfl,g4,wB,hB,b,c,m0,g2⟩;replace hm:=AS hm;refine AM _ g4 ?_;refine Ak (Am (Bv (hl:=rfl) (hc:=(c.1).cellsAt) rfl ?_));refine AO b rfl rfl rfl (Bi) (allOne) λf7 h4 b=>?_;refine zz ?_;replace m0:=m0.st h4;obtain⟨g7,i4,m0⟩:=m0.freeze;obtain rfl:=sm hm;replace hB:=(hB.st h4).st i4;replace b:=b.st i4;exact Y7 rfl (Ge (cs:=[(.int .i64 l),(.slice m2.1 i3.2.1.length m2.2)]) rfl rfl b.1.cellsAt) (AD rfl) ⟨hB.ext,_,_,rfl,(Vb.mono (F:=Fr 0 f7 g7) (Vb.ofAgg (cs:=[(.int .i64 l),(.slice m2.1 i3.2.1.length m2.2)]) (x:=(⟨l,i3.2.1⟩:Crt)) rfl ⟨_,rfl,m0,I⟩) hB.out),(vErr (X9 0))⟩
end
section
open Go Go.RowKit
theorem JY(f:List Fct)(s:List Int):GB f s=some (YV f s):=rfl
end
section
open Go Go.RowKit
def dNx(b d c:Int):Option Int:=if b<0 then some 0 else if b<=d+c then none else some (d+c)
def CovN(N:List Ngd)(p:List Fct)(d:Int):Prop:=∃m∈N,m.dist<=d/\ctn p m.facts=true
def Pend(N:List Ngd)(q:List CEn)(p:List Fct)(d:Int):Prop:=CovN N p d\/∃x∈q,x.facts=p/\x.dist=d
def AbV(t:Tsk)(b:Int)(N:List Ngd)(P:List Fct->Int->Prop):Prop:=∀n∈N,∀(i:Nat) o,t.ops[i]?=some o->∀d,dNx b n.dist o.cost=some d->∀a,DL t (i:Int) n.facts=some (a,⟨0⟩)->∀p∈a,P p d
theorem Pend.mono{N:List Ngd}{q a:List CEn}{p:List Fct}{d:Int}(h:Pend N q p d)(b:∀x∈q,x∈a):Pend N a p d:=by
  rcases h with h|⟨x,hx,h⟩
  . exact .inl h
  . exact .inr ⟨x,b x hx,h⟩
theorem CovN.snoc{N:List Ngd}{n:Ngd}{p:List Fct}{d:Int}(h:CovN N p d):CovN (N++[n]) p d:=by
  obtain⟨m,hm,h⟩:=h;exact⟨m,H0 _ hm,h⟩
theorem Pend.pop{N:List Ngd}{q a:List CEn}{e:CEn}(b:q.Perm (e::a))(hc:CovN N e.facts e.dist){p:List Fct}{d:Int}(h:Pend N q p d):Pend N a p d:=by
  rcases h with h|⟨x,hx,h1,h2⟩
  . exact .inl h
  . rcases T8.1 (b.mem_iff.1 hx)with rfl|hx
    . exact .inl (by rw[<- h1,<- h2];exact hc)
    . exact .inr ⟨x,hx,h1,h2⟩
theorem Sf{p:List Fct}(o:Ps p)(g:p.length<=1000000){N:List Ngd}(q:∀n∈N,Ps n.facts/\n.facts.length<=1000000):∃c,FW p N=some c/\(c=true->∃n∈N,ctn p n.facts=true)/\(c=false->∀n∈N,ctn p n.facts=false):=by
  unfold FW BP BU;rcases IX (ρ:=Int) (xs:=N) (s₀:=()) (f:=λ(i:Nat)(l:Ngd)(t:Unit)=>bnd (EZ l p) λm=>if m=true then some (.ret (i:Int))else some (.next ())) (λk _=>∀j n,j<k->N[j]?=some n->ctn p n.facts=false) (λr=>0<=r/\∃n∈N,ctn p n.facts=true) (λj a hj=>absurd hj (by omega)) (λk n s hk u=>by
    have hm:=H2 hk;obtain⟨d,h2⟩:=q n hm;unfold EZ;rw[SJ g h2 o d,Ah];cases hc:ctn p n.facts with
    |true=>rw[BA,Ah,Ah,BA];exact .inr ⟨_,rfl,by omega,n,hm,hc⟩
    |false =>
      rw[BT,Ah,Ah,BT];refine .inl ⟨_,rfl,λj v hj b=>?_⟩;by_cases e:j=k
      . subst e;rw[hk]at b;obtain rfl:=R1 b;exact hc
      . exact u j v (by omega) b)with⟨s,d,h2⟩|⟨r,d,h2,h3⟩
  . rw[d,Ah,Bw,Ah,if_neg (by decide),Ah,Ah,BT,Ah];refine⟨_,rfl,λh=>(by cases h),λ_ n hn=>?_⟩;obtain⟨k,hk⟩:=H3 hn;exact h2 k n (Az hk) hk
  . rw[d,Ah,Jk,Ah,if_pos h2,Ah,Ah,BA,Ah];exact⟨_,rfl,λ_=>h3,λh=>by cases h⟩
end
section
open Go Go.RowKit
theorem QW(p x:List Fct):∃b,EY p x=some b:=by
  unfold EY;rcases IX (ρ:=Bool) (xs:=x) (s₀:=()) (f:=λ(j:Nat)(c:Fct)(l:Unit)=>bnd (EX p c.var) λd=>bnd (if 0<=d then(if d≠c.val then(some true)else(some false))else(some false):Option Bool) λe=>if e=true then(some (.ret true))else(some (.next ()))) (λ_ _=>True) (λ_=>True) trivial (λk a s hk m=>by
    rw[RK,Ah];by_cases g:0<=fdV p a.var
    . rw[if_pos g];by_cases i:fdV p a.var≠a.val
      . rw[if_pos i,Ah,BA];exact .inr ⟨_,rfl,trivial⟩
      . rw[if_neg i,Ah,BT];exact .inl ⟨_,rfl,trivial⟩
    . rw[if_neg g,Ah,BT];exact .inl ⟨_,rfl,trivial⟩)with⟨s,h,_⟩|⟨r,h,_⟩
  . rw[h,Ah,Bw];exact⟨_,rfl⟩
  . rw[h,Ah,Jk];exact⟨_,rfl⟩
theorem UQ{vars:List Int}(hv:vars.length<=64)(c:∀(i:Nat) n,vars[i]?=some n->1<=n/\n<=64){p:List Fct}(d:FactsOk vars p):Fi p=some true:=by
  unfold Fi;rw[GF (λk a e=>?_)]
  . rfl
  . obtain⟨h,h1,n,hn,h2⟩:=d.1 k a e;have:=c _ n hn;have hl:=Az hn;have g:=GV d;have hk:=Az e;rw[if_neg (by omega),if_neg (by omega),if_neg (by omega),if_neg (by omega)];by_cases f:0<(k:Int)
    . obtain⟨b,hb⟩:=AG (l:=p) (k:=k-1) (by omega);have:=d.2 (k-1) b a hb (by rw[show k-1+1=k by omega];exact e);rw[if_pos f,BQ (by unfold X2;omega),Ah,show(k:Int)-1=((k-1:Nat):Int)by omega,BG,hb,Ah,if_neg (by omega),Ah,BT]
    . rw[if_neg f,Ah,BT]
end
section
open Go Go.RowKit
section
variable {t:Tsk}{b:Int}{N:List Ngd}
def EnO(t:Tsk)(b:Int)(f:List Fct)(d:Int):Prop:=FactsOk t.vars f/\0<=d/\(b<0->d=0)/\(0<=b->d<b)
structure LowO(t:Tsk)(b:Int)(N:List Ngd)(q:List CEn):Prop where
  en:∀x∈q,EnO t b x.facts x.dist
  ng:∀n∈N,EnO t b n.facts n.dist/\YV n.facts t.init=false
  nd:(N.map (·.facts)).Nodup
  le:∀n∈N,∀x∈q,n.dist<=x.dist
  gl:Pend N q t.goal 0
  cl:AbV t b N (Pend N q)
structure CertO(t:Tsk)(b:Int)(N:List Ngd):Prop where
  len:N.length<=1024
  ng:∀n∈N,EnO t b n.facts n.dist/\YV n.facts t.init=false
  gl:b≠0->CovN N t.goal 0
  cl:AbV t b N (CovN N)
theorem EnO.back(c:TaskOk t){f:List Fct}{e:Int}(h:EnO t b f e){i:Nat}{o:Opr}(j:t.ops[i]?=some o){d:Int}(hd:dNx b e o.cost=some d){p:List Fct}(g:FactsOk t.vars p):EnO t b p d/\e<=d:=by
  have hc:=(c.2.2.2.2.2 i o j).1;obtain⟨_,h1,h2,h3⟩:=h;unfold dNx at hd;by_cases hb:b<0
  . rw[if_pos hb]at hd;obtain rfl:=R1 hd;exact⟨⟨g,by omega,λ_=>rfl,λh=>by omega⟩,by have:=h2 hb;omega⟩
  . rw[if_neg hb]at hd;by_cases a:b<=e+o.cost
    . rw[if_pos a]at hd;cases hd
    . rw[if_neg a]at hd;obtain rfl:=R1 hd;exact⟨⟨g,by omega,λh=>by omega,λ_=>by omega⟩,by omega⟩
structure OpsO(t:Tsk)(b:Int)(e:CEn)(q0:List CEn)(n0:Int)(k:Nat)(s:Int×CQ):Prop where
  hp:Y8 (qsC s.2.l)
  old:∀x∈q0,x∈s.2.l
  new:∀x∈s.2.l,x∈q0\/(EnO t b x.facts x.dist/\e.dist<=x.dist)
  cl:∀(i:Nat) o,i<k->t.ops[i]?=some o->∀d,dNx b e.dist o.cost=some d->∀L,DL t (i:Int) e.facts=some (L,⟨0⟩)->∀p∈L,∃x∈s.2.l,x.facts=p/\x.dist=d
  len:s.2.l.length<=q0.length+k*1024
  no:0<=s.1/\s.1<=n0+(k:Int)*1024
theorem VX(hok:TaskOk t)(hC:ZW t.vars)(hops:t.ops.length≤200)(hb1:-1≤b)(hb2:b≤1099511627776):∃r,GT t b 4096=some r∧(r.2.n=0→r.1.bound=b∧CertO t b r.1.nogoods):=by
  unfold GT Cz Hc;have hgl:=FactsOk.short hC hok.2.2.2.2.1;rw[FH.2 hok,Ah,if_neg (λh=>h rfl),if_pos hb1,if_pos hb2,Ah,Ah,BA];by_cases hb0:b=0
  . subst hb0;rw[if_pos rfl];exact⟨_,rfl,λ_=>⟨rfl,by show(0:Nat)<=1024;decide,λn hn=>by simp at hn,λh=>absurd rfl h,λn hn=>by simp at hn⟩⟩
  rw[if_neg hb0,Hr (by omega),Ah];obtain⟨K,hK⟩:∃K,K=t.ops.length*1024:=⟨_,rfl⟩;have hK2:K<=204800:=(by omega);have short:∀f d,EnO t b f d->f.length<=16:=λf d h=>h.1.short hC;have nlen:∀{N q},LowO t b N q->N.length<=1024:=λ{N q} h=>by
    have:=hC.2.2 _ h.nd λp hp=>by
      obtain⟨n,hn,rfl⟩:=V8.1 hp;exact(h.ng n hn).1.1
    rwa[R9]at this
  refine IA (λs:Int×List Ngd×CQ=>Y8 (qsC s.2.2.l)/\LowO t b s.2.1 s.2.2.l/\s.2.2.l.length<=1+s.2.1.length*K/\0<=s.1/\s.1<=1+((s.2.1.length*K:Nat):Int)) (λs=>CertO t b s.2.1) (λq=>q.2.n≠0) (λs=>(1025-s.2.1.length)*(K+1)+s.2.2.l.length) ⟨?_,?_,?_,by dsimp only;omega,by dsimp only;omega⟩ ?_ (λs hs=>⟨_,rfl,λ_=>⟨rfl,hs⟩⟩) (λq hq=>⟨_,rfl,λh=>absurd h hq⟩)
  . intro j x y hj hx;have:=Az hx;simp[qsC,qsG]at this;omega
  . refine⟨λx hx=>?_,λn hn=>by simp at hn,T6,λn hn=>by simp at hn,.inr ⟨_,M0.2 rfl,rfl,rfl⟩,λn hn=>by simp at hn⟩;obtain rfl:=M0.1 hx;exact⟨hok.2.2.2.2.1,W5 _,λ_=>rfl,λh=>by dsimp only;omega⟩
  . show 1<=1+0*K;omega
  . rintro⟨nx,  N,q⟩ ⟨hp,hL,hlen,hn0,hn1⟩;dsimp only at hp hL hlen hn0 hn1 ⊢;have hN:=nlen hL;have hNK:N.length*K<=1024*204800:=Nat.mul_le_mul hN hK2;unfold Dj;rw[Ah];by_cases h0:0<(q.l.length:Int)
    . rw[if_pos h0];obtain⟨r,r1,e,q',rfl,r2,r3,r4⟩:=VW hp (by omega) (by omega);rw[r1,Ah];dsimp only;have heq:e∈q.l:=r3.mem_iff.2 L0;have hql:q.l.length=q'.l.length+1:=(by rw[r3.length_eq];rfl);have hen:=hL.en e heq;have hes:=short _ _ hen;have hq'q:∀x∈q'.l,x∈q.l:=λx hx=>r3.mem_iff.2 (H1 _ hx);have hle:∀x∈q'.l,e.dist<=x.dist:=λx hx=>by
        have:=UM (r4 (toC x) (V8.2 ⟨x,hq'q x hx,rfl⟩));exact this
      obtain⟨c,c1,c2,c3⟩:=Sf hen.1.ps (by omega) (N:=N) λn hn=>⟨(hL.ng n hn).1.1.ps,by have:=short _ _ (hL.ng n hn).1;omega⟩;rw[c1,Ah];cases c with
      |true =>
        obtain⟨n,hn,hc⟩:=c2 rfl;have hcov:CovN N e.facts e.dist:=⟨n,hn,hL.le n hn e heq,hc⟩;refine .inl ⟨_,BA,⟨r2,⟨λx hx=>hL.en x (hq'q x hx),hL.ng,hL.nd,λn hn x hx=>hL.le n hn x (hq'q x hx),hL.gl.pop r3 hcov,λn hn i o ho d hd L hL' p hp=>(hL.cl n hn i o ho d hd L hL' p hp).pop r3 hcov⟩,by dsimp only;omega,by dsimp only;omega,by dsimp only;omega⟩,by dsimp only;omega⟩
      |false  =>
        have c4:=c3 rfl;rw[BT,JY,Ah];cases hini:YV e.facts t.init with
        |true=>rw[BA];exact .inr (.inr ⟨_,rfl,by decide⟩)
        |false =>
        rw[BT,if_neg (by omega),Cg (by simp;omega) (by simp;omega),Ah];refine .inl ?_;refine KO ?_;have hlN:q'.l.length<=300000000:=(by omega);refine Cr (λi s=>OpsO t b e q'.l nx i s) (λ_=>False) ⟨r2,λx hx=>hx,λx hx=>.inl hx,λi o hi=>absurd hi (by omega),by dsimp only;omega,by dsimp only;omega⟩ (λi o s hi hI=>.inl ?_) (λs hs=>?_) (λq hq=>hq.elim)
        . have hil:=Az hi;have hoo:=hok.2.2.2.2.2 i o hi;obtain⟨hf,h1,h2,h3⟩:=hen;have hcost:=hoo.1;have hcost2:=hoo.2.1;have hd40:e.dist<=1099511627776:=by
            by_cases hb:b<0
            . have:=h2 hb;omega
            . have:=h3 (by omega);omega
          rw[BQ (by unfold X2;omega),Ah];have hlen:=hI.len;have hno:=hI.no;by_cases hdn:dNx b e.dist o.cost=none
          . have hb:¬b<0:=λh=>(by unfold dNx at hdn;rw[if_pos h]at hdn;cases hdn);have hbc:b<=e.dist+o.cost:=C4 λh=>(by unfold dNx at hdn;rw[if_neg hb,if_neg h]at hdn;cases hdn);rw[if_neg hb,if_pos hbc,Ah,Jk];refine⟨_,rfl,hI.hp,hI.old,hI.new,λj o' hj ho' d hd' L hL p hp=>?_,V6 hlen (Nat.add_le_add_left (G9 _ (Nat.le_succ i)) _),hno.1,(by show s.1<=nx+((i+1:Nat):Int)*1024;omega)⟩;by_cases ej:j=i
            . subst ej;rw[hi]at ho';obtain rfl:=R1 ho';rw[hdn]at hd';cases hd'
            . exact hI.cl j o' (by omega) ho' d hd' L hL p hp
          . obtain⟨d,hd⟩:=Option.ne_none_iff_exists'.1 hdn;have hif:(if b<0 then(some (.done 0))else(if b<=e.dist+o.cost then(some (.ret (.next (s.1,s.2))))else(some (.done (e.dist+o.cost)))):Option (Fin Int (Ctl (Int×CQ) (Ctl (Int×(List Ngd)×CQ) (Crt×Err)))))=some (.done d):=by
              unfold dNx at hd;by_cases hb:b<0
              . rw[if_pos hb]at hd ⊢;rw[R1 hd]
              . rw[if_neg hb]at hd ⊢;by_cases hbc:b<=e.dist+o.cost
                . rw[if_pos hbc]at hd;cases hd
                . rw[if_neg hbc]at hd ⊢;rw[R1 hd]
            rw[hif,Ah];obtain⟨L,L1,L2,L3⟩:=Ks hok hC hi hf;rw[Bw,L1,Ah,if_neg (λh=>h rfl)];refine JX ?_;refine Cr (λj(s':Int×CQ)=>Y8 (qsC s'.2.l)/\(∀x∈s.2.l,x∈s'.2.l)/\(∀x∈s'.2.l,x∈s.2.l\/(x.facts∈L/\x.dist=d))/\(∀m p,m<j->L[m]?=some p->∃x∈s'.2.l,x.facts=p/\x.dist=d)/\s'.2.l.length<=s.2.l.length+j/\0<=s'.1/\s'.1<=s.1+(j:Int)) (λ_=>False) ⟨hI.hp,λx hx=>hx,λx hx=>.inl hx,λm p hm=>absurd hm (by omega),by dsimp only;omega,by dsimp only;omega,by dsimp only;omega⟩ (λj p s' hj hJ=>.inl ?_) (λs' hs=>?_) (λq hq=>hq.elim)
            . obtain⟨J1,J2,J3,J4,J5,J6,J7⟩:=hJ;have hjl:j<L.length:=Az hj;obtain⟨r,r1,r2,r3⟩:=UP J1 (by omega) (⟨p,d,s'.1⟩:CEn);rw[r1,Ah,BQ (by unfold X2;omega),Ah];refine⟨_,rfl,r2,λx hx=>r3.mem_iff.2 (H1 _ (J2 x hx)),λx hx=>?_,λm p' hm hp'=>?_,?_,by dsimp only;omega,by dsimp only;omega⟩
              . rcases T8.1 (r3.mem_iff.1 hx)with rfl|hx
                . exact .inr ⟨H2 hj,rfl⟩
                . exact J3 x hx
              . by_cases em:m=j
                . subst em;rw[hj]at hp';obtain rfl:=R1 hp';exact⟨_,r3.mem_iff.2 L0,rfl,rfl⟩
                . obtain⟨x,hx,h⟩:=J4 m p' (by omega) hp';exact⟨x,r3.mem_iff.2 (H1 _ hx),h⟩
              . have:=r3.length_eq;dsimp only;rw[this,P3];omega
            . obtain⟨J1,J2,J3,J4,J5,J6,J7⟩:=hs;rw[Bw];refine⟨_,rfl,_,rfl,J1,λx hx=>J2 x (hI.old x hx),λx hx=>?_,λm o' hm ho' d' hd' L' hL' p hp=>?_,by dsimp only at J5 ⊢;omega,by dsimp only at J6 J7 ⊢;omega⟩
              . rcases J3 x hx with h|⟨h,h'⟩
                . exact hI.new x h
                . rw[h'];exact .inr (EnO.back hok ⟨hf,h1,h2,h3⟩ hi hd (L3.1 _ h))
              . by_cases em:m=i
                . subst em;rw[hi]at ho';obtain rfl:=R1 ho';rw[hd]at hd';obtain rfl:=R1 hd';rw[L1]at hL';have:L=L':=congrArg Prod.fst (R1 hL');subst this;obtain⟨j,hj⟩:=H3 hp;exact J4 j p (Az hj) hj
                . obtain⟨x,hx,h⟩:=hI.cl m o' (by omega) ho' d' hd' L' hL' p hp;exact⟨x,J2 x hx,h⟩
        rw[Bw];refine⟨_,rfl,_,rfl,?_,?_⟩
        . have hps:=hen.1.ps;have hself:CovN (N++[⟨e.facts,e.dist⟩]) e.facts e.dist:=⟨⟨e.facts,e.dist⟩,by simp,W5 _,RL hps⟩;have snoc:∀{p d},Pend N q.l p d->Pend (N++[⟨e.facts,e.dist⟩]) s.2.l p d:=λ{p d} h=>by
            have h1:Pend (N++[⟨e.facts,e.dist⟩]) q.l p d:=by
              rcases h with h|h
              . exact .inl h.snoc
              . exact .inr h
            exact(h1.pop r3 hself).mono hs.old
          have hlenN:(N++[(⟨e.facts,e.dist⟩:Ngd)]).length=N.length+1:=(by simp);refine⟨hs.hp,⟨λx hx=>?_,λn hn=>?_,?_,λn hn x hx=>?_,snoc hL.gl,λn hn i o ho d hd L hL' p hp=>?_⟩,?_,hs.no.1,?_⟩
          . rcases hs.new x hx with h|h
            . exact hL.en x (hq'q x h)
            . exact h.1
          . rcases Q8.1 hn with h|h
            . exact hL.ng n h
            . obtain rfl:=M0.1 h;exact⟨hen,hini⟩
          . rw[S8];refine N9.2 ⟨hL.nd,by simp,λa ha b hb eab=>?_⟩;have:b=e.facts:=(by simpa using hb);subst this;subst eab;obtain⟨n,hn,hne⟩:=V8.1 ha;have:=c4 n hn;rw[hne,RL hps]at this;cases this
          . have hx':e.dist<=x.dist:=by
              rcases hs.new x hx with h|h
              . exact hle x h
              . exact h.2
            rcases Q8.1 hn with h|h
            . have:=hL.le n h e heq;omega
            . obtain rfl:=M0.1 h;exact hx'
          . rcases Q8.1 hn with h|h
            . exact snoc (hL.cl n h i o ho d hd L hL' p hp)
            . obtain rfl:=M0.1 h;exact .inr (hs.cl i o (Az ho) ho d hd L hL' p hp)
          . dsimp only;rw[hlenN,W4,Nat.one_mul];have:=hs.len;omega
          . dsimp only;rw[hlenN,W4,Nat.one_mul];have:=hs.no.2;omega
        . dsimp only;rw[K4,G1];have:=hs.len;have e1:(1025-N.length)*(K+1)=(1025-(N.length+1))*(K+1)+(K+1):=by
            rw[show 1025-N.length=(1025-(N.length+1))+1 by omega,W4,Nat.one_mul]
          omega
    . rw[if_neg h0];have hq0:q.l=[]:=B1 (by omega);have cov:∀{p d},Pend N q.l p d->CovN N p d:=λ{p d} h=>by
        rcases h with h|⟨x,hx,_⟩
        . exact h
        . rw[hq0]at hx;simp at hx
      exact .inr (.inl ⟨_,rfl,hN,hL.ng,λ_=>cov hL.gl,λn hn i o ho d hd L hL' p hp=>cov (hL.cl n hn i o ho d hd L hL' p hp)⟩)
end
end
section
open Go Go.RowKit
section
variable {t:Tsk}{b:Int}{N:List Ngd}
def ChkS(t:Tsk)(b:Int)(N:List Ngd)(l:Int)(x:Chk):Prop:=x.t=t/\x.c=⟨b,N⟩/\l<=x.steps/\-1<=x.steps/\x.steps<=1048576
theorem ChkS.low{l a:Int}{x:Chk}(h:ChkS t b N l x)(hl:a<=l):ChkS t b N a x:=⟨h.1,h.2.1,by have:=h.2.2.1;omega,h.2.2.2⟩
theorem PG(h:CertO t b N){l:Int}{x:Chk}(K:ChkS t b N l x){p:List Fct}(M:FactsOk t.vars p){d:Int}(hc:CovN N p d):∃G e H,CV x p d=some (G,e,H)∧((e.n=10∧l≤0)∨(e.n=0∧G=true∧ChkS t b N (l-1) H)):=by
  obtain⟨⟨o,ti,tg,to⟩,c,st⟩:=x;obtain⟨I,h2,h3,h4,h5⟩:=K;dsimp only at I h2 h3 h4 h5;subst I;subst h2;have u:=h.len;unfold CV;have O:DD ⟨⟨o,ti,tg,to⟩,⟨b,N⟩,st⟩ d=some ((N.filter λn=>decide (n.dist<=d)).map (·.facts)):=by
    unfold DD;rw[Gh (λk=>((N.take k).filter λn=>decide (n.dist<=d)).map (·.facts)) (by simp) λk n hk=>?_]
    . rw[Q3];rfl
    . have hl:(((N.take k).filter λn=>decide (n.dist<=d)).map (·.facts)).length<=1024:=by
        rw[R9];exact V6 (G4 _ _) (by rw[P9];omega)
      rw[M4,hk,List.filter_append,S8];by_cases hd:n.dist<=d
      . rw[if_pos hd,Cg (by simp only[G1];omega) (by simp only[G1];omega),Ah];simp[hd]
      . rw[if_neg hd];simp[hd]
  rw[O,Ah];obtain⟨m,hm,hmd,hmc⟩:=hc;have a:m.facts∈(N.filter λn=>decide (n.dist<=d)).map (·.facts):=V8.2 ⟨m,R8.2 ⟨hm,by simpa using hmd⟩,rfl⟩;have f:∀q∈(N.filter λn=>decide (n.dist<=d)).map (·.facts),FactsOk o q:=λq z=>by
    obtain⟨n,hn,rfl⟩:=V8.1 z;exact(h.ng n (R8.1 hn).1).1.1
  have A:((N.filter λn=>decide (n.dist<=d)).map (·.facts)).length<=1024:=by
    rw[R9];exact V6 (G4 _ _) u
  generalize (N.filter λn=>decide (n.dist<=d)).map (·.facts)=L at a f A;have P:Bz L o=some false:=by
    unfold Bz BW;rw[GF (λk q hk=>?_)]
    . rfl
    . unfold Gs Fg;rw[BI (f q (H2 hk)),Ah,BA,Ah,Ah,BT]
  unfold Hb Fg;dsimp only;rw[BI M,Ah,BA,P,Ah,BT,Ah,BT];unfold FP;dsimp only;by_cases hs:st<=0
  . rw[if_pos hs,Ah,if_pos rfl,Ah,if_pos (by decide)];exact⟨_,_,_,rfl,.inl ⟨rfl,by omega⟩⟩
  . rw[if_neg hs,BQ (by decide),Ah];have B:∃r,bnd (rng (ρ:=Bool×Cov) (λ(Q:Nat)(g:List Fct)(v:(List (List Fct)))=>bnd (Dz p g) λC=>if C=true then some (.ret (true,(⟨o,0+1,st,false⟩:Cov)))else bnd (EY p g) λD=>if D=true then some (.next v)else bnd (Y0 24 v [g]) λE=>some (.next E)) L 0 ([]:List (List Fct))) some=some r/\r=.ret (true,⟨o,0+1,st,false⟩):=by
      refine Cr (λk s=>s.length<=k/\∀j q,j<k->L[j]?=some q->ctn p q=false) (λr=>r=(true,⟨o,0+1,st,false⟩)) ⟨W3 _,λj q hj=>absurd hj (by omega)⟩ (λk q s hk J=>?_) (λs hs=>?_) (λq z=>⟨_,rfl,by rw[z]⟩)
      . have R:=Az hk;rw[KN,Ah];cases F:ctn p q with
        |true=>rw[BA];exact .inr ⟨_,rfl,rfl⟩
        |false =>
          have w:∀j y,j<k+1->L[j]?=some y->ctn p y=false:=λj y hj i=>by
            by_cases e:j=k
            . subst e;rw[hk]at i;obtain rfl:=R1 i;exact F
            . exact J.2 j y (by omega) i
          obtain⟨c,hc⟩:=QW p q;rw[BT,hc,Ah];have S:=J.1;cases c with
          |true=>rw[BA];exact .inl ⟨_,rfl,by omega,w⟩
          |false =>
            rw[BT,Cg (by simp only[G1];omega) (by simp only[G1];omega),Ah];exact .inl ⟨_,rfl,by rw[K4,G1];omega,w⟩
      . obtain⟨k,hk⟩:=H3 a;have:=hs.2 k _ (Az hk) hk;rw[hmc]at this;cases this
    obtain⟨r,k1,rfl⟩:=B;rw[show ∀(x:Option (Fin (List (List Fct)) (Bool×Cov))),bnd x some=x from λx=>by cases x<;>rfl]at k1;rw[k1,Ah,Jk,Ah,if_neg (by simp),Ah,if_neg (λh=>h rfl),BQ (by show X2 (st-(0+1));unfold X2;omega),Ah];exact⟨_,_,_,rfl,.inr ⟨rfl,rfl,rfl,rfl,by show l-1<=st-(0+1);omega,by show -1<=st-(0+1);omega,by show st-(0+1)<=1048576;omega⟩⟩
theorem WW(f:TaskOk t)(C:ZW t.vars)(D:b≤1099511627776)(h:CertO t b N){l:Int}{x:Chk}(w:ChkS t b N l x){n:Ngd}(hn:n∈N){i:Nat}{o:Opr}(g:t.ops[i]?=some o):∃r,DH x n (i:Int)=some r∧((r.1.n=10∧l≤1024)∨(r.1.n=0∧ChkS t b N (l-1024) r.2)):=by
  obtain⟨E,h2,h3,h4⟩:=id w;have j:=f.2.2.2.2.2 i o g;have y:=j.1;have u:=j.2.1;obtain⟨hf,g1,g2,g3⟩:=(h.ng n hn).1;unfold DH;rw[E,h2];dsimp only;by_cases hd:dNx b n.dist o.cost=none
  . have hb:0<=b:=W9.1 λh=>(by unfold dNx at hd;rw[if_pos h]at hd;cases hd);have c:b<=n.dist+o.cost:=C4 λh=>(by unfold dNx at hd;rw[if_neg (by omega),if_neg h]at hd;cases hd);rw[if_pos hb,BG,g,Ah,BQ (by have:=g3 hb;unfold X2;omega),Ah,if_pos c,Ah,Jk];exact⟨_,rfl,.inr ⟨rfl,w.low (by omega)⟩⟩
  . obtain⟨d,hd⟩:=Option.ne_none_iff_exists'.1 hd;have z:(if 0<=b then(bnd (atI t.ops (i:Int)) λa=>bnd (X7 (n.dist+a.cost)) λm=>if b<=m then some (.ret ((⟨0⟩:Err),x))else some (.done m))else some (.done 0):Option (Fin Int (Err×Chk)))=some (.done d):=by
      unfold dNx at hd;by_cases hb:0<=b
      . rw[if_neg (by omega)]at hd;rw[if_pos hb,BG,g,Ah,BQ (by have:=g3 hb;unfold X2;omega),Ah];by_cases c:b<=n.dist+o.cost
        . rw[if_pos c]at hd;cases hd
        . rw[if_neg c]at hd ⊢;rw[R1 hd]
      . rw[if_pos (by omega)]at hd;rw[if_neg hb,R1 hd]
    rw[z,Ah];obtain⟨I,L1,L2,L3⟩:=Ks f C g hf;rw[Bw,L1,Ah,if_neg (λh=>h rfl)];refine Cr (λk s=>ChkS t b N (l-k) s) (λr=>r.1.n=10/\l<=1024) (w.low (by omega)) (λk p s hk F=>?_) (λs hs=>⟨_,rfl,.inr ⟨rfl,hs.low (by dsimp only;omega)⟩⟩) (λq G=>⟨_,rfl,.inl G⟩);have B:=H2 hk;have A:=Az hk;dsimp only at A;obtain⟨H,e,x',c1,v⟩:=PG h F (L3.1 p B) (h.cl n hn i o g d hd I L1 p B);rw[c1,Ah];rcases v with⟨v,_⟩|⟨v,c3,c4⟩
    . rw[if_pos (by show e.n≠0;omega)];exact .inr ⟨_,rfl,v,by omega⟩
    . subst c3;rw[if_neg (by show¬e.n≠0;omega),if_neg (by simp)];exact .inl ⟨_,rfl,c4.low (by omega)⟩
theorem UR(a:TaskOk t)(d:-1<=b)(e:b<=1099511627776)(h:CertO t b N):Fj t.vars ⟨b,N⟩=some ⟨0⟩:=by
  have c:=h.len;have f:FD ⟨b,N⟩=some ⟨0⟩:=by
    unfold FD;dsimp only;rw[if_neg (by omega),if_neg (by omega),Ah,BT,if_neg (by omega),GF (λk n hk=>?_),Ah,Bw,GF (λk n hk=>?_)]
    . rfl
    . obtain⟨_,g1,g2,g3⟩:=(h.ng n (H2 hk)).1;rw[if_neg (by omega)];by_cases hb:0<=b
      . rw[if_pos hb,if_neg (by have:=g3 hb;omega),if_neg (by omega),Ah,BT]
      . rw[if_neg hb,if_pos (by omega),if_neg (by have:=g2 (by omega);omega),Ah,BT]
    . rw[UQ a.1 a.2.2.1 (h.ng n (H2 hk)).1.1,Ah,BA]
  unfold Fj;rw[f,Ah,if_neg (λh=>h rfl),GF (λk n hk=>?_)]
  . rfl
  . unfold Fg;rw[BI (h.ng n (H2 hk)).1.1,Ah,BA]
theorem US(d:TaskOk t)(F:ZW t.vars)(D:t.ops.length≤8)(A:-1≤b)(p:b≤1099511627776)(h:CertO t b N):∃e,GI t ⟨b,N⟩ 1048576=some e∧(e.n=0∨e.n=10∧60<N.length):=by
  have B:∃r,GS t ⟨b,N⟩ 1048576=some r/\(r.2.2.n=0\/r.2.2.n=10/\60<N.length):=by
    unfold GS Cz;rw[FH.2 d,Ah,if_neg (λh=>h rfl),UR d A p h,Ah,if_neg (λh=>h rfl),GF (λk n hk=>by
      rw[JY,(h.ng n (H2 hk)).2,Ah,BT]),Ah,Bw]
    have u:ChkS t b N 1048576 ⟨⟨t.vars,t.init,t.goal,t.ops⟩,⟨b,N⟩,max 0 (min 1048576 1048576)⟩:=⟨rfl,rfl,by show(1048576:Int)<=max 0 (min 1048576 1048576);decide,by show -1<=max (0:Int) (min 1048576 1048576);decide,by show max (0:Int) (min 1048576 1048576)<=1048576;decide⟩;have j:∃x,(if b≠0 then(bnd (CV ⟨⟨t.vars,t.init,t.goal,t.ops⟩,⟨b,N⟩,max 0 (min 1048576 1048576)⟩ t.goal 0) λq=>if q.2.1.n≠0 then some (.ret ((-1:Int),(-1:Int),(⟨q.2.1.n⟩:Err)))else if(!q.1)=true then some (.ret ((-1:Int),(-1:Int),(⟨13⟩:Err)))else some (.done q.2.2))else some (.done ⟨⟨t.vars,t.init,t.goal,t.ops⟩,⟨b,N⟩,max 0 (min 1048576 1048576)⟩):Option (Fin Chk (Int×Int×Err)))=some (.done x)/\ChkS t b N 1048575 x:=by
      by_cases l:b≠0
      . rw[if_pos l];obtain⟨K,e,x',c1,m⟩:=PG h u d.2.2.2.2.1 (h.gl l);rw[c1,Ah];rcases m with⟨_,m⟩|⟨m,c3,c4⟩
        . omega
        . subst c3;rw[if_neg (by show¬e.n≠0;omega),if_neg (by simp)];exact⟨_,rfl,c4⟩
      . rw[if_neg l];exact⟨_,rfl,u.low (by decide)⟩
    obtain⟨x,j,hx⟩:=j;dsimp only;rw[j,Ah,Bw];refine Cr (λk s=>ChkS t b N (1048575-k*8192) s) (λr=>r.2.2.n=10/\60<N.length) (hx.low (by omega)) (λk n s hk G=>?_) (λs hs=>⟨_,rfl,.inl rfl⟩) (λq C=>⟨_,rfl,.inr C⟩);have hn:=H2 hk;have H:=Az hk;have:∃c,(bnd (rng (ρ:=Ctl Chk (Int×Int×Err)) (λ(g:Nat)(E:Opr)(v:Chk)=>bnd (DH v n (g:Int)) λa=>if a.1.n≠0 then(some (.ret (.ret ((k:Int),(g:Int),(⟨a.1.n⟩:Err)))))else(some (.next a.2))) t.ops 0 s) λf=>fin f λ(w:Chk)=>some (.next w))=some c/\((∃z,c=Ctl.next z/\ChkS t b N (1048575-(k+1:Nat)*8192) z)\/∃q,c=.ret q/\q.2.2.n=10/\60<N.length):=by
      refine Cr (λi s=>ChkS t b N (1048575-k*8192-i*1024) s) (λc=>∃q,c=Ctl.ret q/\q.2.2.n=10/\60<N.length) (G.low (by omega)) (λi o z hi I=>?_) (λs hs=>⟨_,rfl,.inl ⟨_,rfl,hs.low (by omega)⟩⟩) (λq C=>⟨_,rfl,.inr C⟩);have J:=Az hi;obtain⟨⟨e,x'⟩,s1,y⟩:=WW d F p h I hn hi;rw[s1,Ah];dsimp only at y ⊢;rcases y with⟨y,s3⟩|⟨y,s3⟩
      . rw[if_pos (by omega)];exact .inr ⟨_,rfl,_,rfl,y,by omega⟩
      . rw[if_neg (by omega)];exact .inl ⟨_,rfl,s3.low (by omega)⟩
    obtain⟨c,c1,⟨z,rfl,m⟩|⟨q,rfl,m⟩⟩:=this
    . exact .inl ⟨_,c1,m⟩
    . exact .inr ⟨_,c1,m⟩
  obtain⟨r,r1,r2⟩:=B;unfold GI;rw[r1,Ah];exact⟨_,rfl,r2⟩
end
end
section
open Go Go.RowKit
attribute [local irreducible] ewp owp hwp hwq hws Ev Evg Fn X6 Y1 YZ YY
noncomputable def Ex(j:Swp)(k:List Fct):Option (List Fct) :=
  bnd (rng (ρ:=(List Fct)) (λ(l:Nat)(b:Fct)(f:(List Fct))=>bnd (atI j.vars b.var) λg=>bnd (atI j.vals b.var) λh=>bnd (atI h b.val) λi=>bnd (Y0 16 f [(⟨g,i⟩:Fct)]) λd=>some (.next d)) k 0 ([]:List Fct)) λc=>fin c λ(a:(List Fct))=>bnd (if a.length<4611686018427387904 then some (Bd a)else none) λe=>some e
theorem Hd{w:World}{A:Nat->Prop}(hA:∀k,A k->k<w.heap.size){d:Value}{e:Swp}(E:Vb w A d e){f:Value}{l:List Fct}(m:Vb w A f l){r:(List Fct)}(hm:Ex e l=some r) :
    Fn prog 63 [d,f] w λv w'=>Ext w w'/\Vb w' (upA A w w') v r:=by
 obtain⟨O,hB,q3⟩:=enter hA;obtain⟨Z,rfl,v4,v5,v6,rfl,h7,y1,d2⟩:=id E;obtain⟨G,c9,rfl⟩:=h7.form;obtain⟨H,f2,rfl⟩:=y1.form;obtain⟨I,h2,rfl⟩:=d2.form;obtain⟨J,j2,rfl⟩:=m.form;refine AC func63 rfl ntmps63 ?_;unfold Ex at hm;refine Ak (Am (EB 2 O rfl λz s3 K L b=>?_));refine zz ?_;have n:=Bo m.len;have t3:=rngNat n;obtain⟨a2,q0,hm⟩:=bs hm;replace hB:=hB.st L;refine Cp (X:=(Option Addr×Nat)) (l.length) q0 rfl n (λg c=>[(2,(.pointer (some ⟨z,0,none⟩))),(5,(.slice c.1 g.length c.2)),(8,(.slice J l.length j2))]) (λg c w'=>∃o:Lab,Bs w A w' o/\Lc 2 w' o z 29 [(.slice G e.vars.length c9),(.slice H e.vals.length f2),(.slice I e.ops.length h2)]/\Rw 5 w' o 67 (.slice c.1 g.length c.2) g) (none,0) ⟨K,hB,b,(Rw.nil 5 (by decide))⟩ A7 (λ_ _=>rfl) ?_ ?_
 ·rintro u3 v3 g c w3 m2 B ⟨M,hB,b,a⟩ a0 r0 s0;have C:=Y2 B n;refine Ak (Am ?_);obtain⟨x3,y3,o2,t0,u0,v0,rfl,z3,a4⟩:=(m.zs hA hB).elem' B;refine Bn (hA:=t0) (hj:=rfl) (hlt:=u0) rfl rfl (Bv (hl:=rfl) (hc:=v0) rfl ?_);refine BF 3 M λb4 c4 D p j=>?_;refine AO j rfl rfl rfl (Bi) (allOne) λd4 q j=>?_;refine o_z ?_;refine BR [(19,[5])] D ?_;refine AJ (fuel:=3) [] (Bc (Db 0 18)) rfl (AI rfl rfl (AL rfl rfl ?_));replace b:=(b.st p).st q;refine Bl (hc:=BD b 0 rfl) rfl rfl (AL rfl rfl (Bl (hc:=BD j 0 rfl) rfl rfl ?_));obtain⟨z0,p2,a0⟩:=bs a0;obtain⟨N,r2⟩:=BJ p2;replace hB:=(hB.st p).st q;obtain⟨e4,f4,s2,a1,b1,c1,d1,rfl,t2⟩:=(h7.zs hA hB).elem r2;refine CB (hA:=a1) (hj:=N) (hlt:=c1) rfl rfl rfl (Bl (hc:=Kd b1 d1) rfl rfl (AL rfl rfl (Bl (hc:=BD b 1 rfl) rfl rfl (AL rfl rfl (Bl (hc:=BD j 0 rfl) rfl rfl ?_)))));obtain⟨g4,u2,a0⟩:=bs a0;obtain⟨P,w2⟩:=BJ u2;obtain⟨h4,i4,x2,e1,f1,g1,h1,j4,rfl,n0⟩:=(y1.zs hA hB).elem w2;replace n0:=Vb.of_slice n0;obtain⟨k4,l4,rfl⟩:=n0.form;refine CB (hA:=e1) (hj:=P) (hlt:=g1) rfl rfl rfl (Bl (hc:=Kd f1 h1) rfl rfl (AL rfl rfl (Bl (hc:=BD j 1 rfl) rfl rfl ?_)));obtain⟨s,y2,a0⟩:=bs a0;obtain⟨Q,a3⟩:=BJ y2;obtain⟨m4,n4,b3,j1,k1,l1,m1,rfl,c3⟩:=n0.elem a3;refine CB (hA:=j1) (hj:=Q) (hlt:=l1) rfl rfl rfl (Bl (hc:=Kd k1 m1) rfl rfl (Fs rfl rfl rfl ?_));refine AB (AH (i:=18) rfl ?_);refine CC 4 D (xs:=([(⟨z0,s⟩:Fct)]:List Fct)) rfl rfl rfl ⟨(Vb.ofAgg (cs:=[(.int .i64 z0),(.int .i64 s)]) (x:=(⟨z0,s⟩:Fct)) rfl ⟨rfl,t2,c3⟩),trivial⟩ λo4 d3 e3 c0 R=>?_;have t:=lZ c0;refine BE [(19,[5])] t (AH (i:=19) rfl ?_);obtain⟨f3,u,a0⟩:=bs a0;obtain⟨u,o1,p1⟩:=BH u;replace a:=((a.st p).st q).st c0;refine CD rfl a (R.rd) rfl rfl o1 p1 λS T g3 h3 y l0=>?_;rw[<- u]at l0 ⊢;have t:=y.lst [5] (λ_ h=>by cases h;decide);refine BE [] t ?_;refine AJ (fuel:=0) [] [(20,true)] rfl (Eu rfl rfl (AB (Bh ?_)));obtain rfl:=sm a0;exact show Exists _ from⟨_,(S,T),rfl,A7,_,(hB.st c0).st y,(b.st c0).st y,l0⟩
 rintro i3 j3 ⟨k3,l3,rfl,m0,m3,hB,b,a⟩;replace hm:=AS hm;refine AM _ m0 ?_;refine zz ?_;obtain⟨n3,g0,hm⟩:=bs hm;obtain⟨U,g0⟩:=Hw g0;refine MR (Mf a U) rfl rfl λo3 V p3 W a=>?_;rw[g0]at a;refine zz ?_;obtain⟨Y,w1,a⟩:=a.freeze;obtain rfl:=sm hm;replace hB:=(hB.st W).st w1;exact YW rfl (AD rfl) ⟨hB.ext,(Vb.mono (F:=Fr 0 V Y) a hB.out)⟩
noncomputable def GJ(i:Swp)(j:Opr):Option Opr :=
  bnd (Ex i j.pre) λk=>bnd (some k:Option (List Fct)) λl=>bnd (rng (ρ:=Opr) (λ(n:Nat)(a:Eff)(m:(List Eff))=>bnd (atI i.vars a.var) λc=>bnd (atI i.vals a.var) λd=>bnd (atI d a.val) λe=>bnd (Ex i a.cond) λf=>bnd (Y0 40 m [(⟨f,c,e⟩:Eff)]) λg=>some (.next g)) j.effs 0 ([]:List Eff)) λb=>fin b λ(h:(List Eff))=>some (⟨(⟨#[]⟩:ByteArray),j.cost,l,h⟩:Opr)
section
attribute [local irreducible] Vb Lc Rw Ob
theorem OM{w:World}{A:Nat->Prop}(hA:∀k,A k->k<w.heap.size){b:Value}{h:Swp}(m:Vb w A b h){c:Value}{f:Opr}(n:Vb w A c f){r:Opr}(hm:GJ h f=some r) :
    Fn prog 65 [b,c] w λv w'=>Ext w w'/\Vb w' (upA A w w') v r:=by
 obtain⟨_,_,_⟩:=BS hA;apply Br m;intros;apply Br n;intros;refine AC func65 rfl ntmps65 ?_;unfold GJ at hm;refine Ak (Am (Dx 2 ?_));intros;refine Dx 3 ?_;intros;refine BC 4 ?_;intros;refine o_z (Ak ?_);obtain⟨u,l0,hm⟩:=bs hm;refine Cu (X:=Nat×(Option Addr×Nat)) hm [2,3,4] [] [5] [] (λ_ _ _ d t=>(5,pv d.1)::t) (λ_ _ e d t=>fV d.2 e :: .L 5 d.1 63 [.string (⟨#[]⟩:ByteArray),.int .i64 f.cost,sv d.2 e,.slice none 0 0]::t) ?_ ?_
 ·intro e c0;refine HL [] ?_;refine AJ (fuel:=4) [] (Bc (Db 0 5)) rfl (AL rfl rfl (CH rfl ?_));refine Nv rfl (AL rfl rfl ?_);refine CH rfl (AB ?_);refine Hx (i:=5) (j:=7) rfl rfl ?_ ?_
  ·refine q_S [] ?_;intros;refine Ew rfl (Hd Fr.lt zV zV l0) ?_;intros;refine BM [] ?_;refine AJ (fuel:=2) [] [(6,true)] rfl (Fs rfl rfl rfl ?_);refine AB (AH (i:=7) rfl (q_S [] ?_));intros;refine BC 5 ?_;intros;refine BM [] ?_;refine AH (i:=8) rfl (Bj ?_);intros;refine Cs (Bh ?_);obtain rfl:=sm c0;exact AP (_,(_,_))
  refine q_S [] ?_;intros;refine BC 5 ?_;intros;refine BM [] ?_;refine AH (i:=5) rfl (q_S [] ?_);intros;refine Ew rfl (Hd Fr.lt zV zV l0) ?_;intros;refine BM [] ?_;refine AJ (fuel:=1) [] [(6,true)] rfl (Fs rfl rfl rfl ?_);refine AB (AH (i:=8) rfl (Bj ?_));intros;refine Cs (Bh ?_);obtain rfl:=sm c0;exact AP (_,(_,_))
 intro e _ _ _ _ hm;intros;refine Ba ?_;refine zz ?_;refine Bt (AT rfl (Aw rfl (o_z ?_)));refine Cl (X:=(Option Addr×Nat)) hm [2,4,5,16] [] [5,6,8] [5] (λ_ _ _ _ t=>t) (λ_ o g l t=>fR 8 65 l g::uL (o 5) 5 63 [(3,sv l g)]::t) (_,_) ?_ ?_
 ·intro x z0 g _ _ _ _ a y _ z;intros;refine Ak (Am (CE ?_));intros;refine DP ?_;refine BC 6 ?_;intros;refine Bj ?_;intros;refine o_z (HL [(24,[8])] ?_);refine AJ (fuel:=6) [] (Bc [0,1,2,3,4,6,7,8,9,10,11,12,13,14,15,16,17,18,19,20,21]) rfl (AL rfl rfl (CH rfl ?_));refine Nv rfl (AL rfl rfl ?_);refine CH rfl (AL rfl rfl ?_);refine CH rfl (AL rfl rfl ?_);refine CH rfl ?_;obtain⟨p,q0,a⟩:=bs a;refine Ei rfl ?_;intros;refine Fz rfl (AL rfl rfl ?_);refine CH rfl (AL rfl rfl ?_);refine CH rfl ?_;obtain⟨B,s0,a⟩:=bs a;refine Ei rfl ?_;intros;refine Fz rfl (AL rfl rfl ?_);refine CH rfl ?_;obtain⟨q,t0,a⟩:=bs a;refine Ei rfl ?_;intros;refine Fz rfl (AB (AH (i:=5) rfl ?_));refine q_S [] ?_;intros;obtain⟨s,j0,a⟩:=bs a;refine Ew rfl (Hd Fr.lt zV zV j0) ?_;intros;refine BM [(24,[8])] ?_;refine AJ (fuel:=4) [] [(22,true)] rfl (Fs rfl rfl rfl ?_);refine AB (AH (i:=23) rfl (q_S [] ?_));intros;refine HK 7 ([(⟨s,p,q⟩:Eff)]:List Eff) ?_;intros;refine BM [(24,[8])] ?_;refine AH (i:=24) rfl (q_S [8] ?_);intros;obtain⟨C,k0,a⟩:=bs a;refine OC k0 ?_;intros;refine BM [] ?_;refine AJ (fuel:=1) [] [(25,true)] rfl (AL rfl rfl (AB (AH (i:=26) rfl (Bj ?_))));intros;refine Cs (Bh ?_);exact BX (_,_) a
 intro D _ _ _ _ hm;intros;refine Ba ?_;refine Ak (Am (Eh ?_));refine Bj ?_;intros;refine o_z (AV (FG 8 ?_));intros;obtain rfl:=sm hm;exact By
end
noncomputable def Gi(b:Tsk)(c:Swp):Option Bool :=
  bnd (bnd (GC b c) λg=>if g=true then bnd (CY c.ops (b.ops.length:Int)) λh=>if h=true then bnd (Ex c b.goal) λi=>bnd (Cd i b.goal) λj=>if j=true then some false else some true else some true else some true:Option Bool) λk=>if k=true then(some false)else(bnd (rng (ρ:=Bool) (λ(l:Nat)(m:Opr)(p:Unit)=>bnd (c.ops[l]?) λn=>bnd (atI b.ops n) λd=>bnd (GJ c m) λe=>bnd (GD e d) λf=>if f=true then some (.next ())else some (.ret false)) b.ops 0 ()) λa=>fin a λ(o:Unit)=>some true)
section
attribute [local irreducible] Vb Lc Rw Ob
theorem MH{w:World}{A:Nat->Prop}(hA:∀k,A k->k<w.heap.size){c:Value}{g:Tsk}(l:Vb w A c g){d:Value}{j:Swp}(m:Vb w A d j){r:Bool}(hm:Gi g j=some r) :
    Fn prog 25 [c,d] w λv w'=>Ext w w'/\Vb w' (upA A w w') v r:=by
 obtain⟨_,_,_⟩:=BS hA;apply Br l;intros;apply Br m;intros;refine AC func25 rfl ntmps25 ?_;unfold Gi at hm;refine Ak (Am (Dx 2 ?_));intros;refine Dx 3 ?_;intros;refine Ay rfl (o_z (Ak (Ak (Cu (X:=Unit) hm [2,3] [] [] [] (λ_ _ e _ t=>(29,.bool e)::t) (λ_ _ _ _ t=>t) ?_ ?_))))
 ·intro e a;refine HL [] ?_;refine AJ (fuel:=21) [] (Bc [0,1]) rfl (Nv rfl ?_);refine Nv rfl (AB (AH (i:=2) rfl ?_));refine q_S [] ?_;intros;obtain⟨n,l0,a⟩:=bs a;refine CJ rfl (OE (λ_ h=>h) zA zA l0) ?_;intros;cases n
  case false =>
   replace a:=iF a;refine BM [] ?_;refine AJ (fuel:=13) [] (Bc (Db 3 7)) rfl (Xs rfl rfl rfl (AI rfl rfl (Ci rfl rfl rfl (Ci rfl rfl rfl (Ci rfl rfl rfl (Ci rfl rfl rfl (Ci rfl rfl rfl (AB (AH (i:=10) rfl (q_S [] ?_))))))))));intros;refine AK rfl rfl (BM [] ?_);refine AJ (fuel:=4) [] (Bc [11,12,13,14,15,16,18,19]) rfl (Ci rfl rfl rfl (Dr rfl rfl rfl (AI rfl rfl (Ci rfl rfl rfl (Ci rfl rfl rfl (Ci rfl rfl rfl (Ci rfl rfl rfl (Ci rfl rfl rfl (AB (AH (i:=17) rfl (q_S [] ?_)))))))))));intros;refine AK rfl rfl (BM [] ?_);refine AH (i:=20) rfl (q_S [] ?_);intros;refine AK rfl rfl (BM [] ?_);refine AJ (fuel:=0) [] (Bc [21,22]) rfl (Ci rfl rfl rfl (Dr rfl rfl rfl (AB (Bh ?_))));obtain rfl:=sm a;exact AP ()
  replace a:=iT a;refine BM [] ?_;refine AJ (fuel:=13) [] (Bc (Db 3 7)) rfl (Vm rfl rfl rfl (AI rfl rfl (Au rfl (At rfl rfl (Cy rfl (Au rfl (At rfl rfl (Hy (Au rfl (At rfl rfl (Cy rfl (Au rfl (At rfl rfl ?_)))))))))))));refine Hy (Au rfl (At rfl rfl (Ln rfl (AB (AH (i:=10) rfl ?_)))));refine q_S [] ?_;intros;refine AA rfl rfl ?_;obtain⟨o,n0,a⟩:=bs a;refine CJ rfl (GW (λ_ h=>h) zA zI n0) ?_;intros;cases o
  case false =>
   replace a:=iF a;refine BM [] ?_;refine AJ (fuel:=4) [] (Bc [11,12,13,14,15,16,18,19]) rfl (Au rfl (At rfl rfl (PT rfl rfl (Dy rfl rfl rfl (AI rfl rfl (Ci rfl rfl rfl (Ci rfl rfl rfl (Ci rfl rfl rfl (Ci rfl rfl rfl (Ci rfl rfl rfl (AB (AH (i:=17) rfl (q_S [] ?_)))))))))))));intros;refine AK rfl rfl (BM [] ?_);refine AH (i:=20) rfl (q_S [] ?_);intros;refine AK rfl rfl (BM [] ?_);refine AJ (fuel:=0) [] (Bc [21,22]) rfl (Ci rfl rfl rfl (Dr rfl rfl rfl (AB (Bh ?_))));obtain rfl:=sm a;exact AP ()
  replace a:=iT a;refine BM [] ?_;refine AJ (fuel:=4) [] (Bc [11,12,13,14,15,16,18,19]) rfl (Au rfl (At rfl rfl (PS rfl rfl (Dy rfl rfl rfl (AI rfl rfl (Au rfl (At rfl rfl (YD (Au rfl (At rfl rfl (Cy rfl (Au rfl (At rfl rfl ?_)))))))))))));refine Hy (Au rfl (At rfl rfl (Cy rfl (Au rfl (At rfl rfl ?_)))));refine Hy (AB (AH (i:=17) rfl ?_));refine q_S [] ?_;intros;refine AA rfl rfl ?_;obtain⟨s,o0,a⟩:=bs a;refine Ew rfl (Hd Fr.lt zV zV o0) ?_;intros;refine BM [] ?_;refine AH (i:=20) rfl (q_S [] ?_);intros;refine AA rfl rfl ?_;obtain⟨p,q0,a⟩:=bs a;refine CJ rfl (EI (λ_ h=>h) zA zA q0) ?_;intros;cases p
  case false =>
   replace a:=iF a;refine BM [] ?_;refine AJ (fuel:=0) [] (Bc [21,22]) rfl (Au rfl (At rfl rfl (PT rfl rfl (Dy rfl rfl rfl (AB (Bh ?_))))));obtain rfl:=sm a;exact AP ()
  replace a:=iT a;refine BM [] ?_;refine AJ (fuel:=0) [] (Bc [21,22]) rfl (Au rfl (At rfl rfl (PS rfl rfl (Dy rfl rfl rfl (AB (Bh ?_))))));obtain rfl:=sm a;exact AP ()
 intro e _ _ _ _ hm;intros;refine Ba ?_;refine Bg rfl (λf=>?_) (λf=>?_)
 ·replace hm:=ip hm f;refine zz ?_;obtain rfl:=sm hm;exact By
 replace hm:=im' hm f;refine zz ?_;refine Bt (AT rfl (Aw rfl (o_z ?_)));refine Cl (X:=Unit) hm [2,3,31] [] [4] [] (λ_ _ _ _ t=>t) (λ_ _ _ _ t=>t) () ?_ ?_
 ·intro u z0 x _ _ _ _ b y _ c0;intros;refine zz ?_;refine CE ?_;intros;refine DP ?_;refine BC 4 ?_;intros;refine Ay rfl (Bj ?_);intros;refine o_z (Ak (HL [] ?_));refine AJ (fuel:=3) [] (Bc [0,1,3,4,5,6,7,8,9,10,11]) rfl (Nv rfl ?_);refine Nv rfl (AL rfl rfl ?_);refine CH rfl (AL rfl rfl ?_);refine CH rfl (AI rfl rfl ?_);obtain⟨z,c1,b⟩:=bs b;refine Kn rfl ?_;intros;refine Fz rfl ?_;obtain⟨B,t0,b⟩:=bs b;refine Ei rfl ?_;intros;refine Ry rfl (AB (AH (i:=2) rfl ?_));refine q_S [] ?_;intros;obtain⟨C,f0,b⟩:=bs b;refine Ew rfl (OM Fr.lt zV zV f0) ?_;intros;refine BM [] ?_;refine AH (i:=12) rfl (q_S [] ?_);intros;obtain⟨q,h0,b⟩:=bs b;refine CJ rfl (OG (λ_ h=>h) zA zA h0) ?_;intros;cases q
  case false =>
   replace b:=iF b;refine BM [] ?_;refine AJ (fuel:=0) [] [(13,true)] rfl (Xs rfl rfl rfl (AB (Bh (Aj rfl (Ak (Am (Ay rfl (o_z (AV ?_)))))))));obtain rfl:=sm b;obtain rfl:=c0 _ rfl;exact By
  replace b:=iT b;refine BM [] ?_;refine AJ (fuel:=0) [] [(13,true)] rfl (Vm rfl rfl rfl (AB (Bh (Ae rfl (Bf ?_)))));exact BX () b
 intro D _ _ _ _ hm;intros;refine Ba ?_;refine zz ?_;obtain rfl:=sm hm;exact By
end
noncomputable def Ed(d:Tsk)(e:Swp):Option Bool :=
  bnd (bnd (Cz d) λa=>if a.n=0 then(bnd (Gi d e) λb=>if b=true then some true else some false)else(some false):Option Bool) λc=>some c
section
attribute [local irreducible] Vb Lc Rw Ob
theorem KS{w:World}{A:Nat->Prop}(hA:∀k,A k->k<w.heap.size){b:Value}{e:Tsk}(g:Vb w A b e){c:Value}{f:Swp}(i:Vb w A c f){r:Bool}(hm:Ed e f=some r) :
    Fn prog 7 [b,c] w λv w'=>Ext w w'/\Vb w' (upA A w w') v r:=by
 obtain⟨_,_,_⟩:=BS hA;apply Br g;intros;apply Br i;intros;refine AC func7 rfl ntmps7 ?_;unfold Ed at hm;refine Ak (Am (Dx 2 ?_));intros;refine Dx 3 ?_;intros;refine Ay rfl (o_z (Ak (Cu (X:=Unit) hm [] [] [] [] (λ_ _ d _ t=>(4,.bool d)::t) (λ_ _ _ _ t=>t) ?_ ?_)))
 ·intro d a;refine Am (Eh ?_);obtain⟨l,f0,a⟩:=bs a;refine CJ rfl (FU (λ_ h=>h) zA f0) ?_;intros;refine Rf rfl rfl (λc0=>?_) λc0=>?_
  ·replace a:=ip a c0;refine zz ?_;refine Eh (AA rfl rfl ?_);refine Eh (AA rfl rfl ?_);obtain⟨j,h0,a⟩:=bs a;refine CJ rfl (MH (λ_ h=>h) zA zA h0) ?_;intros;cases j
   case false =>
    replace a:=iF a;refine zz ?_;obtain rfl:=sm a;exact AP ()
   replace a:=iT a;refine zz ?_;obtain rfl:=sm a;exact AP ()
  replace a:=im a c0;refine zz ?_;obtain rfl:=sm a;exact AP ()
 intro d _ _ _ _ hm;intros;refine Ba ?_;refine AV ?_;obtain rfl:=sm hm;exact By
end
noncomputable def CG(e:Tsk)(f:List Swp):Option Err :=
  bnd (Cz e) λb=>if b.n≠0 then(some (⟨b.n⟩:Err))else(bnd (rng (ρ:=Err) (λ(g:Nat)(c:Swp)(h:Unit)=>bnd (Gi e c) λd=>if d=true then some (.next ())else some (.ret (⟨2⟩:Err))) f 0 ()) λa=>fin a λ(i:Unit)=>some (⟨0⟩:Err))
section
attribute [local irreducible] Vb Lc Rw Ob
theorem He{w:World}{A:Nat->Prop}(hA:∀k,A k->k<w.heap.size){b:Value}{d:Tsk}(f:Vb w A b d){c:Value}{e:List Swp}(g:Vb w A c e){r:Err}(hm:CG d e=some r) :
    Fn prog 35 [b,c] w λv w'=>Ext w w'/\Vb w' (upA A w w') v r:=by
 obtain⟨_,_,_⟩:=BS hA;apply Br f;intros;apply Br g;intros;refine AC func35 rfl ntmps35 ?_;unfold CG at hm;refine Ak (Am (Dx 2 ?_));intros;refine zz ?_;refine Eh ?_;obtain⟨l,f0,hm⟩:=bs hm;refine CJ rfl (FU (λ_ h=>h) zA f0) ?_;intros;refine zz ?_;refine CU rfl (λc0=>?_) λc0=>?_
 ·replace hm:=ip hm c0;refine zz ?_;obtain rfl:=sm hm;exact By
 replace hm:=im hm c0;refine zz ?_;refine Cl (X:=Unit) hm [2,13] [] [3] [] (λ_ _ _ _ t=>t) (λ_ _ _ _ t=>t) () ?_ ?_
 ·intro m l0 n _ _ _ _ a o _ i;intros;refine Ak (Am (CE ?_));intros;refine DP ?_;refine BC 3 ?_;intros;refine Bj ?_;intros;refine zz ?_;refine Eh ?_;refine Eh ?_;obtain⟨j,i0,a⟩:=bs a;refine CJ rfl (MH (λ_ h=>h) zA zA i0) ?_;intros;cases j
  case false =>
   replace a:=iF a;refine zz ?_;refine EE rfl (Ay rfl (o_z (AV ?_)));obtain rfl:=sm a;obtain rfl:=i _ rfl;exact By
  replace a:=iT a;refine zz ?_;exact BX () a
 intro p _ _ _ _ hm;intros;refine Ba ?_;refine zz ?_;obtain rfl:=sm hm;exact By
end
noncomputable def FM(d:Tsk)(e:Swp)(f:List Int):Option ((List Int)×Err) :=
  bnd (CG d [e]) λa=>if a.n≠0 then(some (([]:List Int),(⟨a.n⟩:Err)))else(bnd (EN d.vars f) λb=>if b=true then bnd (FI e f) λc=>some (c,(⟨0⟩:Err))else some (([]:List Int),(⟨2⟩:Err)))
section
attribute [local irreducible] Vb Lc Rw Ob
theorem KT{w:World}{A:Nat->Prop}(hA:∀k,A k->k<w.heap.size){a:Value}{f:Tsk}(i:Vb w A a f){b:Value}{d:Swp}(c0:Vb w A b d){c:Value}{g:List Int}(j:Vb w A c g){r:(List Int)×Err}(hm:FM f d g=some r) :
    Fn prog 12 [a,b,c] w λv w'=>Ext w w'/\T2 w' (upA A w w') v r:=by
 obtain⟨_,_,_⟩:=BS hA;apply Br i;intros;apply Br c0;intros;apply Br j;intros;refine AC func12 rfl ntmps12 ?_;unfold FM at hm;refine Ak (Am (Dx 2 ?_));intros;refine Dx 3 ?_;intros;refine zz ?_;refine Eh ?_;refine Eh ?_;refine HK 4 ([d]:List Swp) ?_;intros;obtain⟨m,e0,hm⟩:=bs hm;refine CJ rfl (He (λ_ h=>h) zA zAr e0) ?_;intros;refine zz ?_;refine CU rfl (λe=>?_) λe=>?_
 ·replace hm:=ip hm e;refine zz ?_;obtain rfl:=sm hm;exact Hj
 replace hm:=im hm e;refine zz ?_;refine Bt (Aw rfl ?_);obtain⟨l,g0,hm⟩:=bs hm;refine CJ rfl (II (λ_ h=>h) zA zA g0) ?_;intros;cases l
 case false =>
  replace hm:=iF hm;refine zz ?_;refine EE rfl (Ay rfl (Ay rfl (o_z (AV ?_))));obtain rfl:=sm hm;exact Hj
 replace hm:=iT hm;refine zz ?_;refine Eh (Aw rfl ?_);obtain⟨n,h0,hm⟩:=bs hm;refine Ew rfl (OF Fr.lt zV zV h0) ?_;intros;refine zz ?_;obtain rfl:=sm hm;exact Hj
end
end
section
open Go Go.RowKit
def ZC(n:Nat):List Int:=(List.range n).map λi:Nat=>(i:Int)
theorem Mr{n:Nat}{x:Int}:x∈ZC n↔0<=x/\x<n:=by
  unfold ZC;rw[V8];constructor
  . rintro⟨i,hi,rfl⟩;have:=T4.1 hi;omega
  . rintro⟨a,h2⟩;exact⟨x.toNat,T4.2 (by omega),by omega⟩
theorem Ms(n:Nat):(ZC n).length=n:=by simp[ZC]
theorem Sg(n:Nat):(ZC n).Nodup:=by
  unfold ZC;rw[C0,N7];exact(C0.1 List.nodup_range).imp λh=>by omega
def PermR(l:List Int)(n:Nat):Prop:=l.Perm (ZC n)
theorem LQ:∀{l₁ l₂:List Int},l₁.Nodup->(∀x∈l₁,x∈l₂)->l₂.length<=l₁.length->l₁.Perm l₂
  |[],l₂,_,_,hl=>by
    have:l₂=[]:=B1 (by simpa using hl);rw[this]
  |x::l₁,l₂,hn,hs,hl=>by
    have a:=hs x L0;have c:=List.perm_cons_erase a;obtain⟨d,h2⟩:=List.nodup_cons.1 hn;refine(List.Perm.cons x (LQ h2 (λy b=>?_) ?_)).trans c.symm
    . have:y≠x:=λe=>d (e▸b);exact(List.mem_erase_of_ne this).2 (hs y (H1 _ b))
    . rw[List.length_erase_of_mem a];simp at hl;omega
theorem PermR.len{l:List Int}{n:Nat}(h:PermR l n):l.length=n:=by rw[h.length_eq,Ms]
theorem PermR.mem{l:List Int}{n:Nat}(h:PermR l n){x:Int}(a:x∈l):0<=x/\x<n:=Mr.1 (h.mem_iff.1 a)
theorem PermR.nodup{l:List Int}{n:Nat}(h:PermR l n):l.Nodup:=h.symm.nodup (Sg n)
theorem Sh{l:List Int}{n:Nat}(a:l.Nodup)(b:∀x∈l,0<=x/\x<n)(d:l.length=n):PermR l n:=LQ a (λx c=>Mr.2 (b x c)) (by rw[Ms];omega)
theorem LR{p q:Prop}(h:p↔q):some (bof p)=some (bof q):=by rw[Rm h]
theorem IJ{α:Type}{l:List α}{k:Nat}{x y:α}(h:l[k]?=some x):y∈l.take (k+1)↔y∈l.take k\/y=x:=by
  rw[M4,h,Q8];simp
theorem WX      {l:List Int} {n:Int} (hl:l.length≤1000000∨(l.length:Int)≠n):CY l n=some (bof ((l.length:Int)=n∧PermR l l.length)):=by
  unfold CY;by_cases hn:(l.length:Int)=n
  case neg=>rw[if_pos hn,Bb (λh=>hn h.1)]
  have A:l.length<=1000000:=hl.resolve_right λh=>h hn;subst hn;rw[if_neg (by simp),HT (by omega) (by omega),Ah]
  rcases IX (ρ:=Bool) (f:=λ(_:Nat)(c:Int)(m:(List Bool))=>bnd (if c<0 then(some true)else(if(l.length:Int)<=c then(some true)else(bnd (atI m c) λt=>some t)):Option Bool) λu=>if u=true then(some (.ret false))else(bnd (atI m c) λ_=>some (.next (m.set (c).toNat true)))) (xs:=l) (s₀:=List.replicate l.length false)
    (λk s=>s.length=l.length/\(∀j:Nat,j<l.length->s[j]?=some (bof ((j:Int)∈l.take k)))/\(l.take k).Nodup/\∀x∈l.take k,0<=x/\x<l.length) (λr=>r=false/\¬PermR l l.length)
    ⟨by simp, λj hj=>by rw[E6,if_pos hj,List.take_zero,Bb (List.not_mem_nil)],by simp,by simp⟩ (λk x s g B=>by
      obtain⟨C,i2,i3,i4⟩:=B;by_cases w:x<0
      . rw[if_pos w,Ah,BA];exact .inr ⟨_,rfl,rfl,λo=>by have:=o.mem (H2 g);omega⟩
      . rw[if_neg w];by_cases z:(l.length:Int)<=x
        . rw[if_pos z,Ah,BA];exact .inr ⟨_,rfl,rfl,λo=>by have:=o.mem (H2 g);omega⟩
        . rw[if_neg z];obtain⟨j,rfl⟩:=E3 (by omega:0<=x);rw[BG,i2 j (by omega),Ah,Ah];by_cases hm:(j:Int)∈l.take k
          . rw[BI hm,BA];refine .inr ⟨_,rfl,rfl,λo=>?_⟩;have d:=o.nodup;rw[<- F7 k l,N9]at d;have hd:(j:Int)∈l.drop k:=H2 (i:=0) (by rw[K6,U9];exact g);exact d.2.2 _ hm _ hd rfl
          . rw[Bb hm,BT,Ah];refine .inl ⟨_,rfl,by simpa using C,λq D=>?_,?_,λy v=>?_⟩
            . rw[show((j:Int)).toNat=j from by omega,N0];by_cases p:j=q
              . subst p;rw[if_pos rfl,if_pos (by omega),BI ((IJ g).2 (.inr rfl))]
              . rw[if_neg p,i2 q D];refine LR ⟨λh=>(IJ g).2 (.inl h),λh=>((IJ g).1 h).resolve_right (by omega)⟩
            . rw[M4,g];refine N9.2 ⟨i3,by simp,λa E b hb=>?_⟩;have:b=(j:Int):=(by simpa using hb);rw[this];exact λe=>hm (e▸E)
            . rcases(IJ g).1 v with v|rfl
              . exact i4 y v
              . omega)with⟨s,hr,_,_,d,hrg⟩|⟨r,hr,rfl,hno⟩
  . rw[hr,Ah,Bw];rw[Q3]at d hrg;rw[BI ⟨rfl,Sh d hrg rfl⟩]
  . rw[hr,Ah,Jk,Bb (λh=>hno h.2)]
end
section
open Go Go.RowKit
theorem NG{α:Type}{f:Nat->α->Unit->Option (Ctl Unit Bool)}{xs:List α}(P:Nat->Prop)(h:∀k x,xs[k]?=some x->f k x ()=if bof (P k)=true then some (.next ())else some (.ret false)) :
    (bnd (rng (ρ:=Bool) f xs 0 ()) λr=>fin r λ_=>some true)=some (bof (∀k,k<xs.length->P k)):=by
  rcases IX (f:=f) (xs:=xs) (s₀:=()) (λk _=>∀j,j<k->P j) (λr=>r=false/\¬∀k,k<xs.length->P k) (λj hj=>by omega) (λk x _ b c=>by
    rw[h k x b];by_cases a:P k
    . rw[BI a,BA];exact .inl ⟨_,rfl,DJ c a⟩
    . rw[Bb a,BT];exact .inr ⟨_,rfl,rfl,λd=>a (d k (Az b))⟩)with⟨_,hr,hc⟩|⟨r,hr,rfl,hno⟩
  . rw[hr,Ah,Bw,BI hc]
  . rw[hr,Ah,Jk,Bb hno]
theorem Sj{l:List Int}{n:Nat}(hn:n<=1000000):CY l (n:Int)=some (bof (PermR l n)):=by
  rw[WX (by omega)]
  exact LR ⟨λh=>by          have:l.length=n:=by omega
                            rw[<- this];exact h.2,λh=>⟨by rw[h.len],by rw[h.len];exact h⟩⟩
def X4(t:Tsk)(x:Swp):Prop:=PermR x.vars t.vars.length/\x.vals.length=t.vars.length/\∀(k:Nat),k<t.vars.length->∃(n:Nat) (a:Int) (l:List Int),t.vars[k]?=some (n:Int)/\x.vars[k]?=some a/\x.vals[k]?=some l/\atI t.vars a=some (n:Int)/\PermR l n
theorem VY{t:Tsk}{x:Swp}(g:TaskOk t):GC t x=some (bof (X4 t x)):=by
  obtain⟨hl,_,hv,_⟩:=g;unfold GC;rw[Sj (by omega),Ah];by_cases c:PermR x.vars t.vars.length
  case neg=>rw[Bb c,BT,Ah,BA,Bb (λh=>c h.1)]
  rw[BI c,BA];by_cases p:x.vals.length=t.vars.length
  case neg=>rw[if_pos (by omega),Ah,BA,Bb (λh=>p h.2.1)]
  rw[if_neg (by omega),Ah,BT]
  rw[NG  (λk=>∃(n:Nat) (a:Int) (l:List Int),t.vars[k]?=some (n:Int)/\x.vars[k]?=some a/\x.vals[k]?=some l/\atI t.vars a=some (n:Int)/\PermR l n) (λk y d=>by
    have hk:=Az d;obtain⟨a,ha⟩:=AG (l:=x.vars) (k:=k) (by rw[c.len];omega);obtain⟨l,hll⟩:=AG (l:=x.vals) (k:=k) (by omega);have r:=hv k y d;obtain⟨n,rfl⟩:=E3 (by omega:0<=y);obtain⟨i,ha2⟩:=c.mem (H2 ha);obtain⟨j,rfl⟩:=E3 i;obtain⟨m,hm⟩:=AG (l:=t.vars) (k:=j) (by omega);rw[ha,Ah,BG,hm,Ah];by_cases b:m=(n:Int)
    . rw[if_neg (by simpa using b),hll,Ah,Sj (by omega),Ah];by_cases e:PermR l n
      . rw[BI e,BA,Ah,BT,BI ⟨n,_,l,d,rfl,rfl,by rw[BG,hm,b],e⟩,BA]
      . rw[Bb e,BT,Ah,BA,Bb (λ⟨f,a',l',q1,q2,q3,q4,q5⟩=>by
          have q:(n:Int)=f:=(by rw[d]at q1;exact R1 q1);have o:l=l':=R1 q3;have s:n=f:=(by omega);subst o s;exact e q5),BT]
    . rw[if_pos b,Ah,BA,Bb (λ⟨f,a',l',q1,q2,q3,q4,q5⟩=>by
        have q:(n:Int)=f:=(by rw[d]at q1;exact R1 q1);have o:(j:Int)=a':=R1 q2;rw[<- o,BG,hm]at q4;exact b (by rw[q];exact R1 q4)),BT])]
  exact LR ⟨λh=>⟨c,p,h⟩,λh=>h.2.2⟩
theorem Lt(a b:List Fct):Cd a b=some (bof (a=b)):=by
  unfold Cd;by_cases hl:a.length=b.length
  case neg=>rw[if_pos (by omega),Bb (λh=>hl (by rw[h]))]
  rw[if_neg (by omega),NG (λk=>a[k]?=b[k]?) (λk y c=>by
    obtain⟨z,hz⟩:=AG (l:=b) (k:=k) (by have:=Az c;omega);rw[hz,Ah];by_cases h:y=z
    . rw[if_neg (by simp[h]),BI (by rw[c,h]),BA]
    . rw[if_pos (λd=>h (by cases y;cases z;simpa using d)),Bb (by rw[c];simpa using h),BT])]
  refine LR ⟨λh=>M5 λk=>?_,λh=>by rw[h];exact λ_ _=>rfl⟩;by_cases hk:k<a.length
  . exact h k hk
  . rw[F5 (by omega),F5 (by omega)]
theorem Acl(a b:Eff):FC a b=some (bof (a=b)):=by
  unfold FC;by_cases c:a.var=b.var
  case neg=>rw[if_neg c,Ah,Bb (λh=>c (by rw[h]))]
  by_cases d:a.val=b.val
  case neg=>rw[if_pos c,if_neg d,Ah,Bb (λh=>d (by rw[h]))]
  rw[if_pos c,if_pos d,Lt,Ah];by_cases e:a.cond=b.cond
  . rw[BI e,BA,Ah,BI (by cases a;cases b;simp_all)]
  . rw[Bb e,BT,Ah,Bb (λh=>e (by rw[h]))]
theorem TT(a b:List Eff):AU a b=some (bof (a=b)):=by
  unfold AU;by_cases hl:a.length=b.length
  case neg=>rw[if_pos (by omega),Bb (λh=>hl (by rw[h]))]
  rw[if_neg (by omega),NG (λk=>a[k]?=b[k]?) (λk y c=>by
    obtain⟨z,hz⟩:=AG (l:=b) (k:=k) (by have:=Az c;omega);rw[hz,Ah,Acl,Ah];by_cases h:y=z
    . rw[BI h,BA,BI (by rw[c,h]),BA]
    . rw[Bb h,BT,Bb (by rw[c];simpa using h),BT])]
  refine LR ⟨λh=>M5 λk=>?_,λh=>by rw[h];exact λ_ _=>rfl⟩;by_cases hk:k<a.length
  . exact h k hk
  . rw[F5 (by omega),F5 (by omega)]
theorem VZ(p q:Opr):GD p q=some (bof (p.cost=q.cost/\p.pre=q.pre/\p.effs=q.effs)):=by
  unfold GD;by_cases a:p.cost=q.cost
  case neg=>rw[if_neg a,Ah,Bb (λh=>a h.1)]
  rw[if_pos a,Lt,Ah];by_cases b:p.pre=q.pre
  case neg=>rw[Bb b,BT,Ah,Bb (λh=>b h.2.1)]
  rw[BI b,BA,TT,Ah];by_cases c:p.effs=q.effs
  . rw[BI c,BA,Ah,BI ⟨a,b,c⟩]
  . rw[Bb c,BT,Ah,Bb (λh=>c h.2.2)]
def imF(x:Swp)(f:Fct):Fct:=⟨(x.vars[f.var.toNat]?).getD 0,(((x.vals[f.var.toNat]?).getD [])[f.val.toNat]?).getD 0⟩
def imL(x:Swp)(a:List Fct):List Fct:=Bd (a.map (imF x))
def imE(x:Swp)(e:Eff):Eff:=⟨imL x e.cond,(imF x ⟨e.var,e.val⟩).var,(imF x ⟨e.var,e.val⟩).val⟩
def imO(x:Swp)(o:Opr):Opr:=⟨⟨#[]⟩,o.cost,imL x o.pre,o.effs.map (imE x)⟩
theorem Nc{t:Tsk}{x:Swp}{f:Fct}(b:X4 t x)(hf:YU t.vars f):∃l,atI x.vars f.var=some (imF x f).var/\atI x.vals f.var=some l/\atI l f.val=some (imF x f).val/\0<=(imF x f).var/\0<=(imF x f).val:=by
  obtain⟨c,h2,n,hn,h3⟩:=hf;obtain⟨g,fz⟩:=f;simp only at c h2 hn h3 ⊢;obtain⟨j,rfl⟩:=E3 c;obtain⟨i,rfl⟩:=E3 h2;rw[show((j:Int)).toNat=j from by omega]at hn;obtain⟨m,a,l,q1,q2,q3,q4,q5⟩:=b.2.2 j (Az hn);have e:(m:Int)=n:=(by rw[hn]at q1;exact(R1 q1).symm);obtain⟨z,hz⟩:=AG (l:=l) (k:=i) (by rw[q5.len];omega);have h:=b.1.mem (H2 q2);have d:=q5.mem (H2 hz);refine⟨l,?_,?_,?_,?_,?_⟩<;>simp[imF,BG,q2,q3,hz]<;>omega
end
section
open Go Go.RowKit
theorem Ds{vars:List Int}{f:List Fct}(h:FactsOk vars f):(∀x∈f,YU vars x)/\f.Pairwise λx y=>x.var<y.var:=by
  refine⟨λx b=>by obtain⟨i,hi⟩:=H3 b;exact h.1 i x hi,?_⟩;rw[C5];intro i j hi hj a;exact Ii h j i _ _ a (C9 hi) (C9 hj)
theorem QN{a b:List Fct}(c:a.Perm b)(d:a.Pairwise λx y=>x.var<y.var)(hb:b.Pairwise λx y=>x.var<y.var):a=b :=
  D7 (λx y _ _ e f=>by omega) d hb c
def VarsNe(f:List Fct):Prop:=f.Pairwise λx y=>x.var≠y.var
theorem VarsNe.perm{a b:List Fct}(c:a.Perm b)(h:VarsNe a):VarsNe b:=(c.pairwise_iff (λh e=>h e.symm)).1 h
theorem Mt{a:List Fct}(h:VarsNe a):(Bd a).Pairwise λx y=>x.var<y.var:=by
  have b:=SF a;have c:VarsNe (Bd a):=h.perm (EW a).symm;exact(b.and c).imp λ⟨p,q⟩=>by omega
theorem NH{t:Tsk}{x:Swp}{f g:Fct}(a:X4 t x)(hf:YU t.vars f)(c:YU t.vars g)(h:(imF x f).var=(imF x g).var):f.var=g.var:=by
  obtain⟨_,hf1,_⟩:=Nc a hf;obtain⟨_,hg1,_⟩:=Nc a c;obtain⟨i,hi,hi'⟩:=Jv hf1;obtain⟨j,hj,hj'⟩:=Jv hg1;rw[h,<- hj']at hi';have d:i<x.vars.length:=(by rw[hj']at hi';exact Az hi');have e:=Az hj';rw[C9 d,C9 e]at hi';have b:=(Q6 a.1.nodup).1 (R1 hi');rw[hi,hj,b]
theorem TU{t:Tsk}{x:Swp}{c:List Fct}(f:X4 t x)(hf:FactsOk t.vars c):VarsNe (c.map (imF x)):=by
  obtain⟨d,h2⟩:=Ds hf;unfold VarsNe;rw[N7];refine List.Pairwise.imp_of_mem (λ{a b} g hb h=>?_) h2;intro e;have:=NH f (d a g) (d b hb) e;omega
theorem Ht{t:Tsk}{b:List Fct}(a:TaskOk t)(hf:FactsOk t.vars b):b.length<=64:=by have:=GV hf;have:=a.1;omega
theorem map_take{α β:Type}{f:α->β}{l:List α}{k:Nat}{x:α}(h:l[k]?=some x):(l.take (k+1)).map f=(l.take k).map f++[f x]:=by
  rw[M4,h];simp
theorem Nd{t:Tsk}{x:Swp}{a:List Fct}(b:TaskOk t)(c:X4 t x)(hf:FactsOk t.vars a):Ex x a=some (imL x a):=by
  have hl:=Ht b hf;unfold Ex;rw[Gh (λk=>(a.take k).map (imF x)) (by simp) (λk f hk=>by
    obtain⟨l,h1,h2,h3,_⟩:=Nc c (hf.1 k f hk);have:=Az hk;rw[h1,Ah,h2,Ah,h3,Ah,Cg (by simp;omega) (by simp;omega),Ah,map_take hk]),Ah,Bw,Q3,if_pos (by simp;omega),Ah]
  rfl
theorem Wa{t:Tsk}{x:Swp}{o:Opr}(a:TaskOk t)(b:X4 t x)(c:Aau t.vars o):GJ x o=some (imO x o):=by
  obtain⟨_,_,hl,_,hpre,heff⟩:=c;unfold GJ;rw[Nd a b hpre,Ah,Ah,Gh (λk=>(o.effs.take k).map (imE x)) (by simp) (λk e hk=>by
    obtain⟨d,h2⟩:=heff k e hk;obtain⟨l,g1,g2,g3,_⟩:=Nc b h2;have:=Az hk;rw[show e.var=(⟨e.var,e.val⟩:Fct).var from rfl,g1,Ah,g2,Ah,show e.val=(⟨e.var,e.val⟩:Fct).val from rfl,g3,Ah,Nd a b d,Ah,Cg (by simp;omega) (by simp;omega),Ah,map_take hk];rfl),Ah,Bw,Q3]
  rfl
def ZM(t:Tsk)(x:Swp):Prop:=X4 t x/\PermR x.ops t.ops.length/\imL x t.goal=t.goal/\∀k,k<t.ops.length->∃(o p:Opr) (a:Int),t.ops[k]?=some o/\x.ops[k]?=some a/\atI t.ops a=some p/\o.cost=p.cost/\imL x o.pre=p.pre/\o.effs.map (imE x)=p.effs
theorem Rh{t:Tsk}{x:Swp}(b:TaskOk t):Gi t x=some (bof (ZM t x)):=by
  unfold Gi;rw[VY b,Ah];by_cases c:X4 t x
  case neg=>rw[Bb c,BT,Ah,BA,Bb (λh=>c h.1)]
  have i:=b.2.1;rw[BI c,BA,Sj (by omega),Ah];by_cases d:PermR x.ops t.ops.length
  case neg=>rw[Bb d,BT,Ah,BA,Bb (λh=>d h.2.1)]
  rw[BI d,BA,Nd b c b.2.2.2.2.1,Ah,Lt,Ah];by_cases f:imL x t.goal=t.goal
  case neg=>rw[Bb f,BT,Ah,BA,Bb (λh=>f h.2.2.1)]
  rw[BI f,BA,Ah,BT,NG (λk=>∃(o p:Opr) (a:Int),t.ops[k]?=some o/\x.ops[k]?=some a/\atI t.ops a=some p/\o.cost=p.cost/\imL x o.pre=p.pre/\o.effs.map (imE x)=p.effs) (λk o hk=>by
    have:=Az hk;obtain⟨a,ha⟩:=AG (l:=x.ops) (k:=k) (by rw[d.len];omega);obtain⟨g,ha2⟩:=d.mem (H2 ha);obtain⟨j,rfl⟩:=E3 g;obtain⟨p,hp⟩:=AG (l:=t.ops) (k:=j) (by omega);rw[ha,Ah,BG,hp,Ah,Wa b c (b.2.2.2.2.2 k o hk),Ah,VZ,Ah];have e:(∃(o p:Opr) (a:Int),t.ops[k]?=some o/\some (j:Int)=some a/\atI t.ops a=some p/\o.cost=p.cost/\imL x o.pre=p.pre/\o.effs.map (imE x)=p.effs)↔((imO x o).cost=p.cost/\(imO x o).pre=p.pre/\(imO x o).effs=p.effs):=by
      constructor
      . rintro⟨o',p',a',q1,q2,q3,q4⟩;obtain rfl:o=o':=(by rw[hk]at q1;exact R1 q1);obtain rfl:=R1 q2;rw[BG,hp]at q3;obtain rfl:=R1 q3;exact q4
      . intro h;exact⟨o,p,j,hk,rfl,by rw[BG,hp],h⟩
    rw[Rm e])]
  exact LR ⟨λh=>⟨c,d,f,h⟩,λh=>h.2.2.2⟩
theorem Sk{t:Tsk}{x:Swp}:Ed t x=some (bof (TaskOk t/\ZM t x)):=by
  unfold Ed Cz;rw[Ah];by_cases a:TaskOk t
  case neg=>rw[if_neg (λh=>a (FH.1 h)),Ah,Bb (λh=>a h.1)]
  rw[if_pos (FH.2 a),Rh a,Ah];by_cases h:ZM t x
  . rw[BI h,BA,Ah,BI ⟨a,h⟩]
  . rw[Bb h,BT,Ah,Bb (λb=>h b.2)]
end
section
open Go Go.RowKit
theorem Ab2{t:Tsk}{x:Swp}(a:TaskOk t):CG t [x]=some ⟨if bof (ZM t x)=true then 0 else 2⟩:=by
  unfold CG Cz;rw[Ah,if_neg (by rw[FH.2 a];simp)];by_cases h:ZM t x
  . rw[GF (λk y d=>by
      obtain rfl:y=x:=(by simpa using H2 d);rw[Rh a,Ah,BI h,BA]),Ah,Bw,BI h,BA]
  . have:rng (ρ:=Err) (λ(_:Nat)(b:Swp)(_:Unit)=>bnd (Gi t b) λc=>if c=true then some (.next ())else some (.ret (⟨2⟩:Err))) [x] 0 ()=some (.ret ⟨2⟩):=by
      simp only[rng];rw[Rh a,Ah,Bb h,BT]
    rw[this,Ah,Jk,Bb h,BT]
def ImS(x:Swp)(s r:List Int):Prop:=r.length=s.length/\∀(k:Nat) v,s[k]?=some v->∃(a:Nat) (l:List Int) (z:Int),x.vars[k]?=some (a:Int)/\x.vals[k]?=some l/\atI l v=some z/\r[a]?=some z
theorem ON{t:Tsk}{x:Swp}{s:List Int}(i:TaskOk t)(m:X4 t x)(hs:StateOk t.vars s):∃r,FI x s=some r/\ImS x s r:=by
  obtain⟨D,hsv⟩:=hs;have hl:=i.1;unfold FI;rw[HT (by omega) (by omega),Ah];obtain⟨r,o,h2,h3⟩:=HE (ρ:=List Int) (f:=λ(c:Nat)(p:Int)(d:(List Int))=>bnd (x.vars[c]?) λg=>bnd (x.vals[c]?) λq=>bnd (atI q p) λw=>bnd (atI d g) λ_=>some (.next (d.set (g).toNat w))) (xs:=s) (s₀:=List.replicate s.length 0)
    (λk r=>r.length=s.length/\∀(j:Nat) v,j<k->s[j]?=some v->∃(a:Nat) (l:List Int) (z:Int),x.vars[j]?=some (a:Int)/\x.vals[j]?=some l/\atI l v=some z/\r[a]?=some z) ⟨by simp,λj v hj=>by omega⟩ (λk v r hk E=>by
    obtain⟨F,i2⟩:=E;have hlt:=Az hk;obtain⟨n,a,l,q1,q2,q3,q4,q5⟩:=m.2.2 k (by omega);obtain⟨A,ha2⟩:=m.1.mem (H2 q2);obtain⟨a,rfl⟩:=E3 A;obtain⟨o,h2⟩:=hsv k v n hk q1;obtain⟨u,rfl⟩:=E3 o;obtain⟨z,hz⟩:=AG (l:=l) (k:=u) (by rw[q5.len];omega);obtain⟨y,hy⟩:=AG (l:=r) (k:=a) (by omega);rw[q2,Ah,q3,Ah,BG,hz,Ah,BG,hy,Ah];refine⟨_,rfl,by simpa using F,λj G hj b=>?_⟩;rw[show((a:Int)).toNat=a from by omega];by_cases h:j=k
    . subst h;rw[hk]at b;obtain rfl:=R1 b;exact⟨a,l,z,q2,q3,by rw[BG,hz],by rw[F2 (by omega)]⟩
    . obtain⟨a',l',z',g1,g2,g3,g4⟩:=i2 j G (by omega) b;refine⟨a',l',z',g1,g2,g3,?_⟩;rw[H7 (λe=>h ?_),g4];have B:=Az g1;have C:=Az q2;rw[e]at q2;have:=g1.trans q2.symm;rw[C9 B,C9 C]at this;exact(Q6 m.1.nodup).1 (R1 this))
  exact⟨r,by rw[o,Ah,Bw],h2,λk v hk=>h3 k v (Az hk) hk⟩
theorem Sl{t:Tsk}{x:Swp}{s:List Int}(a:TaskOk t)(b:ZM t x)(hs:StateOk t.vars s){r:List Int}(hr:FI x s=some r):FM t x s=some (r,⟨0⟩):=by
  unfold FM EN;rw[Ab2 a,Ah,BI b,BA,if_neg (by simp),Ah,BI hs,BA,hr,Ah]
end
section
open Go Go.RowKit
theorem OO{l:List Int}{n:Nat}(h:PermR l n){k:Nat}(hk:k<n):∃a:Nat,l[k]?=some (a:Int)/\a<n:=by
  obtain⟨z,hz⟩:=AG (l:=l) (k:=k) (by rw[h.len];exact hk);obtain⟨b,h2⟩:=h.mem (H2 hz);obtain⟨a,rfl⟩:=E3 b;exact⟨a,hz,by omega⟩
theorem Hu{l:List Int}{n:Nat}(h:PermR l n){a:Nat}(b:a<n):∃k:Nat,k<n/\l[k]?=some (a:Int):=by
  have:(a:Int)∈l:=h.mem_iff.2 (Mr.2 ⟨by omega,by omega⟩);obtain⟨k,hk⟩:=H3 this;exact⟨k,by rw[<- h.len];exact Az hk,hk⟩
theorem Mu{l:List Int}{n:Nat}(h:PermR l n){i j:Nat}{a:Int}(hi:l[i]?=some a)(hj:l[j]?=some a):i=j:=by
  have b:=Az hi;have c:=Az hj;have:=hi.trans hj.symm;rw[C9 b,C9 c]at this;exact(Q6 h.nodup).1 (R1 this)
theorem UT{l:List Int}{n:Nat}(hl:l.length=n)(b:∀(k:Nat)(a:Int),l[k]?=some a->0<=a/\a<n)(c:∀(i j:Nat)(a:Int),l[i]?=some a->l[j]?=some a->i=j):PermR l n:=by
  refine Sh ?_ (λx d=>?_) hl
  . rw[C0,C5];intro i j hi hj f e;have:=c i j l[i] (C9 hi) (by rw[C9 hj,e]);omega
  . obtain⟨k,hk⟩:=H3 d;exact b k x hk
theorem Im{n k:Nat}(h:k<n):(ZC n)[k]?=some (k:Int):=by
  unfold ZC;rw[M9,K0 h];rfl
theorem Of(n:Nat):PermR (ZC n) n:=T5 _
theorem UU{l:List Int}{n:Nat}(hl:l.length=n)(h:∀k,k<n->l[k]?=some (k:Int)):l=ZC n:=M5 λk=>by
  by_cases hk:k<n
  . rw[h k hk,Im hk]
  . rw[F5 (by omega),F5 (by rw[Ms];omega)]
def Zf(a b:List Int):List Int:=a.map λk=>(b[k.toNat]?).getD 0
theorem Nf{a b:List Int}{n:Nat}(e:PermR a n)(hb:b.length=n){k i:Nat}{z:Int}(c:a[k]?=some (i:Int))(d:b[i]?=some z):(Zf a b)[k]?=some z:=by
  unfold Zf;rw[M9,c];simp[d]
noncomputable def ZS(l:List Int):List Int:=(DQ l).getD []
theorem JJ{l:List Int}{n:Nat}(d:PermR l n)(hn:n≤1000000):DQ l=some (ZS l)∧(ZS l).length=n∧∀i k:Nat,l[i]?=some (k:Int)→(ZS l)[k]?=some (i:Int):=by
  have hl:=d.len;have:∃s,DQ l=some s/\s.length=n/\∀i k:Nat,l[i]?=some (k:Int)->s[k]?=some (i:Int):=by
    unfold DQ;rw[HT (by omega) (by omega),Ah];obtain⟨s,h1,h2,h3⟩:=HE (ρ:=List Int) (f:=λ(g:Nat)(b:Int)(c:(List Int))=>bnd (atI c b) λ_=>some (.next (c.set (b).toNat (g:Int)))) (xs:=l) (s₀:=List.replicate l.length 0) (λk s=>s.length=n/\∀i j:Nat,i<k->l[i]?=some (j:Int)->s[j]?=some (i:Int)) ⟨by simpa using hl,λi j hi=>by omega⟩ (λk y s hk o=>by
      obtain⟨p,i2⟩:=o;have hlt:=Az hk;obtain⟨j,hj,hjn⟩:=OO d (k:=k) (by omega);obtain rfl:y=(j:Int):=(by rw[hj]at hk;exact(R1 hk).symm);obtain⟨u,hu⟩:=AG (l:=s) (k:=j) (by omega);rw[BG,hu,Ah];refine⟨_,rfl,by simpa using p,λi m hi a=>?_⟩;rw[show((j:Int)).toNat=j from by omega,N0];by_cases e:j=m
      . subst e;rw[if_pos rfl,if_pos (by omega),Mu d a hk]
      . rw[if_neg e];refine i2 i m ?_ a;have:i≠k:=λh=>e (by subst h;rw[a]at hk;have:=R1 hk;omega);omega)
    exact⟨s,by rw[h1,Ah,Bw],h2,λi k h=>h3 i k (Az h) h⟩
  obtain⟨s,h1,h2,h3⟩:=this;have e:ZS l=s:=(by unfold ZS;rw[h1];rfl);rw[e];exact⟨h1,h2,h3⟩
theorem Ng{l:List Int}{n:Nat}(c:PermR l n)(hn:n<=1000000):PermR (ZS l) n:=by
  obtain⟨_,h2,h3⟩:=JJ c hn;have b:∀(k:Nat)(z:Int),(ZS l)[k]?=some z->∃i:Nat,z=(i:Int)/\i<n/\l[i]?=some (k:Int):=λk z hz=>by
    obtain⟨i,hin,hi⟩:=Hu c (a:=k) (by rw[<- h2];exact Az hz);have:=h3 i k hi;rw[hz]at this;exact⟨i,R1 this,hin,hi⟩
  refine UT h2 (λk z hz=>?_) (λk j z d f=>?_)
  . obtain⟨i,rfl,hi,_⟩:=b k z hz;omega
  . obtain⟨i,rfl,_,hi⟩:=b k z d;obtain⟨g,e,_,hi'⟩:=b j _ f;obtain rfl:i=g:=(by omega);rw[hi]at hi';have:=R1 hi';omega
theorem Mv{l:List Int}{n:Nat}(b:PermR l n)(hn:n<=1000000):Zf l (ZS l)=ZC n:=by
  obtain⟨_,h2,h3⟩:=JJ b hn;refine UU (by simp[Zf,b.len]) λk hk=>?_;obtain⟨a,ha,_⟩:=OO b hk;exact Nf b h2 ha (h3 k a ha)
theorem PH{x:Swp}{v u a z:Nat}{l:List Int}(b:x.vars[v]?=some (a:Int))(c:x.vals[v]?=some l)(d:l[u]?=some (z:Int)):imF x ⟨v,u⟩=⟨a,z⟩:=by simp[imF,b,c,d]
theorem GU{t:Tsk}{x:Swp}{f:Fct}(b:TaskOk t)(d:X4 t x)(hf:YU t.vars f):∃(v u n a z:Nat) (l:List Int),f=⟨v,u⟩/\v<t.vars.length/\t.vars[v]?=some (n:Int)/\n<=64/\u<n/\x.vars[v]?=some (a:Int)/\x.vals[v]?=some l/\PermR l n/\l[u]?=some (z:Int)/\z<n/\a<t.vars.length/\t.vars[a]?=some (n:Int)/\imF x f=⟨a,z⟩:=by
  obtain⟨h,fu⟩:=f;obtain⟨g,h2,n,hn,h3⟩:=hf;simp only at g h2 hn h3;obtain⟨v,rfl⟩:=E3 g;obtain⟨u,rfl⟩:=E3 h2;rw[show((v:Int)).toNat=v from by omega]at hn;have hlt:=Az hn;obtain⟨m,a,l,q1,q2,q3,q4,q5⟩:=d.2.2 v hlt;have e:(m:Int)=n:=(by rw[hn]at q1;exact(R1 q1).symm);subst e;obtain⟨c,ha2⟩:=d.1.mem (H2 q2);obtain⟨a,rfl⟩:=E3 c;obtain⟨z,hz,hzn⟩:=OO q5 (k:=u) (by omega);have hm:=b.2.2.1 v m hn;rw[BG]at q4;exact⟨v,u,m,a,z,l,rfl,hlt,hn,by omega,by omega,q2,q3,q5,hz,hzn,by omega,q4,PH q2 q3 hz⟩
theorem Nh{t:Tsk}{x:Swp}{f:Fct}(b:TaskOk t)(c:X4 t x)(hf:YU t.vars f):YU t.vars (imF x f):=by
  obtain⟨v,u,n,a,z,l,rfl,_,_,_,_,_,_,_,_,hz,ha,hta,e⟩:=GU b c hf;rw[e];exact⟨by simp,by simp,n,by simpa using hta,by simpa using hz⟩
theorem Sm{t:Tsk}{x:Swp}{c:List Fct}(d:TaskOk t)(e:X4 t x)(hf:FactsOk t.vars c):(∀f∈imL x c,YU t.vars f)/\(imL x c).Pairwise λa b=>a.var<b.var:=by
  refine⟨λf h=>?_,Mt (TU e hf)⟩;have h:=(EW _).mem_iff.1 h;obtain⟨g,hg,rfl⟩:=V8.1 h;exact Nh d e ((Ds hf).1 g hg)
theorem UV{t:Tsk}{x:Swp}{c d:List Fct}(e:X4 t x)(hf:FactsOk t.vars c)(f:d.Pairwise λa b=>a.var<b.var)(h:d.Perm (c.map (imF x))):imL x c=d :=
  QN ((EW _).trans h.symm) (Mt (TU e hf)) f
theorem Sn{t:Tsk}{x y z:Swp}{a:List Fct}(b:TaskOk t)(i:X4 t x)(g:X4 t y)(hz:X4 t z)(hf:FactsOk t.vars a)(c:FactsOk t.vars (imL x a))(h:∀f,YU t.vars f->imF z f=imF y (imF x f)):imL z a=imL y (imL x a):=by
  refine UV hz hf (Sm b g c).2 ?_;refine(EW _).trans ?_;have e:a.map (imF z)=(a.map (imF x)).map (imF y):=by
    rw[List.map_map];exact K1 λf d=>h f ((Ds hf).1 f d)
  rw[e];exact(EW _).map _
theorem TV{vars:List Int}{f:List Fct}(b:∀x∈f,YU vars x)(c:f.Pairwise λx y=>x.var<y.var):FactsOk vars f:=by
  refine⟨λi x a=>b x (H2 a),λi x y a d=>?_⟩;obtain⟨hi,rfl⟩:=C1.1 a;obtain⟨hj,rfl⟩:=C1.1 d;exact C5.1 c i (i+1) hi hj (Q1 i)
theorem JZ{t:Tsk}{x:Swp}{b:List Fct}(a:TaskOk t)(c:X4 t x)(hf:FactsOk t.vars b):FactsOk t.vars (imL x b):=TV (Sm a c hf).1 (Sm a c hf).2
theorem So{t:Tsk}{x:Swp}{a:List Fct}(c:X4 t x)(hf:FactsOk t.vars a)(h:∀f,YU t.vars f->imF x f=f):imL x a=a:=by
  refine UV c hf (Ds hf).2 ?_;have:a.map (imF x)=a.map id:=K1 λf b=>h f ((Ds hf).1 f b);rw[this,List.map_id]
theorem Wb{t:Tsk}{x y z:Swp}{e:Eff}(a:TaskOk t)(b:X4 t x)(c:X4 t y)(hz:X4 t z)(he:ZT t.vars e)(h:∀f,YU t.vars f->imF z f=imF y (imF x f)):imE z e=imE y (imE x e):=by
  have d:=Sn a b c hz he.1 (JZ a b he.1) h;have g:=h ⟨e.var,e.val⟩ he.2;show(⟨imL z e.cond,(imF z ⟨e.var,e.val⟩).var,(imF z ⟨e.var,e.val⟩).val⟩:Eff)=⟨imL y (imL x e.cond),(imF y (imF x ⟨e.var,e.val⟩)).var,(imF y (imF x ⟨e.var,e.val⟩)).val⟩;rw[d,g]
theorem Wc{t:Tsk}{x:Swp}{e:Eff}(a:X4 t x)(he:ZT t.vars e)(h:∀f,YU t.vars f->imF x f=f):imE x e=e:=by
  show(⟨imL x e.cond,(imF x ⟨e.var,e.val⟩).var,(imF x ⟨e.var,e.val⟩).val⟩:Eff)=e;rw[So a he.1 h,h _ he.2]
theorem HF{vars:List Int}{o:Opr}(a:Aau vars o):∀e∈o.effs,ZT vars e:=λe he=>by
  obtain⟨j,hj⟩:=H3 he;exact a.2.2.2.2.2 j e hj
def idX(t:Tsk):Swp:=⟨ZC t.vars.length,t.vars.map λn=>ZC n.toNat,ZC t.ops.length⟩
theorem KA{t:Tsk}(a:TaskOk t):X4 t (idX t):=by
  refine⟨Of _,by simp[idX],λk hk=>?_⟩;obtain⟨n,hn⟩:=AG (l:=t.vars) (k:=k) hk;have:=a.2.2.1 k n hn;obtain⟨m,rfl⟩:=E3 (by omega:0<=n);exact⟨m,k,ZC m,hn,Im hk,by simp[idX,hn],by rw[BG,hn],Of _⟩
theorem NI{t:Tsk}(b:TaskOk t){f:Fct}(hf:YU t.vars f):imF (idX t) f=f:=by
  obtain⟨v,u,n,a,z,l,rfl,h1,h2,_,hu,h3,h4,_,h5,_,_,_,e⟩:=GU b (KA b) hf;have c:(idX t).vars[v]?=some (v:Int):=Im h1;have d:(idX t).vals[v]?=some (ZC n):=(by simp[idX,h2]);exact PH c d (Im hu)
def Zz(x y:Swp):Swp:=⟨Zf x.vars y.vars,x.vals.mapIdx λv l=>Zf l ((y.vals[((x.vars[v]?).getD 0).toNat]?).getD []),Zf x.ops y.ops⟩
theorem QO{x y:Swp}{v a:Nat}{l m:List Int}(b:x.vars[v]?=some (a:Int))(c:x.vals[v]?=some l)(d:y.vals[a]?=some m):(Zz x y).vals[v]?=some (Zf l m):=by
  simp[Zz,List.getElem?_mapIdx,b,c,d]
theorem IY{t:Tsk}{x:Swp}(c:ZM t x){k:Nat}(hk:k<t.ops.length):∃(o p:Opr) (a:Nat),t.ops[k]?=some o/\x.ops[k]?=some (a:Int)/\a<t.ops.length/\t.ops[a]?=some p/\o.cost=p.cost/\imL x o.pre=p.pre/\o.effs.map (imE x)=p.effs:=by
  obtain⟨o,p,a,h1,h2,h3,h4⟩:=c.2.2.2 k hk;obtain⟨b,ha2⟩:=c.2.1.mem (H2 h2);obtain⟨a,rfl⟩:=E3 b;rw[BG]at h3;exact⟨o,p,a,h1,h2,by omega,h3,h4⟩
noncomputable def Zj(x:Swp):Swp:=⟨ZS x.vars,(List.range x.vals.length).map λw=>ZS ((x.vals[(((ZS x.vars)[w]?).getD 0).toNat]?).getD []),ZS x.ops⟩
theorem OP{t:Tsk}{x:Swp}(b:TaskOk t)(c:X4 t x){v a:Nat}{l:List Int}(d:x.vars[v]?=some (a:Int))(e:x.vals[v]?=some l):(Zj x).vals[a]?=some (ZS l):=by
  obtain⟨_,h4,h5⟩:=JJ c.1 (by have:=b.1;omega);have:=c.1.mem (H2 d);have f:=h5 v a d;show((List.range x.vals.length).map _)[a]?=_;rw[M9,K0 (by rw[c.2.1];omega)];simp[f,e]
theorem OQ{t:Tsk}{x:Swp}(b:TaskOk t)(c:X4 t x):X4 t (Zj x):=by
  have hl:t.vars.length<=1000000:=(by have:=b.1;omega);refine⟨Ng c.1 hl,by simp[Zj,c.2.1],λk hk=>?_⟩;obtain⟨v,hv,hvk⟩:=Hu c.1 hk;obtain⟨n,a,l,q1,q2,q3,q4,q5⟩:=c.2.2 v hv;obtain rfl:a=(k:Int):=(by rw[hvk]at q2;exact(R1 q2).symm);rw[BG]at q4;have hn:=b.2.2.1 v n q1;obtain⟨_,h4,h5⟩:=JJ c.1 hl;exact⟨n,v,ZS l,q4,h5 v k hvk,OP b c hvk q3,by rw[BG,q1],Ng q5 (by omega)⟩
theorem Sp{t:Tsk}{x:Swp}(b:TaskOk t)(c:X4 t x){f:Fct}(hf:YU t.vars f):imF (Zj x) (imF x f)=f:=by
  obtain⟨v,u,n,a,z,l,rfl,h1,h2,h3,hu,h4,h5,h6,h7,h8,h9,h10,e⟩:=GU b c hf;rw[e];have hl:t.vars.length<=1000000:=(by have:=b.1;omega);exact PH ((JJ c.1 hl).2.2 v a h4) (OP b c h4 h5) ((JJ h6 (by omega)).2.2 u z h7)
theorem Sr{t:Tsk}{x:Swp}(a:TaskOk t)(b:X4 t x){c:List Fct}(hf:FactsOk t.vars c):imL (Zj x) (imL x c)=c:=by
  rw[<- Sn a b (OQ a b) (KA a) hf (JZ a b hf) (λf hf=>by rw[Sp a b hf,NI a hf])];exact So (KA a) hf λf=>NI a
theorem WY{t:Tsk}{x:Swp}(a:TaskOk t)(b:X4 t x){e:Eff}(he:ZT t.vars e):imE (Zj x) (imE x e)=e:=by
  rw[<- Wb a b (OQ a b) (KA a) he (λf hf=>by rw[Sp a b hf,NI a hf])];exact Wc (KA a) he λf=>NI a
theorem Tu{t:Tsk}{x:Swp}(b:TaskOk t)(c:ZM t x):ZM t (Zj x):=by
  have hl:t.ops.length<=1000000:=(by have:=b.2.1;omega);refine⟨OQ b c.1,Ng c.2.1 hl,?_,λk hk=>?_⟩
  . have:=Sr b c.1 b.2.2.2.2.1;rwa[c.2.2.1]at this
  . obtain⟨j,hj,hjk⟩:=Hu c.2.1 hk;obtain⟨o,p,a,h1,h2,ha,h3,h4,h5,h6⟩:=IY c hj;obtain rfl:a=k:=(by rw[hjk]at h2;have:=R1 h2;omega);have d:=b.2.2.2.2.2 j o h1;refine⟨p,o,j,h3,(JJ c.2.1 hl).2.2 j a hjk,by rw[BG,h1],h4.symm,by rw[<- h5,Sr b c.1 d.2.2.2.2.1],?_⟩;rw[<- h6,List.map_map];have:o.effs.map (imE (Zj x) ∘ imE x)=o.effs.map id:=K1 λe he=>WY b c.1 (HF d e he);rw[this,List.map_id]
theorem Wd{t:Tsk}{x:Swp}(b:TaskOk t)(c:ZM t x):Zz x (Zj x)=idX t:=by
  have hl:t.vars.length<=1000000:=(by have:=b.1;omega);have d:t.ops.length<=1000000:=(by have:=b.2.1;omega);have f:(Zz x (Zj x)).vars=(idX t).vars:=Mv c.1.1 hl;have g:(Zz x (Zj x)).ops=(idX t).ops:=Mv c.2.1 d;have i:(Zz x (Zj x)).vals=(idX t).vals:=M5 λk=>by
    by_cases hk:k<t.vars.length
    . obtain⟨n,a,l,q1,q2,q3,q4,q5⟩:=c.1.2.2 k hk;obtain⟨e,ha2⟩:=c.1.1.mem (H2 q2);obtain⟨a,rfl⟩:=E3 e;have hn:=b.2.2.1 k n q1;rw[QO q2 q3 (OP b c.1 q2 q3),Mv q5 (by omega)];simp[idX,q1]
    . rw[F5 (by simp[Zz,c.1.2.1];omega),F5 (by simp[idX];omega)]
  cases h:Zz x (Zj x);rw[h]at f g i;cases j:idX t;rw[j]at f g i;simp_all
theorem We{t:Tsk}{x:Swp}{s r r':List Int}(d:X4 t x)(hs:s.length=t.vars.length)(h:ImS x s r)(c:ImS x s r'):r=r':=M5 λa=>by
  by_cases e:a<t.vars.length
  . obtain⟨v,hv,hva⟩:=Hu d.1 e;obtain⟨u,hu⟩:=AG (l:=s) (k:=v) (by omega);obtain⟨b,l,z,q1,q2,q3,q4⟩:=h.2 v u hu;obtain⟨f,l',z',p1,p2,p3,p4⟩:=c.2 v u hu;obtain rfl:b=a:=(by rw[hva]at q1;have:=R1 q1;omega);obtain rfl:f=b:=(by rw[hva]at p1;have:=R1 p1;omega);obtain rfl:l=l':=(by rw[q2]at p2;exact R1 p2);rw[q4,p4];rw[q3]at p3;exact p3
  . rw[F5 (by rw[h.1];omega),F5 (by rw[c.1];omega)]
theorem Ni{t:Tsk}{x:Swp}{s r:List Int}(c:X4 t x)(hs:StateOk t.vars s)(h:ImS x s r):StateOk t.vars r:=by
  refine⟨h.1.trans hs.1,λa z n hz hn=>?_⟩;obtain⟨v,hv,hva⟩:=Hu c.1 (Az hn);obtain⟨u,hu⟩:=AG (l:=s) (k:=v) (by rw[hs.1];exact hv);obtain⟨b,l,z',q1,q2,q3,q4⟩:=h.2 v u hu;obtain rfl:b=a:=(by rw[hva]at q1;have:=R1 q1;omega);obtain⟨m,b',l',p1,p2,p3,p4,p5⟩:=c.2.2 v hv;obtain rfl:b'=(b:Int):=(by rw[hva]at p2;exact(R1 p2).symm);obtain rfl:l=l':=(by rw[q2]at p3;exact R1 p3);rw[BG,hn]at p4;rw[q4]at hz;obtain rfl:=R1 hz;obtain⟨j,_,hj⟩:=Jv q3;have:=p5.mem (H2 hj);have:=R1 p4;omega
theorem Wf{t:Tsk}{x y:Swp}{s a b:List Int}(f:X4 t x)(o:X4 t y)(hs:StateOk t.vars s)(p:ImS x s a)(hb:ImS y a b):ImS (Zz x y) s b:=by
  refine⟨hb.1.trans p.1,λk v hk=>?_⟩;obtain⟨i,l,z,q1,q2,q3,q4⟩:=p.2 k v hk;obtain⟨j,m,z',p1,p2,p3,p4⟩:=hb.2 i z q4;obtain⟨c,rfl,hc⟩:=Jv q3;obtain⟨d,rfl,hd⟩:=Jv p3;have g:k<t.vars.length:=(by rw[<- hs.1];exact Az hk);obtain⟨n,a',l',u1,u2,u3,u4,u5⟩:=f.2.2 k g;obtain rfl:l=l':=(by rw[q2]at u3;exact R1 u3);obtain rfl:a'=(i:Int):=(by rw[q1]at u2;exact(R1 u2).symm);have h:i<t.vars.length:=(by have:=f.1.mem (H2 q1);omega);obtain⟨q,b',m',w1,w2,w3,w4,w5⟩:=o.2.2 i h;obtain rfl:m=m':=(by rw[p2]at w3;exact R1 w3);rw[BG]at u4;have e:n=q:=(by rw[u4]at w1;have:=R1 w1;omega);subst e;exact⟨j,Zf l m,z',Nf f.1 o.1.len q1 p1,QO q1 q2 p2,by rw[BG,Nf u5 w5.len hc hd],p4⟩
theorem XV{t:Tsk}{s:List Int}(b:TaskOk t)(hs:StateOk t.vars s):ImS (idX t) s s:=by
  refine⟨rfl,λk v hk=>?_⟩;have a:k<t.vars.length:=(by rw[<- hs.1];exact Az hk);obtain⟨n,hn⟩:=AG (l:=t.vars) (k:=k) a;obtain⟨c,h2⟩:=hs.2 k v n hk hn;obtain⟨v,rfl⟩:=E3 c;obtain⟨n,rfl⟩:=E3 (by omega:0<=n);exact⟨k,ZC n,v,Im a,by simp[idX,hn],by rw[BG,Im (by omega)],hk⟩
end
section
open Go Go.RowKit
theorem Ss{s:List Int}{v u:Nat}:hasB s ⟨v,u⟩=true↔s[v]?=some (u:Int):=by
  unfold hasB;simp
theorem PI{t:Tsk}{x:Swp}{f:Fct}{s a:List Int}(c:TaskOk t)(d:X4 t x)(hf:YU t.vars f)(hs:StateOk t.vars s)(g:ImS x s a):hasB a (imF x f)=hasB s f:=by
  obtain⟨v,u,n,b,z,l,rfl,h1,h2,h3,hu,h4,h5,h6,h7,h8,h9,h10,e⟩:=GU c d hf;rw[e,S5,Ss,Ss];obtain⟨y,hy⟩:=AG (l:=s) (k:=v) (by rw[hs.1];exact h1);obtain⟨h,l',z',q1,q2,q3,q4⟩:=g.2 v y hy;obtain rfl:b=h:=(by rw[h4]at q1;have:=R1 q1;omega);obtain rfl:l=l':=(by rw[h5]at q2;exact R1 q2);obtain⟨y,rfl,hy2⟩:=Jv q3;rw[q4,hy];constructor
  . intro hz;rw[R1 hz]at hy2;rw[Mu h6 hy2 h7]
  . intro hz;have:y=u:=(by have:=R1 hz;omega);subst this;rw[h7]at hy2;exact hy2.symm
theorem Mw{t:Tsk}{x:Swp}{d:List Fct}{s a:List Int}(c:TaskOk t)(e:X4 t x)(hf:FactsOk t.vars d)(hs:StateOk t.vars s)(i:ImS x s a):YV (imL x d) a=YV d s:=by
  unfold YV imL;rw[S5,P7,P7];constructor
  . intro h f b;rw[<- PI c e ((Ds hf).1 f b) hs i];exact h _ ((EW _).mem_iff.2 (V8.2 ⟨f,b,rfl⟩))
  . intro h g j;obtain⟨f,b,rfl⟩:=V8.1 ((EW _).mem_iff.1 j);rw[PI c e ((Ds hf).1 f b) hs i];exact h f b
theorem WZ{t:Tsk}{x:Swp}{f:Fct}{u b:List Int}(d:TaskOk t)(g:X4 t x)(hf:YU t.vars f)(hu:u.length=t.vars.length)(hb:ImS x u b):ImS x (u.set f.var.toNat f.val) (b.set (imF x f).var.toNat (imF x f).val):=by
  obtain⟨v,y,n,c,z,l,rfl,h1,h2,h3,hy,h4,h5,h6,h7,h8,h9,h10,e⟩:=GU d g hf;rw[e];simp only[N1];refine⟨by simp[hb.1],λk w hk=>?_⟩;rw[N0]at hk;by_cases a:v=k
  . subst a;rw[if_pos rfl,if_pos (by omega)]at hk;obtain rfl:=R1 hk;exact⟨c,l,z,h4,h5,by rw[BG,h7],by rw[F2 (by rw[hb.1];omega)]⟩
  . rw[if_neg a]at hk;obtain⟨h,l',z',q1,q2,q3,q4⟩:=hb.2 k w hk;refine⟨h,l',z',q1,q2,q3,?_⟩;rw[H7 (λi=>a ?_),q4];subst i;exact Mu g.1 h4 q1
theorem OR{t:Tsk}{x:Swp}{s a:List Int}(c:TaskOk t)(d:X4 t x)(hs:StateOk t.vars s)(g:ImS x s a):∀(l:List Eff),(∀e∈l,ZT t.vars e)->∀(u b:List Int),u.length=t.vars.length->ImS x u b->ImS x (effsOn s l u) (effsOn a (l.map (imE x)) b)
  |[],_,_,_,_,hb=>hb
  |e::l,he,u,b,hu,hb=>by
    obtain⟨j,h2⟩:=he e L0;rw[T7];unfold effsOn;have hc:YV (imE x e).cond a=YV e.cond s:=Mw c d j hs g;rw[hc];by_cases f:YV e.cond s=true
    . rw[if_pos f,if_pos f];exact OR c d hs g l (λh i=>he h (H1 _ i)) _ _ (by simp[hu]) (WZ c d h2 hu hb)
    . rw[if_neg f,if_neg f];exact OR c d hs g l (λh i=>he h (H1 _ i)) _ _ hu hb
theorem Xa{t:Tsk}{x:Swp}{s a:List Int}{k b:Nat}{o p:Opr}(c:TaskOk t)(e:ZM t x)(hs:StateOk t.vars s)(f:ImS x s a)(g:t.ops[k]?=some o)(hk:x.ops[k]?=some (b:Int))(hb:t.ops[b]?=some p) :
    YV p.pre a=YV o.pre s/\ImS x (succ o s) (succ p a)/\p.cost=o.cost:=by
  obtain⟨o',p',b',h1,h2,_,h3,h4,h5,h6⟩:=IY e (Az g);obtain rfl:o=o':=(by rw[g]at h1;exact R1 h1);obtain rfl:b=b':=(by rw[hk]at h2;have:=R1 h2;omega);obtain rfl:p=p':=(by rw[hb]at h3;exact R1 h3);have d:=c.2.2.2.2.2 k o g;refine⟨by rw[<- h5];exact Mw c e.1 d.2.2.2.2.1 hs f,?_,h4.symm⟩;unfold succ;rw[<- h6];exact OR c e.1 hs f o.effs (HF d) s a hs.1 f
theorem Tv{t:Tsk}{x:Swp}(c:TaskOk t)(d:ZM t x){s:List Int}{C:Int}(g:Walk t s C):∀{a:List Int},StateOk t.vars s->ImS x s a->Walk t a C:=by
  induction g with
  |goal h =>
    intro a hs e;refine .goal ?_;have:=Mw c d.1 c.2.2.2.2.1 hs e;rw[d.2.2.1]at this;rw[this];exact h
  |@step s k o C f i g j =>
    intro a hs e;obtain⟨o',p,b,h1,h2,hb,h3,_⟩:=IY d (Az f);obtain⟨l,g2,g3⟩:=Xa c d hs e f h2 h3;have:=j (NE c hs f) g2;rw[<- g3];exact .step h3 (by rw[l];exact i) this
theorem Wg{t:Tsk}{x:Swp}{s a:List Int}(b:TaskOk t)(c:ZM t x)(hs:StateOk t.vars s)(d:ImS x s a):ImS (Zj x) a s:=by
  have hi:=Tu b c;obtain⟨r,_,hr⟩:=ON b hi.1 (Ni c.1 hs d);have:=Wf c.1 hi.1 hs d hr;rw[Wd b c]at this;rwa[We (KA b) hs.1 this (XV b hs)]at hr
theorem Xb{t:Tsk}{x:Swp}{d:List Int}{s a:List Int}{i j:Nat}{c f:Int}(b:TaskOk t)(e:ZM t x)(hd:AbW t d)(hs:StateOk t.vars s)(g:ImS x s a)(hi:(statesL t.vars)[i]?=some s)(hj:(statesL t.vars)[j]?=some a)(h:d[i]?=some c)(k:d[j]?=some f):c=f:=by
  obtain⟨u,u1,u2,u3,u4,_⟩:=hd.1.2 i s hi;obtain rfl:u=c:=(by rw[h]at u1;exact(R1 u1).symm);obtain⟨w,w1,w2,w3,w4,_⟩:=hd.1.2 j a hj;obtain rfl:w=f:=(by rw[k]at w1;exact(R1 w1).symm);have l:w<=u:=by
    by_cases hu:u<Inf
    . exact hd.2 j a w u hj k (Tv b e (u4 hu) hs g)
    . omega
  have m:u<=w:=by
    by_cases n:w<Inf
    . exact hd.2 i s u w hi h (Tv b (Tu b e) (w4 n) (Ni e.1 hs g) (Wg b e hs g))
    . omega
  omega
end
section
open Go Go.RowKit
section
variable {t:Tsk}{x:Swp}
theorem Hm{a:List Fct}{g:Fct}:g∈imL x a↔∃f∈a,imF x f=g:=(EW _).mem_iff.trans V8
theorem Su{f g:Fct}(h:f.var=g.var):(imF x f).var=(imF x g).var:=by unfold imF;dsimp only;rw[h]
theorem NJ(b:TaskOk t)(c:X4 t x){f g:Fct}(hf:YU t.vars f)(d:YU t.vars g)(h:imF x f=imF x g):f=g:=by
  have hv:=NH c hf d (by rw[h]);obtain⟨v,u,n,a,z,l,rfl,h1,h2,h3,hu,h4,h5,h6,h7,h8,h9,h10,e⟩:=GU b c hf;obtain⟨i,u',n',a',z',l',rfl,q1,q2,q3,qu,q4,q5,q6,q7,q8,q9,q10,e'⟩:=GU b c d;obtain rfl:v=i:=Int.ofNat.inj hv;rw[h5]at q5;obtain rfl:=R1 q5;rw[e,e']at h;have:z=z':=(by have:=congrArg Fct.val h;dsimp only at this;omega);subst this;rw[Mu h6 h7 q7]
theorem Wh(b:TaskOk t)(d:X4 t x){f:Fct}(hf:YU t.vars f){c:Int}(hc:YU t.vars ⟨(imF x f).var,c⟩):∃y,YU t.vars ⟨f.var,y⟩/\imF x ⟨f.var,y⟩=⟨(imF x f).var,c⟩:=by
  obtain⟨v,u,n,a,z,l,rfl,h1,h2,h3,hu,h4,h5,h6,h7,h8,h9,h10,e⟩:=GU b d hf;rw[e]at hc ⊢;obtain⟨_,hc0,m,hm,hcm⟩:=hc;dsimp only at hc0 hm hcm ⊢;rw[N1,h10]at hm;obtain rfl:=R1 hm;obtain⟨k,hk,hk'⟩:=Hu h6 (a:=c.toNat) (by omega);refine⟨k,⟨by dsimp only;omega,by dsimp only;omega,n,by rw[N1];exact h2,by dsimp only;omega⟩,?_⟩;rw[PH h4 h5 hk'];rw[Int.toNat_of_nonneg hc0]
def Bk(t:Tsk)(x:Swp)(a:Fct->Prop)(f:Fct):Prop:=YU t.vars f/\a (imF x f)
theorem OkZ.bk(a:TaskOk t)(c:X4 t x){d:Fct->Prop}(h:OkZ t.vars d):OkZ t.vars (Bk t x d):=⟨λ_ hf=>hf.1,λf g hf b e=>NJ a c hf.1 b.1 (h.2 _ _ hf.2 b.2 (Su e))⟩
theorem UW(b:TaskOk t)(c:X4 t x){d:Fct->Prop}{l:List Fct}(hl:FactsOk t.vars l)(h:∀g∈imL x l,d g):∀g∈l,Bk t x d g:=λg a=>⟨(Ds hl).1 g a,h _ (Hm.2 ⟨g,a,rfl⟩)⟩
theorem UX(a:TaskOk t)(j:X4 t x){p:Fct->Prop}(k:OkZ t.vars p){f:Fct}(hf:YU t.vars f){q:List Eff}(l:∀e∈q,ZT t.vars e/\e.var=f.var)(h:QuZ (imF x f) (q.map (imE x)) p):QuZ f q (Bk t x p):=λe he d=>by
  obtain⟨⟨hc,hfe⟩,hv⟩:=l e he;have b:(imE x e).val≠(imF x f).val:=λm=>d (congrArg Fct.val (NJ a j hfe hf (by
    have:(imE x e).var=(imF x f).var:=Su hv;show imF x ⟨e.var,e.val⟩=imF x f;have n:imF x ⟨e.var,e.val⟩=⟨(imE x e).var,(imE x e).val⟩:=rfl;rw[n,this,m])))
  obtain⟨o,hg',c,hcn,hcZ⟩:=h _ (V8.2 ⟨e,he,rfl⟩) b;obtain⟨g,hg,rfl⟩:=Hm.1 hg';have i:=(Ds hc).1 g hg;obtain⟨y,hy1,hy2⟩:=Wh a j i (k.1 _ hcZ);refine⟨g,hg,y,λe=>hcn ?_,hy1,by rw[hy2];exact hcZ⟩;subst e;exact(congrArg Fct.val hy2).symm
theorem XW(a:TaskOk t)(b:X4 t x){o p:Opr}(c:Aau t.vars o)(he:o.effs.map (imE x)=p.effs){f:Fct}(hf:YU t.vars f):efV p (imF x f)=(efV o f).map (imE x):=by
  unfold efV;rw[<- he,List.filter_map];refine congrArg _ (M3 λe hm=>?_);exact decide_eq_decide.2 ⟨λh=>NH b (HF c e hm).2 hf h,λh=>Su (f:=⟨e.var,e.val⟩) h⟩
theorem XX(a:TaskOk t)(c:ZM t x){o p:Opr}(k:Aau t.vars o)(u:imL x o.pre=p.pre)(v:o.effs.map (imE x)=p.effs){l:List Fct}(hl:FactsOk t.vars l){z:Fct→Prop}(r:OkZ t.vars z)(h:Cmb p (imL x l) z):Cmb o l (Bk t x z):=by
  refine⟨UW a c.1 k.2.2.2.2.1 (by rw[u];exact h.1),λf hf=>?_⟩;have b:=(Ds hl).1 f hf;have m:∀e∈efV o f,ZT t.vars e/\e.var=f.var:=λe he=>by
    unfold efV at he;obtain⟨d,h2⟩:=R8.1 he;exact⟨HF k e d,of_decide_eq_true h2⟩
  have i:=XW a c.1 k v b;rcases h.2 _ (Hm.2 ⟨f,hf,rfl⟩)with⟨j,s,d,h2,h3,h4,h7⟩|⟨d,h2⟩
  . rw[i,M9]at h2;obtain⟨e,he,rfl⟩:=F0.1 h2;have n:=H2 he;obtain⟨⟨hc,hfe⟩,hv⟩:=m e n;refine .inl ⟨j,e,d,he,?_,UW a c.1 hc h4,UX a c.1 r b (λs q=>m s (H8 q)) (by rw[i,<- List.map_drop]at h7;exact h7)⟩;have:imF x ⟨e.var,e.val⟩=imF x f:=by
      have w:(imF x ⟨e.var,e.val⟩).var=(imF x f).var:=by
        have:=H2 (M9▸h2:((efV o f).map (imE x))[j]?=_);rw[<- i]at this;unfold efV at this;exact of_decide_eq_true (R8.1 this).2
      have y:(imF x ⟨e.var,e.val⟩).val=(imF x f).val:=h3;have eta:∀g:Fct,g=⟨g.var,g.val⟩:=λ_=>rfl;rw[eta (imF x ⟨e.var,e.val⟩),w,y]
    exact congrArg Fct.val (NJ a c.1 hfe b this)
  . exact .inr ⟨⟨b,d⟩,UX a c.1 r b m (by rw[i]at h2;exact h2)⟩
theorem Xc{b:Int}{N:List Ngd}{y:List Int}(c:TaskOk t)(s:ZM t x)(E:ZW t.vars)(F:ImS x t.init y)(h:CertO t b N):TaskOk ⟨t.vars,y,t.goal,t.ops⟩/\CertO ⟨t.vars,y,t.goal,t.ops⟩ b (N.map λn=>⟨imL x n.facts,n.dist⟩):=by
  have r:=s.1;have hu:TaskOk ⟨t.vars,y,t.goal,t.ops⟩:=⟨c.1,c.2.1,c.2.2.1,Ni r c.2.2.2.1 F,c.2.2.2.2⟩;have u:∀{p q:List Fct}{d:Int},FactsOk t.vars p->FactsOk t.vars q->(∀f∈p,imF x f∈q)->CovN N p d->CovN (N.map λn=>⟨imL x n.facts,n.dist⟩) q d:=λ{p q d} j B C ⟨m,hm,k,h2⟩=>by
    have v:=(h.ng m hm).1.1;refine⟨_,V8.2 ⟨m,hm,rfl⟩,k,(Qm B.ps (JZ c r v).ps).2 λg H=>?_⟩;obtain⟨f,hf,rfl⟩:=Hm.1 H;exact C f ((Qm j.ps v.ps).1 h2 f hf)
  have w:=c.2.2.2.2.1;refine⟨hu,⟨by rw[R9];exact h.len,λn hn=>?_,λhb=>u w w (λf hf=>by rw[<- s.2.2.1];exact Hm.2 ⟨f,hf,rfl⟩) (h.gl hb),λM D I p j d hd J z G A=>?_⟩⟩
  . obtain⟨m,hm,rfl⟩:=V8.1 hn;obtain⟨⟨k,h2⟩,h3⟩:=h.ng m hm;have hf:FactsOk t.vars (imL x m.facts):=JZ c r k;refine⟨⟨hf,h2⟩,?_⟩;show YV (imL x m.facts) y=false;rw[Mw c r k c.2.2.2.1 F,h3]
  . obtain⟨n,hn,rfl⟩:=V8.1 D;have l:=(h.ng n hn).1.1;dsimp only at j hd z;obtain⟨i,hi,hi'⟩:=Hu s.2.1 (Az j);obtain⟨o,p2,a,k,h2,_,h3,h4,h5,h6⟩:=IY s hi;obtain rfl:I=a:=(by rw[hi']at h2;have:=R1 h2;omega);obtain rfl:p=p2:=(by rw[j]at h3;exact R1 h3);have K:=c.2.2.2.2.2 i o k;obtain⟨O,l1,_,l2⟩:=Ks c E k l;obtain⟨L,m1,_,m2⟩:=Ks (t:=⟨t.vars,y,t.goal,t.ops⟩) hu E j (show FactsOk t.vars (imL x n.facts)from JZ c r l);obtain rfl:J=L:=(by rw[z]at m1;exact congrArg Prod.fst (R1 m1));have e:=m2.1 G A;have hc:=XX c s K h5 h6 l e.okZ ((m2.2 _ e.okZ).1 ⟨G,A,λ_ h=>h⟩);obtain⟨q,B,hqZ⟩:=(l2.2 _ (e.okZ.bk c r)).2 hc;exact u (l2.1 q B) e (λf hf=>(hqZ f hf).2) (h.cl n hn i o k d (by rw[h4];exact hd) O l1 q B)
end
end
section
open Go Go.RowKit
structure Cx where
  ty:TypeId
  pre:List Value
  post:List Value
structure BxC(cx:Cx)(e:TypeId)(α:Type) where
  l:List α
def BxR.c(cx:Cx){t e:TypeId}{α:Type}(x:BxR t e α):BxC cx e α:=⟨x.l⟩
instance{cx:Cx}{e:TypeId}{α:Type}[Rp α]:Ow (BxC cx e α) where
  R w F c v x:=∃(g:Nat) (d:Lab) (c0:Value),v=.pointer (some ⟨g,cx.pre.length,none⟩)/\Blk w g cx.ty (cx.pre++c0::cx.post)/\c g/\d g=0/\RwM w F (λk=>c k/\d k=1) e c0 x.l
  agree:=by rintro w w' F c v x ⟨g,d,c0,rfl,hb,hM,hL,h0⟩ a1 a2;exact⟨g,d,c0,rfl,hb.keep (a2 g hM),hM,hL,h0.agree a1 λk hk=>a2 k hk.1⟩
  mono:=by rintro w F c a b v x ⟨g,d,c0,rfl,hb,hM,hL,h0⟩ a1 a2 a3;exact⟨g,d,c0,rfl,hb,a2 g hM,hL,h0.mono a1 (λk hk=>⟨a2 k hk.1,hk.2⟩) λk hf hm=>a3 k hf hm.1⟩
theorem BxC.opn{cx:Cx}{t e:TypeId}{α:Type}[Rp α]{i:Nat}{w:World}{O:Lab}{p:Nat}{x:BxR t e α}(h:Ob i w O (.pointer (some ⟨p,cx.pre.length,none⟩)) (BxR.c cx x))(l0 l1:Nat)(hl:l0≠0/\l1≠0):∃(a:Lab) (c0:Value),St (eT i) w O w a/\(∀k,Fr i w O k->∃q,q∈[l0,l1]/\Fr q w a k)/\Lc l0 w a p cx.ty (cx.pre++c0::cx.post)/\Rw l1 w a e c0 x.l:=by
  obtain⟨⟨g,L,c0,hv,hb,hM,hL,h0⟩,hi⟩:=h;obtain rfl:p=g:=(by injection hv with hv;injection hv with hv;injection hv);exact⟨part O i L [l0,l1],c0,Jx hi,IL (by simp),⟨hb,(Eg (j:=0) rfl p ⟨hM,hL⟩).2⟩,h0.rw (Cq hi) (Eg (j:=1) rfl) hl.2⟩
theorem BxC.shut{cx:Cx}{t e:TypeId}{α:Type}[Rp α]{w:World}{O:Lab}{p:Nat}{x:BxR t e α}{l0 l1:Nat}{c0:Value}(hd:¬0∈[l0,l1]/\[l0,l1].idxOf l0=0/\[l0,l1].idxOf l1=1)(hb:Lc l0 w O p cx.ty (cx.pre++c0::cx.post))(h:Rw l1 w O e c0 x.l):∃f,St (·∈[l0,l1]) w O w f/\(∀k,Fr 0 w O k->Fr 0 w f k)/\(∀q,q∈[l0,l1]->∀k,Fr q w O k->Fr l0 w f k)/\Ob l0 w f (.pointer (some ⟨p,cx.pre.length,none⟩)) (BxR.c cx x):=by
  have d:l0≠0:=λe=>hd.1 (by simp[e]);have g:=DB (i:=l0) hd.2.1 (by simp) p ⟨hb.1.lt,hb.2⟩;exact⟨ZU O l0 [l0,l1],IM,BL hd.1,HU,⟨p,λk=>[l0,l1].idxOf (O k),c0,rfl,hb.1,g.1,g.2,h.m (BL hd.1) (DB hd.2.2 (by simp)) (λk a b=>Y9 d k a b.1)⟩,d⟩
theorem Aaj{cx:Cx}{w:World}{g:Nat}{c:Value}(h:Blk w g cx.ty (cx.pre++c::cx.post)):w.cell? ⟨g,cx.pre.length,none⟩=some c:=h.cell (by simp)
theorem Tw{α:Type}(v c:α)(a:List α):∀(b:List α),(b++c::a).set b.length v=b++v::a
  |[]=>rfl
  |x::b=>by simp[Tw v c a b]
section
variable {P:Program}{n:Nat}{ops:Array Oper}{Q:YX}{rest:List Oper}{l:Env}{w:World}{ty:TypeId}{pos:String}{aft:Array Edge}
theorem Sv{i:Nat}{O:Lab}{cx:Cx}{t:TypeId}{z:Value}{bytes:Nat}[TInfo P t z 1 bytes]{x y:Operand}{g:Nat}{c v:Value}(d:Lc i w O g cx.ty (cx.pre++c::cx.post))(f:opv l x=some (.pointer (some ⟨g,cx.pre.length,none⟩)))(j:opv l y=some v)
    (a:v.cells.toList=[v]) (k:∀u∈v.cells.toList,u.oneCell'=true)
    (h:∀w',St (eT i) w O w' O->Lc i w' O g cx.ty (cx.pre++v::cx.post)->owp P n ops Q rest l w'):owp P n ops Q (⟨none,.store t x y,ty,pos,aft,none⟩::rest) l w:=by
  refine AO d f j (by rw[a];rfl) (by simp) k λw' m b=>h w' m ?_;rw[a]at b;have e:X8 (cx.pre++c::cx.post) cx.pre.length [v]=cx.pre++v::cx.post:=by
    show(cx.pre++c::cx.post).set cx.pre.length v=_;rw[Tw]
  rwa[e]at b
end
end
section
open Go Go.RowKit
attribute [local irreducible] ewp owp hwp hwq hws Ev Evg Fn X6 Y1 YZ YY
attribute [local irreducible] hwx Y6
structure OEn where
  cost:Int
  number:Int
  node:Int
instance:Rp OEn where
  isAgg:=true
  size:=3
  R w F cs x:=cs=[.int .i64 x.cost,.int .i64 x.number,.int .i64 x.node]/\X2 x.cost/\X2 x.number/\X2 x.node
  len:=by rintro w F cs x ⟨rfl,h0,h1,h2⟩;rfl
  one:=by rintro w F cs x ⟨rfl,h0,h1,h2⟩ u hu;simp at hu;rcases hu with rfl|rfl|rfl<;>first|rfl|exact Vb.one rfl (by assumption)
  agree:=by rintro w w' F cs x ⟨rfl,h0,h1,h2⟩ ha;exact⟨rfl,h0,h1,h2⟩
  mono:=by rintro w F G cs x ⟨rfl,h0,h1,h2⟩ ha;exact⟨rfl,h0,h1,h2⟩
instance:Ec OEn λd a w O i b o x G=>X2 x.cost->X2 x.number->X2 x.node->Al d (.C i b o [(.int .i64 x.cost),(.int .i64 x.number),(.int .i64 x.node)] :: .V (.agg #[(.int .i64 x.cost),(.int .i64 x.number),(.int .i64 x.node)]) x::a) w O->G:=⟨λ{_ _ _ _ _ _ _ x _ _} e c hc h k=>by
  have hv:=Vb.ofAgg (x:=x) rfl h;obtain⟨rfl,r1,r2,r3⟩:=h;exact k r1 r2 r3 ⟨⟨c,hc⟩,hv,e⟩⟩
instance tm138_Len : TMth prog 138 "Len" 53 false:=⟨by kernel_rfl⟩
instance tm138_Less : TMth prog 138 "Less" 218 false:=⟨by kernel_rfl⟩
instance tm138_Pop : TMth prog 138 "Pop" 220 true:=⟨by kernel_rfl⟩
instance tm138_Push : TMth prog 138 "Push" 221 true:=⟨by kernel_rfl⟩
instance tm138_Swap : TMth prog 138 "Swap" 219 false:=⟨by kernel_rfl⟩
noncomputable def EU(a:List OEn):Option Int :=
  some (a.length:Int)
section
attribute [local irreducible] Vb Lc Rw Ob
theorem IO{w:World}{A:Nat->Prop}(hA:∀k,A k->k<w.heap.size){a:Value}{b:List OEn}(c:Vb w A a b){r:Int}(hm:EU b=some r) :
    Fn prog 53 [a] w λv w'=>Ext w w'/\Vb w' (upA A w w') v r:=by
 obtain⟨_,_,_⟩:=BS hA;apply Br c;intros;refine AC func53 rfl ntmps53 ?_;unfold EU at hm;refine zz ?_;obtain rfl:=sm hm;exact By
end
noncomputable def Is(a:List OEn)(b:Int)(c:Int):Option Bool :=
  bnd (atI a b) λk=>bnd (atI a c) λd=>if k.cost≠d.cost then(bnd (bnd (atI a b) λe=>bnd (atI a c) λf=>if e.cost<f.cost then(some true)else(some false):Option Bool) λg=>some g)else(bnd (bnd (atI a b) λh=>bnd (atI a c) λi=>if h.number<i.number then(some true)else(some false):Option Bool) λj=>some j)
section
attribute [local irreducible] Vb Lc Rw Ob
theorem NQ{w:World}{A:Nat->Prop}(hA:∀k,A k->k<w.heap.size){c:Value}{j:List OEn}(l:Vb w A c j){d:Int}(m:X2 d){e:Int}(n:X2 e){r:Bool}(hm:Is j d e=some r) :
    Fn prog 218 [c,(.int .i64 d),(.int .i64 e)] w λv w'=>Ext w w'/\Vb w' (upA A w w') v r:=by
 obtain⟨_,_,_⟩:=BS hA;apply Br l;intros;refine AC func218 rfl ntmps218 ?_;unfold Is at hm;refine zz ?_;refine Jz (Bc (Db 0 11)) ?_;refine zz ?_;obtain⟨o,e8,hm⟩:=bs hm;refine Ei rfl ?_;intros;refine AL rfl rfl (Jf rfl (AI rfl rfl (AI rfl rfl ?_)));obtain⟨p,j0,hm⟩:=bs hm;refine Ei rfl ?_;intros;refine AL rfl rfl (Jf rfl (Pj rfl rfl rfl rfl (λc0=>?_) λc0=>?_))
 ·replace hm:=ip hm c0;refine h_z (Aj rfl (Ak (Cu (X:=Unit) hm [] [] [] [] (λ_ _ f _ t=>(6,.bool f)::t) (λ_ _ _ _ t=>t) ?_ ?_)))
  ·intro f a;refine Jz (Bc (Db 0 12)) ?_;refine zz ?_;obtain⟨q,l0,a⟩:=bs a;refine Ei rfl ?_;intros;refine AL rfl rfl (Jf rfl (AI rfl rfl (AI rfl rfl ?_)));obtain⟨s,n0,a⟩:=bs a;refine Ei rfl ?_;intros;refine AL rfl rfl (Jf rfl (Gq rfl rfl rfl (λg=>?_) λg=>?_))
   ·replace a:=ip a g;refine zz ?_;obtain rfl:=sm a;exact AP ()
   replace a:=im a g;refine zz ?_;obtain rfl:=sm a;exact AP ()
  intro f _ _ _ _ hm;intros;refine Ba ?_;refine AV ?_;obtain rfl:=sm hm;exact By
 replace hm:=im hm c0;refine h_z (Ae rfl (Bf (Ak (Cu (X:=Unit) hm [] [] [] [] (λ_ _ h _ t=>(6,.bool h)::t) (λ_ _ _ _ t=>t) ?_ ?_))))
 ·intro h b;refine Jz (Bc (Db 0 12)) ?_;refine zz ?_;obtain⟨u,p0,b⟩:=bs b;refine Ei rfl ?_;intros;refine AL rfl rfl (Jf rfl (AI rfl rfl (AI rfl rfl ?_)));obtain⟨x,r0,b⟩:=bs b;refine Ei rfl ?_;intros;refine AL rfl rfl (Jf rfl (Gq rfl rfl rfl (λi=>?_) λi=>?_))
  ·replace b:=ip b i;refine zz ?_;obtain rfl:=sm b;exact AP ()
  replace b:=im b i;refine zz ?_;obtain rfl:=sm b;exact AP ()
 intro h _ _ _ _ hm;intros;refine Ba ?_;refine AV ?_;obtain rfl:=sm hm;exact By
end
noncomputable def It(a:List OEn)(b:Int)(c:Int):Option (List OEn) :=
  bnd (atI a c) λe=>bnd (atI a b) λd=>bnd (atI a b) λf=>bnd (atI (a.set (b:Int).toNat e) c) λg=>some ((a.set (b:Int).toNat e).set (c:Int).toNat d)
theorem NS{w:World}{O:Lab}{l:Option Addr}{e c0 f:Nat}{m:List OEn}(g:Rw f w O 136 (.slice l e c0) m){n:Int}(u:X2 n){o:Int}(y:X2 o){r:(List OEn)}(hm:It m n o=some r) :
    Fn prog 219 [(.slice l e c0),(.int .i64 n),(.int .i64 o)] w λv w'=>∃k,St (eT f) w O w' k/\Rw f w' k 136 (.slice l e c0) r:=by
 obtain⟨p,hE,u0,v0⟩:=ZB (w:=w) (O:=O) g.2.2;obtain rfl:e=m.length:=g.len.1;have b:=Rw.leave g u0 v0 (j:=2) (by decide);have s:Bm w p w p:=Bm.refl;refine AC func219 rfl ntmps219 ?_;unfold It at hm;refine BR [(13,[2])] p ?_;refine AJ (fuel:=5) [] (Bc [0,1,4,5,6,7,8,9,10,11,12]) rfl (AI rfl rfl (AI rfl rfl (AI rfl rfl (AI rfl rfl ?_))));obtain⟨c,e5,hm⟩:=bs hm;obtain⟨z,x6⟩:=BJ e5;obtain⟨F,o9,w0,f0,g0,h0,j0,rfl,y0,z0,a1⟩:=b.elemF x6;refine CB (hA:=f0) (hj:=z) (hlt:=h0) rfl rfl rfl (Gp (hl:=rfl) (hb:=OA g0 j0) rfl rfl (AI rfl rfl (AI rfl rfl ?_)));obtain⟨d,b1,hm⟩:=bs hm;obtain⟨A,d1⟩:=BJ b1;obtain⟨G,u1,e1,k0,l0,n0,o0,rfl,f1,g1,h1⟩:=b.elemF d1;refine CB (hA:=k0) (hj:=A) (hlt:=n0) rfl rfl rfl (Gp (hl:=rfl) (hb:=OA l0 o0) rfl rfl ?_);obtain⟨H,i1,hm⟩:=bs hm;obtain⟨B,r0⟩:=BJ i1;obtain⟨I,y1,k1,d0,l1,p0,m1,rfl,z1,a2,b2⟩:=b.elemF r0;refine CB (hA:=d0) (hj:=B) (hlt:=p0) rfl rfl rfl (AB ?_);refine AJ (fuel:=3) [2] (Bc [2,3]) rfl (AI rfl rfl (AI rfl rfl (AB (AH (i:=13) rfl ?_))));refine FS rfl b (a:=c) (Vb.ofAgg (cs:=[(.int .i64 c.cost),(.int .i64 c.number),(.int .i64 c.node)]) (x:=c) rfl ⟨rfl,y0,z0,a1⟩) d0 rfl rfl (Az r0) λJ t b=>?_;have C:=t.lst [2] (λ_ h=>by cases h;decide);refine BE [] C ?_;refine AJ (fuel:=1) [] [(14,true)] rfl ?_;obtain⟨K,n1,hm⟩:=bs hm;obtain⟨D,t0⟩:=BJ n1;obtain⟨L,f2,p1,e0,q1,q0,r1,rfl,g2,h2,i2⟩:=b.elemF t0;refine CB (hA:=e0) (hj:=D) (hlt:=q0) rfl rfl rfl (AB (AH (i:=15) rfl ?_));refine FS rfl b (a:=d) (Vb.ofAgg (cs:=[(.int .i64 d.cost),(.int .i64 d.number),(.int .i64 d.node)]) (x:=d) rfl ⟨rfl,f1,g1,h1⟩) e0 rfl rfl (Az t0) λM E b=>?_;refine Cs (Bh ?_);obtain rfl:=sm hm;replace s:=(s.st t).st E;obtain⟨k,hS',hz,hl⟩:=hE.leave (λq=>if q=2 then f else 0) rfl s;exact ZN rfl  ⟨k,hS',(Rw.leave b hz (hl 2 (by decide) (by decide)) g.2.2)⟩
noncomputable def Iu(b:BxR 131 136 OEn)(c:An 136 OEn):Option (BxR 131 136 OEn) :=
  bnd (Y0 24 b.l [c.x]) λa=>some (⟨a⟩:BxR 131 136 OEn)
theorem NT{w:World}{O:Lab}{cx:Cx}{m g:Nat}{z:BxR 131 136 OEn}(n:Ob g w O (.pointer (some ⟨m,cx.pre.length,none⟩)) (BxR.c cx z)){e:Value}{a:An 136 OEn}(o:Vb w (Fr 0 w O) e a){r:(BxR 131 136 OEn)}(hm:Iu z a=some r) :
    Fn prog 221 [(.pointer (some ⟨m,cx.pre.length,none⟩)),e] w λv w'=>∃f,St (eT g) w O w' f/\Ob g w' f (.pointer (some ⟨m,cx.pre.length,none⟩)) (BxR.c cx r):=by
 obtain⟨p,hE,k0,s0⟩:=ZB (w:=w) (O:=O) n.2;have b:=Ob.leave n k0 s0 (j:=2) (by decide);have s:Bm w p w p:=Bm.refl;replace o:=o.mono k0;obtain⟨G,rfl,h4⟩:=o.any;obtain⟨H,rfl,rfl,r6,r7,r8⟩:=h4;refine AC func221 rfl ntmps221 ?_;unfold Iu at hm;refine zz ?_;refine Nu rfl rfl (Aw rfl (ER rfl rfl (ER rfl rfl ?_)));refine BF 3 p λI J K A c0=>?_;refine AO c0 rfl rfl rfl (Bi) (allOne) λL B c0=>?_;refine zz ?_;replace b:=(b.st A).st B;obtain⟨C,h1,q0,t0,d,d0⟩:=BxC.opn b 2 4 (by decide);obtain⟨M,j1,rfl⟩:=d0.form;refine BR [(6,[4])] C ?_;refine AJ (fuel:=5) [] (Bc [1,2,3,4]) rfl (AI rfl rfl (CT rfl rfl (Bl (hc:=λw' ⟨f,hq⟩=>Aaj ((d.st hq (by decide)).1)) rfl rfl ?_)));replace c0:=c0.st q0;refine Gp (hl:=rfl) (hb:=Mc c0) rfl rfl (AB ?_);refine AJ (fuel:=4) [4] [(0,true)] rfl (AI rfl rfl (AB (AH (i:=5) rfl ?_)));refine CC 5 C (xs:=([a.x]:List OEn)) rfl rfl rfl ⟨(Vb.ofAgg (cs:=[(.int .i64 a.x.cost),(.int .i64 a.x.number),(.int .i64 a.x.node)]) (x:=a.x) rfl ⟨rfl,r6,r7,r8⟩),trivial⟩ λN l1 P k E=>?_;have t:=lZ k;refine BE [(6,[4])] t (AH (i:=6) rfl ?_);obtain⟨F,u,hm⟩:=bs hm;obtain⟨u,w0,y0⟩:=BH u;replace d0:=d0.st k;refine CD rfl d0 (E.rd) rfl rfl w0 y0 λQ R S T y l=>?_;rw[<- u]at l ⊢;have t:=y.lst [4] (λ_ h=>by cases h;decide);refine BE [] t ?_;refine AJ (fuel:=1) [] [(7,true)] rfl (CT rfl rfl (AB (AH (i:=8) rfl ?_)));replace d:=(d.st k).st y;refine Sv d rfl rfl rfl (allOne) λU D d=>?_;refine Cs (Bh ?_);replace l:=l.st D;obtain⟨V,z0,a1,b1,c1⟩:=BxC.shut (x:=(⟨F⟩:BxR 131 136 OEn)) (l0:=2) (by decide) d l;obtain rfl:=sm hm;replace s:=((((((s.st A).st B).st q0).st k).st y).st D).st z0;obtain⟨f,hS',hz,hl⟩:=hE.leave (λq=>if q=2 then g else 0) rfl s;exact ZN rfl  ⟨f,hS',(Ob.leave c1 hz (hl 2 (by decide) (by decide)) n.2)⟩
noncomputable def IP(a:BxR 131 136 OEn):Option ((An 136 OEn)×(BxR 131 136 OEn)) :=
  bnd (X7 ((a.l.length:Int)-1)) λb=>bnd (atI a.l b) λc=>bnd (X7 ((a.l.length:Int)-1)) λd=>bnd (Zl a.l 0 d) λe=>some ((⟨c⟩:An 136 OEn),(⟨e⟩:BxR 131 136 OEn))
theorem OS{w:World}{O:Lab}{cx:Cx}{f e:Nat}{o:BxR 131 136 OEn}(g:Ob e w O (.pointer (some ⟨f,cx.pre.length,none⟩)) (BxR.c cx o)){r:(An 136 OEn)×(BxR 131 136 OEn)}(hm:IP o=some r) :
    Fn prog 220 [(.pointer (some ⟨f,cx.pre.length,none⟩))] w λv w'=>∃b,St (eT e) w O w' b/\Ob e w' b (.pointer (some ⟨f,cx.pre.length,none⟩)) (BxR.c cx r.2)/\Vb w' (Fr 0 w' b) v r.1:=by
 obtain⟨p,hE,o0,q0⟩:=ZB (w:=w) (O:=O) g.2;have h:=Ob.leave g o0 q0 (j:=2) (by decide);have i:Bm w p w p:=Bm.refl;refine AC func220 rfl ntmps220 ?_;unfold IP at hm;refine zz ?_;obtain⟨s,v6,S3,i1,a,h7⟩:=BxC.opn h 2 3 (by decide);obtain⟨A,c9,rfl⟩:=h7.form;refine AF (hc:=Aaj (a.1)) rfl (Ay rfl (o_z (Ak (Am (Aw rfl (Aw rfl (AT rfl ?_)))))));have t:=Bo h7.len;have B:=rngNat t;obtain⟨C,m0,hm⟩:=bs hm;have l1:=(Bx m0);refine Gb (he:=m0) rfl rfl ?_;obtain⟨c0,s0,hm⟩:=bs hm;obtain⟨u,u0⟩:=BJ s0;obtain⟨D,n1,v0,d0,e0,f0,rfl,w0,y0,z0⟩:=h7.elem u0;refine Bn (hA:=d0) (hj:=u) (hlt:=e0) rfl rfl (Bv (hl:=rfl) (hc:=f0) rfl ?_);refine BF 4 s λE F G k d=>?_;refine AO d rfl rfl rfl (Bi) (allOne) λH l d=>?_;refine zz ?_;replace h7:=(h7.st k).st l;have y:=Bo h7.len;have I:=rngNat y;obtain⟨J,n0,hm⟩:=bs hm;have K:=(Bx n0);refine Gb (he:=n0) rfl rfl ?_;obtain⟨z,c1,hm⟩:=bs hm;obtain⟨m,d1⟩:=Abi h7 c1;refine Rv (hc:=d1) rfl rfl rfl (EQ rfl ?_);replace a:=(a.st k).st l;refine Sv a rfl rfl rfl (allOne) λL n a=>?_;refine zz ?_;replace d:=d.st n;refine Bv (hl:=rfl) (hc:=(d.1).cellsAt) rfl (JM rfl (Ay rfl (o_z (AV ?_))));replace m:=m.st n;obtain⟨M,e1,f1,g1,h1⟩:=BxC.shut (x:=(⟨z⟩:BxR 131 136 OEn)) (l0:=2) (by decide) a m;obtain rfl:=sm hm;replace i:=((((i.st S3).st k).st l).st n).st e1;obtain⟨b,hS',hz,hl⟩:=hE.leave (λq=>if q=2 then e else 0) rfl i;exact YW rfl (AD rfl) ⟨b,hS',(Ob.leave h1 hz (hl 2 (by decide) (by decide)) g.2),(Zt (Vb.ofAgg (cs:=[(.int .i64 c0.cost),(.int .i64 c0.number),(.int .i64 c0.node)]) (x:=c0) rfl ⟨rfl,w0,y0,z0⟩))⟩
noncomputable def EG(f:BxR 131 136 OEn)(b:Int):Option Unit :=
  bnd (lop (ρ:=Unit) (λ(h:Unit)=>bnd (X7 (b-1)) λc=>bnd (Aaf c 2) λa=>bnd (if a=b then(some true)else(bnd (Is f.l b a) λd=>if d=true then some false else some true):Option Bool) λe=>if e=true then(some (.brk ()))else(none)) ()) λres3=>fin res3 λ(g:Unit)=>some ()
theorem MK{w:World}{O:Lab}{cx:Cx}{f m:Nat}{g:BxR 131 136 OEn}(c0:Ob m w O (.pointer (some ⟨f,cx.pre.length,none⟩)) (BxR.c cx g)){l:Int}(p:X2 l){r:Unit}(hm:EG g l=some r) :
    Fn prog 83 [(.iface 138 (.pointer (some ⟨f,cx.pre.length,none⟩))),(.int .i64 l)] w λv w'=>∃b,St (eT m) w O w' b/\Ob m w' b (.pointer (some ⟨f,cx.pre.length,none⟩)) (BxR.c cx g):=by
 obtain⟨i,hE,u0,v0⟩:=ZB (w:=w) (O:=O) c0.2;have a:=Ob.leave c0 u0 v0 (j:=2) (by decide);have e:Bm w i w i:=Bm.refl;refine AC func83 rfl ntmps83 ?_;unfold EG at hm;obtain⟨z,w0,hm⟩:=bs hm;refine AZ (aft z (λ(n:Unit)(o:Unit)=>[]) (λn o w'=>∃b:Lab,Bm w i w' b/\Ob 2 w' b (.pointer (some ⟨f,cx.pre.length,none⟩)) (BxR.c cx g))) ?_ ?_
 ·refine BK (Gy (σ:=Unit) (X:=Unit) w0 (λ(n:Unit)(o:Unit)=>[(0,(.iface 138 (.pointer (some ⟨f,cx.pre.length,none⟩)))),(1,(.int .i64 l))]) _ (λn o w'=>∃b:Lab,Bm w i w' b/\Ob 2 w' b (.pointer (some ⟨f,cx.pre.length,none⟩)) (BxR.c cx g)) _ () ⟨i,e,a⟩ B5 ?_);rintro n o B J ⟨K,e,a⟩ d j0 e0;refine BK (Ak (Am (Aw rfl ?_)));obtain⟨L,o0,d⟩:=bs d;have u:=(Bx o0);refine Gb (he:=o0) rfl rfl ?_;obtain⟨z0,r0,d⟩:=bs d;have C:=PY r0 u;refine WC (he:=r0) (hr:=u) rfl rfl rfl (Ay rfl (o_z (Ak (Ak ?_))));obtain⟨D,a0,d⟩:=bs d;refine AZ (λE w'=>∃(G:Unit) (b:Lab),X5 E [(0,(.iface 138 (.pointer (some ⟨f,cx.pre.length,none⟩)))),(1,(.int .i64 l)),(4,(.int .i64 z0)),(17,(.bool D))]/\Bm w i w' b/\Ob 2 w' b (.pointer (some ⟨f,cx.pre.length,none⟩)) (BxR.c cx g)) ?_ ?_
  ·refine zz ?_;refine EA rfl rfl (λs=>?_) λs=>?_
   ·replace a0:=ip a0 s;refine zz ?_;obtain rfl:=sm a0;exact⟨(),_,A5,e,a⟩
   replace a0:=im a0 s;refine zz ?_;obtain⟨H,s1,s0,e1,f0,d0⟩:=BxC.opn a 2 3 (by decide);obtain⟨M,u1,rfl⟩:=d0.form;obtain⟨y,f1,a0⟩:=bs a0;refine Iy (O:=H) (A:=All B) (R:=λw' F v=>Vb w' F v y) (NQ (λ_ h=>h) (d0).all p C f1) (FF (Aaj f0.1)) rfl rfl λN P Q k I=>?_;obtain rfl:=I.bool;cases y
   case false =>
    replace a0:=iF a0;refine zz ?_;replace f0:=f0.st k;replace d0:=d0.st k;obtain⟨S,h1,i1,j1,k1⟩:=BxC.shut (x:=g) (l0:=2) (by decide) f0 d0;obtain rfl:=sm a0;exact⟨(),_,A5,((e.st s0).st k).st h1,k1⟩
   replace a0:=iT a0;refine zz ?_;replace f0:=f0.st k;replace d0:=d0.st k;obtain⟨T,l1,m1,n1,o1⟩:=BxC.shut (x:=g) (l0:=2) (by decide) f0 d0;obtain rfl:=sm a0;exact⟨(),_,A5,((e.st s0).st k).st l1,o1⟩
  rintro U V ⟨G,d2,m0,e,a⟩;refine AM _ m0 ?_;refine Bg rfl (λt=>?_) (λt=>?_)
  ·replace d:=ip d t;refine Cn ?_;obtain rfl:=sm d;exact show Exists _ from⟨_,(),e0 _ rfl,trivial,_,e,a⟩
  replace d:=im' d t;refine Bf ?_;cases d
 rintro W Y ⟨Z,h2,rfl,p1,i2,e,a⟩;replace hm:=AS hm;obtain rfl:=sm hm;obtain⟨b,hS',hz,hl⟩:=hE.leave (λq=>if q=2 then m else 0) rfl e;exact ZN rfl  ⟨b,hS',(Ob.leave a hz (hl 2 (by decide) (by decide)) c0.2)⟩
noncomputable def DV(i:BxR 131 136 OEn)(c:Int)(g:Int):Option Bool :=
  bnd (lop (ρ:=Bool) (λ(j:Unit)=>bnd (X7 (2*c)) λd=>bnd (X7 (d+1)) λa=>bnd (if g<=a then(some true)else(if a<0 then(some true)else(some false)):Option Bool) λe=>if e=true then(some (.brk ()))else(none)) ()) λb=>fin b λ(h:Unit)=>bnd (if c<c then(some true)else(some false):Option Bool) λf=>some f
theorem LT{w:World}{O:Lab}{cx:Cx}{f l:Nat}{h:BxR 131 136 OEn}(c0:Ob l w O (.pointer (some ⟨f,cx.pre.length,none⟩)) (BxR.c cx h)){g:Int}(u:X2 g){k:Int}(x:X2 k){r:Bool}(hm:DV h g k=some r) :
    Fn prog 75 [(.iface 138 (.pointer (some ⟨f,cx.pre.length,none⟩))),(.int .i64 g),(.int .i64 k)] w λv w'=>∃b,St (eT l) w O w' b/\Ob l w' b (.pointer (some ⟨f,cx.pre.length,none⟩)) (BxR.c cx h)/\Vb w' (Fr 0 w' b) v r:=by
 obtain⟨i,hE,s0,t0⟩:=ZB (w:=w) (O:=O) c0.2;have a:=Ob.leave c0 s0 t0 (j:=2) (by decide);have d:Bm w i w i:=Bm.refl;refine AC func75 rfl ntmps75 ?_;unfold DV at hm;refine Ak (Am (Ay rfl (o_z (Ak (Am (Aw rfl (Ay rfl (o_z (Ak ?_)))))))));obtain⟨y,u0,hm⟩:=bs hm;refine AZ (aft y (λ(m:Unit)(n:Unit)=>[(1,(.int .i64 g)),(7,(.int .i64 g))]) (λm n w'=>∃b:Lab,Bm w i w' b/\Ob 2 w' b (.pointer (some ⟨f,cx.pre.length,none⟩)) (BxR.c cx h))) ?_ ?_
 ·refine BK (Gy (σ:=Unit) (X:=Unit) u0 (λ(m:Unit)(n:Unit)=>[(0,(.iface 138 (.pointer (some ⟨f,cx.pre.length,none⟩)))),(1,(.int .i64 g)),(2,(.int .i64 k)),(7,(.int .i64 g))]) _ (λm n w'=>∃b:Lab,Bm w i w' b/\Ob 2 w' b (.pointer (some ⟨f,cx.pre.length,none⟩)) (BxR.c cx h)) _ () ⟨i,d,a⟩ A5 ?_);rintro m n D E ⟨F,d,a⟩ e g0 e0;refine BK (Ak (Am (Aw rfl ?_)));obtain⟨G,q0,e⟩:=bs e;have H:=(Bx q0);refine TL (he:=q0) rfl rfl rfl ?_;obtain⟨z,r0,e⟩:=bs e;have I:=(Bx r0);refine Fw (he:=r0) rfl rfl (Ay rfl (o_z (Ak (Ak ?_))));obtain⟨A,b0,e⟩:=bs e;refine AZ (λo w'=>∃(z0:Unit) (b:Lab),X5 o [(0,(.iface 138 (.pointer (some ⟨f,cx.pre.length,none⟩)))),(1,(.int .i64 g)),(2,(.int .i64 k)),(7,(.int .i64 g)),(8,(.int .i64 z)),(21,(.bool A))]/\Bm w i w' b/\Ob 2 w' b (.pointer (some ⟨f,cx.pre.length,none⟩)) (BxR.c cx h)) ?_ ?_
  ·refine zz ?_;refine EM rfl rfl (λp=>?_) λp=>?_
   ·replace b0:=ip b0 p;refine zz ?_;obtain rfl:=sm b0;exact⟨(),_,A9,d,a⟩
   replace b0:=im b0 p;refine zz ?_;refine CL rfl rfl (λs=>?_) λs=>?_
   ·replace b0:=ip b0 s;refine zz ?_;obtain rfl:=sm b0;exact⟨(),_,A9,d,a⟩
   replace b0:=im b0 s;refine zz ?_;obtain rfl:=sm b0;exact⟨(),_,A9,d,a⟩
  rintro J K ⟨z0,j1,k0,d,a⟩;refine AM _ k0 ?_;refine Bg rfl (λl0=>?_) (λl0=>?_)
  ·replace e:=ip e l0;refine Cn ?_;obtain rfl:=sm e;exact show Exists _ from⟨_,(),e0 _ rfl,B5,_,d,a⟩
  replace e:=im' e l0;refine Bf ?_;cases e
 rintro L l1 ⟨M,n1,rfl,m0,o1,d,a⟩;replace hm:=AS hm;refine AM _ m0 ?_;refine Ak ?_;obtain⟨B,d0,hm⟩:=bs hm;refine AZ (λo w'=>∃(C:Unit) (b:Lab),X5 o [(6,(.bool B))]/\Bm w i w' b/\Ob 2 w' b (.pointer (some ⟨f,cx.pre.length,none⟩)) (BxR.c cx h)) ?_ ?_
 ·refine zz ?_;refine Dc rfl rfl (λt=>?_) λt=>?_
  ·replace d0:=ip d0 t;refine zz ?_;obtain rfl:=sm d0;exact⟨(),_,Ad,d,a⟩
  replace d0:=im d0 t;refine zz ?_;obtain rfl:=sm d0;exact⟨(),_,Ad,d,a⟩
 rintro N P ⟨C,r1,o0,d,a⟩;refine AM _ o0 ?_;refine AV ?_;obtain rfl:=sm hm;obtain⟨b,hS',hz,hl⟩:=hE.leave (λq=>if q=2 then l else 0) rfl d;exact YW rfl (AD rfl) ⟨b,hS',(Ob.leave a hz (hl 2 (by decide) (by decide)) c0.2),vBool⟩
noncomputable def Dt(d:BxR 131 136 OEn)(e:An 136 OEn):Option (BxR 131 136 OEn) :=
  bnd (Iu d (⟨e.x⟩:An 136 OEn)) λa=>bnd (EU a.l) λb=>bnd (X7 (b-1)) λc=>bnd (EG a c) λf=>some a
theorem LU{w:World}{O:Lab}{cx:Cx}{f d:Nat}{o:BxR 131 136 OEn}(g:Ob d w O (.pointer (some ⟨f,cx.pre.length,none⟩)) (BxR.c cx o)){b:Value}{a:An 136 OEn}(i:Vb w (Fr 0 w O) b a){r:(BxR 131 136 OEn)}(hm:Dt o a=some r) :
    Fn prog 46 [(.iface 138 (.pointer (some ⟨f,cx.pre.length,none⟩))),b] w λv w'=>∃e,St (eT d) w O w' e/\Ob d w' e (.pointer (some ⟨f,cx.pre.length,none⟩)) (BxR.c cx r):=by
 obtain⟨k,hE,f0,h0⟩:=ZB (w:=w) (O:=O) g.2;have l:=Ob.leave g f0 h0 (j:=2) (by decide);have m:Bm w k w k:=Bm.refl;replace i:=i.mono f0;obtain⟨H,rfl,h4⟩:=i.any;obtain⟨I,rfl,rfl,r6,r7,r8⟩:=h4;refine AC func46 rfl ntmps46 ?_;unfold Dt at hm;refine zz ?_;obtain⟨p,j0,hm⟩:=bs hm;refine HV (O:=k) (NT l (Zt (Vb.ofAgg (cs:=[(.int .i64 a.x.cost),(.int .i64 a.x.number),(.int .i64 a.x.node)]) (x:=a.x) rfl ⟨rfl,r6,r7,r8⟩)) j0) Ky rfl rfl λJ s K t u=>?_;refine zz ?_;obtain⟨y,i1,q0,r0,c0,b0⟩:=BxC.opn u 2 3 (by decide);obtain⟨L,k1,rfl⟩:=b0.form;obtain⟨z,t0,hm⟩:=bs hm;refine Iy (O:=y) (A:=All s) (R:=λw' F v=>Vb w' F v z) (IO (λ_ h=>h) (b0).all t0) (FF (Aaj c0.1)) rfl rfl λl1 M N n B=>?_;obtain⟨rfl,o1⟩:=B.int;obtain⟨P,g0,hm⟩:=bs hm;have C:=(Bx g0);refine Gb (he:=g0) rfl rfl ?_;replace c0:=c0.st n;replace b0:=b0.st n;obtain⟨D,y0,z0,a1,b1⟩:=BxC.shut (x:=p) (l0:=2) (by decide) c0 b0;obtain⟨Q,c1,hm⟩:=bs hm;refine Cj (O:=D) (MK b1 C c1) rfl λS T U E G=>?_;refine o_z ?_;obtain rfl:=sm hm;replace m:=((((m.st t).st q0).st n).st y0).st E;obtain⟨e,hS',hz,hl⟩:=hE.leave (λq=>if q=2 then d else 0) rfl m;exact ZN rfl  ⟨e,hS',(Ob.leave G hz (hl 2 (by decide) (by decide)) g.2)⟩
noncomputable def Fl(f:BxR 131 136 OEn):Option ((An 136 OEn)×(BxR 131 136 OEn)) :=
  bnd (EU f.l) λd=>bnd (X7 (d-1)) λa=>bnd (It f.l 0 a) λb=>bnd (bnd (DV (⟨b⟩:BxR 131 136 OEn) 0 a) λe=>if e=true then some ()else some ():Option Unit) λg=>bnd (IP (⟨b⟩:BxR 131 136 OEn)) λc=>some ((⟨c.1.x⟩:An 136 OEn),c.2)
theorem Mx{w:World}{O:Lab}{cx:Cx}{d e:Nat}{m:BxR 131 136 OEn}(i:Ob e w O (.pointer (some ⟨d,cx.pre.length,none⟩)) (BxR.c cx m)){r:(An 136 OEn)×(BxR 131 136 OEn)}(hm:Fl m=some r) :
    Fn prog 42 [(.iface 138 (.pointer (some ⟨d,cx.pre.length,none⟩)))] w λv w'=>∃a,St (eT e) w O w' a/\Ob e w' a (.pointer (some ⟨d,cx.pre.length,none⟩)) (BxR.c cx r.2)/\Vb w' (Fr 0 w' a) v r.1:=by
 obtain⟨k,hE,q0,r0⟩:=ZB (w:=w) (O:=O) i.2;have l:=Ob.leave i q0 r0 (j:=2) (by decide);have b:Bm w k w k:=Bm.refl;refine AC func42 rfl ntmps42 ?_;unfold Fl at hm;refine zz ?_;obtain⟨u,v6,S3,t1,h4,h7⟩:=BxC.opn l 2 3 (by decide);obtain⟨J,c9,rfl⟩:=h7.form;obtain⟨y,t0,hm⟩:=bs hm;refine Iy (O:=u) (A:=All w) (R:=λw' F v=>Vb w' F v y) (IO (λ_ h=>h) (h7).all t0) (FF (Aaj h4.1)) rfl rfl λK L z c0 B=>?_;obtain⟨rfl,w1⟩:=B.int;obtain⟨M,g0,hm⟩:=bs hm;have n:=(Bx g0);refine Gb (he:=g0) rfl rfl (Ay rfl (o_z (Ak (Am (Aw rfl (Aw rfl ?_))))));obtain⟨o,w0,hm⟩:=bs hm;replace h4:=h4.st c0;replace h7:=h7.st c0;refine HV (O:=z) (NS h7 (X9 0) n w0) (FF (Aaj h4.1)) rfl rfl λN P Q f p=>?_;refine o_z (Ak ?_);obtain⟨S,a0,hm⟩:=bs hm;refine AZ (λC w'=>∃(D:Unit) (a:Lab),X5 C [(0,(.iface 138 (.pointer (some ⟨d,cx.pre.length,none⟩))))]/\Bm w k w' a/\Ob 2 w' a (.pointer (some ⟨d,cx.pre.length,none⟩)) (BxR.c cx (⟨o⟩:BxR 131 136 OEn))) ?_ ?_
 ·refine zz ?_;replace h4:=h4.st f;obtain⟨z0,m0,a1,b1,c1⟩:=BxC.shut (x:=(⟨o⟩:BxR 131 136 OEn)) (l0:=2) (by decide) (by have q:=h4;rw[<- p.len.1.symm]at q;exact q) p.relen;obtain⟨E,e1,a0⟩:=bs a0;refine Cj (O:=z0) (LT c1 (X9 0) n e1) rfl λT U V s G=>?_;obtain⟨t,g1⟩:=G;obtain rfl:=g1.bool;cases E
  case false =>
   replace a0:=iF a0;refine o_z ?_;obtain rfl:=sm a0;exact⟨(),_,Ad,((((b.st S3).st c0).st f).st m0).st s,t⟩
  replace a0:=iT a0;refine o_z ?_;obtain rfl:=sm a0;exact⟨(),_,Ad,((((b.st S3).st c0).st f).st m0).st s,t⟩
 replace b:=((b.st S3).st c0).st f;rintro W X ⟨D,h1,f0,b,i1⟩;refine AM _ f0 ?_;refine zz ?_;obtain⟨g,j1,hm⟩:=bs hm;refine HV (O:=h1) (OS i1 j1) Ky rfl rfl λY Z j2 H l1=>?_;obtain⟨I,n1⟩:=l1;obtain⟨k2,rfl,o1⟩:=n1.any;obtain⟨p1,rfl,rfl,q1,r1,s1⟩:=o1;refine zz ?_;obtain rfl:=sm hm;replace b:=b.st H;obtain⟨a,hS',hz,hl⟩:=hE.leave (λq=>if q=2 then e else 0) rfl b;exact YW rfl (AD rfl) ⟨a,hS',(Ob.leave I hz (hl 2 (by decide) (by decide)) i.2),(Zt (Vb.ofAgg (cs:=[(.int .i64 g.1.x.cost),(.int .i64 g.1.x.number),(.int .i64 g.1.x.node)]) (x:=g.1.x) rfl ⟨rfl,q1,r1,s1⟩))⟩
end
section
open Go Go.RowKit
attribute [local irreducible] ewp owp hwp hwq hws Ev Evg Fn X6 Y1 YZ YY
noncomputable def Dq(f:Tsk):Option (Swp×Err) :=
  bnd (CG f ([]:List Swp)) λg=>if g.n≠0 then(none)else(bnd (GP (f.vars.length:Int)) λh=>bnd (GP (f.ops.length:Int)) λi=>bnd (some (h,i):Option ((List Int)×(List Int))) λb=>bnd (rng (ρ:=Swp×Err) (λ(l:Nat)(j:Int)(k:(List (List Int)))=>bnd (GP j) λc=>bnd (Y0 24 k [c]) λd=>some (.next d)) f.vars 0 ([]:List (List Int))) λa=>fin a λ(e:(List (List Int)))=>some ((⟨b.1,e,b.2⟩:Swp),(⟨0⟩:Err)))
section
attribute [local irreducible] Vb Lc Rw Ob
theorem Jp{w:World}{A:Nat->Prop}(hA:∀k,A k->k<w.heap.size){c:Value}{g:Tsk}(m:Vb w A c g){r:Swp×Err}(hm:Dq g=some r) :
    Fn prog 22 [c] w λv w'=>Ext w w'/\T2 w' (upA A w w') v r:=by
 obtain⟨_,_,_⟩:=BS hA;apply Br m;intros;refine AC func22 rfl ntmps22 ?_;unfold Dq at hm;refine Ak (Am (Dx 2 ?_));intros;refine BC 3 ?_;intros;refine zz ?_;refine Eh ?_;obtain⟨p,o0,hm⟩:=bs hm;refine CJ rfl (He (λ_ h=>h) zA zA o0) ?_;intros;refine zz ?_;refine CU rfl (λe=>?_) λe=>?_
 ·replace hm:=ip hm e;refine o_z (Aj rfl ?_);cases hm
 replace hm:=im hm e;refine o_z (Ae rfl (Bf (Ak ?_)));obtain⟨q,l0,hm⟩:=bs hm;obtain⟨s,g0,hm⟩:=bs hm;refine Cu (X:=Nat×(Option Addr×Nat)×(Option Addr×Nat)) hm [1,2] [] [4] [] (λ_ _ _ a t=>(5,pv a.1)::t) (λ_ _ b a t=>fV a.2.1 b.1::fV a.2.2 b.2 :: .L 4 a.1 29 [sv a.2.1 b.1,.slice none 0 0,sv a.2.2 b.2]::t) ?_ ?_
 ·intro b c0;refine HL [] ?_;refine AJ (fuel:=5) [] (Bc [0,1,2,4,5,6]) rfl (AL rfl rfl (CH rfl (Ou rfl rfl (AL rfl rfl ?_))));refine CH rfl (Ou rfl rfl (AB ?_));refine Hx (i:=3) (j:=9) rfl rfl ?_ ?_
  ·refine q_S [] ?_;intros;refine Ew rfl (Gc Fr.lt zI l0) ?_;intros;refine BM [] ?_;refine Hx (i:=7) (j:=9) rfl rfl ?_ ?_
   ·refine q_S [] ?_;intros;refine Ew rfl (Gc Fr.lt zI g0) ?_;intros;refine BM [] ?_;refine AJ (fuel:=2) [] [(8,true)] rfl (Fs rfl rfl rfl ?_);refine AB (AH (i:=9) rfl (q_S [] ?_));intros;refine BC 4 ?_;intros;refine BM [] ?_;refine AH (i:=10) rfl (Bj ?_);intros;refine Cs (Bh ?_);obtain rfl:=sm c0;exact AP (_,(_,_),(_,_))
   refine q_S [] ?_;intros;refine BC 4 ?_;intros;refine BM [] ?_;refine AH (i:=7) rfl (q_S [] ?_);intros;refine Ew rfl (Gc Fr.lt zI g0) ?_;intros;refine BM [] ?_;refine AJ (fuel:=1) [] [(8,true)] rfl (Fs rfl rfl rfl ?_);refine AB (AH (i:=10) rfl (Bj ?_));intros;refine Cs (Bh ?_);obtain rfl:=sm c0;exact AP (_,(_,_),(_,_))
  refine q_S [] ?_;intros;refine BC 4 ?_;intros;refine BM [] ?_;refine AH (i:=3) rfl (q_S [] ?_);intros;refine Ew rfl (Gc Fr.lt zI l0) ?_;intros;refine BM [] ?_;refine AH (i:=7) rfl (q_S [] ?_);intros;refine Ew rfl (Gc Fr.lt zI g0) ?_;intros;refine BM [] ?_;refine AJ (fuel:=1) [] [(8,true)] rfl (Fs rfl rfl rfl ?_);refine AB (AH (i:=10) rfl (Bj ?_));intros;refine Cs (Bh ?_);obtain rfl:=sm c0;exact AP (_,(_,_),(_,_))
 intro b _ _ _ _ hm;intros;refine Ba ?_;refine zz ?_;refine Bt (AT rfl (Aw rfl (o_z ?_)));refine Cl (X:=(Option Addr×Nat)) hm [2,5,24] [] [4,6] [4] (λ_ _ _ _ t=>t) (λ_ o f l t=>fR 6 22 l f::uL (o 4) 4 29 [(1,sv l f)]::t) (_,_) ?_ ?_
 ·intro u x f _ _ _ _ d y _ z;intros;refine Ak (Am (CE ?_));intros;refine Dk (Ay rfl (o_z ?_));refine HL [(5,[6])] ?_;refine AJ (fuel:=5) [] (Bc [0,1,2]) rfl (AL rfl rfl (CH rfl (AI rfl rfl (AB (AH (i:=3) rfl ?_)))));refine q_S [] ?_;intros;obtain⟨n,j0,d⟩:=bs d;refine Ew rfl (Gc Fr.lt zI j0) ?_;intros;refine BM [(5,[6])] ?_;refine AH (i:=4) rfl (q_S [] ?_);intros;refine HK 5 ([n]:List (List Int)) ?_;intros;refine BM [(5,[6])] ?_;refine AH (i:=5) rfl (q_S [6] ?_);intros;obtain⟨B,k0,d⟩:=bs d;refine OC k0 ?_;intros;refine BM [] ?_;refine AJ (fuel:=1) [] [(6,true)] rfl (AL rfl rfl (AB (AH (i:=7) rfl (Bj ?_))));intros;refine Cs (Bh ?_);exact BX (_,_) d
 intro C _ _ _ _ hm;intros;refine Ba ?_;refine Ak (Am (Eh ?_));refine Bj ?_;intros;refine zz ?_;refine FG 6 ?_;intros;obtain rfl:=sm hm;exact Hj
end
section
attribute [local irreducible] Vb Lc Rw Ob
end
noncomputable def FZ(p:Tsk)(e:Swp):Option (Swp×Err) :=
  bnd (CG p [e]) λj=>if j.n≠0 then(none)else(bnd (DQ e.vars) λk=>bnd (DQ e.ops) λl=>bnd (mkI 24 (([]:List Int):List Int) (e.vals.length:Int)) λm=>bnd (some (k,m,l):Option ((List Int)×(List (List Int))×(List Int))) λd=>bnd (rng (ρ:=Swp×Err) (λ(f:Nat)(g:List Int)(b:(List (List Int)))=>bnd (e.vars[f]?) λc=>bnd (DQ g) λh=>bnd (atI b c) λo=>some (.next (b.set (c:Int).toNat h))) e.vals 0 d.2.1) λa=>fin a λ(i:(List (List Int)))=>some ((⟨d.1,i,d.2.2⟩:Swp),(⟨0⟩:Err)))
section
attribute [local irreducible] Vb Lc Rw Ob
theorem Ka{w:World}{A:Nat->Prop}(hA:∀k,A k->k<w.heap.size){e:Value}{m:Tsk}(p:Vb w A e m){f:Value}{g:Swp}(q:Vb w A f g){r:Swp×Err}(hm:FZ m g=some r) :
    Fn prog 95 [e,f] w λv w'=>Ext w w'/\T2 w' (upA A w w') v r:=by
 obtain⟨_,_,_⟩:=BS hA;apply Br p;intros;apply Br q;intros;refine AC func95 rfl ntmps95 ?_;unfold FZ at hm;refine Ak (Am (Dx 2 ?_));intros;refine Dx 3 ?_;intros;refine BC 4 ?_;intros;refine zz ?_;refine Eh ?_;refine Eh ?_;refine HK 5 ([g]:List Swp) ?_;intros;obtain⟨s,o0,hm⟩:=bs hm;refine CJ rfl (He (λ_ h=>h) zA zAr o0) ?_;intros;refine zz ?_;refine CU rfl (λl=>?_) λl=>?_
 ·replace hm:=ip hm l;refine o_z (Aj rfl ?_);cases hm
 replace hm:=im hm l;refine o_z (Ae rfl (Bf (Ak ?_)));obtain⟨z0,g0,hm⟩:=bs hm;obtain⟨u,c0,hm⟩:=bs hm;obtain⟨x,d0,hm⟩:=bs hm;refine Cu (X:=Nat×(Option Addr×Nat)×(Option Addr×Nat)×(Option Addr×Nat)) hm [3,4] [] [6,7] [] (λ_ _ _ b t=>(7,pv b.1)::t) (λ_ _ c b t=>fV b.2.1 c.1::fR 6 22 b.2.2.1 c.2.1::fV b.2.2.2 c.2.2 :: .L 7 b.1 29 [sv b.2.1 c.1,sv b.2.2.1 c.2.1,sv b.2.2.2 c.2.2]::t) ?_ ?_
 ·intro c a;refine HL [] ?_;refine AJ (fuel:=6) [] (Bc [0,1,3,4,6,7,8]) rfl (AL rfl rfl (CH rfl (AL rfl rfl ?_)));refine CH rfl (AL rfl rfl ?_);refine CH rfl (Ou rfl rfl (AB (Th (i:=2) (j:=9) (k:=11) rfl rfl rfl ?_ ?_ ?_)))
  ·refine q_S [] ?_;intros;refine Ew rfl (Cc Fr.lt zV g0) ?_;intros;refine BM [] ?_;refine Th (i:=5) (j:=9) (k:=11) rfl rfl rfl ?_ ?_ ?_
   ·refine q_S [] ?_;intros;refine Ew rfl (Cc Fr.lt zV c0) ?_;intros;refine BM [] ?_;refine Hx (i:=9) (j:=11) rfl rfl ?_ ?_
    ·refine q_S [] ?_;intros;refine FB 6 d0 ?_;intros;refine BM [] ?_;refine AJ (fuel:=2) [] [(10,true)] rfl (Fs rfl rfl rfl ?_);refine AB (AH (i:=11) rfl (q_S [] ?_));intros;refine BC 7 ?_;intros;refine BM [] ?_;refine AH (i:=12) rfl (Bj ?_);intros;refine Cs (Bh ?_);obtain rfl:=sm a;exact AP (_,(_,_),(_,_),(_,_))
    refine q_S [] ?_;intros;refine BC 7 ?_;intros;refine BM [] ?_;refine AH (i:=9) rfl (q_S [] ?_);intros;refine FB 6 d0 ?_;intros;refine BM [] ?_;refine AJ (fuel:=1) [] [(10,true)] rfl (Fs rfl rfl rfl ?_);refine AB (AH (i:=12) rfl (Bj ?_));intros;refine Cs (Bh ?_);obtain rfl:=sm a;exact AP (_,(_,_),(_,_),(_,_))
   ·refine q_S [] ?_;intros;refine FB 6 d0 ?_;intros;refine BM [] ?_;refine Hx (i:=5) (j:=11) rfl rfl ?_ ?_
    ·refine q_S [] ?_;intros;refine Ew rfl (Cc Fr.lt zV c0) ?_;intros;refine BM [] ?_;refine AJ (fuel:=2) [] [(10,true)] rfl (Fs rfl rfl rfl ?_);refine AB (AH (i:=11) rfl (q_S [] ?_));intros;refine BC 7 ?_;intros;refine BM [] ?_;refine AH (i:=12) rfl (Bj ?_);intros;refine Cs (Bh ?_);obtain rfl:=sm a;exact AP (_,(_,_),(_,_),(_,_))
    refine q_S [] ?_;intros;refine BC 7 ?_;intros;refine BM [] ?_;refine AH (i:=5) rfl (q_S [] ?_);intros;refine Ew rfl (Cc Fr.lt zV c0) ?_;intros;refine BM [] ?_;refine AJ (fuel:=1) [] [(10,true)] rfl (Fs rfl rfl rfl ?_);refine AB (AH (i:=12) rfl (Bj ?_));intros;refine Cs (Bh ?_);obtain rfl:=sm a;exact AP (_,(_,_),(_,_),(_,_))
   refine q_S [] ?_;intros;refine BC 7 ?_;intros;refine BM [] ?_;refine Hx (i:=5) (j:=9) rfl rfl ?_ ?_
   ·refine q_S [] ?_;intros;refine Ew rfl (Cc Fr.lt zV c0) ?_;intros;refine BM [] ?_;refine AH (i:=9) rfl (q_S [] ?_);intros;refine FB 6 d0 ?_;intros;refine BM [] ?_;refine AJ (fuel:=1) [] [(10,true)] rfl (Fs rfl rfl rfl ?_);refine AB (AH (i:=12) rfl (Bj ?_));intros;refine Cs (Bh ?_);obtain rfl:=sm a;exact AP (_,(_,_),(_,_),(_,_))
   refine q_S [] ?_;intros;refine FB 6 d0 ?_;intros;refine BM [] ?_;refine AH (i:=5) rfl (q_S [] ?_);intros;refine Ew rfl (Cc Fr.lt zV c0) ?_;intros;refine BM [] ?_;refine AJ (fuel:=1) [] [(10,true)] rfl (Fs rfl rfl rfl ?_);refine AB (AH (i:=12) rfl (Bj ?_));intros;refine Cs (Bh ?_);obtain rfl:=sm a;exact AP (_,(_,_),(_,_),(_,_))
  ·refine q_S [] ?_;intros;refine FB 6 d0 ?_;intros;refine BM [] ?_;refine Hx (i:=2) (j:=11) rfl rfl ?_ ?_
   ·refine q_S [] ?_;intros;refine Ew rfl (Cc Fr.lt zV g0) ?_;intros;refine BM [] ?_;refine Hx (i:=5) (j:=11) rfl rfl ?_ ?_
    ·refine q_S [] ?_;intros;refine Ew rfl (Cc Fr.lt zV c0) ?_;intros;refine BM [] ?_;refine AJ (fuel:=2) [] [(10,true)] rfl (Fs rfl rfl rfl ?_);refine AB (AH (i:=11) rfl (q_S [] ?_));intros;refine BC 7 ?_;intros;refine BM [] ?_;refine AH (i:=12) rfl (Bj ?_);intros;refine Cs (Bh ?_);obtain rfl:=sm a;exact AP (_,(_,_),(_,_),(_,_))
    refine q_S [] ?_;intros;refine BC 7 ?_;intros;refine BM [] ?_;refine AH (i:=5) rfl (q_S [] ?_);intros;refine Ew rfl (Cc Fr.lt zV c0) ?_;intros;refine BM [] ?_;refine AJ (fuel:=1) [] [(10,true)] rfl (Fs rfl rfl rfl ?_);refine AB (AH (i:=12) rfl (Bj ?_));intros;refine Cs (Bh ?_);obtain rfl:=sm a;exact AP (_,(_,_),(_,_),(_,_))
   refine q_S [] ?_;intros;refine BC 7 ?_;intros;refine BM [] ?_;refine AH (i:=2) rfl (q_S [] ?_);intros;refine Ew rfl (Cc Fr.lt zV g0) ?_;intros;refine BM [] ?_;refine AH (i:=5) rfl (q_S [] ?_);intros;refine Ew rfl (Cc Fr.lt zV c0) ?_;intros;refine BM [] ?_;refine AJ (fuel:=1) [] [(10,true)] rfl (Fs rfl rfl rfl ?_);refine AB (AH (i:=12) rfl (Bj ?_));intros;refine Cs (Bh ?_);obtain rfl:=sm a;exact AP (_,(_,_),(_,_),(_,_))
  refine q_S [] ?_;intros;refine BC 7 ?_;intros;refine BM [] ?_;refine Hx (i:=2) (j:=9) rfl rfl ?_ ?_
  ·refine q_S [] ?_;intros;refine Ew rfl (Cc Fr.lt zV g0) ?_;intros;refine BM [] ?_;refine Hx (i:=5) (j:=9) rfl rfl ?_ ?_
   ·refine q_S [] ?_;intros;refine Ew rfl (Cc Fr.lt zV c0) ?_;intros;refine BM [] ?_;refine AH (i:=9) rfl (q_S [] ?_);intros;refine FB 6 d0 ?_;intros;refine BM [] ?_;refine AJ (fuel:=1) [] [(10,true)] rfl (Fs rfl rfl rfl ?_);refine AB (AH (i:=12) rfl (Bj ?_));intros;refine Cs (Bh ?_);obtain rfl:=sm a;exact AP (_,(_,_),(_,_),(_,_))
   refine q_S [] ?_;intros;refine FB 6 d0 ?_;intros;refine BM [] ?_;refine AH (i:=5) rfl (q_S [] ?_);intros;refine Ew rfl (Cc Fr.lt zV c0) ?_;intros;refine BM [] ?_;refine AJ (fuel:=1) [] [(10,true)] rfl (Fs rfl rfl rfl ?_);refine AB (AH (i:=12) rfl (Bj ?_));intros;refine Cs (Bh ?_);obtain rfl:=sm a;exact AP (_,(_,_),(_,_),(_,_))
  refine q_S [] ?_;intros;refine FB 6 d0 ?_;intros;refine BM [] ?_;refine AH (i:=2) rfl (q_S [] ?_);intros;refine Ew rfl (Cc Fr.lt zV g0) ?_;intros;refine BM [] ?_;refine AH (i:=5) rfl (q_S [] ?_);intros;refine Ew rfl (Cc Fr.lt zV c0) ?_;intros;refine BM [] ?_;refine AJ (fuel:=1) [] [(10,true)] rfl (Fs rfl rfl rfl ?_);refine AB (AH (i:=12) rfl (Bj ?_));intros;refine Cs (Bh ?_);obtain rfl:=sm a;exact AP (_,(_,_),(_,_),(_,_))
 intro c _ _ _ _ hm;intros;refine Ba ?_;refine zz ?_;refine Bt (AT rfl (Aw rfl (o_z ?_)));refine Cl (X:=Unit) hm [3,4,7,30] [] [6] [6] (λ_ _ _ _ t=>t) (λ_ o n _ t=>uR (o 6) 6 n::t) () ?_ ?_
 ·intro y z n _ _ _ _ d l0 _ B;intros;refine zz ?_;refine CE ?_;intros;refine Dk (Ay rfl (Ay rfl (o_z ?_)));refine HL [] ?_;refine AJ (fuel:=3) [] (Bc (Db 0 8)) rfl (AL rfl rfl (CH rfl (AL rfl rfl ?_)));refine CH rfl (AI rfl rfl ?_);obtain⟨C,s0,d⟩:=bs d;refine Kn rfl ?_;intros;refine Fz rfl (AI rfl rfl (AB (AH (i:=8) rfl ?_)));refine q_S [] ?_;intros;obtain⟨D,k0,d⟩:=bs d;refine Ew rfl (Cc Fr.lt zV k0) ?_;intros;refine BM [] ?_;refine AJ (fuel:=1) [] [(9,true)] rfl ?_;obtain⟨E,v0,d⟩:=bs d;refine Ei rfl ?_;intros;refine AB (AH (i:=10) rfl (FA ?_));intros;refine Cs (Bh ?_);exact BX () d
 intro F _ _ _ _ hm;intros;refine Ba ?_;refine Ak (Am (Eh ?_));refine Bj ?_;intros;refine zz ?_;refine FG 6 ?_;intros;obtain rfl:=sm hm;exact Hj
end
end
section
open Go Go.RowKit
attribute [local irreducible] ewp owp hwp hwq hws Ev Evg Fn X6 Y1 YZ YY
attribute [local irreducible] hwx Y6
section
attribute [local irreducible] Vb Lc Rw Ob
end
noncomputable def DC(e:Tsk)(f:List Swp)(g:List Int):Option ((List Int)×(List Int)×Err) :=
  bnd (CG e f) λb=>if b.n≠0 then(none)else(bnd (EN e.vars g) λc=>if c=true then bnd (Cw g) λd=>bnd (lop (ρ:=(List Int)×(List Int)×Err) (λ(h:Unit)=>if 0<(f.length:Int)then(none)else(some (.brk ()))) ()) λa=>fin a λ(i:Unit)=>some (d,([]:List Int),(⟨0⟩:Err))else none)
section
attribute [local irreducible] Vb Lc Rw Ob
theorem My{w:World}{A:Nat->Prop}(hA:∀k,A k->k<w.heap.size){b:Value}{g:Tsk}(l:Vb w A b g){c:Value}{i:List Swp}(m:Vb w A c i){d:Value}{j:List Int}(n:Vb w A d j){r:(List Int)×(List Int)×Err}(hm:DC g i j=some r) :
    Fn prog 92 [b,c,d] w λv w'=>Ext w w'/\T3 w' (upA A w w') v r:=by
 obtain⟨_,_,_⟩:=BS hA;apply Br l;intros;apply Br m;intros;apply Br n;intros;refine AC func92 rfl ntmps92 ?_;unfold DC at hm;refine Ak (Am (Dx 2 ?_));intros;refine zz ?_;refine Eh (Aw rfl ?_);obtain⟨l0,h0,hm⟩:=bs hm;refine CJ rfl (He (λ_ h=>h) zA zA h0) ?_;intros;refine zz ?_;refine CU rfl (λe=>?_) λe=>?_
 ·replace hm:=ip hm e;refine o_z (Aj rfl ?_);cases hm
 replace hm:=im hm e;refine zz ?_;refine Bt (Aw rfl ?_);obtain⟨o,j0,hm⟩:=bs hm;refine CJ rfl (II (λ_ h=>h) zA zA j0) ?_;intros;cases o
 case false =>
  replace hm:=iF hm;refine zz ?_;cases hm
 replace hm:=iT hm;refine zz ?_;obtain⟨p,k0,hm⟩:=bs hm;refine Qd 3 rfl (Ep Fr.lt zV k0) ?_;intros;refine zz ?_;refine Nx (X:=Unit) hm [1,10,11,12] [] [] [] (λ_ _ _ _ t=>t) (λ_ _ _ _ t=>t) [10,11] (λ_ _ _ _ t=>t) () ?_ ?_
 ·intro q _ _ _ _ a c0;intros;refine zz ?_;refine CL rfl rfl (λf=>?_) λf=>?_
  ·replace a:=ip a f;refine zz ?_;refine BK ?_;cases a
  replace a:=im a f;refine o_z (Ae rfl (Cn ?_));exact RA () a
 intro s _ _ _ _ hm;intros;refine Ba ?_;refine zz ?_;refine FG 3 ?_;intros;obtain rfl:=sm hm;exact YP
end
end
section
open Go Go.RowKit
attribute [local irreducible] ewp owp hwp hwq hws Ev Evg Fn X6 Y1 YZ YY
attribute [local irreducible] hwx Y6
noncomputable def JO(a:Int)(b:Int)(c:Int):Option Int :=
  some (max b (min a c))
section
attribute [local irreducible] Vb Lc Rw Ob
theorem Og{w:World}{A:Nat->Prop}(hA:∀k,A k->k<w.heap.size){a:Int}(d:X2 a){b:Int}(e:X2 b){c:Int}(f:X2 c){r:Int}(hm:JO a b c=some r) :
    Fn prog 17 [(.int .i64 a),(.int .i64 b),(.int .i64 c)] w λv w'=>Ext w w'/\Vb w' (upA A w w') v r:=by
 obtain⟨_,_,_⟩:=BS hA;refine AC func17 rfl ntmps17 ?_;unfold JO at hm;refine zz ?_;refine Pe rfl rfl rfl (Np rfl rfl rfl (Ay rfl (o_z (AV ?_))));obtain rfl:=sm hm;exact By
end
end
section
open Go Go.RowKit
attribute [local irreducible] ewp owp hwp hwq hws Ev Evg Fn X6 Y1 YZ YY
theorem Abx{w:World}{sv:Value}{xs:List Int}(hs:V w sv xs)(hl:xs.length*8<=140737488355328) :
    Fn prog 26 [sv] w λv w'=>Own w' w.heap.size (All w) 3 v xs/\Ext w w':=by
  obtain⟨A,c,rfl⟩:=hs.form;refine AC func26 rfl ntmps26 ?_;cases A with
  |none =>
    have e:xs=[]:=by
      cases xs with
      |nil=>rfl
      |cons x xs=>obtain⟨_,_,_,h,_⟩:=hs.elem (k:=0) (x:=x) rfl;cases h
    subst e;refine bd ?_<;>refine ad ?_;exact YT rfl rfl ⟨Own.nil _ _ _ _,W8 _ _⟩
  |some j =>
    refine bd ?_<;>refine ab ?_;refine HS rfl rfl rfl (by simp) rfl λf d=>?_;have b:=d.ext;have a:Own f w.heap.size (All w) 3 (.slice (some ⟨w.heap.size,0,none⟩) 0 0) ([]:List Int):=Own.made d rfl rfl (T9 _) (by decide);refine ac ?_;refine Lm rfl rfl rfl a (λk hk=>K5 hk b.size) b.size (Vb.agree hs (b.agree λ_ h=>h)) (by simpa using hl) (by simp;omega) rfl λl m g i=>?_;refine ae ?_;refine ab ?_;refine YT rfl rfl ⟨by simpa using g,b.trans (a.fits (W3 _) b.size i)⟩
theorem Abl{w:World}{sv:Value}{xs:List Fct}(hs:V w sv xs)(hl:xs.length*16<=140737488355328) :
    Fn prog 27 [sv] w λv w'=>Own w' w.heap.size (All w) 67 v xs/\Ext w w':=by
  obtain⟨A,c,rfl⟩:=hs.form;refine AC func27 rfl ntmps27 ?_;cases A with
  |none =>
    have e:xs=[]:=by
      cases xs with
      |nil=>rfl
      |cons x xs=>obtain⟨_,_,_,h,_⟩:=hs.elem (k:=0) (x:=x) rfl;cases h
    subst e;refine bd ?_<;>refine ad ?_;exact YT rfl rfl ⟨Own.nil _ _ _ _,W8 _ _⟩
  |some j =>
    refine bd ?_<;>refine ab ?_;refine HS rfl rfl rfl (by simp) rfl λf d=>?_;have b:=d.ext;have a:Own f w.heap.size (All w) 67 (.slice (some ⟨w.heap.size,0,none⟩) 0 0) ([]:List Fct):=Own.made d rfl rfl (T9 _) (by decide);refine ac ?_;refine Lm rfl rfl rfl a (λk hk=>K5 hk b.size) b.size (Vb.agree hs (b.agree λ_ h=>h)) (by simpa using hl) (by simp;omega) rfl λl m g i=>?_;refine ae ?_;refine ab ?_;refine YT rfl rfl ⟨by simpa using g,b.trans (a.fits (W3 _) b.size i)⟩
def Abj(t:Tsk)(s:List Int)(k:Nat):List Int:=((List.range k).filter λi=>match t.ops[i]? with|some o=>YV o.pre s|none=>false).map λi:Nat=>(i:Int)
def AaI(t:Tsk)(s:List Int):List Int:=Abj t s t.ops.length
end
section
open Go Go.RowKit
attribute [local irreducible] ewp owp hwp hwq hws Ev Evg Fn X6 Y1 YZ YY
inductive Tr where
  |nil
  |leaf (ops:List Int)
  |node (nx many:Nat) (vals:Nat->Tr) (rest:Tr)
def TrR(w:World)(F:Nat->Prop):Tr->Value->Prop
  |.nil,p=>p=.pointer none
  |.leaf ops,p=>∃g ov,p=.pointer (some ⟨g,0,none⟩)/\F g/\Blk w g 239 [ov,.bool true,.int .i64 0,.slice none 0 0,.pointer none]/\Vb w F ov ops
  |.node f k a d,p=>∃g A c e,p=.pointer (some ⟨g,0,none⟩)/\F g/\Blk w g 239 [.slice none 0 0,.bool false,.int .i64 (f:Int),.slice A k c,.pointer e]/\TrR w F d (.pointer e) /\
      ∀i,i<k->∃b o q,A=some ⟨b,o,none⟩/\F b/\w.cell? ⟨b,o+i,none⟩=some (.pointer q)/\TrR w F (a i) (.pointer q)
theorem TrR.agree{w w':World}{F:Nat->Prop}(a:Agree F w w'):∀{j:Tr}{p:Value},TrR w F j p->TrR w' F j p
  |.nil,_,h=>h
  |.leaf ops,_,⟨g,ov,h1,h2,h3,h4⟩=>⟨g,ov,h1,h2,h3.keep (a g h2),h4.agree a⟩
  |.node f k d e,_,⟨g,A,c,rp,h1,h2,h3,h4,h5⟩=>⟨g,A,c,rp,h1,h2,h3.keep (a g h2),TrR.agree a h4,λi hi=>by
      obtain⟨b,o,q,g1,g2,g3,g4⟩:=h5 i hi;exact⟨b,o,q,g1,g2,(a.cell g2).trans g3,TrR.agree a g4⟩⟩
theorem TrR.mono{w:World}{F G:Nat->Prop}(hk:∀k,F k->G k):∀{f:Tr}{p:Value},TrR w F f p->TrR w G f p
  |.nil,_,h=>h
  |.leaf ops,_,⟨g,ov,h1,h2,h3,h4⟩=>⟨g,ov,h1,hk _ h2,h3,h4.mono hk⟩
  |.node e k a d,_,⟨g,A,c,rp,h1,h2,h3,h4,h5⟩=>⟨g,A,c,rp,h1,hk _ h2,h3,TrR.mono hk h4,λi hi=>by
      obtain⟨b,o,q,g1,g2,g3,g4⟩:=h5 i hi;exact⟨b,o,q,g1,hk _ g2,g3,TrR.mono hk g4⟩⟩
theorem TrR.form{w:World}{F:Nat->Prop}:∀{a:Tr}{p:Value},TrR w F a p->∃q,p=.pointer q
  |.nil,_,h=>⟨none,h⟩
  |.leaf _,_,⟨_,_,h,_⟩=>⟨_,h⟩
  |.node ..,_,⟨_,_,_,_,h,_⟩=>⟨_,h⟩
def atN(s:List Int)(i:Nat):Nat:=(s[i]?.getD 0).toNat
def ZR(s:List Int):Tr->List Int
  |.nil=>[]
  |.leaf ops=>ops
  |.node c _ a b=>ZR s (a (atN s c))++ZR s b
def Zs(s:List Int):Tr->List Bool->List Bool
  |.nil,l=>l
  |.leaf _,l=>l
  |.node c _ a b,l=>Zs s b (Zs s (a (atN s c)) (l.set c true))
def AaJ(s:List Int):Tr->Prop
  |.nil=>True
  |.leaf _=>True
  |.node c k a b=>(∃x:Nat,s[c]?=some (x:Int)/\x<k)/\AaJ s (a (atN s c))/\AaJ s b
theorem JP(s:List Int):∀(d:Tr)(l:List Bool),(Zs s d l).length=l.length
  |.nil,_=>rfl
  |.leaf _,_=>rfl
  |.node c k a b,l=>by rw[Zs,JP s b,JP s (a _)];simp
theorem Own.own_ne{α β:Type}[Rp α][Rp β]{w:World}{j l:Nat}{F G:Nat->Prop}{e f:TypeId}{u v:Value}{xs:List α}{ys:List β}(h:Own w j F e u xs)(k:Own w l G f v ys)(b:e≠f):∀g,u.ownBlock=some g->v.ownBlock≠some g:=by
  intro g i hv;obtain⟨r,m,_⟩:=h;obtain⟨s,n,_⟩:=k;rcases m.2 with⟨rfl,_⟩|⟨o,cap1,cur1,rfl,_,hh1,_⟩
  . simp[Value.ownBlock]at i
  . rcases n.2 with⟨rfl,_⟩|⟨p,cap2,cur2,rfl,_,a,_⟩
    . simp[Value.ownBlock]at hv
    . have c:o=g:=(by simpa[Value.ownBlock]using i);have d:p=g:=(by simpa[Value.ownBlock]using hv);subst c;subst d;rw[hh1]at a;injection a with a;injection a with _ q;exact b q
theorem Own.kept{α:Type}[Rp α]{w w':World}{base:Nat}{F:Nat->Prop}{e:TypeId}{v u:Value}{xs:List α}(h:Own w base F e v xs)(b:Kept w w' u)(c:∀k,F k->k<w.heap.size/\u.ownBlock≠some k)(a:∀g,v.ownBlock=some g->u.ownBlock≠some g):Own w' base F e v xs :=
  h.agree (λk hk=>b.block k (c k hk).1 (c k hk).2) λg d=>b.block g (h.lt g d).2 (a g d)
theorem cj{G H:Prop}(g:H)(h:Wr0 H->G:=by intro x;refine AI rfl rfl ?_;refine CT rfl rfl ?_;refine AL rfl rfl ?_;(first|refine Pi rfl rfl rfl ?_|refine Bl rfl rfl ?_);exact x.o):G:=h ⟨g⟩
theorem Ab1(B:Nat)(s:List Int):∀(T:Tr)(w:World)(p ov sv lv:Value)(out:List Int)(looked:List Bool),B<=w.heap.size->TrR w (· < B) T p->Vb w (· < B) sv s->Own w B (· < B) 3 ov out->Own w B (· < B) 4 lv looked ->
    AaJ s T->looked.length=s.length->out.length+(ZR s T).length<=1000000 ->
    Fn prog 164 [p,ov,sv,lv] w λv w'=>Own w' B (· < B) 3 v (out++ZR s T)/\Own w' B (· < B) 4 lv (Zs s T looked)/\Below B w w':=by
  intro T
  induction T with
  |nil =>
    intro w p ov sv lv out looked hB hT hs ho hl _ _ hlen;have hp:p=.pointer none:=hT;subst hp;refine AC func164 rfl ntmps164 ?_;refine ak ?_<;>refine MP rfl ?_<;>refine o_z ?_<;>refine am ?_;exact YT rfl rfl ⟨by simpa[ZR]using ho,hl,W8 _ _⟩
  |leaf ops =>
    intro w p ov sv lv out looked hB hT hs ho hl _ _ hlen;obtain⟨g,opv',rfl,hg,hb1,hops⟩:=hT;refine AC func164 rfl ntmps164 ?_;refine ak ?_<;>refine MP rfl ?_<;>refine o_z ?_<;>refine ah ?_<;>refine EQ rfl ?_<;>refine af ?_<;>refine o_z ?_<;>refine ah ?_<;>refine ac ?_<;>refine EQ rfl ?_<;>refine af ?_<;>refine ab ?_;simp only[ZR]at hlen;refine Lm rfl rfl rfl ho (λk hk=>K5 hk hB) hB hops (by omega) (by omega) rfl λv' w1 ho1 hK=>?_;refine ae ?_;refine ab ?_;refine YT rfl rfl ⟨ho1,?_,ho.fits (W3 _) hB hK⟩;exact hl.kept hK (λk hk=>⟨K5 hk hB,λhe=>by have:=(ho.lt k he).1;have:k<B:=hk;omega⟩) (λg hg=>hl.own_ne ho (by decide) g hg)
  |node nx k vals rest ih1 ih2 =>
    intro w p ov sv lv out looked hB hT hs ho hl hfit hll hlen;obtain⟨g,A,c,rp,rfl,hg,hb1,hrest,hvals⟩:=hT;obtain⟨⟨x,hx,hxk⟩,hfit1,hfit2⟩:=hfit;obtain⟨bv,ovv,q,rfl,hbv,hcv,hq⟩:=hvals x hxk;obtain⟨As,cs,rfl⟩:=hs.form;obtain⟨bs,os,ce,rfl,hbs,_,hds,rfl,_⟩:=hs.elem hx;have hnx:=Cf hx;have hat:atN s nx=x:=(by simp[atN,hx]);obtain⟨gl,capl,_,_,rfl,_⟩:=hl.open (by omega);refine AC func164 rfl ntmps164 ?_;have hll':nx<looked.length:=(by omega);refine ak ?_<;>refine MP rfl ?_<;>refine o_z ?_<;>refine ah ?_<;>refine EQ rfl ?_<;>refine af ?_<;>refine o_z ?_<;>refine ah ?_<;>refine ac ?_<;>refine EQ rfl ?_<;>refine af ?_<;>refine Ff rfl rfl ?_<;>refine ab ?_;refine NX (i:=nx) (a:=true) rfl rfl rfl hl hll' (show Vb w (· < B) (.bool true) true from rfl) λw1 hl1 hK1 hz1=>?_;have hB1:Below B w w1:=hl.fits (W3 _) hB hK1;have ho1:Own w1 B (· < B) 3 ov out:=ho.kept hK1 (λk hk=>⟨K5 hk hB,λhe=>by have:=(hl.lt k he).1;have:k<B:=hk;omega⟩) (λg hg=>ho.own_ne hl (by decide) g hg);refine o_z ?_;refine ab ?_;have hag:∀w',Below B w1 w'->Agree (· < B) w w':=λw' h k hk=>(hB1.trans h).block k hk;replace hb1:∀w',Below B w1 w'->Blk w' g 239 [.slice none 0 0,.bool false,.int .i64 (nx:Int),.slice (some ⟨bv,ovv,none⟩) k c,.pointer rp]:=λw' h=>hb1.keep (hag w' h g hg);have hd1:∀w',Below B w1 w'->cellsAt w' bs (os+nx*1) [.int .i64 (x:Int)]:=λw' h=>Ct (hag w' h) hbs hds;have hc1:∀w',Below B w1 w'->w'.cell? ⟨bv,ovv+x*1,none⟩=some (.pointer q):=λw' h=>(by rw[W7];exact((hag w' h).cell hbv).trans hcv);refine Df (Below B w1) [(0,true),(1,true),(2,true),(3,true),(4,true),(5,true),(6,true),(7,true),(8,true),(9,true),(10,true),(11,true),(12,true),(13,true),(14,true),(15,true),(16,true),(17,true),(18,true),(19,true),(21,true),(22,true),(20,false),(23,false),(24,true)] rfl (W8 _ _) ?_;refine cj ?_<;>refine cj ?_<;>refine AI rfl rfl ?_<;>refine cj ?_<;>refine Vn rfl rfl rfl rfl ?_<;>(first|refine Pi rfl rfl rfl ?_|refine Bl rfl rfl ?_)<;>refine Vn rfl rfl rfl rfl ?_<;>(first|refine Pi rfl rfl rfl ?_|refine Bl rfl rfl ?_)<;>refine AI rfl rfl ?_<;>refine AI rfl rfl ?_<;>refine AI rfl rfl ?_<;>refine AI rfl rfl ?_<;>refine AI rfl rfl ?_;refine DX rfl ?_;simp only[ZR,hat,K4]at hlen;refine Cb rfl (ih1 x w1 (.pointer q) ov _ _ out (looked.set nx true) (V6 hB hB1.size) (TrR.agree (hag w1 (W8 _ _)) hq) (hs.agree (hag w1 (W8 _ _))) ho1 hl1 (hat▸hfit1) (by simpa using hll) (by omega)) ?_;rintro v2 w2 ⟨ho2,hl2,hB2⟩;refine Gf hB2 ?_;refine DX rfl ?_;refine Cb rfl (ih2 w2 (.pointer rp) v2 _ _ (out++ZR s (vals x)) (Zs s (vals x) (looked.set nx true)) (V6 hB (hB1.trans hB2).size) (TrR.agree (hag w2 hB2) hrest) (hs.agree (hag w2 hB2)) ho2 hl2 hfit2 (by rw[JP];simpa using hll) (by rw[K4];omega)) ?_;rintro v3 w3 ⟨ho3,hl3,hB3⟩;refine Gf (hB2.trans hB3) ?_;refine Eu rfl rfl ?_<;>refine h_z ?_;refine ab ?_;exact YT rfl rfl ⟨by simpa[ZR,hat]using ho3,by simpa[Zs,hat]using hl3,hB1.trans (hB2.trans hB3)⟩
end
section
open Go Go.RowKit
attribute [local irreducible] ewp owp hwp hwq hws Ev Evg Fn X6 Y1 YZ YY
def GenR(w:World)(F:Nat->Prop)(gv:Value)(t:Tsk)(T:Tr):Prop :=
  ∃e a b c d r,gv=.pointer (some ⟨e,0,none⟩)/\F e/\Blk w e 192 [a,b,c,d,r]/\Vb w F a t.vars/\Vb w F b t.init/\Vb w F c t.goal/\Vb w F d t.ops/\TrR w F T r
theorem Wi(z:Value)(n:Nat)(hz:z.cells=#[z]):(madeCells z.cells (n*1)).toList=List.replicate n z:=by
  rw[hz,W7];apply List.ext_getElem
  . simp[madeCells]
  . intro i a b;simp[madeCells,Nat.mod_one]
theorem Nj{w:World}{F:Nat->Prop}:∀n,Chunks w F (List.replicate n (.bool false)) (List.replicate n false)
  |0=>rfl
  |n+1=>⟨[.bool false],List.replicate n (.bool false),rfl,rfl,Nj n⟩
noncomputable def Z8(t:Tsk)(T:Tr)(s:List Int):List Int:=if bof (StateOk t.vars s)=true then ZY (ZR s T)else[]
noncomputable def findN(t:Tsk)(T:Tr)(s:List Int):Nat:=if bof (StateOk t.vars s)=true then(Zs s T (List.replicate s.length false)).count true else 0
theorem TW{l:List Bool}{k:Nat}{b:Bool}(h:l[k]?=some b):(l.take (k+1)).count true=(l.take k).count true+if b=true then 1 else 0:=by
  rw[M4,h,List.count_append];cases b<;>simp
theorem Ab5{w:World}{gv sv:Value}{t:Tsk}{T:Tr}{s:List Int}(A:GenR w (All w) gv t T)(hs:V w sv s)(q:StateOk t.vars s->AaJ s T)(j:(ZR s T).length<=1000000)(L:s.length<=1000000) :
    Fn prog 137 [gv,sv] w λv w'=>Ext w w'/\∃u,v=.tuple #[u,.int .i64 (findN t T s:Int)]/\Own w' w.heap.size (All w) 3 u (Z8 t T s):=by
  obtain⟨Q,a,b,c,d,r,rfl,hgb,hb1,hvars,hinit,hgoal,hops,hT⟩:=A;obtain⟨R,cv,rfl⟩:=hvars.form;obtain⟨S,cs,rfl⟩:=hs.form;obtain⟨M,rfl⟩:=hT.form;refine AC func137 rfl ntmps137 ?_
  (refine ab ?_<;>refine aZ ?_<;>(refine ac ?_<;>refine MP rfl ?_<;>refine ac ?_<;>(first|(refine AA rfl rfl ?_;refine Aw rfl ?_)|refine AK rfl rfl ?_)<;>(first|(refine AA rfl rfl ?_;refine EQ rfl ?_)|refine AK rfl rfl ?_)<;>(first|(refine AA rfl rfl ?_;refine AN rfl ?_)|refine AK rfl rfl ?_)<;>(first|(refine AA rfl rfl ?_;refine AN rfl ?_)|refine AK rfl rfl ?_)<;>(first|(refine AA rfl rfl ?_;refine AF rfl ?_)|refine AK rfl rfl ?_)<;>(first|(refine AA rfl rfl ?_;refine Aw rfl ?_)|refine AK rfl rfl ?_))<;>refine ab ?_)
  refine AA rfl rfl ?_;refine Ez rfl (Aas hvars hs) ?_ ?_
  case refine_2 =>
    intro z J e
    ((first|(refine AA rfl rfl ?_;(first|refine Fq rfl ?_|refine Fe rfl ?_|refine DY rfl ?_))|refine AK rfl rfl ?_)<;>refine ai ?_)
    refine ab ?_;refine ab ?_<;>refine aZ ?_;refine Y7 rfl (AD rfl) (AD rfl) ⟨e,.slice none 0 0,?_,?_⟩
    . rw[findN,Bb J];rfl
    . rw[Z8,Bb J];exact Own.nil _ _ _ _
  intro z m e;replace hb1:=hb1.ext e
  ((first|(refine AA rfl rfl ?_;(first|refine Fq rfl ?_|refine Fe rfl ?_|refine DY rfl ?_))|refine AK rfl rfl ?_)<;>refine ai ?_)
  refine ab ?_;refine ac ?_<;>refine AT rfl ?_;refine Rk rfl rfl (by omega) (by omega) rfl λB o=>?_;replace hb1:=hb1.ext o.ext;have i:Ext w B:=e.trans' o.ext;have C:Own B w.heap.size (· < w.heap.size) 4 (.slice (some ⟨z.heap.size,0,none⟩) s.length s.length) (List.replicate s.length false) :=
    (Own.made o (by rw[Wi _ _ rfl];exact Nj _) (by simp) (by have:=e.size;omega) (by omega)).lower e.size
  refine ae ?_;refine ab ?_;refine ac ?_<;>refine EQ rfl ?_<;>refine af ?_<;>refine bg ?_;refine Cb rfl (Ab1 w.heap.size s T B (.pointer M) (.slice none 0 0) _ _ [] _ i.size (TrR.agree (i.agree λ_ h=>h) hT) (Vb.agree hs (i.agree λ_ h=>h)) (Own.nil _ _ _ _) C (q m) (by simp) (by simpa using j)) ?_;rintro K N ⟨f,hl3,hB3⟩;have p:Ext w N:=i.trans hB3;rw[R3]at f;refine ae ?_;refine ab ?_;refine ac ?_;refine Cb rfl (Aa4 f j) ?_;rintro _ D ⟨rfl,ho4,hK4⟩;have E:Ext w D:=p.trans (f.fits (W3 _) p.size hK4);have F:=hl3.kept hK4 (λk hk=>⟨K5 hk p.size,λhe=>by have:=(f.lt k he).1;have:k<w.heap.size:=hk;omega⟩) (λg A=>hl3.own_ne f (by decide) g A);have G:Vb D _ (.slice (some ⟨z.heap.size,0,none⟩) s.length s.length) (Zs s T (List.replicate s.length false)):=F.vb;have O:(Zs s T (List.replicate s.length false)).length=s.length:=(by rw[JP];simp);refine o_z ?_;refine ab ?_;refine ak ?_<;>refine ao ?_;refine CI s.length (by omega) (λn:Nat=>[(7,K),(8,.int .i64 (n:Int)),(35,.slice (some ⟨z.heap.size,0,none⟩) s.length s.length)]) (λk n w'=>w'=D/\n=((Zs s T (List.replicate s.length false)).take k).count true) 0
    ⟨rfl,by simp⟩ A7 (λ_=>⟨rfl,rfl⟩) ⟨rfl,rfl,rfl⟩ ⟨rfl,rfl⟩ ?_ ?_
  . rintro k n _ hk ⟨rfl,hn⟩;obtain⟨x,hx⟩:=AG (l:=Zs s T (List.replicate s.length false)) (k:=k) (by omega);obtain⟨U,o2,ce,he,_,_,hd1,rfl⟩:=G.elem hx;injection he with he;injection he with H I;subst H;subst I;have P:n<=k:=by
      rw[hn];exact V6 List.count_le_length (by rw[P9];omega)
    have y:=TW hx;cases x
    . refine bl ?_<;>refine bf ?_<;>refine ab ?_;exact⟨n,A7,rfl,by rw[y,hn];simp⟩
    . refine bl ?_<;>refine bf ?_<;>refine ah ?_<;>refine bt ?_<;>refine ar ?_;exact⟨n+1,A7,rfl,by rw[y,hn];simp⟩
  rintro n _ ⟨rfl,hn⟩;refine ab ?_;refine ah ?_<;>refine ac ?_<;>refine aZ ?_;refine Y7 rfl (AD rfl) (AD rfl) ⟨E,K,?_,?_⟩
  . rw[findN,BI m,if_pos rfl,hn,E8 (by omega)]
  . rw[Z8,BI m,if_pos rfl];exact ho4
section
variable {w:World}{gv sv:Value}{t:Tsk}{T:Tr}{s:List Int}
theorem AaW(d:GenR w (All w) gv t T)(hs:V w sv s)(a:StateOk t.vars s->AaJ s T)(b:(ZR s T).length<=1000000)(c:s.length<=1000000) :
    Fn prog 97 [gv,sv] w λv w'=>Ext w w'/\Own w' w.heap.size (All w) 3 v (Z8 t T s):=by
  refine AC func97 rfl ntmps97 ?_;refine bu ?_;refine Cb rfl (Ab5 d hs a b c) ?_;rintro _ f ⟨e,u,rfl,ho⟩;refine bp ?_<;>refine Ay rfl ?_<;>refine ae ?_;refine ab ?_;refine am ?_;exact YT rfl rfl ⟨e,ho⟩
theorem Own.form{α:Type}[Rp α]{w:World}{base:Nat}{F:Nat->Prop}{e:TypeId}{v:Value}{xs:List α}(h:Own w base F e v xs):∃A c,v=.slice A xs.length c:=h.vb.form
end
structure Suc where
  op:Int
  state:List Int
instance:Rp Suc where
  isAgg:=true
  size:=2
  R w F cs x:=∃v,cs=[.int .i64 x.op,v]/\Vb w F v x.state/\X2 x.op
  len:=by rintro w F cs x ⟨v,rfl,_⟩;rfl
  one:=by rintro w F cs x ⟨v,rfl,h,_⟩ u hu;simp at hu;rcases hu with rfl|rfl<;>first|rfl|exact Vb.one rfl (by assumption)
  agree:=by rintro w w' F cs x ⟨v,rfl,h,h2⟩ ha;exact⟨v,rfl,h.agree ha,h2⟩
  mono:=by rintro w F G cs x ⟨v,rfl,h,h2⟩ ha;exact⟨v,rfl,h.mono ha,h2⟩
end
section
open Go Go.RowKit
attribute [local irreducible] ewp owp hwp hwq hws Ev Evg Fn X6 Y1 YZ YY
def GenB(w:World)(F:Nat->Prop)(f:Value)(t:Tsk):Prop :=
  ∃e a b c d g,f=.pointer (some ⟨e,0,none⟩)/\F e/\Blk w e 192 [a,b,c,d,.pointer g]/\Vb w F a t.vars/\Vb w F b t.init/\Vb w F c t.goal/\Vb w F d t.ops
theorem GenB.agree{w w':World}{F:Nat->Prop}{f:Value}{t:Tsk}(h:GenB w F f t)(e:Agree F w w'):GenB w' F f t:=by
  obtain⟨g,a,b,c,d,r,h1,h2,h3,h4,h5,h6,h7⟩:=h;exact⟨g,a,b,c,d,r,h1,h2,h3.keep (e g h2),h4.agree e,h5.agree e,h6.agree e,h7.agree e⟩
theorem GenB.mono{w:World}{F G:Nat->Prop}{f:Value}{t:Tsk}(h:GenB w F f t)(e:∀k,F k->G k):GenB w G f t:=by
  obtain⟨g,a,b,c,d,r,h1,h2,h3,h4,h5,h6,h7⟩:=h;exact⟨g,a,b,c,d,r,h1,e _ h2,h3,h4.mono e,h5.mono e,h6.mono e,h7.mono e⟩
theorem GenB.ext{w w':World}{a:Value}{t:Tsk}(h:GenB w (All w) a t)(b:Ext w w'):GenB w' (All w') a t:=(h.agree (b.agree λ_ h=>h)).mono λk hk=>K5 hk b.size
def factOn(l:List Fct)(v:Int):Option Fct:=l.find? λf=>decide (f.var=v)
def Abn:Option Fct->Value
  |some f=>.tuple #[.agg #[.int .i64 f.var,.int .i64 f.val],.bool true]
  |none=>.tuple #[.agg #[.int .i64 0,.int .i64 0],.bool false]
theorem QP{α:Type}(p:α->Bool):∀{l:List α}{k:Nat}{x:α},l[k]?=some x->p x=true->(∀i,i<k->∀y,l[i]?=some y->p y=false)->l.find? p=some x
  |[],_,_,h,_,_=>by simp at h
  |y::l,0,x,h,hp,_=>by
    have:y=x:=(by simpa using h);subst this;simp[hp]
  |y::l,k+1,x,h,hp,hn=>by
    have a:=hn 0 (by omega) y rfl;rw[List.find?_cons,a];exact QP p (k:=k) (by simpa using h) hp λi hi z hz=>hn (i+1) (by omega) z (by simpa using hz)
theorem UY{α:Type}(p:α->Bool){l:List α}(hn:∀i,i<l.length->∀y,l[i]?=some y->p y=false):l.find? p=none:=by
  rw[List.find?_eq_none];intro x a;obtain⟨i,hi⟩:=H3 a;simp[hn i (Cf hi) x hi]
theorem Ab4{w:World}{z:Value}{t:Tsk}{j:Nat}{o:Opr}{v:Int}(A:GenB w (All w) z t)(B:t.ops[j]?=some o) :
    Fn prog 133 [z,.int .i64 (j:Int),.int .i64 v] w λr w'=>r=Abn (factOn o.pre v)/\Ext w w':=by
  obtain⟨J,a,b,c,d,rp,rfl,hgb,hb0,hvars,hinit,hgoal,hops⟩:=A;obtain⟨K,co,rfl⟩:=hops.form;obtain⟨L,o2,ce,rfl,hbl,hjl,hd0,p,q,rfl,hp,hq,hc,hnm⟩:=hops.elem B;obtain⟨C,cp,rfl⟩:=hp.form;have D:=hp.len;refine AC func133 rfl ntmps133 ?_;refine ab ?_;refine GO rfl λx n=>?_;have e:=n.blk;have g:Ext w x:=n.ext;have E:=hb0.ext g;have y:=Uf hd0 hbl g;refine ae ?_;refine ab ?_;refine ah ?_<;>refine EQ rfl ?_<;>refine AN rfl ?_<;>refine af ?_<;>refine ac ?_<;>refine Ff rfl rfl ?_<;>refine af ?_<;>refine ao ?_;refine CI o.pre.length (by omega) (λ_:Unit=>[(2,.int .i64 v),(6,.pointer (some ⟨w.heap.size,0,none⟩)),(18,.slice C o.pre.length cp)]) (λk _ w'=>Ext x w'/\∀i,i<k->∀f,o.pre[i]?=some f->decide (f.var=v)=false) ()
    ⟨W8 _ _,λi hi=>by omega⟩ A7 (λ_=>⟨rfl,rfl⟩) ⟨rfl,rfl,rfl⟩ ⟨rfl,rfl⟩ ?_ ?_
  . rintro k _ F hk ⟨h,hh⟩;obtain⟨f,hf⟩:=AG hk;obtain⟨M,o3,ce,rfl,_,_,y,rfl,hr1,hr2⟩:=(hp.ext (g.trans' h)).elem hf;refine al ?_;refine Dp rfl rfl (by simp[Value.cells,Value.oneCell']) λG s=>?_;have H:=s.blk;have m:Ext x G:=h.trans' s.ext;replace e:=e.ext m;refine o_z ?_;refine ab ?_
    (refine ab ?_<;>(refine af ?_<;>refine ac ?_<;>(first|refine TH rfl rfl rfl ?_|refine TI rfl rfl rfl ?_|refine EA rfl rfl (λ_=>?_) λ_=>?_)<;>refine o_z ?_)<;>refine ab ?_)
    . refine Bv rfl ?_;refine Do rfl rfl e rfl (W3 _) (by simp[Value.cells,Value.oneCell']) λI u=>?_;refine ae ?_;refine ab ?_;refine Y7 rfl (Ge rfl rfl u.blk.cellsAt) (AD rfl) ⟨?_,g.trans ((m.mono g.size).trans (u.below (W3 _)))⟩;rw[factOn,QP _ hf (by simpa using ‹f.var=v›) hh];rfl
    . exact⟨(),A7,m,DJ hh λf' l=>by rw[hf]at l;injection l with l;subst l;simpa using ‹¬f.var=v›⟩
  rintro _ F ⟨h,hh⟩;replace e:=e.ext h;refine ab ?_;refine aj ?_;refine Do rfl rfl e rfl (W3 _) (by simp[Value.cells,Value.oneCell',ZD]) λI u=>?_;refine ae ?_;refine ab ?_;refine Y7 rfl (Ge rfl rfl u.blk.cellsAt) (AD rfl) ⟨?_,g.trans ((h.mono g.size).trans (u.below (W3 _)))⟩;rw[factOn,UY _ hh];rfl
theorem Abz{w:World}{b:Value}{t:Tsk}{j:Nat}{o:Opr}{v:Int}{c d:Nat}{e g:TypeId}(h:GenB w (All w) b t)(i:t.ops[j]?=some o)(k:Blk w c e [b])(l:Blk w d g [.int .i64 v]) :
    Fn prog 132 ([.int .i64 (j:Int)]++[.pointer (some ⟨c,0,none⟩),.pointer (some ⟨d,0,none⟩)]) w λr w'=>r=.bool (factOn o.pre v).isSome/\Ext w w':=by
  have m:=k;have n:=l;refine AC func132 rfl ntmps132 ?_;refine ad ?_<;>refine AF rfl ?_<;>refine ac ?_<;>refine AF rfl ?_<;>refine ab ?_;refine Cb rfl (Ab4 h i) ?_;rintro _ q ⟨rfl,hE1⟩;cases hf:factOn o.pre v with
  |none =>
    simp only[Abn];refine bp ?_;refine Dp rfl rfl (by simp[Value.cells,Value.oneCell']) λp a=>?_;refine ae ?_;refine ab ?_;refine am ?_;exact YT rfl rfl ⟨rfl,hE1.trans' a.ext⟩
  |some f =>
    simp only[Abn];refine bp ?_;refine Dp rfl rfl (by simp[Value.cells,Value.oneCell']) λp a=>?_;refine ae ?_;refine ab ?_;refine am ?_;exact YT rfl rfl ⟨rfl,hE1.trans' a.ext⟩
end
section
open Go Go.RowKit
attribute [local irreducible] ewp owp hwp hwq hws Ev Evg Fn X6 Y1 YZ YY
theorem AaU{w:World}{sv:Value}{xs:List (Int)}{g:FuncId}[Callable prog g]{caps:List Value}{p:Int->Prop}(hs:V w sv xs)
    (l:∀v x w',x∈xs->Ext w w'->V w' v x->Fn prog g ([v]++caps) w' λr h=>r=.bool (bof (p x))/\Ext w' h) :
    Fn prog 163 [sv,.func (.func g) #[] caps.toArray] w λv w'=>((∃k:Nat,v=.int .i64 (k:Int)/\∃x∈xs,p x)\/(v=.int .i64 (-1)/\∀x∈xs,¬p x))/\Ext w w':=by
  obtain⟨A,c,rfl⟩:=hs.form;have hl:=hs.len;refine AC func163 rfl ntmps163 ?_;refine ak ?_<;>refine ao ?_;refine CI xs.length (by omega) (λ_:Unit=>[(0,.slice A xs.length c),(1,.func (.func g) #[] caps.toArray)]) (λk _ w'=>Ext w w'/\∀i,i<k->∀x,xs[i]?=some x->¬p x) ()
    ⟨W8 _ _,λi hi=>by omega⟩ A5 (λ_=>⟨rfl,rfl⟩) ⟨rfl,rfl,rfl⟩ ⟨rfl,rfl⟩ ?_ ?_
  . rintro k _ j hk ⟨d,hh⟩;obtain⟨x,e⟩:=AG hk;obtain⟨b,o,ce,rfl,_,_,hd1,hR⟩:=(hs.ext d).elem e;obtain⟨v,rfl⟩:=List.length_eq_one_iff.1 (Rp.len hR);refine cr ?_;refine JT rfl rfl rfl (l v x j (H2 e) d hR) ?_;rintro _ m ⟨rfl,hE2⟩;by_cases f:p x
    . rw[BI f];refine o_z ?_;refine ab ?_;refine am ?_;exact YT rfl rfl ⟨.inl ⟨k,rfl,x,H2 e,f⟩,d.trans' hE2⟩
    . rw[Bb f];refine o_z ?_;refine ab ?_;exact⟨(),A5,d.trans' hE2,DJ hh λn a=>by rw[e]at a;injection a with a;exact a▸f⟩
  rintro _ j ⟨d,hh⟩;refine ab ?_;refine ad ?_;refine YT rfl rfl ⟨.inr ⟨rfl,λx e=>?_⟩,d⟩;obtain⟨i,hi⟩:=H3 e;exact hh i (Cf hi) x hi
theorem AaH{w:World}{sv:Value}{xs:List (Int)}{g:FuncId}[Callable prog g]{caps:List Value}{p:Int->Prop}(hs:V w sv xs)
    (b:∀v x w',x∈xs->Ext w w'->V w' v x->Fn prog g ([v]++caps) w' λr a=>r=.bool (bof (p x))/\Ext w' a) :
    Fn prog 131 [sv,.func (.func g) #[] caps.toArray] w λv w'=>v=.bool (bof (∃x∈xs,p x))/\Ext w w':=by
  refine AC func131 rfl ntmps131 ?_;refine bu ?_;refine Cb rfl (AaU hs b) ?_;rintro v c ⟨h,hE⟩;rcases h with⟨k,rfl,h⟩|⟨rfl,h⟩
  . refine bx ?_;refine ab ?_;exact YT rfl rfl ⟨by rw[BI h],hE⟩
  . refine bx ?_;refine ab ?_;exact YT rfl rfl ⟨by rw[Bb (λ⟨x,hx,hp⟩=>h x hx hp)],hE⟩
end
section
open Go Go.RowKit
attribute [local irreducible] ewp owp hwp hwq hws Ev Evg Fn X6 Y1 YZ YY
def preOf(t:Tsk)(a:Int):List Fct:=match t.ops[a.toNat]? with|some o=>o.pre|none=>[]
def ZG(t:Tsk)(ops:List Int)(v:Nat):Bool:=ops.any λa=>(factOn (preOf t a) (v:Int)).isSome
def nextF(t:Tsk)(ops:List Int):Nat->Nat->Nat
  |0,v=>v
  |k+1,v=>if ZG t ops v=true then v else nextF t ops k (v+1)
def nextV(t:Tsk)(ops:List Int)(v:Nat):Nat:=nextF t ops (t.vars.length-v) v
def Aaw(t:Tsk)(u:Nat)(x:Nat)(a:Int):Bool:=match factOn (preOf t a) (u:Int)with|some f=>decide (f.val=(x:Int))|none=>false
def Aac(t:Tsk)(u:Nat)(a:Int):Bool:=(factOn (preOf t a) (u:Int)).isNone
def mkT(t:Tsk):Nat→List Int→Nat→Tr
  |0,_,_=>.nil
  |fuel+1,ops,v =>
    if ops.isEmpty then .nil
    else if nextV t ops v=t.vars.length then .leaf ops
    else .node (nextV t ops v) (t.vars[nextV t ops v]?.getD 0).toNat (λx=>mkT t fuel (ops.filter (Aaw t (nextV t ops v) x)) (nextV t ops v+1)) (mkT t fuel (ops.filter (Aac t (nextV t ops v))) (nextV t ops v+1))
theorem Mz(t:Tsk)(ops:List Int):∀(k v:Nat),v<=nextF t ops k v/\nextF t ops k v<=v+k/\(∀u,v<=u->u<nextF t ops k v->ZG t ops u=false)/\(nextF t ops k v<v+k->ZG t ops (nextF t ops k v)=true)
  |0,v=>by simp[nextF];intro u b c;omega
  |k  + 1,v=>by
    by_cases h:ZG t ops v=true
    . simp only[nextF,h,if_true];exact⟨W3 _,by omega,λu b c=>by omega,λ_=>trivial⟩
    . obtain⟨b,c,h3,h4⟩:=Mz t ops k (v+1);simp only[nextF,h];refine⟨by simp;omega,by simp;omega,λu d a=>?_,λhlt=>h4 (by simp at hlt;omega)⟩;by_cases he:u=v
      . subst he;simpa using h
      . exact h3 u (by omega) (by simpa using a)
theorem Wj(t:Tsk)(ops:List Int){v u:Nat}(a:v<=u)(e:u<=t.vars.length)(b:∀x,v<=x->x<u->ZG t ops x=false)(c:u<t.vars.length->ZG t ops u=true):nextV t ops v=u:=by
  obtain⟨d,g2,g3,g4⟩:=Mz t ops (t.vars.length-v) v;unfold nextV;rcases O7 (nextF t ops (t.vars.length-v) v) u with h|h|h
  . have:=b _ d h;rw[g4 (by omega)]at this;cases this
  . exact h
  . have:=g3 u a h;rw[c (by omega)]at this;cases this
def AcH(t:Tsk)(ops:List Int):Prop:=∀a∈ops,0<=a/\a<t.ops.length
def Aa2(t:Tsk):Prop:=∀(i:Nat) o,t.ops[i]?=some o->∀(v:Nat) f,factOn o.pre (v:Int)=some f->v<t.vars.length->0<=f.val/\∃n,t.vars[v]?=some n/\f.val<n
def AcM(F:Nat->Prop)(w w':World):Nat->Prop:=λk=>F k\/w.heap.size<=k/\k<w'.heap.size
theorem Wl{t:Tsk}(h:t.ops.all (λo=>o.pre.isEmpty)=true)(ops:List Int)(u:Nat):ZG t ops u=false:=by
  unfold ZG;rw[List.any_eq_false];intro a _;have:preOf t a=[]:=by
    unfold preOf;cases b:t.ops[a.toNat]? with
    |none=>rfl
    |some o =>
      have:=P7.1 h o (H2 b);simpa using this
  simp[this,factOn]
theorem cu{G H:Prop}(g:H)(h:Wr0 H->G:=by intro x;refine Nq rfl rfl rfl ?_;refine Nq rfl rfl rfl ?_;refine CT rfl rfl ?_;refine AL rfl rfl ?_;refine AL rfl rfl ?_;refine Nq rfl rfl rfl ?_;exact x.o):G:=h ⟨g⟩
theorem cy{G H:Prop}(g:H)(h:Wr0 H->G:=by intro x;refine AI rfl rfl ?_;refine aq ?_;(refine Au rfl ?_;(first|(refine At rfl rfl ?_;refine Xu rfl rfl rfl ?_)|refine AE rfl rfl ?_));exact x.o):G:=h ⟨g⟩
theorem cm{G H:Prop}(g:H)(h:Wr0 H->G:=by intro x;(refine Au rfl ?_;(first|(refine At rfl rfl ?_;(first|refine PS rfl rfl ?_|refine PT rfl rfl ?_|refine Vo rfl rfl ?_))|refine AE rfl rfl ?_));refine bz ?_;refine h_z ?_;exact x.o):G:=h ⟨g⟩
theorem AbL(t:Tsk)(c0:Z5 t)(e0:Aa2 t)(f0:t.vars.length≤64):∀(fuel:Nat)(w:World)(P n:Value)(ops:List Int)(v:Nat)(F:Nat→Prop),GenB w (All w) P t→Vb w F n ops→(∀k,F k→k<w.heap.size)→AcH t ops→ops.length≤4096 →
    v<=t.vars.length->t.vars.length<fuel+v->(∀u,u<t.vars.length->ZG t ops u=false)->Fn prog 91 [P,n,.int .i64 (v:Int)] w λp w'=>TrR w' (AcM F w w') (mkT t fuel ops v) p/\Ext w w':=by
  intro fuel
  induction fuel with
  |zero=>intro w P n ops v F _ _ _ _ _ S h2 _;omega
  |succ fuel ih =>
    intro w P n ops v F I q Q T d0 U W X;obtain⟨Y,a,b,c,d,rp,rfl,hgb,hbg,hvars,hinit,hgoal,hopsv⟩:=id I;obtain⟨Av,cv,rfl⟩:=hvars.form;obtain⟨J,cx,rfl⟩:=q.form;refine AC func91 rfl ntmps91 ?_;refine ab ?_;refine Gw rfl λy s=>?_;refine Gw rfl λR z=>?_;have K:Ext w R:=s.ext.trans' z.ext;have i:Blk R w.heap.size 124 [.pointer (some ⟨Y,0,none⟩)]:=s.blk.ext z.ext;have m:Blk R y.heap.size 3 [.int .i64 (v:Int)]:=z.blk;have L:y.heap.size≠w.heap.size:=(by rw[s.size];omega);have M:w.heap.size<=y.heap.size:=s.ext.size;have hz1:y.heap.size=w.heap.size+1:=s.size;have g0:R.heap.size=y.heap.size+1:=z.size;refine ae ?_;refine ab ?_;by_cases N:ops.length=0
    . have:ops=[]:=B1 N;subst this;refine ah ?_<;>refine AT rfl ?_<;>(first|refine TH rfl rfl rfl ?_|refine TI rfl rfl rfl ?_)<;>refine o_z ?_<;>refine ad ?_;exact YT rfl rfl ⟨rfl,K⟩
    have B:ops.isEmpty=false:=by cases ops<;>simp at *
    refine ac ?_<;>refine AT rfl ?_<;>(first|refine TH rfl rfl rfl ?_|refine TI rfl rfl rfl ?_)<;>refine o_z ?_;refine Ae rfl (Bf ?_);refine Ta (λl' w'=>∃u:Nat,X5 l' [(1,.slice J ops.length cx),(3,.pointer (some ⟨w.heap.size,0,none⟩)),(5,.pointer (some ⟨y.heap.size,0,none⟩))]/\Ext w w'/\Blk w' w.heap.size 124 [.pointer (some ⟨Y,0,none⟩)]/\Blk w' y.heap.size 3 [.int .i64 (u:Int)] /\
      v<=u/\u<=t.vars.length/\(∀x,v<=x->x<u->ZG t ops x=false)/\(u<t.vars.length->ZG t ops u=true)) ?_ ?_
    . refine ab ?_;refine Gx (λ_:Nat=>[(1,.slice J ops.length cx),(3,.pointer (some ⟨w.heap.size,0,none⟩)),(5,.pointer (some ⟨y.heap.size,0,none⟩))]) (λu w'=>Ext w w'/\Blk w' w.heap.size 124 [.pointer (some ⟨Y,0,none⟩)]/\Blk w' y.heap.size 3 [.int .i64 (u:Int)] /\
        v<=u/\u<=t.vars.length/\∀x,v<=x->x<u->ZG t ops x=false) (λu=>t.vars.length-u) v ⟨K,i,m,W3 _,U,λx S h2=>by omega⟩ Af ?_
      rintro u H ⟨e,i,m,hvu,hun,hno⟩;have Z:=hbg.ext e;refine ab ?_;refine Df (Ext H) [(0,true),(1,true),(2,true),(3,true),(4,true),(5,true),(6,true),(7,true),(8,true),(9,true),(10,true),(11,false),(12,true),(13,true)] rfl (W8 _ _) ?_;by_cases hlt:u<t.vars.length
      . (refine cu ?_<;>refine Ou rfl rfl ?_<;>(first|refine JK rfl rfl rfl ?_|refine JL rfl rfl rfl ?_|refine Gq rfl rfl rfl (λ_=>?_) λ_=>?_)<;>refine cy ?_)
        refine DX rfl ?_;refine AA rfl rfl ?_;have C:V H (.slice J ops.length cx) ops:=Vb.mono (Vb.agree q (e.agree Q)) λk hk=>K5 (Q k hk) e.size;have O:(∃x∈ops,(factOn (preOf t x) (u:Int)).isSome=true)↔ZG t ops u=true:=(by unfold ZG;rw[List.any_eq_true]);refine Ez rfl (AaH (g:=132) (caps:=[.pointer (some ⟨w.heap.size,0,none⟩),.pointer (some ⟨y.heap.size,0,none⟩)]) (p:=λop=>(factOn (preOf t op) (u:Int)).isSome=true) C ?_) ?_ ?_
        . intro vx x w' hx D E;obtain⟨E,_⟩:=E;obtain rfl:vx=.int .i64 x:=(by simpa using E);obtain⟨a0,hx1⟩:=T x hx;obtain⟨j,rfl⟩:=E3 a0;obtain⟨o,ho⟩:=AG (l:=t.ops) (k:=j) (by omega);refine(Abz (I.ext (e.trans' D)) ho (i.ext D) (m.ext D)).mono λr h0 ⟨hr,hE''⟩=>⟨?_,hE''⟩;rw[hr,Kl];simp[preOf,ho]
        . intro w4 hp f;refine Gf f ?_;refine cm ?_;refine ab ?_;exact⟨u,Af,e.trans' f,i.ext f,m.ext f,hvu,hun,hno,λ_=>O.1 hp⟩
        . intro w4 hp f;refine Gf f ?_;refine cm ?_;refine ab ?_;replace i:=i.ext f;replace m:=m.ext f;refine AF rfl ?_<;>refine bt ?_;refine Do rfl rfl m rfl (W3 _) (by simp[Value.cells,Value.oneCell']) λw5 hU=>?_;refine o_z ?_;refine⟨u+1,Af,⟨(e.trans' f).trans (hU.below M),i.keep (hU.other _ (λh=>L h.symm)),hU.blk,by omega,by omega,λx S h2=>?_⟩,by omega⟩;by_cases he:x=u
          . subst he;cases hq:ZG t ops x
            . rfl
            . exact absurd (O.2 hq) hp
          . exact hno x S (by omega)
      . (refine cu ?_<;>refine Ou rfl rfl ?_<;>(first|refine JK rfl rfl rfl ?_|refine JL rfl rfl rfl ?_|refine Gq rfl rfl rfl (λ_=>?_) λ_=>?_)<;>refine cy ?_)
        refine DX rfl ?_;refine AK rfl rfl ?_;refine Gf (W8 _ _) ?_;refine cm ?_;refine ab ?_;exact⟨u,Af,e,i,m,hvu,hun,hno,λh=>absurd h hlt⟩
    rintro l' H ⟨u,hsub,e,i,m,hvu,hun,hno,hyes⟩;refine AM _ hsub ?_;clear hsub;have b0:nextV t ops v=u:=Wj t ops hvu hun hno hyes;have Z:=hbg.ext e;have C:Vb H F (.slice J ops.length cx) ops:=Vb.agree q (e.agree Q);refine ab ?_;refine Df (·=H) [(0,true),(1,true),(2,true),(3,true),(4,true),(5,true),(6,true),(7,true)] rfl rfl ?_;by_cases G:u=t.vars.length
    . (refine Dw rfl rfl ?_<;>refine Dw rfl rfl ?_<;>refine CT rfl rfl ?_<;>refine AL rfl rfl ?_<;>refine aw ?_<;>refine Ou rfl rfl ?_<;>(first|refine Yo rfl rfl rfl rfl ?_|refine Yp rfl rfl rfl rfl ?_|refine Wx rfl rfl rfl rfl (λ_=>?_) λ_=>?_)<;>refine h_z ?_)<;>refine ab ?_
      refine ac ?_<;>refine aj ?_;refine Gw rfl λw4 A=>?_;refine ae ?_;refine ab ?_;have f:Ext w w4:=e.trans' A.ext;have hT:mkT t (fuel+1) ops v=.leaf ops:=(by simp only[mkT,B,b0,G];simp);rw[hT];refine YT rfl rfl ⟨⟨H.heap.size,.slice J ops.length cx,rfl,.inr ⟨e.size,A.blk.lt⟩,A.blk,?_⟩,f⟩;exact Vb.mono (Vb.agree C (A.ext.agree λk hk=>K5 (Q k hk) e.size)) λk hk=>.inl hk
    have hn:=X u (by omega);rw[hyes (by omega)]at hn;cases hn
end
section
open Go Go.RowKit
attribute [local irreducible] ewp owp hwp hwq hws Ev Evg Fn X6 Y1 YZ YY
def nw(w w':World):Nat->Prop:=λk=>w.heap.size<=k/\k<w'.heap.size
theorem PJ{w:World}{F G:Nat->Prop}:∀{xs:List Fct}{cells:List Value},Chunks w F cells xs->Chunks w G cells xs
  |[],_,h=>h
  |_::_,_,⟨cs,rest,he,hr,hc⟩=>⟨cs,rest,he,hr,PJ hc⟩
theorem Lu{w:World}{F G:Nat->Prop}:∀{xs:List Int}{cells:List Value},Chunks w F cells xs->Chunks w G cells xs
  |[],_,h=>h
  |_::_,_,⟨cs,rest,he,hr,hc⟩=>⟨cs,rest,he,hr,Lu hc⟩
theorem Ze{w:World}{sv:Value}{xs:List Int}(hs:V w sv xs)(hl:xs.length<=1000000):Fn prog 26 [sv] w λv w'=>Vb w' (nw w w') v xs/\Ext w w' :=
  (Abx hs (by omega)).mono λv w' ⟨b,hE⟩=>⟨by
    obtain⟨cells,q1,q2,q3⟩:=id b;have a:Own w' w.heap.size (λ_=>False) 3 v xs:=⟨cells,q1,Lu q2,λ_ _ h=>h⟩;exact a.vb.mono λk hk=>b.lt k (hk.resolve_left id),hE⟩
theorem ZQ{w:World}{sv:Value}{xs:List Fct}(hs:V w sv xs)(hl:xs.length<=1000000):Fn prog 27 [sv] w λv w'=>Vb w' (nw w w') v xs/\Ext w w' :=
  (Abl hs (by omega)).mono λv w' ⟨b,hE⟩=>⟨by
    obtain⟨cells,q1,q2,q3⟩:=id b;have a:Own w' w.heap.size (λ_=>False) 67 v xs:=⟨cells,q1,PJ q2,λ_ _ h=>h⟩;exact a.vb.mono λk hk=>b.lt k (hk.resolve_left id),hE⟩
theorem Vb.nwext{α:Type}[Rp α]{w w' a:World}{v:Value}{x:α}(h:Vb w' (nw w w') v x)(b:Ext w' a):Vb a (nw w w') v x:=h.agree (b.agree λ_ hk=>hk.2)
theorem Abt{w:World}{tv:Value}{t:Tsk}(ht:V w tv t)(hl1:t.vars.length≤1000000)(hl2:t.init.length≤1000000)(hl3:t.goal.length≤1000000)(hl4:t.ops.length≤1000000)
    (hl5:∀(i:Nat) o,t.ops[i]?=some o->o.pre.length<=1000000/\o.effs.length<=1000000/\∀(j:Nat) e,o.effs[j]?=some e->e.cond.length<=1000000) :
    Fn prog 90 [tv] w λv w'=>Vb w' (nw w w') v t/\Ext w w':=by
  obtain⟨cs,rfl,a,b,c,d,rfl,hvars,hinit,hgoal,hops⟩:=ht;obtain⟨Av,cv,rfl⟩:=hvars.form;obtain⟨Ai,ci,rfl⟩:=hinit.form;obtain⟨Ag,cg,rfl⟩:=hgoal.form;obtain⟨Ao,co,rfl⟩:=hops.form;refine AC func90 rfl ntmps90 ?_;refine ab ?_;refine Gw rfl λw1 hN1=>?_;refine GO rfl λw2 hN2=>?_;have hE2:Ext w w2:=hN1.ext.trans' hN2.ext;have hz1:w1.heap.size=w.heap.size+1:=hN1.size;have hz2:w2.heap.size=w1.heap.size+1:=hN2.size;have hb1:Blk w2 w.heap.size 26 [.slice Av t.vars.length cv,.slice Ai t.init.length ci,.slice Ag t.goal.length cg,.slice Ao t.ops.length co]:=hN1.blk.ext hN2.ext;have hres:Blk w2 w1.heap.size 26 [.slice none 0 0,.slice none 0 0,.slice none 0 0,.slice none 0 0]:=hN2.blk;refine o_z ?_;refine Ta (λl' w'=>∃g3 av bv cv',X5 l' [(1,.pointer (some ⟨w.heap.size,0,none⟩)),(2,.pointer (some ⟨w1.heap.size,0,none⟩)),(3,.pointer (some ⟨g3,0,none⟩))]/\Ext w2 w'/\w2.heap.size<=g3/\Blk w' g3 26 [av,bv,cv',.slice none 0 0] /\
    Vb w' (λk=>nw w2 w' k/\k≠g3) av t.vars/\Vb w' (λk=>nw w2 w' k/\k≠g3) bv t.init/\Vb w' (λk=>nw w2 w' k/\k≠g3) cv' t.goal) ?_ ?_
  . have q0:∀w',Ext w2 w'->Blk w' w.heap.size 26 [.slice Av t.vars.length cv,.slice Ai t.init.length ci,.slice Ag t.goal.length cg,.slice Ao t.ops.length co]:=λw' h=>hb1.ext h;refine Uh (Ext w2) ?_;refine Nn (i:=0) rfl rfl rfl (evg λ_ _=>De rfl) (W8 _ _) ?_;refine Nn (i:=1) rfl rfl rfl (evg λ_ hS=>Cv rfl ((hb1.ext hS).cell rfl)) (W8 _ _) ?_;refine Nn (i:=3) rfl rfl rfl (evg λ_ _=>De rfl) (W8 _ _) ?_;refine Nn (i:=4) rfl rfl rfl (evg λ_ hS=>Cv rfl ((hb1.ext hS).cell rfl)) (W8 _ _) ?_;refine Nn (i:=6) rfl rfl rfl (evg λ_ _=>De rfl) (W8 _ _) ?_;refine Nn (i:=7) rfl rfl rfl (evg λ_ hS=>Cv rfl ((hb1.ext hS).cell rfl)) (W8 _ _) ?_;refine PR (i:=2) (j:=10) rfl rfl ?_ ?_
    . refine Cb rfl (Ze (hvars.ext hE2) hl1) ?_;rintro av w3 ⟨hav,hE3⟩;refine IT hE3 ?_;refine PR (i:=5) (j:=10) rfl rfl ?_ ?_
      . refine Cb rfl (Ze (hinit.ext (hE2.trans' hE3)) hl2) ?_;rintro bv w4 ⟨hbv,hE4⟩;refine IT (hE3.trans' hE4) ?_;refine PR (i:=8) (j:=10) rfl rfl ?_ ?_
        . refine Cb rfl (ZQ (hgoal.ext (hE2.trans' (hE3.trans' hE4))) hl3) ?_;rintro cv' w5 ⟨hcv,hE5⟩;refine IT (hE3.trans' (hE4.trans' hE5)) ?_;refine No [(9,true),(10,false),(11,false)] rfl (hE3.trans' (hE4.trans' hE5)) ?_;obtain⟨Aa,ca,rfl⟩:=hav.form;obtain⟨Ab,cb,rfl⟩:=hbv.form;obtain⟨Ac,cc,rfl⟩:=hcv.form;refine Au rfl ?_;refine Bu (λ_ _=>Ju rfl rfl) rfl ?_;refine DX rfl ?_;refine GO rfl λw6 hN6=>?_;refine Gf (hE3.trans' (hE4.trans' (hE5.trans' hN6.ext))) ?_;refine DX rfl ?_;refine Do rfl rfl hN6.blk rfl (W3 _) (by simp[Value.cells,Value.oneCell',ZD,X8]) λw7 hU=>?_;refine IS (AB ?_);have hE7:Ext w5 w7:=(hN6.upd hU).ext;have s3:=hE3.size;have s4:=hE4.size;have s5:=hE5.size;have s7:=hE7.size;refine⟨w5.heap.size,_,_,_,Af,hE3.trans' (hE4.trans' (hE5.trans' hE7)),by omega,hU.blk,?_,?_,?_⟩
          . exact((((hav.nwext hE4).agree (hE5.agree λk hk=>by have:=hk.2;omega)).agree (hE7.agree λk hk=>by have:=hk.2;omega)).mono λk hk=>⟨⟨by have:=hk.1;omega,by have:=hk.2;omega⟩,by have:=hk.2;omega⟩)
          . exact((hbv.nwext hE5).agree (hE7.agree λk hk=>by have:=hk.2;omega)).mono λk hk=>⟨⟨by have:=hk.1;omega,by have:=hk.2;omega⟩,by have:=hk.2;omega⟩
          . exact(hcv.nwext hE7).mono λk hk=>⟨⟨by have:=hk.1;omega,by have:=hk.2;omega⟩,by have:=hk.2;omega⟩
        . refine GO rfl λw5 hN=>?_;have hE5:=hN.ext;refine IT (hE3.trans' (hE4.trans' hE5)) ?_;refine No [(8,false),(9,true),(11,false)] rfl (hE3.trans' (hE4.trans' hE5)) ?_;refine DX rfl ?_;refine Cb rfl (ZQ (hgoal.ext (hE2.trans' (hE3.trans' (hE4.trans' hE5)))) hl3) ?_;rintro cv' w6 ⟨hcv,hE6⟩;refine Gf (hE3.trans' (hE4.trans' (hE5.trans' hE6))) ?_;have hg3:=hN.blk.ext hE6;obtain⟨Aa,ca,rfl⟩:=hav.form;obtain⟨Ab,cb,rfl⟩:=hbv.form;obtain⟨Ac,cc,rfl⟩:=hcv.form;refine Au rfl ?_;refine Bu (λ_ _=>Ju rfl rfl) rfl ?_;refine DX rfl ?_;refine Do rfl rfl hg3 rfl (W3 _) (by simp[Value.cells,Value.oneCell',ZD,X8]) λw7 hU=>?_;refine IS (AB ?_);have s3:=hE3.size;have s4:=hE4.size;have s5:=hE5.size;have s6:=hE6.size;have s7:=hU.size;have sN:=hN.size;refine⟨_,_,_,_,Af,(hE3.trans' (hE4.trans' (hE5.trans' hE6))).trans (hU.below (by omega)),by omega,hU.blk,?_,?_,?_⟩
          . exact(hav.agree λk hk=>(hU.other k (by have:=hk.2;omega)).trans ((hE4.trans' (hE5.trans' hE6)).block k hk.2)).mono λk hk=>⟨⟨by have:=hk.1;omega,by have:=hk.2;omega⟩,by have:=hk.2;omega⟩
          . exact(hbv.agree λk hk=>(hU.other k (by have:=hk.2;omega)).trans ((hE5.trans' hE6).block k hk.2)).mono λk hk=>⟨⟨by have:=hk.1;omega,by have:=hk.2;omega⟩,by have:=hk.2;omega⟩
          . exact(hcv.agree λk hk=>hU.other k (by have:=hk.1;omega)).mono λk hk=>⟨⟨by have:=hk.1;omega,by have:=hk.2;omega⟩,by have:=hk.1;omega⟩
      . refine GO rfl λw4 hN=>?_;have hE4:=hN.ext;refine IT (hE3.trans' hE4) ?_;refine No [(5,false),(8,false),(9,true),(11,false)] rfl (hE3.trans' hE4) ?_;refine DX rfl ?_;refine Cb rfl (Ze (hinit.ext (hE2.trans' (hE3.trans' hE4))) hl2) ?_;rintro bv w5 ⟨hbv,hE5⟩;refine Gf (hE3.trans' (hE4.trans' hE5)) ?_;refine DX rfl ?_;refine Cb rfl (ZQ (hgoal.ext (hE2.trans' (hE3.trans' (hE4.trans' hE5)))) hl3) ?_;rintro cv' w6 ⟨hcv,hE6⟩;refine Gf (hE3.trans' (hE4.trans' (hE5.trans' hE6))) ?_;have hg3:=(hN.blk.ext hE5).ext hE6;obtain⟨Aa,ca,rfl⟩:=hav.form;obtain⟨Ab,cb,rfl⟩:=hbv.form;obtain⟨Ac,cc,rfl⟩:=hcv.form;refine Au rfl ?_;refine Bu (λ_ _=>Ju rfl rfl) rfl ?_;refine DX rfl ?_;refine Do rfl rfl hg3 rfl (W3 _) (by simp[Value.cells,Value.oneCell',ZD,X8]) λw7 hU=>?_;refine IS (AB ?_);have s3:=hE3.size;have s4:=hE4.size;have s5:=hE5.size;have s6:=hE6.size;have s7:=hU.size;have sN:=hN.size;refine⟨_,_,_,_,Af,(hE3.trans' (hE4.trans' (hE5.trans' hE6))).trans (hU.below (by omega)),by omega,hU.blk,?_,?_,?_⟩
        . exact(hav.agree λk hk=>(hU.other k (by have:=hk.2;omega)).trans ((hE4.trans' (hE5.trans' hE6)).block k hk.2)).mono λk hk=>⟨⟨by have:=hk.1;omega,by have:=hk.2;omega⟩,by have:=hk.2;omega⟩
        . exact(hbv.agree λk hk=>(hU.other k (by have:=hk.1;omega)).trans (hE6.block k hk.2)).mono λk hk=>⟨⟨by have:=hk.1;omega,by have:=hk.2;omega⟩,by have:=hk.1;omega⟩
        . exact(hcv.agree λk hk=>hU.other k (by have:=hk.1;omega)).mono λk hk=>⟨⟨by have:=hk.1;omega,by have:=hk.2;omega⟩,by have:=hk.1;omega⟩
    . refine GO rfl λw3 hN=>?_;have hE3:=hN.ext;refine IT hE3 ?_;refine No [(2,false),(5,false),(8,false),(9,true),(11,false)] rfl hE3 ?_;refine DX rfl ?_;refine Cb rfl (Ze (hvars.ext (hE2.trans' hE3)) hl1) ?_;rintro av w4 ⟨hav,hE4⟩;refine Gf (hE3.trans' hE4) ?_;refine DX rfl ?_;refine Cb rfl (Ze (hinit.ext (hE2.trans' (hE3.trans' hE4))) hl2) ?_;rintro bv w5 ⟨hbv,hE5⟩;refine Gf (hE3.trans' (hE4.trans' hE5)) ?_;refine DX rfl ?_;refine Cb rfl (ZQ (hgoal.ext (hE2.trans' (hE3.trans' (hE4.trans' hE5)))) hl3) ?_;rintro cv' w6 ⟨hcv,hE6⟩;refine Gf (hE3.trans' (hE4.trans' (hE5.trans' hE6))) ?_;have hg3:=((hN.blk.ext hE4).ext hE5).ext hE6;obtain⟨Aa,ca,rfl⟩:=hav.form;obtain⟨Ab,cb,rfl⟩:=hbv.form;obtain⟨Ac,cc,rfl⟩:=hcv.form;refine Au rfl ?_;refine Bu (λ_ _=>Ju rfl rfl) rfl ?_;refine DX rfl ?_;refine Do rfl rfl hg3 rfl (W3 _) (by simp[Value.cells,Value.oneCell',ZD,X8]) λw7 hU=>?_;refine IS (AB ?_);have s3:=hE3.size;have s4:=hE4.size;have s5:=hE5.size;have s6:=hE6.size;have s7:=hU.size;have sN:=hN.size;refine⟨_,_,_,_,Af,(hE3.trans' (hE4.trans' (hE5.trans' hE6))).trans (hU.below (by omega)),by omega,hU.blk,?_,?_,?_⟩
      . exact(hav.agree λk hk=>(hU.other k (by have:=hk.1;omega)).trans ((hE5.trans' hE6).block k hk.2)).mono λk hk=>⟨⟨by have:=hk.1;omega,by have:=hk.2;omega⟩,by have:=hk.1;omega⟩
      . exact(hbv.agree λk hk=>(hU.other k (by have:=hk.1;omega)).trans (hE6.block k hk.2)).mono λk hk=>⟨⟨by have:=hk.1;omega,by have:=hk.2;omega⟩,by have:=hk.1;omega⟩
      . exact(hcv.agree λk hk=>hU.other k (by have:=hk.1;omega)).mono λk hk=>⟨⟨by have:=hk.1;omega,by have:=hk.2;omega⟩,by have:=hk.1;omega⟩
  . rintro l' w3 ⟨g3,av,bv,cv',hsub,hE3,hg3,hb3,hav,hbv,hcv⟩;refine AM _ hsub ?_;clear hsub;replace hb1:=hb1.ext hE3;replace hres:=hres.ext hE3;have hE03:Ext w w3:=hE2.trans' hE3;have hg3z:g3<w3.heap.size:=hb3.lt;refine ab ?_;refine au ?_;refine CI t.ops.length (by omega) (λ_:Unit=>[(2,.pointer (some ⟨w1.heap.size,0,none⟩)),(3,.pointer (some ⟨g3,0,none⟩)),(20,.slice Ao t.ops.length co)])
      (λk _ w'=>Below w2.heap.size w2 w'/\w3.heap.size<=w'.heap.size/\(∀q,q<w3.heap.size->q≠g3->w'.heap[q]?=w3.heap[q]?)/\∃(ov:Value) (G:Nat->Prop),Blk w' g3 26 [av,bv,cv',ov]/\(∀q,G q->w3.heap.size<=q/\q<w'.heap.size)/\Own w' w3.heap.size G 63 ov (t.ops.take k)) ()
      ⟨hE3,W3 _,λ_ _ _=>rfl,.slice none 0 0,λ_=>False,hb3,λ_ h=>h.elim,Own.nil _ _ _ _⟩ A7 (λ_=>⟨rfl,rfl⟩) ⟨rfl,rfl,rfl⟩ ⟨rfl,rfl⟩ ?_ ?_
    . rintro k _ w4 hk ⟨hB4,hz34,hkeep,ov,G,hb3,hG,hown⟩;have hE04:Ext w w4:=hE2.trans (hB4.mono (by omega));obtain⟨o,ho⟩:=AG hk;obtain⟨hp5,hq5,hc5⟩:=hl5 k o ho;obtain⟨b2,o2,ce,rfl,_,_,hd1,p,q,rfl,hp,hq,hc,hn⟩:=(hops.ext hE04).elem ho;obtain⟨Ap,cp,rfl⟩:=hp.form;obtain⟨Aq,cq,rfl⟩:=hq.form;obtain⟨Aov,cov,rfl⟩:=hown.form;refine al ?_;refine Dp rfl rfl (by simp[Value.cells,Value.oneCell']) λw5 hN5=>?_;have hb2:Blk w5 w4.heap.size 63 [.string o.name,.int .i64 o.cost,.slice Ap o.pre.length cp,.slice Aq o.effs.length cq]:=hN5.blk;have hz5:=hN5.size;refine o_z ?_;refine ab ?_;clear hd1;refine af ?_;refine Cb rfl (ZQ (hp.ext hN5.ext) hp5) ?_;rintro pv w6 ⟨hpv,hE6⟩;obtain⟨Ap',cp',rfl⟩:=hpv.form;replace hb2:=hb2.ext hE6;refine AN rfl ?_;refine Do rfl rfl hb2 rfl (show 0+2+1<=4 by decide) (by simp[Value.cells,Value.oneCell']) λw7 hU7=>?_;have hE47:Ext w4 w7:=(hN5.ext.trans' hE6).trans (hU7.below (W3 _));replace hb2:Blk w7 w4.heap.size 63 [.string o.name,.int .i64 o.cost,.slice Ap' o.pre.length cp',.slice Aq o.effs.length cq]:=hU7.blk;have hpv7:Vb w7 (nw w5 w6) (.slice Ap' o.pre.length cp') o.pre:=hpv.agree λq hq=>hU7.other q (by have:=hq.1;omega);refine o_z ?_;refine ab ?_;refine ad ?_<;>refine af ?_<;>refine ao ?_;refine CI o.effs.length (by omega) (λev:Value=>[(2,.pointer (some ⟨w1.heap.size,0,none⟩)),(3,.pointer (some ⟨g3,0,none⟩)),(5,.pointer (some ⟨w4.heap.size,0,none⟩)),(6,ev),(20,.slice (some ⟨b2,o2,none⟩) t.ops.length co),(21,.int .i64 (t.ops.length:Int)),(22,.int .i64 (k:Int)),(31,.slice Aq o.effs.length cq)])
        (λi ev w'=>Ext w7 w'/\∃H:Nat->Prop,(∀q,H q->w7.heap.size<=q/\q<w'.heap.size)/\Own w' w7.heap.size H 65 ev (o.effs.take i)) (.slice none 0 0)
        ⟨W8 _ _,λ_=>False,λ_ h=>h.elim,Own.nil _ _ _ _⟩ D2 (λ_=>⟨rfl,rfl⟩) ⟨rfl,rfl,rfl⟩ ⟨rfl,rfl⟩ ?_ ?_
      . rintro i ev w8 hi ⟨hE8,H,hH,hev⟩;obtain⟨e,he⟩:=AG hi;have hce:=hc5 i e he;obtain⟨b3,o3,ce,rfl,_,_,hd1,cv8,rfl,hcn,hr1,hr2⟩:=(hq.ext (hE47.trans' hE8)).elem he;obtain⟨Acn,ccn,rfl⟩:=hcn.form;refine al ?_;refine Dp rfl rfl (by simp[Value.cells,Value.oneCell']) λw9 hN9=>?_;have hb4:Blk w9 w8.heap.size 65 [.slice Acn e.cond.length ccn,.int .i64 e.var,.int .i64 e.val]:=hN9.blk;have hz9:=hN9.size;refine o_z ?_;refine ab ?_;clear hd1;refine af ?_;refine Cb rfl (ZQ (hcn.ext hN9.ext) hce) ?_;rintro cw w10 ⟨hcw,hE10⟩;obtain⟨Acw,ccw,rfl⟩:=hcw.form;replace hb4:=hb4.ext hE10;refine AN rfl ?_;refine Do rfl rfl hb4 rfl (show 0+0+1<=3 by decide) (by simp[Value.cells,Value.oneCell']) λw11 hU11=>?_;replace hb4:Blk w11 w8.heap.size 65 [.slice Acw e.cond.length ccw,.int .i64 e.var,.int .i64 e.val]:=hU11.blk;have hE811:Ext w8 w11:=(hN9.ext.trans' hE10).trans (hU11.below (W3 _));have hE711:Ext w7 w11:=hE8.trans' hE811;have hcw11:Vb w11 (nw w9 w10) (.slice Acw e.cond.length ccw) e.cond:=hcw.agree λq hq=>hU11.other q (by have:=hq.1;omega);have s10:=hE10.size;have s11:=hU11.size;have hne:∀g,ev.ownBlock=some g->¬(H g\/nw w9 w10 g):=λg hg h=>by
          have hlt:=(hev.lt g hg).2;rcases h with h|h
          . obtain⟨_,_,_,h3⟩:=hev;exact h3 g hg h
          . have:=h.1;omega
        have hev11:Own w11 w7.heap.size (λq=>H q\/nw w9 w10 q) 65 ev _:=(hev.ext hE811 λq hq=>(hH q hq).2).mono (λq hq=>.inl hq) hne;have hH11:∀q,(H q\/nw w9 w10 q)->w7.heap.size<=q/\q<w11.heap.size:=λq hq=>by
          rcases hq with hq|hq
          . have:=hH q hq;omega
          . have h1:=hq.1;have h2:=hq.2;have:=hE8.size;omega
        have hil:(o.effs.take i).length<=1000000:=(by rw[P9];omega);refine o_z ?_;refine ab ?_;refine ac ?_<;>refine Bv rfl ?_;refine Iw (a:=e) rfl rfl rfl hev11 (λq hq=>(hH11 q hq).2) hE711.size ⟨_,rfl,_,rfl,hcw11.mono λq hq=>.inr hq,hr1,hr2⟩ (by omega) (by omega) ⟨rfl,rfl⟩ λev' w12 hev12 hK12=>?_;refine ae ?_;refine ab ?_;exact⟨ev',D2,hE711.trans (hev11.fits (W3 _) hE711.size hK12),_,λq hq=>⟨(hH11 q hq).1,K5 (hH11 q hq).2 hK12.size⟩,by rw[M4,he];simpa using hev12⟩
      rintro ev w12 ⟨hE12,H,hH,hev⟩;rw[Q3]at hev;obtain⟨Aev,cev,rfl⟩:=hev.form;replace hb2:=hb2.ext hE12;refine ab ?_;refine ac ?_<;>refine AN rfl ?_;refine Do rfl rfl hb2 rfl (show 0+3+1<=4 by decide) (by simp[Value.cells,Value.oneCell']) λw13 hU13=>?_;replace hb2:Blk w13 w4.heap.size 63 [.string o.name,.int .i64 o.cost,.slice Ap' o.pre.length cp',.slice Aev o.effs.length cev]:=hU13.blk;have hE413:Ext w4 w13:=(hE47.trans' hE12).trans (hU13.below (W3 _));have s6:=hE6.size;have s7:=hU7.size;have s12:=hE12.size;have s13:=hU13.size;have hb3':=hb3.ext hE413;have hg3lt:=hb3.lt;have hpv13:Vb w13 (nw w5 w6) (.slice Ap' o.pre.length cp') o.pre:=hpv7.agree λq hq=>(hU13.other q (by have:=hq.1;omega)).trans (hE12.block q (by have:=hq.2;omega));have hev13:Vb w13 (λq=>H q\/(Value.slice Aev o.effs.length cev).ownBlock=some q) (.slice Aev o.effs.length cev) o.effs:=hev.vb.agree λq hq=>hU13.other q (by
        rcases hq with hq|hq
        . have:=(hH q hq).1;omega
        . have:=(hev.lt q hq).1;omega)
      have hne:∀g,(Value.slice Aov (t.ops.take k).length cov).ownBlock=some g->¬(G g\/w4.heap.size<=g/\g<w13.heap.size):=λg hg h=>by
        have hlt:=(hown.lt g hg).2;rcases h with h|h
        . obtain⟨_,_,_,h3⟩:=hown;exact h3 g hg h
        . omega
      have hown13:Own w13 w3.heap.size (λq=>G q\/w4.heap.size<=q/\q<w13.heap.size) 63 _ _:=(hown.ext hE413 λq hq=>(hG q hq).2).mono (λq hq=>.inl hq) hne;have hG13:∀q,(G q\/w4.heap.size<=q/\q<w13.heap.size)->w3.heap.size<=q/\q<w13.heap.size:=λq hq=>by
        have:=hE413.size;rcases hq with hq|hq
        . have:=hG q hq;omega
        . omega
      have hopr:Vb w13 (λq=>G q\/w4.heap.size<=q/\q<w13.heap.size) (.agg #[.string o.name,.int .i64 o.cost,.slice Ap' o.pre.length cp',.slice Aev o.effs.length cev]) o :=
        ⟨[.string o.name,.int .i64 o.cost,.slice Ap' o.pre.length cp',.slice Aev o.effs.length cev],rfl,_,_,rfl,hpv13.mono λq hq=>.inr (by have h1:=hq.1;have h2:=hq.2;omega),hev13.mono λq hq=>.inr (by
          rcases hq with hq|hq
          . have:=hH q hq;omega
          . have:=hev.lt q hq;omega),hc,hn⟩
      have hkl:(t.ops.take k).length<=1000000:=(by rw[P9];omega);refine o_z ?_;refine ab ?_;have hbx:=hb2;clear hb1;have hb1:=hb3';refine af ?_<;>refine Bv rfl ?_;refine Iw (a:=o) rfl rfl rfl hown13 (λq hq=>(hG13 q hq).2) (by have:=hE413.size;omega) hopr (by omega) (by omega) ⟨rfl,rfl⟩ λov' w14 hov14 hK14=>?_;obtain⟨Aov',cov',rfl⟩:=hov14.form;have hb3k:=hK14.blk hb3' (hown13.blk_ne hb3' (by decide));refine AN rfl ?_;refine Do rfl rfl hb3k rfl (show 0+3+1<=4 by decide) (by simp[Value.cells,Value.oneCell']) λw15 hU15=>?_;refine o_z ?_;refine ab ?_;have hB14:Below w3.heap.size w13 w14:=hown13.fits (W3 _) (by have:=hE413.size;omega) hK14;have sz14:=hK14.size;have sz15:=hU15.size;refine⟨(),A7,?_,?_,?_,_,(λq=>G q\/w4.heap.size<=q/\q<w13.heap.size),hU15.blk,λq hq=>?_,?_⟩
      . exact hB4.trans (((hE413.mono (by omega)).trans (hB14.mono (by omega))).trans (hU15.below (by omega)))
      . have:=hE413.size;omega
      . intro q hq hne';rw[hU15.other q hne',hB14.block q hq,hE413.block q (by omega),hkeep q hq hne']
      . have:=hG13 q hq;omega
      . have hne15:=hov14.blk_ne hb3k (by decide);rw[M4,ho];refine hov14.agree (hU15.agree ?_) λg hg=>hU15.other g λhe=>hne15 (he▸hg);rintro(h|h)
        . have:=(hG g3 h).1;omega
        . omega
    rintro _ w4 ⟨hB4,hz34,hkeep,ov,G,hb3,hG,hown⟩;rw[Q3]at hown;obtain⟨Aov,cov,rfl⟩:=hown.form;have hresz:=hres.lt;replace hres:=hres.keep (hkeep _ hresz (by omega));clear hb1;have hb1:=hb3;refine ab ?_;obtain⟨Aa,ca,rfl⟩:=hav.form;obtain⟨Ab,cb,rfl⟩:=hbv.form;obtain⟨Ac,cc,rfl⟩:=hcv.form;refine Bv rfl ?_;refine Do rfl rfl hres rfl (W3 _) (by simp[Value.cells,Value.oneCell']) λw5 hU=>?_;refine o_z ?_;refine ab ?_;have hE4:Ext w w4:=hE2.trans (hB4.mono (by omega));have s5:=hU.size;have s04:=hE4.size;have hcl:∀{α:Type}[Rp α]{v:Value}{x:α},Vb w3 (λk=>nw w2 w3 k/\k≠g3) v x->Vb w5 (nw w w5) v x:=λh=>(h.agree λq hq=>(hU.other q (by have:=hq.1.1;omega)).trans (hkeep q hq.1.2 hq.2)).mono λq hq=>⟨by have:=hq.1.1;omega,by have:=hq.1.2;omega⟩;have hovv:Vb w5 (nw w w5) (.slice Aov t.ops.length cov) t.ops:=(hown.vb.agree λq hq=>hU.other q (by
      rcases hq with hq|hq
      . have:=(hG q hq).1;omega
      . have:=(hown.lt q hq).1;omega)).mono λq hq=>by
        rcases hq with hq|hq
        . have:=hG q hq;exact⟨by omega,by omega⟩
        . have:=hown.lt q hq;exact⟨by omega,by omega⟩
    refine YW rfl (Ge rfl rfl hU.blk.cellsAt) ⟨⟨_,rfl,_,_,_,_,rfl,hcl hav,hcl hbv,hcl hcv,hovv⟩,hE4.trans (hU.below (by omega))⟩
end
section
def Zy(t:Tsk):Prop:=∀(i:Nat) o,t.ops[i]?=some o->FactsOk t.vars o.pre
theorem TaskOk.pre{t:Tsk}(h:TaskOk t):Zy t:=λi o a=>(h.2.2.2.2.2 i o a).2.2.2.2.1
theorem Sw{t:Tsk}(h:Zy t)(b:Int):FactsOk t.vars (preOf t b):=by
  unfold preOf;cases c:t.ops[b.toNat]? with
  |none=>exact⟨λi x a=>by simp at a,λi x y a=>by simp at a⟩
  |some o=>exact h _ o c
theorem Lv{l:List Fct}{v:Int}{f:Fct}(h:factOn l v=some f):f∈l/\f.var=v:=by
  unfold factOn at h;exact⟨List.mem_of_find?_eq_some h,by simpa using List.find?_some h⟩
theorem SP{l:List Fct}{v:Int}(h:factOn l v=none):∀f∈l,f.var≠v:=by
  unfold factOn at h;rw[List.find?_eq_none]at h;intro f hf;simpa using h f hf
theorem SQ{vars:List Int}{l:List Fct}(hl:FactsOk vars l){f g:Fct}(hf:f∈l)(a:g∈l)(he:f.var=g.var):f=g:=by
  obtain⟨i,hi⟩:=H3 hf;obtain⟨j,hj⟩:=H3 a;rcases O7 i j with h|h|h
  . have:=Ii hl j i f g h hi hj;omega
  . subst h;rw[hi]at hj;injection hj
  . have:=Ii hl i j g f h hj hi;omega
theorem TaskOk.fits{t:Tsk}(h:TaskOk t):Aa2 t:=by
  intro i o a v f hf hv;obtain⟨b,h2⟩:=Lv hf;obtain⟨j,hj⟩:=H3 b;obtain⟨c,g2,n,g3,g4⟩:=(h.pre i o a).1 j f hj;rw[h2]at g3;exact⟨g2,n,by simpa using g3,g4⟩
def hf(t:Tsk)(s:List Int)(v:Nat)(a:Int):Bool:=(preOf t a).all λf=>decide (f.var<(v:Int))||hasB s f
theorem Nk{t:Tsk}{s:List Int}{v:Nat}{a:Int}:hf t s v a=true↔∀f∈preOf t a,f.var<(v:Int)\/hasB s f=true:=by
  unfold hf;simp[P7]
theorem Tx{t:Tsk}{s:List Int}{v:Nat}{a:Int}(h:factOn (preOf t a) (v:Int)=none):hf t s v a=hf t s (v+1) a:=by
  rw[S5,Nk,Nk];constructor
  . intro b f hm;rcases b f hm with h1|h1
    . exact .inl (by omega)
    . exact .inr h1
  . intro b f hm;have:=SP h f hm;rcases b f hm with h1|h1
    . exact .inl (by omega)
    . exact .inr h1
theorem Xd{t:Tsk}{s:List Int}{v:Nat}{a:Int}{f:Fct}(e:Zy t)(h:factOn (preOf t a) (v:Int)=some f):hf t s v a=(hasB s f&&hf t s (v+1) a):=by
  obtain⟨d,h2⟩:=Lv h;rw[S5,P6,Nk,Nk];constructor
  . intro b;refine⟨(b f d).resolve_left (by omega),λg c=>?_⟩;rcases b g c with h3|h3
    . exact .inl (by omega)
    . exact .inr h3
  . rintro⟨h3,b⟩ g c;rcases b g c with h4|h4
    . by_cases he:g.var=(v:Int)
      . have:g=f:=SQ (Sw e a) c d (by omega);subst this;exact .inr h3
      . exact .inl (by omega)
    . exact .inr h4
theorem Ty{t:Tsk}{s:List Int}{ops:List Int}:∀(k v:Nat),(∀x,v<=x->x<v+k->ZG t ops x=false)->∀a∈ops,hf t s v a=hf t s (v+k) a
  |0,_,_,_,_=>rfl
  |k+1,v,h,a,ho=>by
    have b:=h v (W3 _) (by omega);unfold ZG at b;rw[List.any_eq_false]at b;have c:=b a ho;have d:factOn (preOf t a) (v:Int)=none:=(by simpa using c);rw[Tx d,Ty k (v+1) (λx e f=>h x (by omega) (by omega)) a ho];congr 1;omega
theorem PK{a b c:Int→Bool}{p:Int→Bool}(h:∀x,p x=if a x=true then b x else if c x=true then b x else false)(f:∀x,a x=true→c x=false) :
    ∀l:List Int,(l.filter p).Perm ((l.filter a).filter b++(l.filter c).filter b)
  |[]=>by simp
  |x  :: l=>by
    have g:=PK h f l;have d:=h x;cases e:a x
    . cases hc:c x
      . simp only[e,hc]at d;simpa[Q7,e,hc,d]using g
      . simp only[e,hc]at d;cases hb:b x
        . rw[hb]at d;simpa[Q7,e,hc,hb,d]using g
        . rw[hb]at d;simp only[Q7,e,hc,hb,d,if_true,L6,if_false];exact(g.cons x).trans (List.perm_middle.symm)
    . have hc:=f x e;simp only[e]at d;cases hb:b x
      . rw[hb]at d;simpa[Q7,e,hc,hb,d]using g
      . rw[hb]at d;simp only[Q7,e,hc,hb,d,if_true,L6,if_false,P4];exact g.cons x
theorem XY{t:Tsk}{s:List Int}(c:Zy t)(b:Int):hf t s t.vars.length b=true:=by
  rw[Nk];intro f a;obtain⟨i,hi⟩:=H3 a;obtain⟨d,h2,n,h3,_⟩:=(Sw c b).1 i f hi;have:=Cf h3;exact .inl (by omega)
theorem TX(t:Tsk)(ops:List Int){v:Nat}(h:v<=t.vars.length):v<=nextV t ops v/\nextV t ops v<=t.vars.length/\(∀u,v<=u->u<nextV t ops v->ZG t ops u=false)/\(nextV t ops v<t.vars.length->ZG t ops (nextV t ops v)=true):=by
  obtain⟨a,h2,h3,h4⟩:=Mz t ops (t.vars.length-v) v;exact⟨a,by unfold nextV;omega,h3,λh=>h4 (by unfold nextV at h;omega)⟩
theorem StateOk.at{vars s:List Int}(h:StateOk vars s){u:Nat}(hu:u<vars.length):∃(x:Nat) (n:Int),s[u]?=some (x:Int)/\vars[u]?=some n/\(x:Int)<n/\atN s u=x:=by
  obtain⟨y,hy⟩:=AG (l:=s) (k:=u) (by rw[h.1];exact hu);obtain⟨n,hn⟩:=AG hu;obtain⟨a,h2⟩:=h.2 u y n hy hn;obtain⟨x,rfl⟩:=E3 a;exact⟨x,n,hy,hn,h2,by simp[atN,hy]⟩
theorem Sy{t:Tsk}{s:List Int}(k:Zy t)(hs:StateOk t.vars s):∀(fuel:Nat)(ops:List Int)(v:Nat),v≤t.vars.length→t.vars.length<fuel+v →
    (ZR s (mkT t fuel ops v)).Perm (ops.filter (hf t s v))/\AaJ s (mkT t fuel ops v):=by
  intro fuel
  induction fuel with
  |zero=>intro ops v l q;omega
  |succ fuel m =>
    intro ops v l q;obtain⟨w,g2,g3,g4⟩:=TX t ops l;have b:=Ty (t:=t) (s:=s) (ops:=ops) (nextV t ops v-v) v (λx g r=>g3 x g (by omega));rw[show v+(nextV t ops v-v)=nextV t ops v from by omega]at b;have d:ops.filter (hf t s v)=ops.filter (hf t s (nextV t ops v)):=M3 b;rw[d];unfold mkT;by_cases he:ops.isEmpty=true
    . rw[if_pos he];have:ops=[]:=(by simpa using he);subst this;exact⟨by simp[ZR],trivial⟩
    rw[if_neg he];by_cases hn:nextV t ops v=t.vars.length
    . rw[if_pos hn,hn];have:ops.filter (hf t s t.vars.length)=ops:=List.filter_eq_self.2 λx _=>XY k x;rw[this];exact⟨T5 _,trivial⟩
    rw[if_neg hn];obtain⟨x,n,q1,q2,q3,q4⟩:=hs.at (u:=nextV t ops v) (by omega);have o:=m (ops.filter (Aaw t (nextV t ops v) x)) (nextV t ops v+1) (by omega) (by omega);have p:=m (ops.filter (Aac t (nextV t ops v))) (nextV t ops v+1) (by omega) (by omega);refine⟨?_,⟨x,q1,by rw[q2];simp;omega⟩,by rw[q4];exact o.2,p.2⟩;rw[ZR,q4];refine(o.1.append p.1).trans (PK (a:=Aaw t (nextV t ops v) x) (c:=Aac t (nextV t ops v)) (λi=>?_) (λi h=>?_) ops).symm
    . unfold Aaw Aac;cases e:factOn (preOf t i) (nextV t ops v:Int)with
      |none=>rw[Tx e];simp
      |some f =>
        rw[Xd k e];obtain⟨_,hv⟩:=Lv e;rw[Qe (s:=s) hv q1];by_cases j:f.val=(x:Int)
        . simp[j]
        . simp[j,X0 j]
    . unfold Aaw at h;unfold Aac;cases e:factOn (preOf t i) (nextV t ops v:Int)with
      |none=>rw[e]at h;simp at h
      |some f=>rfl
def Zp(t:Tsk):List Int:=(List.range t.ops.length).map λi:Nat=>(i:Int)
def Zr(t:Tsk):Tr:=mkT t (t.vars.length+1) (Zp t) 0
theorem QQ{α:Type}{p q:α->Bool}:∀{l:List α},(∀x∈l,p x=q x)->l.all p=l.all q
  |[],_=>rfl
  |x::l,h=>by rw[U0,U0,h x L0,QQ λy a=>h y (H1 _ a)]
theorem Xe{t:Tsk}(b:Zy t)(s:List Int):AaI t s=(Zp t).filter (hf t s 0):=by
  unfold AaI Abj Zp;rw[List.filter_map];congr 1;refine M3 λi hi=>?_;obtain⟨o,ho⟩:=AG (l:=t.ops) (k:=i) (T4.1 hi);simp only[Function.comp,hf,preOf,YV,N1,ho];refine QQ λf a=>?_;obtain⟨j,hj⟩:=H3 a;have:=((b i o ho).1 j f hj).1;have:decide (f.var<((0:Nat):Int))=false:=decide_eq_false (by omega);rw[this,Bool.false_or]
theorem SR(t:Tsk)(s:List Int):(AaI t s).Pairwise λx y=>decide (x<=y)=true:=by
  unfold AaI Abj;refine List.Pairwise.map _ (λa b h=>?_) (List.Pairwise.filter _ List.pairwise_lt_range);exact decide_eq_true (by omega)
theorem ST{l m:List Int}(h:l.Perm m)(hm:m.Pairwise λx y=>decide (x<=y)=true):ZY l=m:=by
  refine D7 (le:=λx y:Int=>decide (x<=y)=true) (λa b _ _ d e=>?_) (E4 (λa b c d e=>?_) (λa b=>?_) l) hm ((J0 _ _).trans h)
  . have:=of_decide_eq_true d;have:=of_decide_eq_true e;omega
  . have:=of_decide_eq_true d;have:=of_decide_eq_true e;exact decide_eq_true (by omega)
  . simp;omega
theorem TY{t:Tsk}{s:List Int}(a:Zy t)(hs:StateOk t.vars s):Z8 t (Zr t) s=AaI t s:=by
  unfold Z8;rw[if_pos (BI hs)];refine ST ?_ (SR t s);rw[Xe a];exact(Sy a hs _ _ 0 (W6 _) (by omega)).1
theorem UZ{t:Tsk}{s:List Int}(a:Zy t)(hs:StateOk t.vars s):AaJ s (Zr t):=(Sy a hs _ _ 0 (W6 _) (by omega)).2
theorem Wm(t:Tsk)(s:List Int):∀(fuel:Nat)(ops:List Int)(v:Nat),(ZR s (mkT t fuel ops v)).length≤ops.length:=by
  intro fuel
  induction fuel with
  |zero=>intro ops v;exact W6 _
  |succ fuel b =>
    intro ops v;unfold mkT;by_cases he:ops.isEmpty=true
    . rw[if_pos he];exact W6 _
    rw[if_neg he];by_cases hn:nextV t ops v=t.vars.length
    . rw[if_pos hn];exact W3 _
    rw[if_neg hn,ZR,K4];refine V6 (Nat.add_le_add (b _ _) (b _ _)) ?_;generalize nextV t ops v=u;generalize atN s u=x;clear he hn b
    induction ops with
    |nil=>simp
    |cons a ops d =>
      have c:Aaw t u x a=true->Aac t u a=false:=by
        unfold Aaw Aac;cases factOn (preOf t a) (u:Int)<;>simp
      rw[Q7,Q7];cases e:Aaw t u x a
      . cases hc:Aac t u a<;>simp<;>omega
      . rw[c e];simp;omega
theorem PL(t:Tsk):(Zp t).length=t.ops.length:=by simp[Zp]
theorem Wn(t:Tsk)(s:List Int):(ZR s (Zr t)).length<=t.ops.length:=by
  have:=Wm t s (t.vars.length+1) (Zp t) 0;rwa[PL]at this
end
section
open Go Go.RowKit
attribute [local irreducible] ewp owp hwp hwq hws Ev Evg Fn X6 Y1 YZ YY
theorem SU:∀k,((List.range (k+1)).map λi:Nat=>(i:Int))=((List.range k).map λi:Nat=>(i:Int))++[(k:Int)]:=λk=>by
  rw[List.range_succ,S8];rfl
theorem Acq{w:World}{W:Value}{t:Tsk}(X:V w W t)(L:t.ops.all (λo=>o.pre.isEmpty)=true):Fn prog 51 [W] w λv w'=>Ext w w' /\
    ((TaskOk t/\∃Y,v=.tuple #[Y,.nilIface]/\GenR w' (nw w w') Y t (Zr t))\/(¬TaskOk t/\v=.tuple #[.pointer none,ZH (ZK t)])):=by
  have M:=X;obtain⟨cs,rfl,a,b,c,d,rfl,hvars,hinit,hgoal,hops⟩:=X;refine AC func51 rfl ntmps51 ?_;refine ab ?_;refine Gw rfl λZ F=>?_;have G:Ext w Z:=F.ext;have n:Blk Z w.heap.size 26 [a,b,c,d]:=F.blk;have H:=M.ext G;refine Ay rfl ?_<;>refine ae ?_;refine ab ?_;refine Bv rfl ?_;refine Cb rfl (AaS H) ?_;rintro _ w2 ⟨rfl,hE2⟩;have m:Ext w w2:=G.trans' hE2;have n:=n.ext hE2;by_cases f:TaskOk t
  case neg =>
    have N:ZK t≠0:=λh=>f (FH.1 h);rw[KI N];refine ae ?_;refine ab ?_;refine ah ?_<;>(first|refine Xq rfl rfl ?_|refine Xr rfl rfl ?_)<;>refine o_z ?_<;>refine ab ?_;refine ah ?_<;>refine aZ ?_;exact Y7 rfl (AD rfl) (AD rfl) ⟨m,.inr ⟨f,rfl⟩⟩
  rw[FH.2 f,JU];refine ae ?_;refine ab ?_;refine ah ?_<;>(first|refine Xq rfl rfl ?_|refine Xr rfl rfl ?_)<;>refine o_z ?_<;>refine ab ?_;have a0:=f.pre;have O:t.vars.length<=64:=f.1;have b0:t.ops.length<=4096:=f.2.1;have P:=Abt (H.ext hE2) (by omega) (by rw[f.2.2.2.1.1];omega) (by have:=GV f.2.2.2.2.1;omega) (by omega) (λi o ho=>by
    obtain⟨_,_,h3,_,h5,h6⟩:=f.2.2.2.2.2 i o ho;exact⟨by have:=GV h5;omega,by omega,λj e he=>by have:=GV (h6 j e he).1;omega⟩)
  refine Bv rfl ?_;refine Cb rfl P ?_;rintro c0 A ⟨Q,hE3⟩;obtain⟨cs',rfl,a',b',c',d',rfl,hvars',hinit',hgoal',hops'⟩:=Q;refine aj ?_;refine Gw rfl λB C=>?_;have I:Blk B A.heap.size 192 [a',b',c',d',.pointer none]:=C.blk;have J:Ext A B:=C.ext;have s2:=m.size;have s3:=hE3.size;have s4:B.heap.size=A.heap.size+1:=C.size;obtain⟨Ao,co,rfl⟩:=hops'.form;refine ae ?_;refine ab ?_;refine ad ?_;clear n;have n:=I;refine ah ?_<;>refine EQ rfl ?_<;>refine AN rfl ?_<;>refine af ?_<;>refine ao ?_;refine CI t.ops.length (by omega) (λv:Value=>[(1,.pointer (some ⟨w.heap.size,0,none⟩)),(5,.pointer (some ⟨A.heap.size,0,none⟩)),(6,v)]) (λk v w'=>Ext B w'/\Own w' B.heap.size (λ_=>False) 3 v ((List.range k).map λi:Nat=>(i:Int))) (.slice none 0 0)
    ⟨W8 _ _,Own.nil _ _ _ _⟩ A7 (λ_=>⟨rfl,rfl⟩) ⟨rfl,rfl,rfl⟩ ⟨rfl,rfl⟩ ?_ ?_
  . rintro k v D hk ⟨l,hown⟩;refine am ?_;refine bg ?_;refine Iw (a:=(k:Int)) rfl rfl rfl hown (λ_ h=>h.elim) l.size ⟨rfl,by omega,by omega⟩ (by simp;omega) (by simp;omega) ⟨rfl,rfl⟩ λv' w6 E hK=>?_;refine ae ?_;refine ab ?_;exact⟨v',A7,l.trans (hown.fits (W3 _) l.size hK),by rw[SU];exact E⟩
  rintro v D ⟨l,hown⟩;have s5:=l.size;have g:=J.trans' l;have y:=I.ext l;have R:GenB D (All D) (.pointer (some ⟨A.heap.size,0,none⟩)) t:=⟨_,_,_,_,_,_,rfl,by show _<_;omega,y,(hvars'.agree (g.agree λ_ h=>h.2)).mono λk hk=>by have:=hk.2;show _<_;omega,(hinit'.agree (g.agree λ_ h=>h.2)).mono λk hk=>by have:=hk.2;show _<_;omega,(hgoal'.agree (g.agree λ_ h=>h.2)).mono λk hk=>by have:=hk.2;show _<_;omega,(hops'.agree (g.agree λ_ h=>h.2)).mono λk hk=>by have:=hk.2;show _<_;omega⟩;have S:Vb D (nw B D) v (Zp t):=hown.vb.mono λk hk=>hown.lt k (hk.resolve_left id);have r:=AbL t f.vars f.fits O (t.vars.length+1) D _ v (Zp t) 0 (nw B D) R S (λk hk=>hk.2) (λop T=>by
    obtain⟨i,hi,rfl⟩:=V8.1 T;have:=T4.1 hi;exact⟨by omega,by omega⟩) (by rw[PL];omega) (W6 _) (by omega) (λu _=>Wl L _ u)
  refine ab ?_;refine bg ?_<;>refine ac ?_;refine Cb rfl r ?_;rintro p w6 ⟨hT,hE6⟩;obtain⟨rp,rfl⟩:=hT.form;have s6:=hE6.size;refine EQ rfl ?_<;>refine AN rfl ?_;refine Do rfl rfl (y.ext hE6) rfl (W3 _) (by simp[Value.cells,Value.oneCell']) λw7 K=>?_;refine o_z ?_;refine ab ?_;refine ah ?_<;>refine aZ ?_;have z:=g.trans' hE6;have s7:=K.size;have s:∀{α:Type}[Rp α]{v:Value}{x:α},Vb A (nw w2 A) v x->Vb w7 (nw w w7) v x:=λh=>((h.agree (z.agree λ_ h=>h.2)).agree λq U=>K.other q (by have:=U.2;omega)).mono λk hk=>⟨by have:=hk.1;omega,by have:=hk.2;omega⟩;refine Y7 rfl (AD rfl) (AD rfl) ⟨(((m.trans' hE3).trans' z).trans (K.below (by omega))),.inl ⟨f,_,rfl,_,_,_,_,_,_,rfl,⟨by omega,by omega⟩,K.blk,s hvars',s hinit',s hgoal',s hops',?_⟩⟩;refine TrR.mono (λk hk=>?_) (TrR.agree (λq U=>K.other q ?_) hT)
  . rcases hk with hk|hk
    . exact⟨by have:=hk.1;omega,by have:=hk.2;omega⟩
    . exact⟨by omega,by omega⟩
  . rcases U with hk|hk
    . have:=hk.1;omega
    . omega
end
section
open Go Go.RowKit
attribute [local irreducible] ewp owp hwp hwq hws Ev Evg Fn X6 Y1 YZ YY
theorem GenR.mono{w:World}{F G:Nat->Prop}{gv:Value}{t:Tsk}{f:Tr}(h:GenR w F gv t f)(hk:∀k,F k->G k):GenR w G gv t f:=by
  obtain⟨e,a,b,c,d,r,h1,h2,h3,h4,h5,h6,h7,h8⟩:=h;exact⟨e,a,b,c,d,r,h1,hk _ h2,h3,h4.mono hk,h5.mono hk,h6.mono hk,h7.mono hk,TrR.mono hk h8⟩
theorem GenR.agree{w w':World}{F:Nat->Prop}{gv:Value}{t:Tsk}{g:Tr}(h:GenR w F gv t g)(e:Agree F w w'):GenR w' F gv t g:=by
  obtain⟨f,a,b,c,d,r,h1,h2,h3,h4,h5,h6,h7,h8⟩:=h;exact⟨f,a,b,c,d,r,h1,h2,h3.keep (e f h2),h4.agree e,h5.agree e,h6.agree e,h7.agree e,TrR.agree e h8⟩
theorem GenR.form{w:World}{F:Nat->Prop}{gv:Value}{t:Tsk}{f:Tr}(h:GenR w F gv t f):∃e,gv=.pointer (some ⟨e,0,none⟩):=by
  obtain⟨e,a,b,c,d,r,h1,_⟩:=h;exact⟨e,h1⟩
noncomputable def Aaz(t:Tsk)(s:List Int):List Int:=if bof (StateOk t.vars s)=true then AaI t s else[]
theorem Tz{t:Tsk}{s:List Int}(h:StateOk t.vars s):Aaz t s=AaI t s:=by unfold Aaz;rw[if_pos (BI h)]
theorem Xf{t:Tsk}{s:List Int}(h:¬StateOk t.vars s):Aaz t s=[]:=by unfold Aaz;rw[Bb h];rfl
theorem TZ{t:Tsk}(a:Zy t)(s:List Int):Z8 t (Zr t) s=Aaz t s:=by
  by_cases h:StateOk t.vars s
  . rw[TY a h,Tz h]
  . rw[Xf h];unfold Z8;rw[Bb h];rfl
section
variable {w:World}{gv sv:Value}{t:Tsk}{s:List Int}
theorem AcJ(a:TaskOk t)(c:GenR w (All w) gv t (Zr t))(hs:V w sv s)(b:s.length<=1000000) :
    Fn prog 97 [gv,sv] w λv w'=>Ext w w'/\Own w' w.heap.size (All w) 3 v (Aaz t s):=by
  have:=AaW c hs (UZ a.pre) (by have:=Wn t s;have:=a.2.1;omega) b;rwa[TZ a.pre]at this
end
theorem Ab6{w:World}{sv:Value}:Fn prog 137 [.pointer none,sv] w λv w'=>v=.tuple #[.slice none 0 0,.int .i64 0]/\Ext w w':=by
  refine AC func137 rfl ntmps137 ?_;refine ab ?_<;>refine aZ ?_
  (refine ac ?_<;>refine MP rfl ?_<;>refine ac ?_<;>(first|(refine AA rfl rfl ?_;refine Aw rfl ?_)|refine AK rfl rfl ?_)<;>(first|(refine AA rfl rfl ?_;refine EQ rfl ?_)|refine AK rfl rfl ?_)<;>(first|(refine AA rfl rfl ?_;refine AN rfl ?_)|refine AK rfl rfl ?_)<;>(first|(refine AA rfl rfl ?_;refine AN rfl ?_)|refine AK rfl rfl ?_)<;>(first|(refine AA rfl rfl ?_;refine AF rfl ?_)|refine AK rfl rfl ?_)<;>(first|(refine AA rfl rfl ?_;refine Aw rfl ?_)|refine AK rfl rfl ?_))
  refine AK rfl rfl ?_
  ((first|(refine AA rfl rfl ?_;(first|refine Fq rfl ?_|refine Fe rfl ?_|refine DY rfl ?_))|refine AK rfl rfl ?_)<;>refine ai ?_)
  refine ab ?_;refine ab ?_<;>refine aZ ?_;exact Y7 rfl (AD rfl) (AD rfl) ⟨rfl,W8 _ _⟩
theorem AaV{w:World}{sv:Value}:Fn prog 97 [.pointer none,sv] w λv w'=>v=.slice none 0 0/\Ext w w':=by
  refine AC func97 rfl ntmps97 ?_;refine bu ?_;refine Cb rfl Ab6 ?_;rintro _ a ⟨rfl,hE⟩;refine bp ?_<;>refine Ay rfl ?_<;>refine ae ?_;refine ab ?_;refine am ?_;exact YT rfl rfl ⟨rfl,hE⟩
end
section
open Go Go.RowKit
attribute [local irreducible] ewp owp hwp hwq hws Ev Evg Fn X6 Y1 YZ YY
structure Gnr where
  t:Tsk
def GnrR(w:World)(F:Nat->Prop)(v:Value):Option Gnr->Prop
  |none=>v=.pointer none
  |some g=>TaskOk g.t/\GenR w F v g.t (Zr g.t)
theorem GnrR.one{w:World}{F:Nat->Prop}{v:Value}:∀{x:Option Gnr},GnrR w F v x->v.oneCell'=true
  |none,h=>by     have:v=.pointer none:=h
                  subst this;rfl
  |some g,h=>by
    obtain⟨a,rfl⟩:=h.2.form;rfl
instance:Rp (Option Gnr) where
  isAgg:=false
  size:=1
  R w F cs x:=∃v,cs=[v]/\GnrR w F v x
  len:=by rintro w F cs x ⟨v,rfl,_⟩;rfl
  one:=by
    rintro w F cs x ⟨v,rfl,h⟩ u hu;have:u=v:=(by simpa using hu);subst this;exact h.one
  agree:=by
    rintro w w' F cs x ⟨v,rfl,h⟩ ha;refine⟨v,rfl,?_⟩;cases x with
    |none=>exact h
    |some g=>exact⟨h.1,h.2.agree ha⟩
  mono:=by
    rintro w F G cs x ⟨v,rfl,h⟩ hk;refine⟨v,rfl,?_⟩;cases x with
    |none=>exact h
    |some g=>exact⟨h.1,h.2.mono hk⟩
theorem AcG{w:World}{F:Nat->Prop}:Vb w F (.pointer none) (none:Option Gnr):=⟨_,rfl,rfl⟩
theorem Vb.gnr{w:World}{F:Nat->Prop}{v:Value}{x:Option Gnr}(h:Vb w F v x):GnrR w F v x:=by
  obtain⟨u,hu,h'⟩:=h;have:v=u:=(by simpa using hu);subst this;exact h'
theorem Vb.ptr{w:World}{F:Nat->Prop}{v:Value}{x:Option Gnr}(h:Vb w F v x):∃p,v=.pointer p/\p.isNone=x.isNone:=by
  cases x with
  |none=>exact⟨none,h.gnr,rfl⟩
  |some g=>obtain⟨a,rfl⟩:=h.gnr.2.form;exact⟨_,rfl,rfl⟩
theorem Wo{w:World}{F:Nat->Prop}{p:Option Addr}{x:Option Gnr}{g:Gnr}(h:Vb w F (.pointer p) x)(e:x=some g) :
    ∃f a b c d r,p=some ⟨f,0,none⟩/\F f/\cellsAt w f 0 [a,b,c,d,r]/\Vb w F a g.t.vars/\Vb w F b g.t.init/\Vb w F c g.t.goal/\Vb w F d g.t.ops:=by
  subst e;obtain⟨_,f,a,b,c,d,r,i,h2,h3,h4,h5,h6,h7,_⟩:=h.gnr;injection i with i;exact⟨f,a,b,c,d,r,i,h2,h3.cellsAt,h4,h5,h6,h7⟩
theorem AcT{w:World}{F:Nat->Prop}{v:Value}{g:Gnr}(h:TaskOk g.t)(a:GenR w F v g.t (Zr g.t)):Vb w F v (some g):=⟨v,rfl,h,a⟩
theorem Xg{A:Nat->Prop}{w w':World}:∀k,nw w w' k->upA A w w' k:=λ_ h=>.inr h
theorem Own.intRow{w w':World}{F A:Nat->Prop}{e:TypeId}{v:Value}{xs:List Int}(h:Own w' w.heap.size F e v xs):RowR w w' (upA A w w') e v xs:=by
  obtain⟨cells,q1,q2,q3⟩:=h;exact⟨λ_=>False,λ_ h=>h.elim,cells,q1,Lu q2,λ_ _ h=>h⟩
noncomputable def IK(t:Tsk):Option (Option Gnr×Err):=if t.ops.all (λo=>o.pre.isEmpty)=true then some (if bof (TaskOk t)=true then some ⟨t⟩else none,⟨ZK t⟩)else none
theorem QX{w:World}{A:Nat->Prop}(hA:∀k,A k->k<w.heap.size){e:Value}{b:Tsk}(f:Vb w A e b){r:Option Gnr×Err}(hm:IK b=some r):Fn prog 51 [e] w λv w'=>Ext w w'/\T2 w' (upA A w w') v r:=by
  obtain⟨c,rfl⟩:=Hw hm;refine(Acq (f.mono hA) c).mono λv w' h=>⟨h.1,?_⟩;rcases h.2 with⟨a,gv,rfl,hg⟩|⟨d,rfl⟩
  . rw[BI a,FH.2 a];exact⟨gv,_,rfl,AcT (g:=⟨b⟩) a (hg.mono Xg),vErr0⟩
  . rw[Bb d];exact⟨_,_,rfl,AcG,vErr (Pp _)⟩
noncomputable def Acc:Option Gnr->List Int->List Int
  |none,_=>[]
  |some g,s=>Aaz g.t s
noncomputable def DR(x:Option Gnr)(s:List Int):Option (List Int):=if s.length<=1000000 then some (Acc x s)else none
theorem Jm{w:World}{A:Nat->Prop}(hA:∀k,A k->k<w.heap.size){a:Value}{b:Option Gnr}(d:Vb w A a b){e:Value}{f:List Int}(i:Vb w A e f){r:List Int}(hm:DR b f=some r) :
    Fn prog 97 [a,e] w λv w'=>Ext w w'/\RowR w w' (upA A w w') 3 v r:=by
  obtain⟨hl,rfl⟩:=Hw hm;cases b with
  |none =>
    have j:=d.gnr;have:a=.pointer none:=j;subst this;refine AaV.mono λv w' h=>⟨h.2,?_⟩;rw[h.1];exact RowR.nil
  |some g =>
    obtain⟨c,hg⟩:=d.gnr;exact(AcJ c (hg.mono hA) (i.mono hA) hl).mono λv w' h=>⟨h.1,h.2.intRow⟩
end
section
open Go Go.RowKit
section
attribute [local irreducible] ewp owp hwp hwq hws Ev Evg Fn X6 Y1 YZ YY
noncomputable def CN(o:Option Gnr)(j:List Int):Option (List Suc) :=
  bnd (DR o j) λr=>bnd (rng (ρ:=(List Suc)) (λ(s:Nat)(e:Int)(k:(List Suc))=>bnd (Cw j) λl=>bnd (o) λm=>bnd (atI m.t.ops e) λn=>bnd (rng (ρ:=Ctl (List Suc) (List Suc)) (λ(p:Nat)(a:Eff)(b:(List Int))=>bnd (GB a.cond j) λf=>if f=true then bnd (atI b a.var) λq=>some (.next (b.set (a.var:Int).toNat a.val))else some (.next b)) n.effs 0 l) λc=>fin c λ(g:(List Int))=>bnd (Y0 32 k [(⟨e,g⟩:Suc)]) λh=>some (.next h)) r 0 ([]:List Suc)) λd=>fin d λ(i:(List Suc))=>some i
theorem Jn{w:World}{A:Nat->Prop}(hA:∀k,A k->k<w.heap.size){m:Value}{q:Option Gnr}(b:Vb w A m q){n:Value}{s:List Int}(t:Vb w A n s){r:(List Suc)}(hm:CN q s=some r) :
    Fn prog 55 [m,n] w λv w'=>Ext w w'/\Vb w' (upA A w w') v r:=by
 obtain⟨O,hB,n3⟩:=enter hA;replace b:=b.mono n3;obtain⟨u,rfl,o3⟩:=b.ptr;obtain⟨Q,c6,rfl⟩:=t.form;refine AC func55 rfl ntmps55 ?_;unfold CN at hm;refine zz ?_;obtain⟨f,e8,hm⟩:=bs hm;refine ED 2 (O:=O) (Jm Fr.lt b (t.zs hA hB) e8) rfl λy z w9 q3 R c=>?_;refine AT rfl ?_;have G:=Bo c.len;have s5:=rngNat G;refine zz ?_;obtain⟨g3,y1,hm⟩:=bs hm;replace b:=b.st R;replace hB:=hB.st R;refine Cp (X:=(Option Addr×Nat)) (f.length) y1 rfl G (λg e=>[(0,(.pointer u)),(1,(.slice Q s.length c6)),(5,(.slice e.1 g.length e.2)),(13,(.slice y f.length z))]) (λg e w'=>∃d:Lab,Bs w A w' d/\Vb w' (Fr 0 w' d) (.pointer u) q/\Rw 5 w' d 145 (.slice e.1 g.length e.2) g/\Rw 2 w' d 3 (.slice y f.length z) f) (none,0) ⟨q3,hB,b,(Rw.nil 5 (by decide)),c⟩ A9 (λ_ _=>rfl) ?_ ?_
 ·rintro r3 B g e t5 s3 S ⟨t3,hB,b,h0,c⟩ b0 z1 a2;have T:=Y2 S G;refine Ak (Am ?_);obtain⟨u5,v5,u3,b2,c2,d2,rfl,v3⟩:=c.elem S;refine Bn (hA:=b2) (hj:=rfl) (hlt:=c2) rfl rfl (AF (hc:=cat0 d2) rfl (Ay rfl (o_z (Ak (Am (Aw rfl ?_))))));obtain⟨H,w3,b0⟩:=bs b0;refine ED 3 (O:=t3) (Ep Fr.lt (t.zs hA hB) w3) rfl λI J w5 x3 C y3=>?_;refine zz ?_;obtain⟨x5,h3,b0⟩:=bs b0;obtain⟨U,h2⟩:=PV (o3.trans (by rw[h3];rfl));refine Yw (hA:=h2) rfl rfl ?_;replace b:=b.st C;obtain⟨y5,z5,a6,b6,d6,e6,i2,z3,j2,a4,b4,c4,i3⟩:=Wo b h3;obtain⟨f6,g6,rfl⟩:=a4.form;obtain⟨h6,i6,rfl⟩:=b4.form;obtain⟨j6,k6,rfl⟩:=c4.form;obtain⟨l6,m6,rfl⟩:=i3.form;refine Yv (hA:=i2) rfl rfl (AN rfl (AF (hc:=cat3 j2) rfl (Aw rfl ?_)));obtain⟨D,d4,b0⟩:=bs b0;obtain⟨e4,f4⟩:=BJ d4;obtain⟨n6,o6,g4,k2,l2,m2,p6,h4,rfl,n2,e0,i4,j4⟩:=i3.elem' f4;obtain⟨k4,l4,rfl⟩:=n2.form;obtain⟨z0,a1,rfl⟩:=e0.form;refine Bn (hA:=k2) (hj:=e4) (hlt:=l2) rfl rfl (AN rfl (AF (hc:=cat3 m2) rfl (AT rfl ?_)));have K:=Bo e0.len;have m4:=rngNat K;refine zz ?_;obtain⟨o2,b1,b0⟩:=bs b0;replace hB:=hB.st C;replace c:=c.st C;replace h0:=h0.st C;refine Cp (X:=Unit) (D.effs.length) b1 rfl K (λL V=>[(0,(.pointer u)),(1,(.slice Q s.length c6)),(5,(.slice e.1 g.length e.2)),(7,(.int .i64 B)),(8,(.slice I H.length J)),(13,(.slice y f.length z)),(14,(.int .i64 (f.length:Int))),(15,(.int .i64 (r3:Int))),(29,(.slice z0 D.effs.length a1))]) (λL V w'=>∃d:Lab,Bs w A w' d/\Vb w' (Fr 0 w' d) (.pointer u) q/\Rw 5 w' d 145 (.slice e.1 g.length e.2) g/\Rw 3 w' d 3 (.slice I H.length J) L/\Rw 2 w' d 3 (.slice y f.length z) f/\Vb w' (Fr 0 w' d) (.slice z0 D.effs.length a1) D.effs) () ⟨x3,hB,b,h0,y3,c,e0⟩ D3 (λ_ _=>rfl) ?_ ?_
  ·rintro n4 p2 L V o4 j3 W ⟨q2,hB,b,h0,c0,c,e0⟩ a0 u1 v1;have M:=Y2 W K;refine Ak (Am ?_);obtain⟨p4,q4,k3,d1,e1,f1,r4,rfl,o0,s4,r2⟩:=e0.elem' W;obtain⟨t4,u4,rfl⟩:=o0.form;refine Bn (hA:=d1) (hj:=rfl) (hlt:=e1) rfl rfl (Bv (hl:=rfl) (hc:=f1) rfl ?_);refine BF 4 q2 λv4 w4 Y l0 j=>?_;refine AO j rfl rfl rfl (Bi) (allOne) λs2 o j=>?_;refine zz ?_;refine AF (hc:=Blk.cell (i:=0) (j.1) rfl) rfl (Aw rfl ?_);obtain⟨t2,u2,a0⟩:=bs a0;replace hB:=(hB.st l0).st o;replace o0:=(o0.st l0).st o;refine BO (O:=Y) (Jh (λ_ h=>h) (vMo o0) (Vb.mono (F:=Fr 0 s2 Y) (t.zs hA hB) Fr.lt) u2) rfl λx4 y4 z4 l v2=>?_;obtain rfl:=v2.bool;cases t2
   case false =>
    replace a0:=iF a0;refine zz ?_;obtain rfl:=sm a0;have p:=(l0.an o).an l;exact show Exists _ from⟨_,(),rfl,D3,_,hB.st l,b.st p,h0.st p,c0.st p,c.st p,e0.st p⟩
   replace a0:=iT a0;refine zz ?_;replace j:=j.st l;refine AF (hc:=Blk.cell (i:=1) (j.1) rfl) rfl (AN rfl (AF (hc:=Blk.cell (i:=2) (j.1) rfl) rfl ?_));obtain⟨a5,w2,a0⟩:=bs a0;obtain⟨x2,h1⟩:=BJ w2;replace c0:=((c0.st l0).st o).st l;obtain⟨b5,c5,l3,s0,i1,m3,rfl,d5⟩:=c0.elem h1;refine Bn (hA:=s0) (hj:=x2) (hlt:=i1) rfl rfl ?_;refine FS rfl c0 (a:=p2.val) (vInt r2) s0 rfl rfl (Az h1) λe5 Z c0=>?_;refine o_z ?_;obtain rfl:=sm a0;have E:=((l0.an o).an l).an Z;exact show Exists _ from⟨_,(),rfl,D3,_,(hB.st l).st Z,b.st E,h0.st E,c0,c.st E,e0.st E⟩
  rintro f5 g5 ⟨k1,h5,rfl,l1,i5,hB,b,h0,c0,c,e0⟩;replace b0:=AS b0;refine AM _ l1 ?_;refine zz ?_;refine aj ?_;obtain⟨j5,p0,c0⟩:=c0.freeze;obtain⟨k5,N,b0⟩:=bs b0;obtain⟨N,y2,z2⟩:=BH N;replace h0:=h0.st p0;refine EC rfl (a:=(⟨B,k1⟩:Suc)) h0 (Vb.ofAgg (cs:=[(.int .i64 B),(.slice I H.length J)]) (x:=(⟨B,k1⟩:Suc)) rfl ⟨_,rfl,c0,v3⟩) (λ_=>rfl) rfl y2 z2 ⟨rfl,rfl⟩ λl5 a3 b3 m5 n5 P m1=>?_;rw[<- N]at m1 ⊢;refine zz ?_;obtain rfl:=sm b0;exact show Exists _ from⟨_,(a3,b3),rfl,A9,_,(hB.st p0).st P,(b.st p0).st P,m1,(c.st p0).st P⟩
 rintro o5 c3 ⟨p5,q5,rfl,n1,r5,hB,b,h0,c⟩;replace hm:=AS hm;refine AM _ n1 ?_;refine zz ?_;obtain⟨d3,e3,h0⟩:=h0.freeze;obtain rfl:=sm hm;replace hB:=hB.st e3;exact YW rfl (AD rfl) ⟨hB.ext,(Vb.mono (F:=Fr 0 c3 d3) h0 hB.out)⟩
end
theorem XZ{t:Tsk}(h:TaskOk t)(a:t.ops.all (λo=>o.pre.isEmpty)=true):IK t=some (some ⟨t⟩,⟨0⟩):=by unfold IK;rw[if_pos a,BI h,BA,FH.2 h]
end
end Go.Proofs.YtonclmjaphieiaaGreat

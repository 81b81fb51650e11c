/- Own text: what the proof of wholeRepair_holds uses, part 3: rules, models and their proofs, plain laws. -/
import Derived.Test.YthgeinkfgcgjiaaGreatDoorWRB
set_option linter.unusedVariables false
set_option linter.unusedSimpArgs false
namespace Go.Proofs.YthgeinkfgcgjiaaGreatDoor
open Go Go.RowKit Go.Proofs.Tryz
section
open Go Go.RowKit
attribute [local irreducible] ewp owp hwp hwq hws Ev Evg Fn W6 X7 X4 X1
attribute [local irreducible] hwx YW
instance:TMap prog 154 3 22:=⟨underlying154⟩
instance:TKey prog 3 Int:=⟨underlying3⟩
structure RLk where
  parent:Int
  op:Int
  cost:Int
structure REn where
  words:List U64
  link:RLk
instance:Rp REn where
  isAgg:=true
  size:=4
  R w F cs x:=∃a,cs=[a,.int .i64 x.link.parent,.int .i64 x.link.op,.int .i64 x.link.cost]/\Vb w F a x.words/\W1 x.link.parent/\W1 x.link.op/\W1 x.link.cost
  len:=by rintro w F cs x ⟨a,rfl,h0,h1,h2,h3⟩;rfl
  one:=by rintro w F cs x ⟨a,rfl,h0,h1,h2,h3⟩ u hu;simp at hu;rcases hu with rfl|rfl|rfl|rfl<;>first|rfl|exact Vb.one rfl (by assumption)
  agree:=by rintro w w' F cs x ⟨a,rfl,h0,h1,h2,h3⟩ ha;exact⟨a,rfl,h0.agree ha,h1,h2,h3⟩
  mono:=by rintro w F G cs x ⟨a,rfl,h0,h1,h2,h3⟩ ha;exact⟨a,rfl,h0.mono ha,h1,h2,h3⟩
structure Reg where
  packer:Pkr
  entries:List REn
  table:MapR 3 Int Int
instance:Ow Reg where
  R w F f v x:=∃(g:Nat) (L:Lab) (a b c:Value),v=.pointer (some ⟨g,0,none⟩)/\Blk w g 156 [a,b,c]/\f g/\L g=0/\Ow.R w F (λk=>f k/\L k=1) a x.packer/\RwM w F (λk=>f k/\L k=2) 162 b x.entries/\Ow.R w F (λk=>f k/\L k=3) c x.table
  agree:=by rintro w w' F f v x ⟨g,L,a,b,c,rfl,hb,hM,hL,h0,h1,h2⟩ a1 a2;exact⟨g,L,a,b,c,rfl,hb.keep (a2 g hM),hM,hL,Ow.agree h0 a1 λk hk=>a2 k hk.1,h1.agree a1 λk hk=>a2 k hk.1,Ow.agree h2 a1 λk hk=>a2 k hk.1⟩
  mono:=by rintro w F f d e v x ⟨g,L,a,b,c,rfl,hb,hM,hL,h0,h1,h2⟩ a1 a2 a3;exact⟨g,L,a,b,c,rfl,hb,a2 g hM,hL,Ow.mono h0 a1 (λk hk=>⟨a2 k hk.1,hk.2⟩) λk hf hm=>a3 k hf hm.1,h1.mono a1 (λk hk=>⟨a2 k hk.1,hk.2⟩) λk hf hm=>a3 k hf hm.1,Ow.mono h2 a1 (λk hk=>⟨a2 k hk.1,hk.2⟩) λk hf hm=>a3 k hf hm.1⟩
instance:OwP Reg:=⟨by rintro w F a v x ⟨g,L,c0,c1,c2,rfl,_⟩;exact⟨g,rfl⟩⟩
theorem Reg.opn{i:Nat}{w:World}{O:Lab}{p:Nat}{x:Reg}(m:Ob i w O (.pointer (some ⟨p,0,none⟩)) x)(l0 c d e:Nat)(hl:l0≠0/\c≠0/\d≠0/\e≠0):∃(a:Lab) (f h l:Value),St (eT i) w O w a/\(∀k,Fr i w O k->∃q,q∈[l0,c,d,e]/\Fr q w a k)/\Lc l0 w a p 156 [f,h,l]/\Ob c w a f x.packer/\Rw d w a 162 h x.entries/\Ob e w a l x.table:=by
  obtain⟨⟨g,L,f,h,l,b,hb,hM,hL,h0,h1,h2⟩,hi⟩:=m;obtain rfl:p=g:=(by injection b with b;injection b with b;injection b);exact⟨part O i L [l0,c,d,e],f,h,l,Js hi,Iq (by simp),⟨hb,(Gg (j:=0) rfl p ⟨hM,hL⟩).2⟩,⟨Ow.mono h0 (DR hi) (Gg (j:=1) rfl) (YY hl.2.1),hl.2.1⟩,h1.rw (DR hi) (Gg (j:=2) rfl) hl.2.2.1,⟨Ow.mono h2 (DR hi) (Gg (j:=3) rfl) (YY hl.2.2.2),hl.2.2.2⟩⟩
theorem Reg.shut{w:World}{O:Lab}{p:Nat}{x:Reg}{l0 c d f:Nat}{j l n:Value}(hd:¬0∈[l0,c,d,f]/\[l0,c,d,f].idxOf l0=0/\[l0,c,d,f].idxOf c=1/\[l0,c,d,f].idxOf d=2/\[l0,c,d,f].idxOf f=3)(hb:Lc l0 w O p 156 [j,l,n])(r:Ob c w O j x.packer)(s:Rw d w O 162 l x.entries)(t:Ob f w O n x.table):∃h,St (·∈[l0,c,d,f]) w O w h/\(∀k,Fr 0 w O k->Fr 0 w h k)/\(∀q,q∈[l0,c,d,f]->∀k,Fr q w O k->Fr l0 w h k)/\Ob l0 w h (.pointer (some ⟨p,0,none⟩)) x:=by
  have g:l0≠0:=λe=>hd.1 (by simp[e]);have o:=FG (i:=l0) hd.2.1 (by simp) p ⟨hb.1.lt,hb.2⟩;exact⟨ZS O l0 [l0,c,d,f],Ir,CD hd.1,HO,⟨p,λk=>[l0,c,d,f].idxOf (O k),j,l,n,rfl,hb.1,o.1,o.2,Ow.mono r.1 (CD hd.1) (FG hd.2.2.1 (by simp)) (λk a b=>YY g k a b.1),s.m (CD hd.1) (FG hd.2.2.2.1 (by simp)) (λk a b=>YY g k a b.1),Ow.mono t.1 (CD hd.1) (FG hd.2.2.2.2 (by simp)) (λk a b=>YY g k a b.1)⟩,g⟩
noncomputable def GE(c:List Int):Option ((Option Reg)×Err) :=
  bnd (Ia c) λa=>if a.2.n≠0 then(some (none,(⟨a.2.n⟩:Err)))else(bnd a.1 λb=>some ((some (⟨b,([]:List REn),(⟨[]⟩:MapR 3 Int Int)⟩:Reg)),(⟨0⟩:Err)))
theorem OX{w:World}{O:Lab}{c:Value}{k:List Int}(d:Vb w (Fr 0 w O) c k)(e:Nat)(f:e≠0){r:(Option Reg)×Err}(hm:GE k=some r) :
    Fn prog 68 [c] w λv w'=>∃a,St nT w O w' a/\∃l m:Value,v=.tuple #[l,m]/\Obo e w' a l r.1/\Vb w' (Fr 0 w' a) m r.2:=by
 obtain⟨g,hE,g0⟩:=Ab0 (w:=w) (O:=O);have b:Bm w g w g:=Bm.refl;replace d:=d.mono g0;obtain⟨D,c3,rfl⟩:=d.form;refine AG func68 rfl ntmps68 ?_;unfold GE at hm;refine Aj (Ae (Au rfl (Au rfl (o_z (Aj (Ae (Ar rfl ?_)))))));obtain⟨E,e5,hm⟩:=bs hm;refine BM (O:=g) (Td (d.z b) 2 (by decide) e5) rfl λF G p n s=>?_;obtain⟨z0,a1,rfl,a0,h0⟩:=s;obtain⟨rfl,i0⟩:=h0.err;refine Ar rfl (AZ rfl rfl (AZ rfl rfl (Au rfl (Au rfl (o_z (Aj (Aj (Ae (Ar rfl (Cy rfl (λh=>?_) λh=>?_))))))))))
 ·replace hm:=ip hm h;refine o_z (Am rfl (Aj (Ae (Ar rfl (Au rfl (Au rfl (o_z (AD ?_))))))));obtain rfl:=sm hm;replace b:=b.st n;obtain⟨a,hS',hz,hl⟩:=hE.leave (λ_=>0) rfl b;exact X3 rfl (AC rfl) (AC rfl) ⟨a,hS',_,_,rfl,rfl,(vErr i0)⟩
 replace hm:=im hm h;refine o_z (Ah rfl (AE (Aj (Ae (Ar rfl ?_)))));refine Va (K:=Int) (V:=Int) 3 3 (by decide) p rfl λH I t o i=>?_;obtain⟨u,n0,hm⟩:=bs hm;replace a0:=a0.st o;rw[n0]at a0;obtain⟨J,rfl⟩:=Ob.ptr a0;refine am ?_;refine Ea 4 t rfl λL y A j B=>?_;refine Au rfl (Au rfl (o_z (AD ?_)));have C:Rw 5 y A 162 (.slice none 0 0) ([]:List REn):=Rw.nil 5 (by decide);replace a0:=a0.st j;replace i:=i.st j;obtain⟨M,s0,t0,u0,w0⟩:=Reg.shut (x:=(⟨u,([]:List REn),(⟨[]⟩:MapR 3 Int Int)⟩:Reg)) (l0:=4) (by decide) B a0 C i;obtain rfl:=sm hm;replace b:=(((b.st n).st o).st j).st s0;obtain⟨a,hS',hz,hl⟩:=hE.leave (λq=>if q=4 then e else 0) rfl b;exact X3 rfl (AC rfl) (AC rfl) ⟨a,hS',_,_,rfl,(Ob.leave w0 hz (hl 4 (by decide) (by decide)) f),(vErr (W3 0))⟩
noncomputable def De(g:Reg)(i:List Int):Option ((List U64)×Int×Int×Err) :=
  bnd (Dx g.packer i) λa=>if a.2.n≠0 then(some (([]:List U64),0,(-1),(⟨2⟩:Err)))else(bnd (DG g.packer a.1) λb=>bnd (rng (ρ:=(List U64)×Int×Int×Err) (λ(j:Nat)(d:Int)(k:Unit)=>bnd (atI g.entries d) λe=>bnd (DC e.words a.1) λf=>if f=true then some (.ret (a.1,b,d,(⟨0⟩:Err)))else some (.next ())) (Y2 ([]:List Int) g.table.l b) 0 ()) λc=>fin c λ(h:Unit)=>some (a.1,b,(-1),(⟨0⟩:Err)))
theorem JM{w:World}{O:Lab}{p0 i0:Nat}{x0:Reg}(h0:Ob i0 w O (.pointer (some ⟨p0,0,none⟩)) x0){vx1:Value}{x1:List Int}(f1:Vb w (Fr 0 w O) vx1 x1){r:(List U64)×Int×Int×Err}(hm:De x0 x1=some r) :
    Fn prog 73 [(.pointer (some ⟨p0,0,none⟩)),vx1] w λv w'=>∃O',St (eT i0) w O w' O'/\∃v0 v1 v2 v3:Value,Ob i0 w' O' (.pointer (some ⟨p0,0,none⟩)) x0/\v=.tuple #[v0,v1,v2,v3]/\Vb w' (Fr 0 w' O') v0 r.1/\Vb w' (Fr 0 w' O') v1 r.2.1/\Vb w' (Fr 0 w' O') v2 r.2.2.1/\Vb w' (Fr 0 w' O') v3 r.2.2.2:=by
 obtain⟨O0,hE,e2,s2⟩:=Y3 (w:=w) (O:=O) h0.2;have h0':=Ob.leave h0 e2 s2 (j:=2) (by decide);have hB:Bm w O0 w O0:=Bm.refl;replace f1:=f1.mono e2;obtain⟨A3,c4,rfl⟩:=f1.form;refine AG func73 rfl ntmps73 ?_;unfold De at hm;refine Aj (Ae (Au rfl (Au rfl (Au rfl (Au rfl (o_z (Aj (Ae (Ar rfl (Cm rfl ?_))))))))));obtain⟨O5,v9,g4,h4,S6,i4,h7,f2,j0,e0⟩:=Reg.opn h0' 2 3 4 5 (by decide);obtain⟨j4,rfl⟩:=f2.ptr;obtain⟨k4,l4,rfl⟩:=j0.form;obtain⟨m4,rfl⟩:=e0.mptr;refine AJ rfl (AL (hc:=Blk.cell (i:=0) (h7.1) rfl) rfl (Ar rfl ?_));obtain⟨h1,t2,hm⟩:=bs hm;replace hB:=hB.st S6;refine BM (O:=O5) (LR f2 (f1.z hB) t2) rfl λn4 o4 u2 f0 w2=>?_;obtain⟨p4,q4,g2,rfl,c0,x2⟩:=w2;obtain⟨h2,i2,rfl⟩:=c0.form;obtain⟨rfl,r4⟩:=x2.err;refine Ar rfl (AZ rfl rfl (AZ rfl rfl (Au rfl (Au rfl (o_z (Aj (Aj (Ae (Ar rfl (Cy rfl (λi1=>?_) λi1=>?_))))))))))
 ·replace hm:=ip hm i1;refine o_z (Am rfl (Aj (Ae (Da rfl (Au rfl (Au rfl (Au rfl (Au rfl (o_z (AD ?_))))))))));replace h7:=h7.st f0;replace j0:=j0.st f0;replace e0:=e0.st f0;obtain⟨s4,y2,z2,a3,b3⟩:=Reg.shut (x:=x0) (l0:=2) (by decide) h7 g2 j0 e0;obtain rfl:=sm hm;replace hB:=(hB.st f0).st y2;obtain⟨O',hS',hz,hl⟩:=hE.leave (λq=>if q=2 then i0 else 0) rfl hB;exact AbZ rfl (AC rfl) (AC rfl) (AC rfl) (AC rfl) ⟨O',hS',_,_,_,_,(Ob.leave b3 hz (hl 2 (by decide) (by decide)) h0.2),rfl,(Vb.mono (Vb.nil _ _) hz),(vInt (W3 0)),(vInt (W3 (-1))),(vErr (by decide))⟩
 replace hm:=im hm i1;refine o_z (Ah rfl (AE (Aj (Ae (Ar rfl (Cm rfl (AJ rfl ?_)))))));replace h7:=h7.st f0;refine AL (hc:=Blk.cell (i:=0) (h7.1) rfl) rfl (Ar rfl ?_);obtain⟨k0,c3,hm⟩:=bs hm;refine BM (O:=u2) (LT g2 c0 c3) rfl λt4 u4 v4 s0 d3=>?_;obtain⟨e3,f3⟩:=d3;obtain⟨rfl,j2⟩:=f3.int;refine Au rfl (o_z (Aj (Aj (Ae (Ar rfl (Cm rfl (AJ rfl ?_)))))));replace h7:=h7.st s0;refine AL (hc:=Blk.cell (i:=2) (h7.1) rfl) rfl (Ar rfl ?_);replace e0:=(e0.st f0).st s0;obtain⟨k2,l2,j1,d0⟩:=MapR.get e0 k0;refine YT k0 j1 rfl rfl rfl (AO rfl ?_);have k1:=Bj d0.len;have w4:=rngNat k1;refine Ar rfl (o_z ?_);replace j0:=(j0.st f0).st s0;obtain⟨g3,l1,m1,n1,t0⟩:=Reg.shut (x:=x0) (l0:=2) (by decide) h7 e3 j0 e0;replace d0:=d0.shutS l1 m1 n1 [2] (by decide);obtain⟨m2,o1,hm⟩:=bs hm;replace hB:=((hB.st f0).st s0).st l1;replace c0:=(c0.st s0).st l1;refine Dg (X:=Unit) ((Y2 ([]:List Int) x0.table.l k0).length) o1 rfl k1 (λn2 o2=>[(0,(.pointer (some ⟨p0,0,none⟩))),(8,(.slice h2 h1.1.length i2)),(10,(.int .i64 k0)),(36,(.slice k2 (Y2 ([]:List Int) x0.table.l k0).length l2))]) (λn2 o2 w'=>∃O':Lab,Bm w O0 w' O'/\Ob 2 w' O' (.pointer (some ⟨p0,0,none⟩)) x0/\Vb w' (Fr 0 w' O') (.slice h2 h1.1.length i2) h1.1/\Vb w' (FrS [2] w' O') (.slice k2 (Y2 ([]:List Int) x0.table.l k0).length l2) (Y2 ([]:List Int) x0.table.l k0)) () ⟨g3,hB,t0,c0,d0⟩ Af (λ_ _=>rfl) ?_ ?_
 ·rintro x4 y4 n2 o2 z4 h3 u0 ⟨a5,hB,t0,c0,d0⟩ b0 m0 p1;have rk66:=YV u0 k1;refine Aj (Ae ?_);obtain⟨b5,c5,i3,q1,r1,s1,rfl,j3⟩:=d0.elem' u0;refine BA (hA:=q1) (hj:=rfl) (hlt:=r1) rfl rfl (AL (hc:=cat0 s1) rfl (Au rfl (o_z (Aj (Ae (Ar rfl (Cm rfl ?_)))))));obtain⟨k3,d5,e5,f5,g1,t1,n0,o0,g0,q0⟩:=Reg.opn t0 2 3 4 5 (by decide);obtain⟨g5,rfl⟩:=o0.ptr;obtain⟨h5,i5,rfl⟩:=g0.form;obtain⟨j5,rfl⟩:=q0.mptr;replace d0:=d0.opnS g1 (by decide) t1 [2,3,4,5] (by decide);refine AJ rfl (AL (hc:=Blk.cell (i:=1) (n0.1) rfl) rfl (Ar rfl ?_));obtain⟨l3,u1,b0⟩:=bs b0;obtain⟨w1,y1⟩:=Cn u1;obtain⟨m3,n3,p2,w0,y0,z0,o3,rfl,a1,p3,q3,r3⟩:=g0.elem y1;obtain⟨s3,t3,rfl⟩:=a1.form;refine BA (hA:=w0) (hj:=w1) (hlt:=y0) rfl rfl (AJ rfl (AL (hc:=cat0 z0) rfl (Ar rfl ?_)));obtain⟨z1,a2,b0⟩:=bs b0;replace c0:=c0.st g1;refine BO (O:=k3) (Ii (λ_ h=>h) (vMo a1) (vMo c0) a2) rfl λu3 w3 x3 a0 b2=>?_;obtain rfl:=b2.bool;replace d0:=d0.stS a0 id (λ_ _=>id);cases z1
  case false =>
   replace b0:=iF b0;refine o_z (Ah rfl (AE ?_));replace n0:=n0.st a0;replace o0:=o0.st a0;replace g0:=g0.st a0;replace q0:=q0.st a0;obtain⟨y3,r0,b1,c1,c2⟩:=Reg.shut (x:=x0) (l0:=2) (by decide) n0 o0 g0 q0;replace d0:=d0.shutS r0 b1 c1 [2] (by decide);obtain rfl:=sm b0;exact show Exists _ from⟨_,(),rfl,Af,_,((hB.st g1).st a0).st r0,c2,(c0.st a0).st r0,d0⟩
  replace b0:=iT b0;refine o_z (Am rfl (Aj (Ae (Ar rfl (Ar rfl (Ar rfl (Au rfl (Au rfl (Au rfl (Au rfl (o_z (AD ?_))))))))))));replace n0:=n0.st a0;replace o0:=o0.st a0;replace g0:=g0.st a0;replace q0:=q0.st a0;obtain⟨z3,d1,q2,r2,d2⟩:=Reg.shut (x:=x0) (l0:=2) (by decide) n0 o0 g0 q0;obtain rfl:=sm b0;obtain rfl:=m0 _ rfl;obtain rfl:=sm (Bp hm);replace hB:=((hB.st g1).st a0).st d1;obtain⟨O',hS',hz,hl⟩:=hE.leave (λq=>if q=2 then i0 else 0) rfl hB;replace c0:=(c0.st a0).st d1;exact AbZ rfl (AC rfl) (AC rfl) (AC rfl) (AC rfl) ⟨O',hS',_,_,_,_,(Ob.leave d2 hz (hl 2 (by decide) (by decide)) h0.2),rfl,(Vb.mono c0 hz),(vInt j2),(vInt j3),(vErr (W3 0))⟩
 rintro a4 b4 ⟨d4,e4,rfl,e1,f4,hB,t0,c0,d0⟩;replace hm:=AW hm;refine AQ _ e1 ?_;refine Aj (Ae (Ar rfl (Ar rfl (Au rfl (Au rfl (Au rfl (Au rfl (o_z (AD ?_)))))))));obtain rfl:=sm hm;obtain⟨O',hS',hz,hl⟩:=hE.leave (λq=>if q=2 then i0 else 0) rfl hB;exact AbZ rfl (AC rfl) (AC rfl) (AC rfl) (AC rfl) ⟨O',hS',_,_,_,_,(Ob.leave t0 hz (hl 2 (by decide) (by decide)) h0.2),rfl,(Vb.mono c0 hz),(vInt j2),(vInt (W3 (-1))),(vErr (W3 0))⟩
noncomputable def CN(a:Reg)(e:List Int):Option (Int×Bool×Err×Reg) :=
  bnd (De a e) λb=>if b.2.2.2.n≠0 then(some (0,false,(⟨b.2.2.2.n⟩:Err),a))else(if 0<=b.2.2.1 then(some (b.2.2.1,false,(⟨0⟩:Err),a))else(if 65536<=(a.entries.length:Int)then(some (0,false,(⟨10⟩:Err),a))else(bnd (X6 48 a.entries [(⟨b.1,(⟨(-1),(-1),0⟩:RLk)⟩:REn)]) λc=>bnd (X6 8 (Y2 ([]:List Int) a.table.l b.2.1) ([(a.entries.length:Int)]:List Int)) λd=>some ((a.entries.length:Int),true,(⟨0⟩:Err),(⟨a.packer,c,(⟨ZZ a.table.l b.2.1 d⟩:MapR 3 Int Int)⟩:Reg)))))
theorem Hq{w:World}{O:Lab}{p0 i0:Nat}{x0:Reg}(d0:Ob i0 w O (.pointer (some ⟨p0,0,none⟩)) x0){vx1:Value}{x1:List Int}(k0:Vb w (Fr 0 w O) vx1 x1){r:Int×Bool×Err×Reg}(hm:CN x0 x1=some r) :
    Fn prog 41 [(.pointer (some ⟨p0,0,none⟩)),vx1] w λv w'=>∃O',St (eT i0) w O w' O'/\∃v0 v1 v2:Value,Ob i0 w' O' (.pointer (some ⟨p0,0,none⟩)) r.2.2.2/\v=.tuple #[v0,v1,v2]/\Vb w' (Fr 0 w' O') v0 r.1/\Vb w' (Fr 0 w' O') v1 r.2.1/\Vb w' (Fr 0 w' O') v2 r.2.2.1:=by
 obtain⟨O0,hE,d1,k1⟩:=Y3 (w:=w) (O:=O) d0.2;have d0':=Ob.leave d0 d1 k1 (j:=2) (by decide);have hB:Bm w O0 w O0:=Bm.refl;replace k0:=k0.mono d1;obtain⟨A3,c4,rfl⟩:=k0.form;refine AG func41 rfl ntmps41 ?_;unfold CN at hm;refine Aj (Ae (Au rfl (Au rfl (Au rfl (o_z (Aj (Aj (Ae (Ar rfl (IU rfl (o_z (Ah rfl (AE (Aj ?_))))))))))))));refine Ae (Ar rfl (Ar rfl ?_));obtain⟨q5,e6,hm⟩:=bs hm;refine BM (O:=O0) (JM d0' (k0.z hB) e6) rfl λm2 w7 O8 S9 l1=>?_;obtain⟨n2,o2,p2,q2,s0,rfl,m0,m1,n1,o1⟩:=l1;obtain⟨p1,q1,rfl⟩:=m0.form;obtain⟨rfl,r2⟩:=m1.int;obtain⟨rfl,r1⟩:=n1.int;obtain⟨rfl,s1⟩:=o1.err;refine Ar rfl (AZ rfl rfl (AZ rfl rfl (AZ rfl rfl (AZ rfl rfl (Au rfl (Au rfl (Au rfl (Au rfl (o_z (Aj (BC (Aj (Ae (Ar rfl ?_))))))))))))));refine Cy rfl (λt0=>?_) λt0=>?_
 ·replace hm:=ip hm t0;refine Au rfl (o_z (Am rfl (Aj (Ae (Ar rfl (Au rfl (Au rfl (Au rfl (o_z (AD ?_))))))))));obtain rfl:=sm hm;replace hB:=hB.st S9;obtain⟨O',hS',hz,hl⟩:=hE.leave (λq=>if q=2 then i0 else 0) rfl hB;exact ZG rfl (AC rfl) (AC rfl) (AC rfl) ⟨O',hS',_,_,_,(Ob.leave s0 hz (hl 2 (by decide) (by decide)) d0.2),rfl,(vInt (W3 0)),vBool,(vErr s1)⟩
 replace hm:=im hm t0;refine Au rfl (o_z (Ah rfl (Aj (Ae (Ar rfl (Es rfl rfl (λu0=>?_) λu0=>?_))))))
 ·replace hm:=ip hm u0;refine Au rfl (o_z (Am rfl (Aj (Ae (Ar rfl (Au rfl (Au rfl (Au rfl (o_z (AD ?_))))))))));obtain rfl:=sm hm;replace hB:=hB.st S9;obtain⟨O',hS',hz,hl⟩:=hE.leave (λq=>if q=2 then i0 else 0) rfl hB;exact ZG rfl (AC rfl) (AC rfl) (AC rfl) ⟨O',hS',_,_,_,(Ob.leave s0 hz (hl 2 (by decide) (by decide)) d0.2),rfl,(vInt r1),vBool,(vErr (W3 0))⟩
 replace hm:=im hm u0;refine Au rfl (o_z (Ah rfl (Aj (Ae (Ar rfl (Cm rfl ?_))))));obtain⟨s2,t2,u2,w2,w0,t1,a0,h0,j0,b0⟩:=Reg.opn s0 2 3 4 5 (by decide);obtain⟨x2,rfl⟩:=h0.ptr;obtain⟨y2,z2,rfl⟩:=j0.form;obtain⟨a3,rfl⟩:=b0.mptr;refine AJ rfl (AL (hc:=Blk.cell (i:=1) (a0.1) rfl) rfl (AO rfl ?_));have u1:=Bj j0.len;have b3:=rngNat u1;refine Es rfl rfl (λy0=>?_) λy0=>?_
 ·replace hm:=ip hm y0;refine Au rfl (o_z (Am rfl (Aj (Ae (Da rfl (Au rfl (Au rfl (Au rfl (o_z (AD ?_))))))))));obtain⟨c3,w1,y1,z1,a2⟩:=Reg.shut (x:=x0) (l0:=2) (by decide) a0 h0 j0 b0;obtain rfl:=sm hm;replace hB:=((hB.st S9).st w0).st w1;obtain⟨O',hS',hz,hl⟩:=hE.leave (λq=>if q=2 then i0 else 0) rfl hB;exact ZG rfl (AC rfl) (AC rfl) (AC rfl) ⟨O',hS',_,_,_,(Ob.leave a2 hz (hl 2 (by decide) (by decide)) d0.2),rfl,(vInt (W3 0)),vBool,(vErr (by decide))⟩
 replace hm:=im hm y0;refine Au rfl (o_z (Ah rfl (AE (Aj (Ae (Ar rfl (Cm rfl (AJ rfl (AL (hc:=Blk.cell (i:=1) (a0.1) rfl) rfl (AO rfl ?_))))))))));have b2:=Bj j0.len;have e1:=rngNat b2;refine Au rfl (o_z (Aj (Ae (Ar rfl (Ar rfl (Cm rfl (AJ rfl (AL (hc:=Blk.cell (i:=1) (a0.1) rfl) rfl (Ar rfl (CK rfl rfl ?_))))))))));refine am ?_;obtain⟨c2,z0,hm⟩:=bs hm;obtain⟨z0,d2,e2⟩:=Bw z0;replace m0:=m0.st w0;refine Dl rfl (a:=(⟨q5.1,(⟨(-1),(-1),0⟩:RLk)⟩:REn)) j0 (Vb.ofAgg (cs:=[(.slice p1 q5.1.length q1),(.int .i64 (-1)),(.int .i64 (-1)),(.int .i64 0)]) (x:=(⟨q5.1,(⟨(-1),(-1),0⟩:RLk)⟩:REn)) rfl ⟨_,rfl,m0,(W3 (-1)),(W3 (-1)),(W3 0)⟩) (λ_=>rfl) rfl d2 e2 ⟨rfl,rfl⟩ λd3 e3 f3 g3 f1 n0 o0=>?_;rw[<- z0]at o0 ⊢;refine Cm rfl (AJ rfl ?_);replace a0:=a0.st n0;refine AR a0 rfl rfl rfl (Bg) (allOne) λh3 q0 a0=>?_;refine o_z (Aj ?_);refine Ck [(13,[5,7])] f1 ?_;refine Bl (fuel:=8) [] (Ci (FH 5 7)) rfl (AM rfl rfl (En rfl rfl (Be rfl rfl (Bz (hc:=CH a0 2 rfl) rfl rfl (AM rfl rfl ?_)))));replace b0:=(b0.st n0).st q0;obtain⟨i3,j3,c0,g1⟩:=MapR.get b0 q5.2.1;refine YU q5.2.1 (λw' ⟨O',hq⟩=>c0.keep (hq.agree (i:=5) (by decide) _ (MapR.at b0))) rfl rfl rfl rfl (AM rfl rfl (AP ?_));refine Bl (fuel:=3) [5,7] (Ci (FH 0 5)) rfl (AM rfl rfl (En rfl rfl (Be rfl rfl (Bz (hc:=CH a0 2 rfl) rfl rfl (AM rfl rfl (AP (Bo (i:=12) rfl ?_)))))));refine CW 6 f1 (xs:=(([(x0.entries.length:Int)]:List Int):List Int)) rfl rfl rfl ⟨(vInt e1),trivial⟩ λk3 l3 m3 e0 a1=>?_;have hZ:=lZ e0;replace c0:=c0.keep (e0.agree (i:=5) id _ (MapR.at b0));replace g1:=g1.stS e0 id (λ_ _=>id);refine CT [(13,[5,7])] hZ (Bo (i:=13) rfl ?_);replace b0:=b0.st e0;obtain⟨n3,f0,b1,f2⟩:=MapR.take b0 c0 7 (by decide) (by decide);have hZ:=f0.lst [5] (λ_ h=>by cases h;decide);obtain⟨g2,c1,hm⟩:=bs hm;obtain⟨c1,h2,i2⟩:=Bw c1;replace a1:=a1.st f0;refine DH rfl f2 (a1.rd) rfl rfl h2 i2 λo3 p3 q3 r3 g0 h1=>?_;rw[<- c1]at h1 ⊢;replace hZ:=hZ.cmp g0 [5,7] (λ_ h=>by cases h;decide) rfl;refine CT [] hZ (Bo (i:=14) rfl ?_);replace b1:=b1.st g0;refine Wv b1 h1 (by decide) rfl rfl rfl λs3 t3 r0 j2=>?_;refine Gn (Dv (Aj (Ae (Ar rfl (Au rfl (Au rfl (Au rfl (o_z (AD ?_)))))))));replace a0:=(((a0.st e0).st f0).st g0).st r0;replace h0:=(((((h0.st n0).st q0).st e0).st f0).st g0).st r0;replace o0:=((((o0.st q0).st e0).st f0).st g0).st r0;obtain⟨u3,k2,i1,j1,l2⟩:=Reg.shut (x:=(⟨x0.packer,c2,(⟨ZZ x0.table.l q5.2.1 g2⟩:MapR 3 Int Int)⟩:Reg)) (l0:=2) (by decide) a0 h0 o0 j2;obtain rfl:=sm hm;replace hB:=((((((((hB.st S9).st w0).st n0).st q0).st e0).st f0).st g0).st r0).st k2;obtain⟨O',hS',hz,hl⟩:=hE.leave (λq=>if q=2 then i0 else 0) rfl hB;exact ZG rfl (AC rfl) (AC rfl) (AC rfl) ⟨O',hS',_,_,_,(Ob.leave l2 hz (hl 2 (by decide) (by decide)) d0.2),rfl,(vInt e1),vBool,(vErr (W3 0))⟩
noncomputable def BV(b:Reg)(a:Int):Option Bool :=
  bnd (if 0<=a then(if a<(b.entries.length:Int)then(some true)else(some false))else(some false):Option Bool) λc=>some c
theorem Fc{w:World}{O:Lab}{e f:Nat}{b:Reg}(g:Ob f w O (.pointer (some ⟨e,0,none⟩)) b){h:Int}(n:W1 h){r:Bool}(hm:BV b h=some r) :
    Fn prog 69 [(.pointer (some ⟨e,0,none⟩)),(.int .i64 h)] w λv w'=>∃a,St (eT f) w O w' a/\Ob f w' a (.pointer (some ⟨e,0,none⟩)) b/\Vb w' (Fr 0 w' a) v r:=by
 obtain⟨k,hE,j0,k0⟩:=Y3 (w:=w) (O:=O) g.2;have c:=Ob.leave g j0 k0 (j:=2) (by decide);have d:Bm w k w k:=Bm.refl;refine AG func69 rfl ntmps69 ?_;unfold BV at hm;refine Aj (Ae (Au rfl (o_z (Aj ?_))));obtain⟨o,a0,hm⟩:=bs hm;refine Bc (λp w'=>∃(s:Unit) (a:Lab),W4 p [(4,(.bool o))]/\Bm w k w' a/\Ob 2 w' a (.pointer (some ⟨e,0,none⟩)) b) ?_ ?_
 ·refine Ae (Ar rfl (Es rfl rfl (λl=>?_) λl=>?_))
  ·replace a0:=ip a0 l;refine Ar rfl (Az rfl rfl (Ar rfl (Az rfl rfl (Ar rfl (Az rfl rfl (Cm rfl (Az rfl rfl ?_)))))));obtain⟨u,z0,a1,b1,S9,m0,d0,e0,c0,f0⟩:=Reg.opn c 2 3 4 5 (by decide);obtain⟨y,rfl⟩:=e0.ptr;obtain⟨z,e1,rfl⟩:=c0.form;obtain⟨A,rfl⟩:=f0.mptr;refine AJ rfl (Az rfl rfl (AL (hc:=Blk.cell (i:=1) (d0.1) rfl) rfl (Az rfl rfl (AO rfl ?_))));have t:=Bj c0.len;have B:=rngNat t;refine Az rfl rfl (Cp rfl rfl (λm=>?_) λm=>?_)
   ·replace a0:=ip a0 m;refine AV rfl rfl (Au rfl (o_z ?_));obtain⟨C,o0,q0,r0,s0⟩:=Reg.shut (x:=b) (l0:=2) (by decide) d0 e0 c0 f0;obtain rfl:=sm a0;exact⟨(),_,B3,(d.st S9).st o0,s0⟩
   replace a0:=im a0 m;refine AV rfl rfl (Au rfl (o_z ?_));obtain⟨D,t0,u0,v0,w0⟩:=Reg.shut (x:=b) (l0:=2) (by decide) d0 e0 c0 f0;obtain rfl:=sm a0;exact⟨(),_,B3,(d.st S9).st t0,w0⟩
  replace a0:=im a0 l;refine Ar rfl (Ay rfl rfl (Ay rfl rfl (Ay rfl rfl (Ay rfl rfl (Ay rfl rfl (Ay rfl rfl (Ay rfl rfl (AS rfl rfl (Au rfl (o_z ?_))))))))));obtain rfl:=sm a0;exact⟨(),_,B3,d,c⟩
 rintro E F ⟨s,l1,h0,d,y0⟩;refine AQ _ h0 ?_;refine AD ?_;obtain rfl:=sm hm;obtain⟨a,hS',hz,hl⟩:=hE.leave (λq=>if q=2 then f else 0) rfl d;exact X2 rfl (AC rfl) ⟨a,hS',(Ob.leave y0 hz (hl 2 (by decide) (by decide)) g.2),vBool⟩
noncomputable def DA(b:Reg)(d:Int):Option ((List Int)×Err) :=
  bnd (BV b d) λe=>if e=true then bnd (atI b.entries d) λc=>bnd (EK b.packer c.words) λa=>some (a.1,(⟨a.2.n⟩:Err))else some (([]:List Int),(⟨1⟩:Err))
theorem Jl{w:World}{O:Lab}{g c:Nat}{e:Reg}(f:Ob c w O (.pointer (some ⟨g,0,none⟩)) e){h:Int}(k:W1 h){r:(List Int)×Err}(hm:DA e h=some r) :
    Fn prog 37 [(.pointer (some ⟨g,0,none⟩)),(.int .i64 h)] w λv w'=>∃a,St (eT c) w O w' a/\∃n o:Value,Ob c w' a (.pointer (some ⟨g,0,none⟩)) e/\v=.tuple #[n,o]/\Vb w' (Fr 0 w' a) n r.1/\Vb w' (Fr 0 w' a) o r.2:=by
 obtain⟨l,hE,s0,t0⟩:=Y3 (w:=w) (O:=O) f.2;have m:=Ob.leave f s0 t0 (j:=2) (by decide);have b:Bm w l w l:=Bm.refl;refine AG func37 rfl ntmps37 ?_;unfold DA at hm;refine Aj (Ae (Au rfl (Au rfl (o_z (Aj (BC (Aj (Ae (Ar rfl (IU rfl (Au rfl (o_z (Ah rfl (Aj ?_))))))))))))));refine Ae (Ar rfl (Ar rfl ?_));obtain⟨u,e4,hm⟩:=bs hm;refine BM (O:=l) (Fc m k e4) rfl λC D E p y=>?_;obtain⟨s,u0⟩:=y;obtain rfl:=u0.bool;cases u
 case false =>
  replace hm:=iF hm;refine Cx rfl (Au rfl (o_z (Am rfl (Aj (Ae (Da rfl (Au rfl (Au rfl (o_z (AD ?_))))))))));obtain rfl:=sm hm;replace b:=b.st p;obtain⟨a,hS',hz,hl⟩:=hE.leave (λq=>if q=2 then c else 0) rfl b;exact X3 rfl (AC rfl) (AC rfl) ⟨a,hS',_,_,(Ob.leave s hz (hl 2 (by decide) (by decide)) f.2),rfl,(Vb.mono (Vb.nil _ _) hz),(vErr (by decide))⟩
 replace hm:=iT hm;refine Cw rfl (Au rfl (o_z (Ah rfl (AE (Aj ?_)))));obtain⟨t,l1,m1,n1,w0,y0,b0,o0,c0,e0⟩:=Reg.opn s 2 3 4 5 (by decide);obtain⟨F,rfl⟩:=o0.ptr;obtain⟨G,q1,rfl⟩:=c0.form;obtain⟨H,rfl⟩:=e0.mptr;refine Ck [(12,[3])] t ?_;refine Bl (fuel:=5) [] (Ci (FH 0 12)) rfl (AM rfl rfl (En rfl rfl (Be rfl rfl (Bz (hc:=CH b0 0 rfl) rfl rfl (AM rfl rfl (En rfl rfl (Be rfl rfl (Bz (hc:=CH b0 1 rfl) rfl rfl (AM rfl rfl ?_)))))))));obtain⟨I,z0,hm⟩:=bs hm;obtain⟨z,b1⟩:=Cn z0;obtain⟨J,u1,c1,g0,h0,j0,k0,w1,rfl,q0,y1,z1,a2⟩:=c0.elemF b1;obtain⟨K,c2,rfl⟩:=q0.form;refine CX (hA:=g0) (hj:=z) (hlt:=j0) rfl rfl rfl (Be rfl rfl (Bz (hc:=JI h0 k0) rfl rfl (AP (Bo (i:=12) rfl ?_))));obtain⟨L,d1,hm⟩:=bs hm;refine BM (O:=t) (Li o0 q0 d1) rfl λM N P d A=>?_;obtain⟨Q,i2,f1,rfl,f0,g1⟩:=A;obtain⟨R,k2,rfl⟩:=f0.form;obtain⟨rfl,h1⟩:=g1.err;have B:=d.lst [3] (λ_ T=>by cases T;decide);refine CT [] B ?_;refine Bl (fuel:=0) [] (Ci [13,14,15,16]) rfl (IW rfl rfl rfl (IW rfl rfl rfl (CY rfl rfl (CY rfl rfl (AP (Dv (AD ?_)))))));replace b0:=b0.st d;replace c0:=c0.st d;replace e0:=e0.st d;obtain⟨S,r0,i1,j1,k1⟩:=Reg.shut (x:=e) (l0:=2) (by decide) b0 f1 c0 e0;obtain rfl:=sm hm;replace b:=(((b.st p).st w0).st d).st r0;obtain⟨a,hS',hz,hl⟩:=hE.leave (λq=>if q=2 then c else 0) rfl b;replace f0:=f0.st r0;exact X3 rfl (AC rfl) (AC rfl) ⟨a,hS',_,_,(Ob.leave k1 hz (hl 2 (by decide) (by decide)) f.2),rfl,(Vb.mono f0 hz),(vErr h1)⟩
noncomputable def Dm(a:Reg)(b:Int)(c:Int)(g:Int)(h:Int):Option (Err×Reg) :=
  bnd (bnd (BV a b) λd=>if d=true then if c≠(-1)then(bnd (BV a c) λe=>if e=true then some false else some true)else(some false)else some true:Option Bool) λi=>if i=true then(some ((⟨1⟩:Err),a))else(bnd (atI a.entries b) λf=>some ((⟨0⟩:Err),(⟨a.packer,(a.entries.set (b:Int).toNat ({ f with link:=(⟨c,g,h⟩:RLk) }:REn)),a.table⟩:Reg)))
theorem IP{w:World}{O:Lab}{k l:Nat}{d:Reg}(o:Ob l w O (.pointer (some ⟨k,0,none⟩)) d){h:Int}(y:W1 h){e:Int}(m:W1 e){f:Int}(z:W1 f){g:Int}(A:W1 g){r:Err×Reg}(hm:Dm d h e f g=some r) :
    Fn prog 42 [(.pointer (some ⟨k,0,none⟩)),(.int .i64 h),(.int .i64 e),(.int .i64 f),(.int .i64 g)] w λv w'=>∃b,St (eT l) w O w' b/\Ob l w' b (.pointer (some ⟨k,0,none⟩)) r.2/\Vb w' (Fr 0 w' b) v r.1:=by
 obtain⟨p,hE,w0,y0⟩:=Y3 (w:=w) (O:=O) o.2;have B:=Ob.leave o w0 y0 (j:=2) (by decide);have c:Bm w p w p:=Bm.refl;refine AG func42 rfl ntmps42 ?_;unfold Dm at hm;refine Aj (Ae (Au rfl (o_z (Aj (BC (Aj (Ae (Ar rfl (IU rfl (Au rfl (o_z (Ah rfl (Aj ?_)))))))))))));obtain⟨H,a0,hm⟩:=bs hm;refine Bc (λI w'=>∃(J:Unit) (b:Lab),W4 I [(0,(.pointer (some ⟨k,0,none⟩))),(1,(.int .i64 h)),(2,(.int .i64 e)),(3,(.int .i64 f)),(4,(.int .i64 g)),(15,(.bool H))]/\Bm w p w' b/\Ob 2 w' b (.pointer (some ⟨k,0,none⟩)) d) ?_ ?_
 ·refine Ae (Ar rfl (Ar rfl ?_));obtain⟨z0,a1,a0⟩:=bs a0;refine BM (O:=p) (Fc B y a1) rfl λQ R K s L=>?_;obtain⟨C,d1⟩:=L;obtain rfl:=d1.bool;cases z0
  case false =>
   replace a0:=iF a0;refine Cx rfl (Ar rfl (Ay rfl rfl (Ay rfl rfl (Ay rfl rfl (Ay rfl rfl (Ay rfl rfl (Ay rfl rfl (Ay rfl rfl (Ay rfl rfl (AV rfl rfl (Au rfl (o_z ?_))))))))))));obtain rfl:=sm a0;exact⟨(),_,Af,c.st s,C⟩
  replace a0:=iT a0;refine Cw rfl (Ar rfl (Az rfl rfl (Ar rfl (Az rfl rfl (Gm rfl rfl (λD=>?_) λD=>?_)))))
  ·replace a0:=ip a0 D;refine Az rfl rfl (Ar rfl (Az rfl rfl (Ar rfl (Az rfl rfl (Ar rfl (Az rfl rfl ?_))))));obtain⟨M,f1,a0⟩:=bs a0;refine BM (O:=K) (Fc C m f1) rfl λS T U F N=>?_;obtain⟨G,h1⟩:=N;obtain rfl:=h1.bool;cases M
   case false =>
    replace a0:=iF a0;refine Az rfl rfl (Cx rfl (Az rfl rfl (AV rfl rfl (AS rfl rfl (Au rfl (o_z ?_))))));obtain rfl:=sm a0;exact⟨(),_,Af,(c.st s).st F,G⟩
   replace a0:=iT a0;refine Az rfl rfl (Cw rfl (Az rfl rfl (AV rfl rfl (AS rfl rfl (Au rfl (o_z ?_))))));obtain rfl:=sm a0;exact⟨(),_,Af,(c.st s).st F,G⟩
  replace a0:=im a0 D;refine Az rfl rfl (Ar rfl (Ay rfl rfl (Ay rfl rfl (Ay rfl rfl (Ay rfl rfl (Az rfl rfl (AS rfl rfl (AS rfl rfl (Au rfl (o_z ?_))))))))));obtain rfl:=sm a0;exact⟨(),_,Af,c.st s,C⟩
 rintro V W ⟨J,c2,o0,c,u0⟩;refine AQ _ o0 ?_;refine Bx rfl (λE=>?_) (λE=>?_)
 ·replace hm:=ip hm E;refine Aj (Ae (Da rfl (Au rfl (o_z (AD ?_)))));obtain rfl:=sm hm;obtain⟨b,hS',hz,hl⟩:=hE.leave (λq=>if q=2 then l else 0) rfl c;exact X2 rfl (AC rfl) ⟨b,hS',(Ob.leave u0 hz (hl 2 (by decide) (by decide)) o.2),(vErr (by decide))⟩
 replace hm:=im' hm E;refine AE (Aj (Ae (Ar rfl (Cm rfl ?_))));obtain⟨X,e2,f2,g2,i1,j1,f0,g0,n,h0⟩:=Reg.opn u0 2 3 4 5 (by decide);obtain⟨Y,rfl⟩:=g0.ptr;obtain⟨Z,j2,rfl⟩:=n.form;obtain⟨k2,rfl⟩:=h0.mptr;refine AJ rfl (AL (hc:=Blk.cell (i:=1) (f0.1) rfl) rfl (Ar rfl (Ar rfl (Ar rfl (Ar rfl (CK rfl rfl ?_))))));obtain⟨t,k1,hm⟩:=bs hm;obtain⟨P,v0⟩:=Cn k1;obtain⟨l2,m2,m1,d0,r0,n1,n2,rfl,o1,o2,p2,q2⟩:=n.elem v0;obtain⟨r2,s2,rfl⟩:=o1.form;refine BA (hA:=d0) (hj:=P) (hlt:=r0) rfl rfl (AJ rfl ?_);refine LM (a:=t) (a':=({ t with link:=(⟨e,f,g⟩:RLk) }:REn)) (off:=1) n d0 v0 rfl rfl rfl (F5 rfl) (by first|exact allOne|simp[Value.cells,Value.oneCell',GO]) (by rintro ce ⟨t2,rfl,p1,u2,v2,w2⟩;exact⟨_,rfl,p1,m,z,A⟩) λy2 u n=>?_;refine o_z (Aj (Ae (Au rfl (o_z (AD ?_)))));replace f0:=f0.st u;replace g0:=g0.st u;replace h0:=h0.st u;obtain⟨z2,q1,r1,s1,t1⟩:=Reg.shut (x:=(⟨d.packer,(d.entries.set (h:Int).toNat ({ t with link:=(⟨e,f,g⟩:RLk) }:REn)),d.table⟩:Reg)) (l0:=2) (by decide) (by have q:=f0;rw[<- ((by simp:(d.entries.set (h:Int).toNat ({ t with link:=(⟨e,f,g⟩:RLk) }:REn)).length=d.entries.length).trans rfl)]at q;exact q) g0 n.relen h0;obtain rfl:=sm hm;replace c:=((c.st i1).st u).st q1;obtain⟨b,hS',hz,hl⟩:=hE.leave (λq=>if q=2 then l else 0) rfl c;exact X2 rfl (AC rfl) ⟨b,hS',(Ob.leave t1 hz (hl 2 (by decide) (by decide)) o.2),(vErr (W3 0))⟩
noncomputable def DB(h:List Int):Option (List Int) :=
  bnd (W5 ((h.length:Int)-1)) λi=>bnd (lop (ρ:=(List Int)) (λ(a:(List Int)×Int×Int)=>if a.2.1<a.2.2 then(bnd (atI a.1 a.2.2) λb=>bnd (atI a.1 a.2.1) λd=>bnd (atI a.1 a.2.1) λj=>bnd (atI (a.1.set (a.2.1:Int).toNat b) a.2.2) λk=>bnd (W5 (a.2.1+1)) λe=>bnd (W5 (a.2.2-1)) λf=>some (.next (((a.1.set (a.2.1:Int).toNat b).set (a.2.2:Int).toNat d),e,f)))else(some (.brk (a.1,a.2.1,a.2.2)))) (h,0,i)) λc=>fin c λ(g:(List Int)×Int×Int)=>some g.1
theorem Jm{w:World}{O:Lab}{A0:Option Addr}{m0 c0 i0:Nat}{x0:List Int}(d0:Rw i0 w O 3 (.slice A0 m0 c0) x0){r:(List Int)}(hm:DB x0=some r) :
    Fn prog 103 [(.slice A0 m0 c0)] w λv w'=>∃O',St (eT i0) w O w' O'/\Rw i0 w' O' 3 (.slice A0 m0 c0) r:=by
 obtain⟨O0,hE,f1,g1⟩:=Y3 (w:=w) (O:=O) d0.2.2;obtain rfl:m0=x0.length:=d0.len.1;have d0':=Rw.leave d0 f1 g1 (j:=2) (by decide);have hB:Bm w O0 w O0:=Bm.refl;refine AG func103 rfl ntmps103 ?_;unfold DB at hm;refine Aj (Ae (Ar rfl (AO rfl ?_)));have l3:=Bj d0'.len;have r2:=rngNat l3;obtain⟨n4,e5,hm⟩:=bs hm;have r6:=(Bh e5);refine Hi (he:=e5) rfl rfl (Au rfl (Au rfl (o_z ?_)));obtain⟨j0,h1,hm⟩:=bs hm;refine Bc (aft j0 (λ(s9:(List Int)×Int×Int)(h0:Unit)=>[(0,(.slice A0 x0.length c0))]) (λs9 h0 w'=>∃O':Lab,Bm w O0 w' O'/\Rw 2 w' O' 3 (.slice A0 x0.length c0) s9.1/\W1 s9.2.1/\W1 s9.2.2)) ?_ ?_
 ·refine BC (GB (σ:=(List Int)×Int×Int) (X:=Unit) h1 (λ(s9:(List Int)×Int×Int)(h0:Unit)=>[(0,(.slice A0 x0.length c0)),(2,(.int .i64 s9.2.1)),(3,(.int .i64 s9.2.2))]) _ (λs9 h0 w'=>∃O':Lab,Bm w O0 w' O'/\Rw 2 w' O' 3 (.slice A0 x0.length c0) s9.1/\W1 s9.2.1/\W1 s9.2.2) _ () ⟨O0,hB,d0',(W3 0),r6⟩ B5 ?_);rintro s9 h0 k2 i1 ⟨j1,hB,b0,y0,z0⟩ a0 k0 e0;refine Aj (Aj (Ae (Ar rfl (Ar rfl (Cp rfl rfl (λl0=>?_) λl0=>?_)))))
  ·replace a0:=ip a0 l0;refine o_z (Am rfl (AE (Aj (BC ?_))));refine Ck [(13,[2])] j1 ?_;refine Bl (fuel:=5) [] (Ci [0,1,4,5,6,7,8,9,10,11,12]) rfl (AM rfl rfl (AM rfl rfl (AM rfl rfl (AM rfl rfl ?_))));obtain⟨k1,l1,a0⟩:=bs a0;obtain⟨m1,n1⟩:=Cn l1;obtain⟨l2,m2,o1,n0,o0,p0,q0,rfl,p1⟩:=b0.elemF n1;refine CX (hA:=n0) (hj:=m1) (hlt:=p0) rfl rfl rfl (Bz (hc:=JI o0 q0) rfl rfl (AM rfl rfl (AM rfl rfl ?_)));obtain⟨q1,r1,a0⟩:=bs a0;obtain⟨s1,t1⟩:=Cn r1;obtain⟨n2,o2,u1,r0,s0,t0,u0,rfl,v1⟩:=b0.elemF t1;refine CX (hA:=r0) (hj:=s1) (hlt:=t0) rfl rfl rfl (Bz (hc:=JI s0 u0) rfl rfl ?_);obtain⟨p2,w1,a0⟩:=bs a0;obtain⟨x1,a1⟩:=Cn w1;obtain⟨q2,s2,y1,f0,z1,v0,a2,rfl,t2⟩:=b0.elemF a1;refine CX (hA:=f0) (hj:=x1) (hlt:=v0) rfl rfl rfl (AP ?_);refine Bl (fuel:=3) [2] (Ci [2,3]) rfl (AM rfl rfl (AM rfl rfl (AP (Bo (i:=13) rfl ?_))));refine Fe rfl b0 (a:=k1) (vInt p1) f0 rfl rfl (AF a1) λu2 b1 b0=>?_;have hZ:=b1.lst [2] (λ_ h=>by cases h;decide);refine CT [] hZ ?_;refine Bl (fuel:=1) [] [(14,true)] rfl ?_;obtain⟨v2,b2,a0⟩:=bs a0;obtain⟨c2,c1⟩:=Cn b2;obtain⟨w2,x2,d2,g0,e2,w0,f2,rfl,y2⟩:=b0.elemF c1;refine CX (hA:=g0) (hj:=c2) (hlt:=w0) rfl rfl rfl (AP (Bo (i:=15) rfl ?_));refine Fe rfl b0 (a:=q1) (vInt v1) g0 rfl rfl (AF c1) λz2 g2 b0=>?_;refine Gn (Dv (Ae (Ar rfl ?_)));obtain⟨a3,d1,a0⟩:=bs a0;have h2:=(Bh d1);refine DM (he:=d1) rfl rfl (Ar rfl ?_);obtain⟨b3,e1,a0⟩:=bs a0;have i2:=(Bh e1);refine Hi (he:=e1) rfl rfl (Au rfl (Au rfl (o_z ?_)));obtain rfl:=sm a0;exact show Exists _ from⟨_,(),rfl,B5,_,(hB.st b1).st g2,b0,h2,i2⟩
  replace a0:=im a0 l0;refine o_z (Ah rfl (Cl ?_));obtain rfl:=sm a0;exact show Exists _ from⟨_,(),e0 _ rfl,B3,_,hB,b0,y0,z0⟩
 rintro c3 d3 ⟨e3,f3,rfl,j2,g3,hB,b0,y0,z0⟩;replace hm:=AW hm;obtain rfl:=sm hm;obtain⟨O',hS',hz,hl⟩:=hE.leave (λq=>if q=2 then i0 else 0) rfl hB;exact Zj rfl  ⟨O',hS',(Rw.leave b0 hz (hl 2 (by decide) (by decide)) d0.2.2)⟩
noncomputable def DU(e:Reg)(g:Int):Option ((List Int)×Err) :=
  bnd (BV e g) λh=>if h=true then bnd (lop (ρ:=(List Int)×Err) (λ(a:Int×(List Int))=>bnd (atI e.entries a.1) λb=>if b.link.parent<0 then(bnd (DB a.2) λf=>some (.ret (f,(⟨0⟩:Err))))else(bnd (X6 8 a.2 [b.link.op]) λd=>if(e.entries.length:Int)<(d.length:Int)then(some (.ret (([]:List Int),(⟨21⟩:Err))))else(some (.next (b.link.parent,d))))) (g,([]:List Int))) λc=>fin c λ(_:Int×(List Int))=>none else some (([]:List Int),(⟨1⟩:Err))
theorem JN{w:World}{O:Lab}{n m:Nat}{h:Reg}(o:Ob m w O (.pointer (some ⟨n,0,none⟩)) h){y:Int}(p:W1 y){r:(List Int)×Err}(hm:DU h y=some r) :
    Fn prog 71 [(.pointer (some ⟨n,0,none⟩)),(.int .i64 y)] w λv w'=>∃b,St (eT m) w O w' b/\∃E F:Value,Ob m w' b (.pointer (some ⟨n,0,none⟩)) h/\v=.tuple #[E,F]/\Vb w' (Fr 0 w' b) E r.1/\Vb w' (Fr 0 w' b) F r.2:=by
 obtain⟨s,hE,y1,z1⟩:=Y3 (w:=w) (O:=O) o.2;have z:=Ob.leave o y1 z1 (j:=2) (by decide);have c:Bm w s w s:=Bm.refl;refine AG func71 rfl ntmps71 ?_;unfold DU at hm;refine Aj (Ae (Au rfl (Au rfl (o_z (Aj (BC (Aj (Ae (Ar rfl (IU rfl (Au rfl (o_z (Ah rfl (Aj ?_))))))))))))));refine Ae (Ar rfl (Ar rfl ?_));obtain⟨K,e4,hm⟩:=bs hm;refine BM (O:=s) (Fc z p e4) rfl λY Z L G M=>?_;obtain⟨t,a2⟩:=M;obtain rfl:=a2.bool;cases K
 case false =>
  replace hm:=iF hm;refine Cx rfl (Au rfl (o_z (Am rfl (Aj (Ae (Da rfl (Au rfl (Au rfl (o_z (AD ?_))))))))));obtain rfl:=sm hm;replace c:=c.st G;obtain⟨b,hS',hz,hl⟩:=hE.leave (λq=>if q=2 then m else 0) rfl c;exact X3 rfl (AC rfl) (AC rfl) ⟨b,hS',_,_,(Ob.leave t hz (hl 2 (by decide) (by decide)) o.2),rfl,(Vb.mono (Vb.nil _ _) hz),(vErr (by decide))⟩
 replace hm:=iT hm;refine Cw rfl (Au rfl (o_z (Ah rfl (AE (Aj (Ae (Au rfl (o_z ?_))))))));obtain⟨N,c1,hm⟩:=bs hm;refine Bc (aft N (λ(f:Int×(List Int))(g:(Option Addr×Nat))=>[]) (λf g w'=>False)) ?_ ?_
 ·refine BC ?_;replace c:=c.st G;refine GB (σ:=Int×(List Int)) (X:=(Option Addr×Nat)) c1 (λ(f:Int×(List Int))(g:(Option Addr×Nat))=>[(0,(.pointer (some ⟨n,0,none⟩))),(1,(.int .i64 f.1)),(6,(.slice g.1 f.2.length g.2))]) _ (λf g w'=>∃b:Lab,Bm w s w' b/\Ob 2 w' b (.pointer (some ⟨n,0,none⟩)) h/\Rw 8 w' b 3 (.slice g.1 f.2.length g.2) f.2/\W1 f.1) _ (none,0) ⟨L,c,t,(Rw.nil 8 (by decide)),p⟩ B5 ?_;rintro f g d3 b2 ⟨e3,c,t,u0,f3⟩ a0 c0 d1;refine BC (Aj (Ae (Ar rfl (Cm rfl ?_))));obtain⟨P,g3,h3,i3,y0,d2,k0,d0,e0,f0⟩:=Reg.opn t 2 3 4 5 (by decide);obtain⟨j3,rfl⟩:=d0.ptr;obtain⟨k3,l3,rfl⟩:=e0.form;obtain⟨m3,rfl⟩:=f0.mptr;refine AJ rfl (AL (hc:=Blk.cell (i:=1) (k0.1) rfl) rfl (Ar rfl ?_));obtain⟨Q,f2,a0⟩:=bs a0;obtain⟨R,h2⟩:=Cn f2;obtain⟨n3,o3,i2,e1,f1,g1,p3,rfl,j2,k2,l2,r3⟩:=e0.elem h2;obtain⟨s3,t3,rfl⟩:=j2.form;refine BA (hA:=e1) (hj:=R) (hlt:=f1) rfl rfl (AJ rfl (BE (hl:=rfl) (hc:=(LK 1 3 g1)) rfl ?_));refine BL 6 P λu3 v3 S d k=>?_;refine AR k rfl rfl rfl (Bg) (allOne) λw3 e k=>?_;refine o_z (Aj (Aj (Ae (AJ rfl (AL (hc:=Blk.cell (i:=0) (k.1) rfl) rfl (Cp rfl rfl (λA=>?_) λA=>?_))))))
  ·replace a0:=ip a0 A;refine o_z (Am rfl (Aj (Ae (Ar rfl ?_))));obtain⟨x3,n2,a0⟩:=bs a0;replace u0:=((u0.st y0).st d).st e;refine BM (O:=S) (Jm u0 n2) rfl λy3 z3 a4 H z0=>?_;refine o_z (Aj (Ae (Ar rfl (Au rfl (Au rfl (o_z (AD ?_)))))));obtain⟨b4,q1,z0⟩:=z0.freeze;have u:=((d.an e).an H).an q1;replace k0:=k0.st u;replace d0:=d0.st u;replace e0:=e0.st u;replace f0:=f0.st u;obtain⟨c4,r1,o2,p2,q2⟩:=Reg.shut (x:=h) (l0:=2) (by decide) k0 d0 e0 f0;obtain rfl:=sm a0;obtain rfl:=c0 _ rfl;obtain rfl:=sm (Bp hm);replace c:=(((((c.st y0).st d).st e).st H).st q1).st r1;obtain⟨b,hS',hz,hl⟩:=hE.leave (λq=>if q=2 then m else 0) rfl c;replace z0:=z0.st r1;exact X3 rfl (AC rfl) (AC rfl) ⟨b,hS',_,_,(Ob.leave q2 hz (hl 2 (by decide) (by decide)) o.2),rfl,(Vb.mono z0 hz),(vErr (W3 0))⟩
  replace a0:=im a0 A;refine o_z (Ah rfl (AE (Aj (Ae (Ar rfl (AJ rfl (AL (hc:=Blk.cell (i:=1) (k.1) rfl) rfl ?_)))))));obtain⟨d4,B,a0⟩:=bs a0;obtain⟨B,r2,s2⟩:=Bw B;replace u0:=((u0.st y0).st d).st e;refine Dl rfl (a:=Q.link.op) u0 (vInt l2) (λ_=>rfl) rfl r2 s2 ⟨rfl,rfl⟩ λf4 T U g4 h4 l C=>?_;rw[<- B]at C ⊢;refine Au rfl (o_z (Aj (Aj (Ae (Ar rfl (AO rfl ?_))))));have V:=Bj C.len;have v2:=rngNat V;refine Ar rfl (Cm rfl (AJ rfl ?_));replace k0:=((k0.st d).st e).st l;refine AL (hc:=Blk.cell (i:=1) (k0.1) rfl) rfl (AO rfl ?_);replace e0:=((e0.st d).st e).st l;have W:=Bj e0.len;have w2:=rngNat W;refine Cq rfl rfl (λD=>?_) λD=>?_
  ·replace a0:=ip a0 D;refine o_z (Am rfl (Aj (Ae (Da rfl (Au rfl (Au rfl (o_z (AD ?_))))))));have I:=(d.an e).an l;replace d0:=d0.st I;replace f0:=f0.st I;obtain⟨x2,m1,s1,t1,n1⟩:=Reg.shut (x:=h) (l0:=2) (by decide) k0 d0 e0 f0;obtain rfl:=sm a0;obtain rfl:=c0 _ rfl;obtain rfl:=sm (Bp hm);replace c:=((((c.st y0).st d).st e).st l).st m1;obtain⟨b,hS',hz,hl⟩:=hE.leave (λq=>if q=2 then m else 0) rfl c;exact X3 rfl (AC rfl) (AC rfl) ⟨b,hS',_,_,(Ob.leave n1 hz (hl 2 (by decide) (by decide)) o.2),rfl,(Vb.mono (Vb.nil _ _) hz),(vErr (by decide))⟩
  replace a0:=im a0 D;refine o_z (Ah rfl (AE (Ae (AJ rfl ?_))));replace k:=k.st l;refine AL (hc:=Blk.cell (i:=0) (k.1) rfl) rfl (Au rfl (o_z ?_));have J:=(d.an e).an l;replace d0:=d0.st J;replace f0:=f0.st J;obtain⟨y2,a1,u1,w1,o1⟩:=Reg.shut (x:=h) (l0:=2) (by decide) k0 d0 e0 f0;obtain rfl:=sm a0;exact show Exists _ from⟨_,(T,U),rfl,B5,_,((((c.st y0).st d).st e).st l).st a1,o1,C.st a1,k2⟩
 rintro z2 a3 ⟨b3,c3,_,_,hE⟩;exact hE.elim
end
section
open Go Go.RowKit
attribute [local irreducible] ewp owp hwp hwq hws Ev Evg Fn W6 X7 X4 X1
attribute [local irreducible] hwx YW
structure Itm where
  cost:Int
  order:Int
  id:Int
instance:Rp Itm where
  isAgg:=true
  size:=3
  R w F cs x:=cs=[.int .i64 x.cost,.int .i64 x.order,.int .i64 x.id]/\W1 x.cost/\W1 x.order/\W1 x.id
  len:=by rintro w F cs x ⟨rfl,h0,h1,h2⟩;rfl
  one:=by rintro w F cs x ⟨rfl,h0,h1,h2⟩ u hu;simp at hu;rcases hu with rfl|rfl|rfl<;>first|rfl|exact Vb.one rfl (by assumption)
  agree:=by rintro w w' F cs x ⟨rfl,h0,h1,h2⟩ ha;exact⟨rfl,h0,h1,h2⟩
  mono:=by rintro w F G cs x ⟨rfl,h0,h1,h2⟩ ha;exact⟨rfl,h0,h1,h2⟩
instance:Ec Itm λe a w O i b o x G=>W1 x.cost->W1 x.order->W1 x.id->Al e (.C i b o [(.int .i64 x.cost),(.int .i64 x.order),(.int .i64 x.id)] :: .V (.agg #[(.int .i64 x.cost),(.int .i64 x.order),(.int .i64 x.id)]) x::a) w O->G:=⟨λ{_ _ _ _ _ _ _ x _ _} f c hc g k=>by
  have d:=Vb.ofAgg (x:=x) rfl g;obtain⟨rfl,r1,r2,r3⟩:=g;exact k r1 r2 r3 ⟨⟨c,hc⟩,d,f⟩⟩
instance : TMth prog 100 "Len" 36 false := ⟨by kernel_rfl⟩
instance : TMth prog 100 "Less" 218 false := ⟨by kernel_rfl⟩
instance : TMth prog 100 "Pop" 219 true := ⟨by kernel_rfl⟩
instance : TMth prog 100 "Push" 220 true := ⟨by kernel_rfl⟩
instance : TMth prog 100 "Swap" 221 false := ⟨by kernel_rfl⟩
noncomputable def Co(a:List Itm):Option Int :=
  some (a.length:Int)
section
attribute [local irreducible] Vb Lc Rw Ob
theorem Ha{w:World}{A:Nat->Prop}(hA:∀k,A k->k<w.heap.size){a:Value}{b:List Itm}(c:Vb w A a b){r:Int}(hm:Co b=some r) :
    Fn prog 36 [a] w λv w'=>Ext w w'/\Vb w' (upA A w w') v r:=by
 obtain⟨_,_,_⟩:=Db hA;apply CZ c;intros;refine AG func36 rfl ntmps36 ?_;unfold Co at hm;refine Aj (Ae (Au rfl (o_z (Aj (Ae (Ar rfl (AO rfl (Au rfl (o_z (AD ?_))))))))));obtain rfl:=sm hm;exact Ca
end
noncomputable def Cz(a:List Itm)(b:Int)(c:Int):Option Bool :=
  bnd (bnd (atI a b) λd=>bnd (atI a c) λe=>if d.cost<e.cost then(some true)else(bnd (atI a b) λf=>bnd (atI a c) λg=>if f.cost=g.cost then(bnd (atI a b) λh=>bnd (atI a c) λi=>if h.order<i.order then(some true)else(some false))else(some false)):Option Bool) λj=>some j
section
attribute [local irreducible] Vb Lc Rw Ob
theorem GQ{w:World}{A:Nat->Prop}(hA:∀k,A k->k<w.heap.size){b:Value}{i:List Itm}(j:Vb w A b i){c:Int}(l:W1 c){d:Int}(m:W1 d){r:Bool}(hm:Cz i c d=some r) :
    Fn prog 218 [b,(.int .i64 c),(.int .i64 d)] w λv w'=>Ext w w'/\Vb w' (upA A w w') v r:=by
 obtain⟨_,_,_⟩:=Db hA;apply CZ j;intros;refine AG func218 rfl ntmps218 ?_;unfold Cz at hm;refine Aj (Ae (Au rfl (o_z (Aj (Dp (X:=Unit) hm [] [] [] [] (λ_ _ e _ t=>(6,.bool e)::t) (λ_ _ _ _ t=>t) ?_ ?_)))))
 ·intro e a;refine Qy (Ci (FH 0 38)) ?_;refine AM rfl rfl (AM rfl rfl ?_);obtain⟨n,g0,a⟩:=bs a;refine Oa rfl ?_;intros;refine Be rfl rfl (NZ rfl (AM rfl rfl (AM rfl rfl ?_)));obtain⟨o,i0,a⟩:=bs a;refine Oa rfl ?_;intros;refine Be rfl rfl (NZ rfl (GN rfl rfl rfl (λf=>?_) λf=>?_))
  ·replace a:=ip a f;refine AM rfl rfl (AN rfl rfl rfl (AN rfl rfl rfl (AN rfl rfl rfl (AN rfl rfl rfl (AN rfl rfl rfl (AN rfl rfl rfl (AN rfl rfl rfl (AN rfl rfl rfl (AN rfl rfl rfl (AN rfl rfl rfl (AN rfl rfl rfl (AN rfl rfl rfl (AN rfl rfl rfl (AN rfl rfl rfl ?_))))))))))))));refine AN rfl rfl rfl (AN rfl rfl rfl (AN rfl rfl rfl (AN rfl rfl rfl (AN rfl rfl rfl (AN rfl rfl rfl (AN rfl rfl rfl (AN rfl rfl rfl (AN rfl rfl rfl (AN rfl rfl rfl (Dn rfl rfl rfl (CY rfl rfl (h_z ?_))))))))))));obtain rfl:=sm a;exact Bb ()
  replace a:=im a f;refine AM rfl rfl (AB rfl (AA rfl rfl (BK rfl (AB rfl (AA rfl rfl (BK rfl (AB rfl (AA rfl rfl ?_))))))));obtain⟨p,k0,a⟩:=bs a;refine IH ?_;intros;refine AB rfl (AA rfl rfl (Cu rfl (AB rfl (AA rfl rfl (IG (AB rfl (AA rfl rfl (BK rfl (AB rfl (AA rfl rfl (BK rfl (AB rfl (AA rfl rfl ?_)))))))))))));obtain⟨l0,m0,a⟩:=bs a;refine IH ?_;intros;refine AB rfl (AA rfl rfl (Cu rfl (AB rfl (AA rfl rfl (IG (AB rfl (AA rfl rfl (AY (λ_ _=>IL rfl rfl) (λg=>?_) (λg=>?_)))))))))
  ·replace a:=ip a g;refine AB rfl (AA rfl rfl (BK rfl (AB rfl (AA rfl rfl (BK rfl (AB rfl (AA rfl rfl (BK rfl (AB rfl (AA rfl rfl ?_))))))))));obtain⟨q,o0,a⟩:=bs a;refine IH ?_;intros;refine AB rfl (AA rfl rfl (Cu rfl (AB rfl (AA rfl rfl (IG (AB rfl (AA rfl rfl (BK rfl (AB rfl (AA rfl rfl (BK rfl (AB rfl (AA rfl rfl ?_)))))))))))));obtain⟨s,q0,a⟩:=bs a;refine IH ?_;intros;refine AB rfl (AA rfl rfl (Cu rfl (AB rfl (AA rfl rfl (IG (AB rfl (AA rfl rfl (AY (λ_ _=>Do rfl rfl) (λh=>?_) (λh=>?_)))))))))
   ·replace a:=ip a h;refine AB rfl (AA rfl rfl (JF rfl rfl (CG rfl rfl rfl (CY rfl rfl (h_z ?_)))));obtain rfl:=sm a;exact Bb ()
   replace a:=im a h;refine AB rfl (AA rfl rfl (JF rfl rfl (CG rfl rfl rfl (CY rfl rfl (h_z ?_)))));obtain rfl:=sm a;exact Bb ()
  replace a:=im a g;refine AB rfl (AA rfl rfl (BK rfl (AN rfl rfl rfl (AN rfl rfl rfl (AN rfl rfl rfl (AN rfl rfl rfl (AN rfl rfl rfl (AN rfl rfl rfl (AN rfl rfl rfl (AN rfl rfl rfl (AN rfl rfl rfl (AN rfl rfl rfl (AN rfl rfl rfl (AB rfl ?_))))))))))))));refine AA rfl rfl (Nk rfl rfl (CG rfl rfl rfl (CY rfl rfl (h_z ?_))));obtain rfl:=sm a;exact Bb ()
 intro e _ _ _ _ hm;intros;refine BP ?_;refine AD ?_;obtain rfl:=sm hm;exact Ca
end
noncomputable def Cf(a:List Itm)(b:Int)(c:Int):Option (List Itm) :=
  bnd (atI a c) λe=>bnd (atI a b) λd=>bnd (atI a b) λf=>bnd (atI (a.set (b:Int).toNat e) c) λg=>some ((a.set (b:Int).toNat e).set (c:Int).toNat d)
theorem GR{w:World}{O:Lab}{k:Option Addr}{e l f:Nat}{m:List Itm}(g:Rw f w O 102 (.slice k e l) m){n:Int}(u:W1 n){o:Int}(y:W1 o){r:(List Itm)}(hm:Cf m n o=some r) :
    Fn prog 221 [(.slice k e l),(.int .i64 n),(.int .i64 o)] w λv w'=>∃h,St (eT f) w O w' h/\Rw f w' h 102 (.slice k e l) r:=by
 obtain⟨p,hE,u0,v0⟩:=Y3 (w:=w) (O:=O) g.2.2;obtain rfl:e=m.length:=g.len.1;have b:=Rw.leave g u0 v0 (j:=2) (by decide);have s:Bm w p w p:=Bm.refl;refine AG func221 rfl ntmps221 ?_;unfold Cf at hm;refine Ck [(13,[2])] p ?_;refine Bl (fuel:=5) [] (Ci [0,1,4,5,6,7,8,9,10,11,12]) rfl (AM rfl rfl (AM rfl rfl (AM rfl rfl (AM rfl rfl ?_))));obtain⟨c,e5,hm⟩:=bs hm;obtain⟨z,x6⟩:=Cn e5;obtain⟨F,o9,w0,f0,g0,h0,j0,rfl,y0,z0,a1⟩:=b.elemF x6;refine CX (hA:=f0) (hj:=z) (hlt:=h0) rfl rfl rfl (ID (hl:=rfl) (hb:=SU g0 j0) rfl rfl (AM rfl rfl (AM rfl rfl ?_)));obtain⟨d,b1,hm⟩:=bs hm;obtain⟨A,d1⟩:=Cn b1;obtain⟨G,u1,e1,k0,l0,n0,o0,rfl,f1,g1,h1⟩:=b.elemF d1;refine CX (hA:=k0) (hj:=A) (hlt:=n0) rfl rfl rfl (ID (hl:=rfl) (hb:=SU l0 o0) rfl rfl ?_);obtain⟨H,i1,hm⟩:=bs hm;obtain⟨B,r0⟩:=Cn i1;obtain⟨I,y1,k1,d0,l1,p0,m1,rfl,z1,a2,b2⟩:=b.elemF r0;refine CX (hA:=d0) (hj:=B) (hlt:=p0) rfl rfl rfl (AP ?_);refine Bl (fuel:=3) [2] (Ci [2,3]) rfl (AM rfl rfl (AM rfl rfl (AP (Bo (i:=13) rfl ?_))));refine Fe rfl b (a:=c) (Vb.ofAgg (cs:=[(.int .i64 c.cost),(.int .i64 c.order),(.int .i64 c.id)]) (x:=c) rfl ⟨rfl,y0,z0,a1⟩) d0 rfl rfl (AF r0) λJ t b=>?_;have C:=t.lst [2] (λ_ N=>by cases N;decide);refine CT [] C ?_;refine Bl (fuel:=1) [] [(14,true)] rfl ?_;obtain⟨K,n1,hm⟩:=bs hm;obtain⟨D,t0⟩:=Cn n1;obtain⟨L,f2,p1,e0,q1,q0,r1,rfl,g2,h2,i2⟩:=b.elemF t0;refine CX (hA:=e0) (hj:=D) (hlt:=q0) rfl rfl rfl (AP (Bo (i:=15) rfl ?_));refine Fe rfl b (a:=d) (Vb.ofAgg (cs:=[(.int .i64 d.cost),(.int .i64 d.order),(.int .i64 d.id)]) (x:=d) rfl ⟨rfl,f1,g1,h1⟩) e0 rfl rfl (AF t0) λM E b=>?_;refine Gn (Dv ?_);obtain rfl:=sm hm;replace s:=(s.st t).st E;obtain⟨h,hS',hz,hl⟩:=hE.leave (λq=>if q=2 then f else 0) rfl s;exact Zj rfl  ⟨h,hS',(Rw.leave b hz (hl 2 (by decide) (by decide)) g.2.2)⟩
noncomputable def FN(b:BxR 104 102 Itm)(c:An 102 Itm):Option (BxR 104 102 Itm) :=
  bnd (X6 24 b.l [c.x]) λa=>some (⟨a⟩:BxR 104 102 Itm)
theorem Lj{w:World}{O:Lab}{l f:Nat}{y:BxR 104 102 Itm}(m:Ob f w O (.pointer (some ⟨l,0,none⟩)) y){d:Value}{a:An 102 Itm}(n:Vb w (Fr 0 w O) d a){r:(BxR 104 102 Itm)}(hm:FN y a=some r) :
    Fn prog 220 [(.pointer (some ⟨l,0,none⟩)),d] w λv w'=>∃g,St (eT f) w O w' g/\Ob f w' g (.pointer (some ⟨l,0,none⟩)) r:=by
 obtain⟨o,hE,k0,s0⟩:=Y3 (w:=w) (O:=O) m.2;have b:=Ob.leave m k0 s0 (j:=2) (by decide);have p:Bm w o w o:=Bm.refl;replace n:=n.mono k0;obtain⟨F,rfl,h4⟩:=n.any;obtain⟨G,rfl,rfl,r6,r7,r8⟩:=h4;refine AG func220 rfl ntmps220 ?_;unfold FN at hm;refine Aj (Ae (Ar rfl (Qg rfl rfl (Ar rfl (AZ rfl rfl (AZ rfl rfl ?_))))));refine BL 3 o λH I J z e=>?_;refine AR e rfl rfl rfl (Bg) (allOne) λK A e=>?_;refine Au rfl (o_z (Aj (Ae (Ar rfl (o_z (Am rfl ?_))))));replace b:=(b.st z).st A;obtain⟨B,h1,q0,t0,c,d0⟩:=BxR.opn b 2 4 (by decide);obtain⟨L,j1,rfl⟩:=d0.form;refine Ck [(6,[4])] B ?_;refine Bl (fuel:=5) [] (Ci [1,2,3,4]) rfl (AM rfl rfl (En rfl rfl (Bz (hc:=CH c 0 rfl) rfl rfl ?_)));replace e:=e.st q0;refine ID (hl:=rfl) (hb:=Qs e) rfl rfl (AP ?_);refine Bl (fuel:=4) [4] [(0,true)] rfl (AM rfl rfl (AP (Bo (i:=5) rfl ?_)));refine CW 5 B (xs:=([a.x]:List Itm)) rfl rfl rfl ⟨(Vb.ofAgg (cs:=[(.int .i64 a.x.cost),(.int .i64 a.x.order),(.int .i64 a.x.id)]) (x:=a.x) rfl ⟨rfl,r6,r7,r8⟩),trivial⟩ λM N P h D=>?_;have s:=lZ h;refine CT [(6,[4])] s (Bo (i:=6) rfl ?_);obtain⟨E,t,hm⟩:=bs hm;obtain⟨t,w0,y0⟩:=Bw t;replace d0:=d0.st h;refine DH rfl d0 (D.rd) rfl rfl w0 y0 λQ R S T u k=>?_;rw[<- t]at k ⊢;have s:=u.lst [4] (λ_ W=>by cases W;decide);refine CT [] s ?_;refine Bl (fuel:=1) [] [(7,true)] rfl (En rfl rfl (AP (Bo (i:=8) rfl ?_)));replace c:=(c.st h).st u;refine AR c rfl rfl rfl (Bg) (allOne) λU C c=>?_;refine Gn (Dv ?_);replace k:=k.st C;obtain⟨V,z0,a1,b1,c1⟩:=BxR.shut (x:=(⟨E⟩:BxR 104 102 Itm)) (l0:=2) (by decide) c k;obtain rfl:=sm hm;replace p:=((((((p.st z).st A).st q0).st h).st u).st C).st z0;obtain⟨g,hS',hz,hl⟩:=hE.leave (λq=>if q=2 then f else 0) rfl p;exact Zj rfl  ⟨g,hS',(Ob.leave c1 hz (hl 2 (by decide) (by decide)) m.2)⟩
noncomputable def Gd(b:BxR 104 102 Itm):Option ((An 102 Itm)×(BxR 104 102 Itm)) :=
  bnd (W5 ((b.l.length:Int)-1)) λa=>bnd (atI b.l a) λc=>bnd (Zi b.l 0 a) λd=>some ((⟨c⟩:An 102 Itm),(⟨d⟩:BxR 104 102 Itm))
theorem LD{w:World}{O:Lab}{f d:Nat}{p:BxR 104 102 Itm}(g:Ob d w O (.pointer (some ⟨f,0,none⟩)) p){r:(An 102 Itm)×(BxR 104 102 Itm)}(hm:Gd p=some r) :
    Fn prog 219 [(.pointer (some ⟨f,0,none⟩))] w λv w'=>∃b,St (eT d) w O w' b/\Ob d w' b (.pointer (some ⟨f,0,none⟩)) r.2/\Vb w' (Fr 0 w' b) v r.1:=by
 obtain⟨s,hE,n0,o0⟩:=Y3 (w:=w) (O:=O) g.2;have h:=Ob.leave g n0 o0 (j:=2) (by decide);have k:Bm w s w s:=Bm.refl;refine AG func219 rfl ntmps219 ?_;unfold Gd at hm;refine Aj (Ae (Au rfl (o_z (Aj (Ae (Ar rfl (Cm rfl ?_)))))));obtain⟨t,v6,S3,g1,a,h7⟩:=BxR.opn h 2 3 (by decide);obtain⟨z,c9,rfl⟩:=h7.form;refine AL (hc:=Blk.cell (i:=0) (a.1) rfl) rfl (AO rfl ?_);have u:=Bj h7.len;have A:=rngNat u;obtain⟨B,m0,hm⟩:=bs hm;have C:=(Bh m0);refine Hi (he:=m0) rfl rfl (Au rfl (o_z (Aj (Ae (Ar rfl (Cm rfl (AL (hc:=Blk.cell (i:=0) (a.1) rfl) rfl (Ar rfl ?_))))))));obtain⟨e,r0,hm⟩:=bs hm;obtain⟨y,t0⟩:=Cn r0;obtain⟨D,l1,u0,d0,e0,f0,rfl,v0,w0,y0⟩:=h7.elem t0;refine BA (hA:=d0) (hj:=y) (hlt:=e0) rfl rfl (BE (hl:=rfl) (hc:=f0) rfl ?_);refine BL 4 t λE F G l c=>?_;refine AR c rfl rfl rfl (Bg) (allOne) λH m c=>?_;refine o_z (Aj (Ae (Ar rfl (Ar rfl (Cm rfl ?_)))));replace a:=(a.st l).st m;refine AL (hc:=Blk.cell (i:=0) (a.1) rfl) rfl (Ar rfl ?_);obtain⟨z0,a1,hm⟩:=bs hm;replace h7:=(h7.st l).st m;obtain⟨n,b1⟩:=Acc h7 a1;refine TK (hc:=b1) rfl rfl rfl (Cm rfl ?_);refine AR a rfl rfl rfl (Bg) (allOne) λI o a=>?_;refine o_z (Aj (Ae ?_));replace c:=c.st o;refine BE (hl:=rfl) (hc:=(c.1).cellsAt) rfl (Ki rfl (Au rfl (o_z (AD ?_))));replace n:=n.st o;obtain⟨J,c1,d1,e1,f1⟩:=BxR.shut (x:=(⟨z0⟩:BxR 104 102 Itm)) (l0:=2) (by decide) a n;obtain rfl:=sm hm;replace k:=((((k.st S3).st l).st m).st o).st c1;obtain⟨b,hS',hz,hl⟩:=hE.leave (λq=>if q=2 then d else 0) rfl k;exact X2 rfl (AC rfl) ⟨b,hS',(Ob.leave f1 hz (hl 2 (by decide) (by decide)) g.2),(Aaw (Vb.ofAgg (cs:=[(.int .i64 e.cost),(.int .i64 e.order),(.int .i64 e.id)]) (x:=e) rfl ⟨rfl,v0,w0,y0⟩))⟩
noncomputable def Ff(h:BxR 104 102 Itm)(i:Int):Option (BxR 104 102 Itm) :=
  bnd (lop (ρ:=(BxR 104 102 Itm)) (λ(b:Int×(BxR 104 102 Itm))=>bnd (W5 (b.1-1)) λc=>bnd (Zn c 2) λa=>bnd (if a=b.1 then(some true)else(bnd (Cz b.2.l b.1 a) λd=>if d=true then some false else some true):Option Bool) λe=>if e=true then(some (.brk (b.1,b.2)))else(bnd (Cf b.2.l a b.1) λf=>some (.next (a,(⟨f⟩:BxR 104 102 Itm))))) (i,h)) λres3=>fin res3 λ(g:Int×(BxR 104 102 Itm))=>some g.2
theorem LE{w:World}{O:Lab}{p0 i0:Nat}{x0:BxR 104 102 Itm}(h0:Ob i0 w O (.pointer (some ⟨p0,0,none⟩)) x0){x1:Int}(rx1:W1 x1){r:(BxR 104 102 Itm)}(hm:Ff x0 x1=some r) :
    Fn prog 62 [(.iface 100 (.pointer (some ⟨p0,0,none⟩))),(.int .i64 x1)] w λv w'=>∃O',St (eT i0) w O w' O'/\Ob i0 w' O' (.pointer (some ⟨p0,0,none⟩)) r:=by
 obtain⟨O0,hE,c1,d1⟩:=Y3 (w:=w) (O:=O) h0.2;have h0':=Ob.leave h0 c1 d1 (j:=2) (by decide);have hB:Bm w O0 w O0:=Bm.refl;refine AG func62 rfl ntmps62 ?_;unfold Ff at hm;obtain⟨m0,e1,hm⟩:=bs hm;refine Bc (aft m0 (λ(s5:Int×(BxR 104 102 Itm))(x6:Unit)=>[]) (λs5 x6 w'=>∃O':Lab,Bm w O0 w' O'/\Ob 2 w' O' (.pointer (some ⟨p0,0,none⟩)) s5.2/\W1 s5.1)) ?_ ?_
 ·refine BC (GB (σ:=Int×(BxR 104 102 Itm)) (X:=Unit) e1 (λ(s5:Int×(BxR 104 102 Itm))(x6:Unit)=>[(0,(.iface 100 (.pointer (some ⟨p0,0,none⟩)))),(1,(.int .i64 s5.1))]) _ (λs5 x6 w'=>∃O':Lab,Bm w O0 w' O'/\Ob 2 w' O' (.pointer (some ⟨p0,0,none⟩)) s5.2/\W1 s5.1) _ () ⟨O0,hB,h0',rx1⟩ D4 ?_);rintro s5 x6 w9 f1 ⟨g2,hB,d0,j0⟩ a0 n0 e0;refine BC (Aj (Ae (Ar rfl ?_)));obtain⟨h2,t0,a0⟩:=bs a0;have u0:=(Bh t0);refine Hi (he:=t0) rfl rfl ?_;obtain⟨g1,v0,a0⟩:=bs a0;have o0:=OR v0 u0;refine We (he:=v0) (hr:=u0) rfl rfl rfl (Au rfl (o_z (Aj (Aj ?_))));obtain⟨h1,b0,a0⟩:=bs a0;refine Bc (λl' w'=>∃(i1:Unit) (O':Lab),W4 l' [(0,(.iface 100 (.pointer (some ⟨p0,0,none⟩)))),(1,(.int .i64 s5.1)),(4,(.int .i64 g1)),(17,(.bool h1))]/\Bm w O0 w' O'/\Ob 2 w' O' (.pointer (some ⟨p0,0,none⟩)) s5.2) ?_ ?_
  ·refine Ae (Ar rfl (Ar rfl (EH rfl rfl (λq0=>?_) λq0=>?_)))
   ·replace b0:=ip b0 q0;refine Ar rfl (Ay rfl rfl (Ay rfl rfl (Ay rfl rfl (Ay rfl rfl (Ay rfl rfl (AV rfl rfl (o_z ?_)))))));obtain rfl:=sm b0;exact⟨(),_,A1,hB,d0⟩
   replace b0:=im b0 q0;refine Ar rfl (Az rfl rfl (Ar rfl (Az rfl rfl (Ar rfl (Az rfl rfl (Ar rfl (Az rfl rfl ?_)))))));obtain⟨j1,i2,w0,k1,f0,c0⟩:=BxR.opn d0 2 3 (by decide);obtain⟨j2,k2,rfl⟩:=c0.form;obtain⟨y0,l1,b0⟩:=bs b0;refine Hz (O:=j1) (A:=All w9) (R:=λw' F v=>Vb w' F v y0) (GQ (λ_ h=>h) (c0).all j0 o0 l1) (EQ (Blk.cell (i:=0) f0.1 rfl)) rfl rfl λl2 m2 n2 g0 m1=>?_;obtain rfl:=m1.bool;cases y0
   case false =>
    replace b0:=iF b0;refine Az rfl rfl (Cx rfl (AS rfl rfl (o_z ?_)));replace f0:=f0.st g0;replace c0:=c0.st g0;obtain⟨o2,n1,o1,p1,q1⟩:=BxR.shut (x:=s5.2) (l0:=2) (by decide) f0 c0;obtain rfl:=sm b0;exact⟨(),_,A1,((hB.st w0).st g0).st n1,q1⟩
   replace b0:=iT b0;refine Az rfl rfl (Cw rfl (AS rfl rfl (o_z ?_)));replace f0:=f0.st g0;replace c0:=c0.st g0;obtain⟨p2,r1,s1,t1,u1⟩:=BxR.shut (x:=s5.2) (l0:=2) (by decide) f0 c0;obtain rfl:=sm b0;exact⟨(),_,A1,((hB.st w0).st g0).st r1,u1⟩
  rintro q2 r2 ⟨i1,s2,r0,hB,d0⟩;refine AQ _ r0 ?_;refine Bx rfl (λs0=>?_) (λs0=>?_)
  ·replace a0:=ip a0 s0;refine Cl ?_;obtain rfl:=sm a0;exact show Exists _ from⟨_,(),e0 _ rfl,trivial,_,hB,d0,j0⟩
  replace a0:=im' a0 s0;refine AE (Aj (Ae (Ar rfl (Ar rfl (Ar rfl ?_)))));obtain⟨v1,t2,w1,y1,k0,z0⟩:=BxR.opn d0 2 3 (by decide);obtain⟨u2,v2,rfl⟩:=z0.form;obtain⟨z1,a2,a0⟩:=bs a0;refine Hy (O:=v1) (GR z0 o0 j0 a2) (EQ (Blk.cell (i:=0) k0.1 rfl)) rfl rfl λw2 x2 y2 a1 b1=>?_;refine o_z (Ae (Ar rfl (Au rfl (o_z ?_))));replace k0:=k0.st a1;obtain⟨z2,b2,c2,d2,e2⟩:=BxR.shut (x:=(⟨z1⟩:BxR 104 102 Itm)) (l0:=2) (by decide) (by have q:=k0;rw[<- b1.len.1.symm]at q;exact q) b1.relen;obtain rfl:=sm a0;exact show Exists _ from⟨_,(),rfl,D4,_,((hB.st w1).st a1).st b2,e2,o0⟩
 rintro a3 b3 ⟨c3,d3,rfl,f2,e3,hB,d0,j0⟩;replace hm:=AW hm;obtain rfl:=sm hm;obtain⟨O',hS',hz,hl⟩:=hE.leave (λq=>if q=2 then i0 else 0) rfl hB;exact Zj rfl  ⟨O',hS',(Ob.leave d0 hz (hl 2 (by decide) (by decide)) h0.2)⟩
noncomputable def Ez(q:BxR 104 102 Itm)(o:Int)(p:Int):Option (Bool×(BxR 104 102 Itm)) :=
  bnd (lop (ρ:=Bool×(BxR 104 102 Itm)) (λ(b:Int×(BxR 104 102 Itm))=>bnd (W5 (2*b.1)) λi=>bnd (W5 (i+1)) λa=>bnd (if p<=a then(some true)else(if a<0 then(some true)else(some false)):Option Bool) λj=>if j=true then(some (.brk (b.1,b.2)))else(bnd (bnd (W5 (a+1)) λd=>bnd (if d<p then(bnd (Cz b.2.l d a) λk=>if k=true then some true else some false)else(some false):Option Bool) λm=>if m=true then(some d)else(some a):Option Int) λe=>bnd (Cz b.2.l e b.1) λn=>if n=true then bnd (Cf b.2.l b.1 e) λf=>some (.next (e,(⟨f⟩:BxR 104 102 Itm)))else some (.brk (b.1,b.2)))) (o,q)) λg=>fin g λ(c:Int×(BxR 104 102 Itm))=>bnd (if o<c.1 then(some true)else(some false):Option Bool) λh=>some (h,c.2)
theorem KS{w:World}{O:Lab}{p0 i0:Nat}{x0:BxR 104 102 Itm}(r0:Ob i0 w O (.pointer (some ⟨p0,0,none⟩)) x0){x1:Int}(rx1:W1 x1){x2:Int}(rx2:W1 x2){r:Bool×(BxR 104 102 Itm)}(hm:Ez x0 x1 x2=some r) :
    Fn prog 54 [(.iface 100 (.pointer (some ⟨p0,0,none⟩))),(.int .i64 x1),(.int .i64 x2)] w λv w'=>∃O',St (eT i0) w O w' O'/\Ob i0 w' O' (.pointer (some ⟨p0,0,none⟩)) r.2/\Vb w' (Fr 0 w' O') v r.1:=by
 obtain⟨O0,hE,l2,m2⟩:=Y3 (w:=w) (O:=O) r0.2;have r0':=Ob.leave r0 l2 m2 (j:=2) (by decide);have hB:Bm w O0 w O0:=Bm.refl;refine AG func54 rfl ntmps54 ?_;unfold Ez at hm;refine Aj (Ae (Au rfl (o_z (Aj (Ae (Ar rfl (Au rfl (o_z (Aj ?_)))))))));obtain⟨z0,n2,hm⟩:=bs hm;refine Bc (aft z0 (λ(s6:Int×(BxR 104 102 Itm))(x7:Unit)=>[(1,(.int .i64 x1)),(7,(.int .i64 s6.1))]) (λs6 x7 w'=>∃O':Lab,Bm w O0 w' O'/\Ob 2 w' O' (.pointer (some ⟨p0,0,none⟩)) s6.2/\W1 s6.1)) ?_ ?_
 ·refine BC (GB (σ:=Int×(BxR 104 102 Itm)) (X:=Unit) n2 (λ(s6:Int×(BxR 104 102 Itm))(x7:Unit)=>[(0,(.iface 100 (.pointer (some ⟨p0,0,none⟩)))),(1,(.int .i64 x1)),(2,(.int .i64 x2)),(7,(.int .i64 s6.1))]) _ (λs6 x7 w'=>∃O':Lab,Bm w O0 w' O'/\Ob 2 w' O' (.pointer (some ⟨p0,0,none⟩)) s6.2/\W1 s6.1) _ () ⟨O0,hB,r0',rx1⟩ A1 ?_);rintro s6 x7 a4 o2 ⟨b4,hB,g0,s0⟩ a0 a1 h0;refine BC (Aj (Ae (Ar rfl ?_)));obtain⟨c4,v1,a0⟩:=bs a0;have d4:=(Bh v1);refine Mv (he:=v1) rfl rfl rfl ?_;obtain⟨w1,y1,a0⟩:=bs a0;have z1:=(Bh y1);refine DM (he:=y1) rfl rfl (Au rfl (o_z (Aj (Aj ?_))));obtain⟨p2,c0,a0⟩:=bs a0;refine Bc (λl' w'=>∃(q2:Unit) (O':Lab),W4 l' [(0,(.iface 100 (.pointer (some ⟨p0,0,none⟩)))),(1,(.int .i64 x1)),(2,(.int .i64 x2)),(7,(.int .i64 s6.1)),(8,(.int .i64 w1)),(21,(.bool p2))]/\Bm w O0 w' O'/\Ob 2 w' O' (.pointer (some ⟨p0,0,none⟩)) s6.2) ?_ ?_
  ·refine Ae (Ar rfl (Ar rfl (Es rfl rfl (λb1=>?_) λb1=>?_)))
   ·replace c0:=ip c0 b1;refine Ar rfl (Ay rfl rfl (Ay rfl rfl (AV rfl rfl (o_z ?_))));obtain rfl:=sm c0;exact⟨(),_,Af,hB,g0⟩
   replace c0:=im c0 b1;refine Ar rfl (Az rfl rfl (Ar rfl (Az rfl rfl (Cp rfl rfl (λc1=>?_) λc1=>?_))))
   ·replace c0:=ip c0 c1;refine AS rfl rfl (o_z ?_);obtain rfl:=sm c0;exact⟨(),_,Af,hB,g0⟩
   replace c0:=im c0 c1;refine AS rfl rfl (o_z ?_);obtain rfl:=sm c0;exact⟨(),_,Af,hB,g0⟩
  rintro e4 r2 ⟨q2,f4,d1,hB,g0⟩;refine AQ _ d1 ?_;refine Bx rfl (λe1=>?_) (λe1=>?_)
  ·replace a0:=ip a0 e1;refine Cl ?_;obtain rfl:=sm a0;exact show Exists _ from⟨_,(),h0 _ rfl,D4,_,hB,g0,s0⟩
  replace a0:=im' a0 e1;refine AE (Aj (Ae (Ar rfl (Au rfl (o_z (Aj ?_))))));obtain⟨a2,d0,a0⟩:=bs a0;refine Bc (λl' w'=>∃(s2:Unit) (O':Lab),W4 l' [(0,(.iface 100 (.pointer (some ⟨p0,0,none⟩)))),(1,(.int .i64 x1)),(2,(.int .i64 x2)),(7,(.int .i64 s6.1)),(9,(.int .i64 a2))]/\Bm w O0 w' O'/\Ob 2 w' O' (.pointer (some ⟨p0,0,none⟩)) s6.2/\W1 a2) ?_ ?_
  ·refine Aj (Ae (Ar rfl ?_));obtain⟨t2,b2,d0⟩:=bs d0;have c2:=(Bh b2);refine DM (he:=b2) rfl rfl (Au rfl (o_z (Aj ?_)));obtain⟨u2,b0,d0⟩:=bs d0;refine Bc (λl' w'=>∃(v2:Unit) (O':Lab),W4 l' [(0,(.iface 100 (.pointer (some ⟨p0,0,none⟩)))),(1,(.int .i64 x1)),(2,(.int .i64 x2)),(7,(.int .i64 s6.1)),(9,(.int .i64 w1)),(10,(.int .i64 t2)),(33,(.bool u2))]/\Bm w O0 w' O'/\Ob 2 w' O' (.pointer (some ⟨p0,0,none⟩)) s6.2) ?_ ?_
   ·refine Ae (Ar rfl (Ar rfl (Cp rfl rfl (λf1=>?_) λf1=>?_)))
    ·replace b0:=ip b0 f1;refine Ar rfl (Az rfl rfl (Ar rfl (Az rfl rfl (Ar rfl (Az rfl rfl (Ar rfl (Az rfl rfl ?_)))))));obtain⟨w2,g4,d2,y2,n0,k0⟩:=BxR.opn g0 2 3 (by decide);obtain⟨h4,i4,rfl⟩:=k0.form;obtain⟨e2,z2,b0⟩:=bs b0;refine Hz (O:=w2) (A:=All r2) (R:=λw' F v=>Vb w' F v e2) (GQ (λ_ h=>h) (k0).all c2 z1 z2) (EQ (Blk.cell (i:=0) n0.1 rfl)) rfl rfl λj4 k4 l4 q0 y0=>?_;obtain rfl:=y0.bool;cases e2
     case false =>
      replace b0:=iF b0;refine AV rfl rfl (o_z ?_);replace n0:=n0.st q0;replace k0:=k0.st q0;obtain⟨m4,a3,b3,c3,d3⟩:=BxR.shut (x:=s6.2) (l0:=2) (by decide) n0 k0;obtain rfl:=sm b0;exact⟨(),_,D2,((hB.st d2).st q0).st a3,d3⟩
     replace b0:=iT b0;refine AV rfl rfl (o_z ?_);replace n0:=n0.st q0;replace k0:=k0.st q0;obtain⟨n4,e3,f3,g3,h3⟩:=BxR.shut (x:=s6.2) (l0:=2) (by decide) n0 k0;obtain rfl:=sm b0;exact⟨(),_,D2,((hB.st d2).st q0).st e3,h3⟩
    replace b0:=im b0 f1;refine Ar rfl (Ay rfl rfl (Ay rfl rfl (Ay rfl rfl (Ay rfl rfl (AS rfl rfl (o_z ?_))))));obtain rfl:=sm b0;exact⟨(),_,D2,hB,g0⟩
   rintro o4 p4 ⟨v2,q4,g1,hB,y0⟩;refine AQ _ g1 ?_;refine Bx rfl (λh1=>?_) (λh1=>?_)
   ·replace d0:=ip d0 h1;refine Ae (Ar rfl (Au rfl (o_z ?_)));obtain rfl:=sm d0;exact⟨(),_,Ad,hB,y0,c2⟩
   replace d0:=im' d0 h1;refine AE ?_;obtain rfl:=sm d0;exact⟨(),_,Ad,hB,y0,z1⟩
  rintro r4 i3 ⟨s2,s4,i1,hB,j3,j1⟩;refine AQ _ i1 ?_;refine Aj (Aj (Ae (Ar rfl (Ar rfl (Ar rfl ?_)))));obtain⟨k3,t4,f2,l3,j0,m0⟩:=BxR.opn j3 2 3 (by decide);obtain⟨u4,v4,rfl⟩:=m0.form;obtain⟨g2,m3,a0⟩:=bs a0;refine Hz (O:=k3) (A:=All i3) (R:=λw' F v=>Vb w' F v g2) (GQ (λ_ h=>h) (m0).all j1 s0 m3) (EQ (Blk.cell (i:=0) j0.1 rfl)) rfl rfl λn3 w4 k1 f0 l1=>?_;obtain rfl:=l1.bool;cases g2
  case false =>
   replace a0:=iF a0;refine Cx rfl (o_z (Am rfl (Cl ?_)));replace j0:=j0.st f0;replace m0:=m0.st f0;obtain⟨o3,m1,h2,i2,n1⟩:=BxR.shut (x:=s6.2) (l0:=2) (by decide) j0 m0;obtain rfl:=sm a0;exact show Exists _ from⟨_,(),h0 _ rfl,D4,_,((hB.st f2).st f0).st m1,n1,s0⟩
  replace a0:=iT a0;refine Cw rfl (o_z (Ah rfl (AE (Aj (Ae (Ar rfl (Ar rfl (Ar rfl ?_))))))));obtain⟨o1,p1,a0⟩:=bs a0;replace j0:=j0.st f0;replace m0:=m0.st f0;refine Hy (O:=k1) (GR m0 s0 j1 p1) (EQ (Blk.cell (i:=0) j0.1 rfl)) rfl rfl λp3 q3 r3 t0 u0=>?_;refine o_z (Ae (Ar rfl (Au rfl (o_z ?_))));replace j0:=j0.st t0;obtain⟨s3,q1,j2,k2,r1⟩:=BxR.shut (x:=(⟨o1⟩:BxR 104 102 Itm)) (l0:=2) (by decide) (by have q:=j0;rw[<- u0.len.1.symm]at q;exact q) u0.relen;obtain rfl:=sm a0;exact show Exists _ from⟨_,(),rfl,A1,_,(((hB.st f2).st f0).st t0).st q1,r1,j1⟩
 rintro t3 u3 ⟨s1,v3,rfl,v0,w3,hB,g0,s0⟩;replace hm:=AW hm;refine AQ _ v0 ?_;refine Aj ?_;obtain⟨t1,e0,hm⟩:=bs hm;refine Bc (λl' w'=>∃(u1:Unit) (O':Lab),W4 l' [(6,(.bool t1))]/\Bm w O0 w' O'/\Ob 2 w' O' (.pointer (some ⟨p0,0,none⟩)) s1.2) ?_ ?_
 ·refine Ae (Ar rfl (Ar rfl (Cq rfl rfl (λo0=>?_) λo0=>?_)))
  ·replace e0:=ip e0 o0;refine Au rfl (o_z ?_);obtain rfl:=sm e0;exact⟨(),_,B3,hB,g0⟩
  replace e0:=im e0 o0;refine Au rfl (o_z ?_);obtain rfl:=sm e0;exact⟨(),_,B3,hB,g0⟩
 rintro x3 y3 ⟨u1,z3,w0,hB,g0⟩;refine AQ _ w0 ?_;refine AD ?_;obtain rfl:=sm hm;obtain⟨O',hS',hz,hl⟩:=hE.leave (λq=>if q=2 then i0 else 0) rfl hB;exact X2 rfl (AC rfl) ⟨O',hS',(Ob.leave g0 hz (hl 2 (by decide) (by decide)) r0.2),vBool⟩
noncomputable def DQ(e:BxR 104 102 Itm)(f:An 102 Itm):Option (BxR 104 102 Itm) :=
  bnd (FN e (⟨f.x⟩:An 102 Itm)) λd=>bnd (Co d.l) λa=>bnd (W5 (a-1)) λb=>bnd (Ff d b) λc=>some c
theorem KT{w:World}{O:Lab}{e c:Nat}{n:BxR 104 102 Itm}(f:Ob c w O (.pointer (some ⟨e,0,none⟩)) n){b:Value}{a:An 102 Itm}(g:Vb w (Fr 0 w O) b a){r:(BxR 104 102 Itm)}(hm:DQ n a=some r) :
    Fn prog 30 [(.iface 100 (.pointer (some ⟨e,0,none⟩))),b] w λv w'=>∃d,St (eT c) w O w' d/\Ob c w' d (.pointer (some ⟨e,0,none⟩)) r:=by
 obtain⟨h,hE,f0,h0⟩:=Y3 (w:=w) (O:=O) f.2;have k:=Ob.leave f f0 h0 (j:=2) (by decide);have l:Bm w h w h:=Bm.refl;replace g:=g.mono f0;obtain⟨G,rfl,h4⟩:=g.any;obtain⟨H,rfl,rfl,r6,r7,r8⟩:=h4;refine AG func30 rfl ntmps30 ?_;unfold DQ at hm;refine Aj (Ae (Ar rfl (Ar rfl ?_)));obtain⟨o,j0,hm⟩:=bs hm;refine Hy (O:=h) (Lj k (Aaw (Vb.ofAgg (cs:=[(.int .i64 a.x.cost),(.int .i64 a.x.order),(.int .i64 a.x.id)]) (x:=a.x) rfl ⟨rfl,r6,r7,r8⟩)) j0) Mw rfl rfl λI p J s t=>?_;refine o_z (Ae (Ar rfl (Ar rfl ?_)));obtain⟨u,i1,q0,r0,c0,b0⟩:=BxR.opn t 2 3 (by decide);obtain⟨K,k1,rfl⟩:=b0.form;obtain⟨y,t0,hm⟩:=bs hm;refine Hz (O:=u) (A:=All p) (R:=λw' F v=>Vb w' F v y) (Ha (λ_ V=>V) (b0).all t0) (EQ (Blk.cell (i:=0) c0.1 rfl)) rfl rfl λL M N m z=>?_;obtain⟨rfl,o1⟩:=z.int;obtain⟨P,g0,hm⟩:=bs hm;have B:=(Bh g0);refine Hi (he:=g0) rfl rfl ?_;replace c0:=c0.st m;replace b0:=b0.st m;obtain⟨C,y0,z0,a1,b1⟩:=BxR.shut (x:=o) (l0:=2) (by decide) c0 b0;obtain⟨Q,c1,hm⟩:=bs hm;refine BM (O:=C) (LE b1 B c1) rfl λS T U D E=>?_;refine o_z ?_;obtain rfl:=sm hm;replace l:=((((l.st s).st q0).st m).st y0).st D;obtain⟨d,hS',hz,hl⟩:=hE.leave (λq=>if q=2 then c else 0) rfl l;exact Zj rfl  ⟨d,hS',(Ob.leave E hz (hl 2 (by decide) (by decide)) f.2)⟩
noncomputable def Ed(f:BxR 104 102 Itm):Option ((An 102 Itm)×(BxR 104 102 Itm)) :=
  bnd (Co f.l) λc=>bnd (W5 (c-1)) λa=>bnd (Cf f.l 0 a) λd=>bnd (Ez (⟨d⟩:BxR 104 102 Itm) 0 a) λe=>bnd (Gd e.2) λb=>some ((⟨b.1.x⟩:An 102 Itm),b.2)
theorem Lk{w:World}{O:Lab}{d b:Nat}{k:BxR 104 102 Itm}(e:Ob b w O (.pointer (some ⟨d,0,none⟩)) k){r:(An 102 Itm)×(BxR 104 102 Itm)}(hm:Ed k=some r) :
    Fn prog 26 [(.iface 100 (.pointer (some ⟨d,0,none⟩)))] w λv w'=>∃a,St (eT b) w O w' a/\Ob b w' a (.pointer (some ⟨d,0,none⟩)) r.2/\Vb w' (Fr 0 w' a) v r.1:=by
 obtain⟨l,hE,h0,j0⟩:=Y3 (w:=w) (O:=O) e.2;have f:=Ob.leave e h0 j0 (j:=2) (by decide);have g:Bm w l w l:=Bm.refl;refine AG func26 rfl ntmps26 ?_;unfold Ed at hm;refine Aj (Ae (Au rfl (o_z (Aj (Ae (Ar rfl ?_))))));obtain⟨p,v6,S3,o1,h4,h7⟩:=BxR.opn f 2 3 (by decide);obtain⟨I,c9,rfl⟩:=h7.form;obtain⟨s,m0,hm⟩:=bs hm;refine Hz (O:=p) (A:=All w) (R:=λw' F v=>Vb w' F v s) (Ha (λ_ Z=>Z) (h7).all m0) (EQ (Blk.cell (i:=0) h4.1 rfl)) rfl rfl λJ K t h u=>?_;obtain⟨rfl,r1⟩:=u.int;obtain⟨L,d0,hm⟩:=bs hm;have m:=(Bh d0);refine Hi (he:=d0) rfl rfl (Au rfl (o_z (Aj (Ae (Ar rfl (Ar rfl ?_))))));obtain⟨y,r0,hm⟩:=bs hm;replace h4:=h4.st h;replace h7:=h7.st h;refine Hy (O:=t) (GR h7 (W3 0) m r0) (EQ (Blk.cell (i:=0) h4.1 rfl)) rfl rfl λM N P n o=>?_;refine o_z (Aj (Ae (Ar rfl (Ar rfl ?_))));replace h4:=h4.st n;obtain⟨z,t0,u0,v0,w0⟩:=BxR.shut (x:=(⟨y⟩:BxR 104 102 Itm)) (l0:=2) (by decide) (by have q:=h4;rw[<- o.len.1.symm]at q;exact q) o.relen;obtain⟨Q,y0,hm⟩:=bs hm;refine BM (O:=z) (KS w0 (W3 0) m y0) rfl λS T z0 B C=>?_;obtain⟨D,d1⟩:=C;obtain rfl:=d1.bool;refine o_z (Aj (Ae (Ar rfl ?_)));obtain⟨c,e1,hm⟩:=bs hm;refine Hy (O:=z0) (LD D e1) Mw rfl rfl λU V W E G=>?_;obtain⟨H,i1⟩:=G;obtain⟨X,rfl,j1⟩:=i1.any;obtain⟨Y,rfl,rfl,l1,m1,n1⟩:=j1;refine Au rfl (o_z (AD ?_));obtain rfl:=sm hm;replace g:=(((((g.st S3).st h).st n).st t0).st B).st E;obtain⟨a,hS',hz,hl⟩:=hE.leave (λq=>if q=2 then b else 0) rfl g;exact X2 rfl (AC rfl) ⟨a,hS',(Ob.leave H hz (hl 2 (by decide) (by decide)) e.2),(Aaw (Vb.ofAgg (cs:=[(.int .i64 c.1.x.cost),(.int .i64 c.1.x.order),(.int .i64 c.1.x.id)]) (x:=c.1.x) rfl ⟨rfl,l1,m1,n1⟩))⟩
end
section
open Go Go.RowKit
theorem TR(a b:ByteArray):(a.toList==b.toList)=decide (a=b):=by
  rw[ByteArray.toList_eq,ByteArray.toList_eq];by_cases c:a=b
  . subst c;simp
  . rw[decide_eq_false c];have:a.data.toList≠b.data.toList:=λe=>c (by cases a;cases b;simp only[ByteArray.mk.injEq];exact N0.1 e);simpa using this
section
variable {P:Program}{l:Env}{w:World}{dst:Option Tmp}{ty:TypeId}{pos:String}{aft:Array Edge}
theorem YF{t u:TypeId}[g:TStr P t]{x y:Operand}{a b:ByteArray}(d:opv l x=some (.string a))(f:opv l y=some (.string b)):Ev P ⟨dst,.binOp .eql t x y u,ty,pos,aft,none⟩ l w (.bool (decide (a=b))):=λ_ _ e c=>by
  simp[execOp,c.eval d,c.eval f,eqGuard,binOp,Op.stringOp,TR]
end
section
variable {P:Program}{n:Nat}{ops:Array Oper}{Q:X0}{rest:List Oper}{l:Env}{w:World}{d:Tmp}{ty:TypeId}{pos:String}{aft:Array Edge}
theorem Qh{t u:TypeId}[TStr P t]{x y:Operand}{a b:ByteArray}(c:opv l x=some (.string a))(e:opv l y=some (.string b))(hd:Nat.blt d n=true)(f:a=b->owp P n ops Q rest ((d,.bool true)::l) w)(hf:¬(a=b)->owp P n ops Q rest ((d,.bool false)::l) w):owp P n ops Q (⟨some d,.binOp .eql t x y u,ty,pos,aft,none⟩::rest) l w:=FR (YF c e) hd f hf
variable {S:World → Prop}{r:List (Nat × Bool)}{i:Nat}
end
end
section
open Go Go.RowKit
attribute [local irreducible] ewp owp hwp hwq hws Ev Evg Fn W6 X7 X4 X1
attribute [local irreducible] hwx YW
def Bd(xs:List Fct):Option (List Fct):=if xs.length*16<=140737488355328/\xs.length<=9223372036854775807 then some xs else none
theorem Bt{w:World}{A:Nat->Prop}(hA:∀k,A k->k<w.heap.size){d:Value}{b:List Fct}(a:Vb w A d b){r:List Fct}(hm:Bd b=some r) :
    Fn prog 24 [d] w λv w'=>Ext w w'/\RowR w w' (upA A w w') 61 v r:=by
  obtain⟨⟨hl,a0⟩,rfl⟩:=FV hm;obtain⟨O,hB,b0⟩:=enter hA;replace a:=a.mono b0;obtain⟨h,c,rfl⟩:=a.form;refine AG func24 rfl ntmps24 ?_;cases h with
  |none =>
    have i:b=[]:=by
      cases b with
      |nil=>rfl
      |cons x xs=>obtain⟨_,_,_,u,_⟩:=a.elem (k:=0) (x:=x) rfl;cases u
    subst i;refine aw ?_<;>refine ad ?_;exact W8 rfl rfl ⟨V8 _ _,RowR.nil⟩
  |some m =>
    refine aw ?_<;>refine ab ?_;refine CW 2 O (xs:=([]:List Fct)) rfl rfl rfl trivial λg n o e j=>?_;replace hB:=hB.st e (λu=>u) (λu=>u);replace a:=a.st e (λu=>u);refine ac ?_;refine DH rfl j a.rd rfl rfl (by simpa using hl) (by simpa using a0) λp q s t l f=>?_;replace hB:=hB.st l (by decide) (by decide);rw[Q4]at f ⊢;refine ae ?_;refine ab ?_;exact W8 rfl rfl ⟨hB.ext,f.out hB (by decide)⟩
def Dr(xs:List Eff):Option (List Eff):=if xs.length*40<=140737488355328/\xs.length<=9223372036854775807 then some xs else none
theorem Fo{w:World}{A:Nat->Prop}(hA:∀k,A k->k<w.heap.size){d:Value}{b:List Eff}(a:Vb w A d b){r:List Eff}(hm:Dr b=some r) :
    Fn prog 46 [d] w λv w'=>Ext w w'/\RowR w w' (upA A w w') 59 v r:=by
  obtain⟨⟨hl,a0⟩,rfl⟩:=FV hm;obtain⟨O,hB,b0⟩:=enter hA;replace a:=a.mono b0;obtain⟨h,c,rfl⟩:=a.form;refine AG func46 rfl ntmps46 ?_;cases h with
  |none =>
    have i:b=[]:=by
      cases b with
      |nil=>rfl
      |cons x xs=>obtain⟨_,_,_,u,_⟩:=a.elem (k:=0) (x:=x) rfl;cases u
    subst i;refine aw ?_<;>refine ad ?_;exact W8 rfl rfl ⟨V8 _ _,RowR.nil⟩
  |some m =>
    refine aw ?_<;>refine ab ?_;refine CW 2 O (xs:=([]:List Eff)) rfl rfl rfl trivial λg n o e j=>?_;replace hB:=hB.st e (λu=>u) (λu=>u);replace a:=a.st e (λu=>u);refine ac ?_;refine DH rfl j a.rd rfl rfl (by simpa using hl) (by simpa using a0) λp q s t l f=>?_;replace hB:=hB.st l (by decide) (by decide);rw[Q4]at f ⊢;refine ae ?_;refine ab ?_;exact W8 rfl rfl ⟨hB.ext,f.out hB (by decide)⟩
noncomputable def Fg(h:List Eff):Option (List Eff) :=
  bnd (Zb (ρ:=(List Eff)) (λ(b:Nat)(c:(List Eff))=>bnd (c[b]?) λd=>bnd (Bd d.cond) λe=>bnd (c[b]?) λf=>some (.next (c.set b ({ f with cond:=e }:Eff)))) h.length h) λa=>fin a λ(g:(List Eff))=>some g
theorem LF{w:World}{O:Lab}{d:Option Addr}{g e k:Nat}{f:List Eff}(l:Rw k w O 59 (.slice d g e) f){r:(List Eff)}(hm:Fg f=some r) :
    Fn prog 48 [(.slice d g e)] w λv w'=>∃c,St (eT k) w O w' c/\Rw k w' c 59 (.slice d g e) r/\v=.slice d g e:=by
 obtain⟨m,hE,v0,w0⟩:=Y3 (w:=w) (O:=O) l.2.2;obtain rfl:g=f.length:=l.len.1;have h:=Rw.leave l v0 w0 (j:=2) (by decide);have i:Bm w m w m:=Bm.refl;refine AG func48 rfl ntmps48 ?_;unfold Fg at hm;refine Aj (Ae (Au rfl (o_z (Aj (Aj (Ae (Ar rfl (AO rfl ?_))))))));have n:=Bj h.len;have C:=rngNat n;refine Ar rfl (o_z ?_);obtain⟨D,z0,hm⟩:=bs hm;refine LO (X:=Unit) (f.length) z0 n (λo s=>[(0,(.slice d f.length e))]) (λo s w'=>∃c:Lab,Bm w m w' c/\Rw 2 w' c 59 (.slice d f.length e) o) () ⟨m,i,h⟩ B5 (λ_ _=>rfl) ?_ ?_
 ·rintro E o s F G x ⟨y,i,b⟩ a0 g0 h0;have z:=AaQ x n;refine Aj (Ae (Ar rfl (Au rfl (o_z (Ae (Ar rfl (Ar rfl (Ar rfl (Ar rfl ?_)))))))));obtain⟨H,c1,a0⟩:=bs a0;obtain⟨I,p1,d1,j0,k0,l0,q1,rfl,q0,r1,s1⟩:=b.elem c1;obtain⟨J,u1,rfl⟩:=q0.form;refine BA (hA:=j0) (hj:=rfl) (hlt:=k0) rfl rfl (AJ rfl (AL (hc:=cat0 l0) rfl ?_));obtain⟨A,f1,a0⟩:=bs a0;refine DF 3 (O:=y) (Bt Fr.lt q0 f1) rfl λK L M N t p=>?_;obtain⟨u,t0,a0⟩:=bs a0;replace b:=b.st t;obtain⟨P,a2,g1,e0,o0,h1,b2,rfl,i1,c2,d2⟩:=b.elem t0;obtain⟨Q,f2,rfl⟩:=i1.form;refine BA (hA:=e0) (hj:=rfl) (hlt:=o0) rfl rfl (AJ rfl ?_);obtain⟨R,u0,p⟩:=p.freeze;replace b:=b.st u0;refine LM (a:=u) (a':=({ u with cond:=A }:Eff)) (off:=0) b e0 t0 rfl rfl rfl (F5 rfl) (by first|exact allOne|simp[Value.cells,Value.oneCell',GO]) (by rintro S ⟨T,rfl,i2,j1,k1⟩;exact⟨_,rfl,p,j1,k1⟩) λU B b=>?_;refine o_z ?_;obtain rfl:=sm a0;exact show Exists _ from⟨_,(),rfl,B5,_,((i.st t).st u0).st B,b⟩
 rintro V W ⟨Y,n2,rfl,p0,o2,i,b⟩;replace hm:=AW hm;refine AQ _ p0 ?_;refine Aj (Ae (Ar rfl (Au rfl (o_z (AD ?_)))));obtain rfl:=sm hm;obtain⟨c,hS',hz,hl⟩:=hE.leave (λq=>if q=2 then k else 0) rfl i;exact X2 rfl (AC rfl) ⟨c,hS',(Rw.leave b hz (hl 2 (by decide) (by decide)) l.2.2),rfl⟩
end
section
open Go Go.RowKit
structure Raw(a:Bool)(n:Nat) where
  cs:List Value
  len:cs.length=n
  one:∀u∈cs,u.oneCell'=true
instance{a:Bool}{n:Nat}:Rp (Raw a n) where
  isAgg:=a
  size:=n
  R _ _ cs x:=cs=x.cs
  len:=by rintro _ _ cs x rfl;exact x.len
  one:=by rintro _ _ cs x rfl;exact x.one
  agree:=by rintro _ _ _ cs x rfl _;rfl
  mono:=by rintro _ _ _ cs x rfl _;rfl
class NestAt(α β:Type)[Rp α][Rp β] where
  q:Nat
  get:α->List β
  put:α->List β->α
  get_put:∀x y,get (put x y)=y
  put_put:∀x y z,put (put x y) z=put x z
  split:∀{w F cs x},Rp.R w F cs x->Rp.R w F (cs.set q (.slice none 0 0)) (put x [])/\∃v,cs[q]?=some v/\Vb w F v (get x)
  join:∀{w F cs x v},Rp.R w F (cs.set q (.slice none 0 0)) (put x [])->cs[q]?=some v->Vb w F v (get x)->Rp.R w F cs x
def Nest{α β:Type}[Rp α][Rp β][N:NestAt α β]{a:Bool}{n:Nat}(j:Nat)(w:World)(O:Lab)(e:TypeId)(rs:List (Raw a n))(xs:List α)(skip:Option Nat):Prop :=
  (∃L:Lab,rs.length=xs.length/\∀(k:Nat)(r:Raw a n)(x:α),rs[k]?=some r->xs[k]?=some x ->
    Rp.R w (Fr 0 w O) (r.cs.set N.q (.slice none 0 0)) (N.put x [])/\(skip≠some k->∃v,r.cs[N.q]?=some v/\RwM w (Fr 0 w O) (λb=>Fr j w O b/\L b=k) e v (N.get x)))/\j≠0
section
variable {α β:Type}[Rp α][Rp β][N:NestAt α β]{a:Bool}{n i j l:Nat}{T:Nat → Prop}{w w':World}{O O':Lab}{e:TypeId}{rs:List (Raw a n)}{xs:List α}{skip:Option Nat}
theorem Nest.st(h:Nest (β:=β) j w O e rs xs skip)(a:St T w O w' O')(c:¬T 0:=by decide)(hj:¬T j:=by decide):Nest (β:=β) j w' O' e rs xs skip:=by
  obtain⟨⟨L,hl,hr⟩,h1⟩:=h;refine⟨⟨L,hl,λk r x d f=>⟨Rp.mono (Rp.agree (hr k r x d f).1 (a.agree c)) (a.fr c),λg=>?_⟩⟩,h1⟩;obtain⟨v,hv,hm⟩:=(hr k r x d f).2 g;exact⟨v,hv,(hm.agree (a.agree c) λb hb=>a.agree hj b hb.1).mono (a.fr c) (λb hb=>⟨a.fr hj b hb.1,hb.2⟩) λb hf hm=>YY h1 b hf hm.1⟩
theorem Nest.nil(hj:j≠0):Nest (α:=α) (β:=β) (a:=a) (n:=n) j w O e [] [] none:=⟨⟨λ_=>0,rfl,λk r x b=>by simp at b⟩,hj⟩
theorem Nest.snoc(B:Nest (β:=β) j w O e rs xs none){r:Raw a n}{x:α}{v:Value}(hr:Rp.R w (Fr 0 w O) (r.cs.set N.q (.slice none 0 0)) (N.put x []))(t:r.cs[N.q]?=some v)(s:Rw l w O e v (N.get x))(i:l≠j) :
    ∃O',St (eT l) w O w O'/\Nest (β:=β) j w O' e (rs++[r]) (xs++[x]) none:=by
  obtain⟨⟨L,hl,hra⟩,hj⟩:=B;have d:l≠0:=s.2.2;have h:∀k,Fr 0 w O k->Fr 0 w (λk=>if O k=l then j else O k) k:=λk hk=>⟨hk.1,by show(if _ then _ else _)=_;rw[if_neg (by rw[hk.2];exact W0 d)];exact hk.2⟩;refine⟨λk=>if O k=l then j else O k,⟨rfl,rfl,rfl,V2 _,λk _ hk=>⟨rfl,if_neg hk⟩⟩,⟨λb=>if O b=l then rs.length else L b,by simp[hl],λk r' o c f=>?_⟩,hj⟩;rcases T9 k rs.length with hk|hk
  . rw[C4 hk]at c;rw[C4 (by omega)]at f;refine⟨Rp.mono (hra k r' o c f).1 h,λ_=>?_⟩;obtain⟨u,hv',hm⟩:=(hra k r' o c f).2 (by simp);refine⟨u,hv',hm.mono h (λb hb=>?_) λb hf hm=>YY hj b hf hm.1⟩;have g:O b≠l:=(by rw[hb.1.2];exact W0 i);exact⟨⟨hb.1.1,by show(if _ then _ else _)=_;rw[if_neg g];exact hb.1.2⟩,by show(if _ then _ else _)=_;rw[if_neg g];exact hb.2⟩
  . have p:=AF c;rw[K0,F9]at p;have:k=rs.length:=(by omega);subst this;rw[C0 (V2 _),Nat.sub_self]at c;rw[hl,C0 (V2 _),Nat.sub_self]at f;have y:r=r':=(by simpa using c);have z:x=o:=(by simpa using f);subst y z;refine⟨Rp.mono hr h,λ_=>⟨v,t,?_⟩⟩;have A:RwM w (Fr 0 w O) (Fr l w O) e v (N.get x):=s.m (λ_ B=>B) (λ_ B=>B) (YY d);exact A.mono h (λb hb=>⟨⟨hb.1,if_pos hb.2⟩,if_pos hb.2⟩) λb hf hm=>YY hj b hf hm.1
theorem Nest.take(t:Nest (β:=β) j w O e rs xs none){k:Nat}{r:Raw a n}{x:α}(hr:rs[k]?=some r)(m:xs[k]?=some x)(l:Nat)(hl:l≠0)(o:l≠j) :
    ∃O' v,St (eT j) w O w O'/\r.cs[N.q]?=some v/\Nest (β:=β) j w O' e rs xs (some k)/\Rw l w O' e v (N.get x):=by
  obtain⟨⟨L,hlen,hra⟩,hj⟩:=t;obtain⟨v,hv,hm⟩:=(hra k r x hr m).2 (by simp);have c:∀b,Fr 0 w O b->Fr 0 w (λb=>if O b=j/\L b=k then l else O b) b:=λb hb=>⟨hb.1,by show(if _ then _ else _)=_;rw[if_neg (by rw[hb.2];exact λt=>hj t.1.symm)];exact hb.2⟩;refine⟨λb=>if O b=j/\L b=k then l else O b,v,⟨rfl,rfl,rfl,V2 _,λb _ hb=>⟨rfl,if_neg λt=>hb t.1⟩⟩,hv,⟨⟨L,hlen,λf r' g h i=>⟨Rp.mono (hra f r' g h i).1 c,λp=>?_⟩⟩,hj⟩,hm.rw c (λb hb=>⟨hb.1.1,if_pos ⟨hb.1.2,hb.2⟩⟩) hl⟩;obtain⟨s,hv',hm'⟩:=(hra f r' g h i).2 (by simp);refine⟨s,hv',hm'.mono c (λb hb=>?_) λb hf hm=>YY hj b hf hm.1⟩;have d:¬(O b=j/\L b=k):=λt=>p (by rw[<- t.2,hb.2]);exact⟨⟨hb.1.1,by show(if _ then _ else _)=_;rw[if_neg d];exact hb.1.2⟩,hb.2⟩
theorem Nest.put{k:Nat}(E:Nest (β:=β) j w O e rs xs (some k)){r r':Raw a n}{x:α}{v:Value}{ys:List β}(hr:rs[k]?=some r)(u:xs[k]?=some x)(c:r'.cs=r.cs.set N.q v)(z:N.q<n)(y:Rw l w O e v ys)(p:l≠j) :
    ∃O',St (eT l) w O w O'/\Nest (β:=β) j w O' e (rs.set k r') (xs.set k (N.put x ys)) none:=by
  obtain⟨⟨L,hlen,hra⟩,hj⟩:=E;have d:l≠0:=y.2.2;have i:∀b,Fr 0 w O b->Fr 0 w (λb=>if O b=l then j else O b) b:=λb hb=>⟨hb.1,by show(if _ then _ else _)=_;rw[if_neg (by rw[hb.2];exact W0 d)];exact hb.2⟩;refine⟨λb=>if O b=l then j else O b,⟨rfl,rfl,rfl,V2 _,λb _ hb=>⟨rfl,if_neg hb⟩⟩,⟨λb=>if O b=l then k else L b,by simp[hlen],λo s t f g=>?_⟩,hj⟩;by_cases hk:o=k
  . subst hk;rw[E9 (AF hr)]at f;rw[E9 (AF u)]at g;have A:r'=s:=(by simpa using f);have B:N.put x ys=t:=(by simpa using g);subst A B;refine⟨?_,λ_=>⟨v,?_,?_⟩⟩
    . rw[c,List.set_set,N.put_put];exact Rp.mono (hra o r x hr u).1 i
    . rw[c,E9 (by rw[r.len];exact z)]
    . rw[N.get_put];have C:RwM w (Fr 0 w O) (Fr l w O) e v ys:=y.m (λ_ E=>E) (λ_ E=>E) (YY d);exact C.mono i (λb hb=>⟨⟨hb.1,if_pos hb.2⟩,if_pos hb.2⟩) λb hf hm=>YY hj b hf hm.1
  . rw[H7 (W0 hk)]at f g;refine⟨Rp.mono (hra o s t f g).1 i,λ_=>?_⟩;obtain⟨D,hv',hm⟩:=(hra o s t f g).2 (λE=>hk (Q1 E).symm);refine⟨D,hv',hm.mono i (λb hb=>?_) λb hf hm=>YY hj b hf hm.1⟩;have h:O b≠l:=(by rw[hb.1.2];exact W0 p);exact⟨⟨hb.1.1,by show(if _ then _ else _)=_;rw[if_neg h];exact hb.1.2⟩,by show(if _ then _ else _)=_;rw[if_neg h];exact hb.2⟩
theorem Nest.app{f:List (Raw a n)}{g:List α}(s:Nest (β:=β) j w O e rs xs none)(r:Nest (β:=β) l w O e f g none)(o:l≠j) :
    ∃O',St (eT l) w O w O'/\Nest (β:=β) j w O' e (rs++f) (xs++g) none:=by
  obtain⟨⟨L,hl,hra⟩,hj⟩:=s;obtain⟨⟨p,hl',hra'⟩,hl0⟩:=r;have i:∀k,Fr 0 w O k->Fr 0 w (λk=>if O k=l then j else O k) k:=λk hk=>⟨hk.1,by show(if O k=l then j else O k)=0;rw[if_neg (by rw[hk.2];exact W0 hl0)];exact hk.2⟩;refine⟨λk=>if O k=l then j else O k,⟨rfl,rfl,rfl,V2 _,λk _ hk=>⟨rfl,if_neg hk⟩⟩,⟨λb=>if O b=l then rs.length+p b else L b,by simp[hl,hl'],λk r' m d c=>?_⟩,hj⟩;rcases T9 k rs.length with hk|hk
  . rw[C4 hk]at d;rw[C4 (by omega)]at c;refine⟨Rp.mono (hra k r' m d c).1 i,λ_=>?_⟩;obtain⟨q,hv',hm⟩:=(hra k r' m d c).2 (by simp);refine⟨q,hv',hm.mono i (λb hb=>?_) λb hf hm=>YY hj b hf hm.1⟩;have h:O b≠l:=(by rw[hb.1.2];exact W0 o);refine⟨⟨hb.1.1,?_⟩,?_⟩
    . show(if O b=l then j else O b)=j;rw[if_neg h];exact hb.1.2
    . show(if O b=l then rs.length+p b else L b)=k;rw[if_neg h];exact hb.2
  . rw[C0 hk]at d;rw[C0 (by omega)]at c;rw[<- hl]at c;refine⟨Rp.mono (hra' _ r' m d c).1 i,λ_=>?_⟩;obtain⟨q,hv',hm⟩:=(hra' _ r' m d c).2 (by simp);refine⟨q,hv',hm.mono i (λb hb=>⟨⟨hb.1.1,if_pos hb.1.2⟩,?_⟩) λb hf hm=>YY hj b hf hm.1⟩;show(if O b=l then rs.length+p b else L b)=k;rw[if_pos hb.1.2,hb.2];omega
theorem Chunks.conv{a b:Type}[Rp a][Rp b]{F G:Nat->Prop}:∀{rs:List a}{xs:List b}{cells:List Value},rs.length=xs.length->(∀(k:Nat) r x cs,rs[k]?=some r->xs[k]?=some x->Rp.R w F cs r->Rp.R w G cs x)->Chunks w F cells rs->Chunks w G cells xs
  |[],[],_,_,_,h=>h
  |[],_::_,_,hl,_,_=>by simp at hl
  |_::_,[],_,hl,_,_=>by simp at hl
  |r::rs,x::xs,_,hl,hc,⟨cs,rest,he,hr,h⟩ =>
    ⟨cs,rest,he,hc 0 r x cs rfl rfl hr,Chunks.conv (by simpa using hl) (λk r x cs c d=>hc (k+1) r x cs (by simpa using c) (by simpa using d)) h⟩
theorem Nest.lend{e':TypeId}{v:Value}(a:Rw i w O e' v rs)(p:Nest (β:=β) j w O e rs xs none):Vb w (FrS [i,j] w O) v xs:=by
  obtain⟨⟨L,hl,hra⟩,hj⟩:=p;obtain⟨A,c,cells,h1,h2,h3,h4,h5⟩:=a.1.vb.slice;refine .of_slice ⟨A,c,cells,by rw[h1,hl],by omega,h3,?_,λm=>?_⟩
  . refine h4.conv hl λk r x cs f g h=>?_;have d:cs=r.cs:=h;subst d;obtain⟨l,q2⟩:=hra k r x f g;obtain⟨n,hv',hm⟩:=q2 (by simp);refine N.join (Rp.mono l λb hb=>⟨hb.1,.inl hb.2⟩) hv' (hm.1.vb.mono λb hb=>?_);rcases hb with hb|hb
    . exact⟨hb.1,.inl hb.2⟩
    . have:=(hm.2 b hb).1;exact⟨this.1,.inr (by rw[this.2];simp)⟩
  . obtain⟨b,o,h6,h7,h8⟩:=h5 (by omega);refine⟨b,o,h6,?_,h8⟩;rcases h7 with h7|h7
    . exact⟨h7.1,.inl h7.2⟩
    . exact⟨(a.1.lt b h7).2,.inr (by rw[a.2.1 b h7];simp)⟩
end
instance:NestAt Opr Eff where
  q:=3
  get o:=o.effs
  put o y:={ o with effs:=y }
  get_put _ _:=rfl
  put_put _ _ _:=rfl
  split:=by rintro w F cs x ⟨p,q,rfl,h,k,h2⟩;exact⟨⟨p,_,rfl,h,.nil _ _,h2⟩,q,rfl,k⟩
  join:=by
    rintro w F cs x v ⟨p,q,he,h,k,h2⟩ hv hx
    match cs,he,hv with
    |[a,b,c,d],he,hv =>
      simp only[List.set,List.cons.injEq,and_true]at he;obtain⟨rfl,rfl,rfl,-⟩:=he;obtain rfl:d=v:=(by simpa using hv);exact⟨_,_,rfl,h,hx,h2⟩
    |[],he,_=>simp at he
    |[_],he,_=>simp at he
    |[_,_],he,_=>simp at he
    |[_,_,_],he,_=>simp at he
    |_::_::_::_::_::_,he,_=>simp at he
def NR{α:Type}(β:Type)[Rp α][Rp β][N:NestAt α β](i:Nat)(w:World)(O:Lab)(e' e:TypeId)(v:Value)(xs:List α)(skip:Option Nat):Prop :=
  ∃(rs:List (Raw (Rp.isAgg α) (Rp.size α))) (L:Lab),Own w 0 (Fr 0 w O) e' v rs/\(∀g,v.ownBlock=some g->O g=i/\L g=0)/\i≠0/\rs.length=xs.length /\
    ∀(k:Nat)(r:Raw (Rp.isAgg α) (Rp.size α))(x:α),rs[k]?=some r->xs[k]?=some x ->
      Rp.R w (Fr 0 w O) (r.cs.set N.q (.slice none 0 0)) (N.put x [])/\(skip≠some k->∃u,r.cs[N.q]?=some u/\RwM w (Fr 0 w O) (λb=>Fr i w O b/\L b=k+1) e u (N.get x))
theorem AaM(O:Lab):∀n:Nat,∃b,∀k,k<n->O k<=b
  |0=>⟨0,λk h=>by omega⟩
  |n+1=>by
    obtain⟨b,hb⟩:=AaM O n;refine⟨max b (O n),λk hk=>?_⟩;rcases T9 k n with h|h
    . have:=hb k h;omega
    . have:k=n:=(by omega);subst this;omega
theorem Zm(O:Lab)(n a b:Nat):∃j,j≠0/\j≠a/\j≠b/\∀k,k<n->O k≠j:=by
  obtain⟨c,hc⟩:=AaM O n;exact⟨c+a+b+1,by omega,by omega,by omega,λk hk=>by have:=hc k hk;omega⟩
theorem St.via{T e T2 T3:Nat->Prop}{w w':World}{O f g h:Lab}{j:Nat}(c:St e w O w f)(a:St T2 w f w' g)(b:St T3 w' g w' h)(hj:∀k,k<w.heap.size->O k≠j)(i:∀q,e q->T q)(l:∀q,T2 q->T q\/q=j)(m:∀q,T3 q->T q\/q=j):St T w O w' h :=
  ⟨(b.os.trans a.os).trans c.os,(b.tape.trans a.tape).trans c.tape,(b.output.trans a.output).trans c.output,U8 a.size b.size,λk hk d=>by
    obtain⟨n,e2⟩:=c.same k hk λr=>d (i _ r);obtain⟨o,e4⟩:=a.same k hk (by rw[e2];exact λr=>(l _ r).elim d (hj k hk));obtain⟨p,e6⟩:=b.same k (K1 hk a.size) (by rw[e4,e2];exact λr=>(m _ r).elim d (hj k hk));exact⟨(p.trans o).trans n,(e6.trans e4).trans e2⟩⟩
section
variable {α β:Type}[Rp α][Rp β][N:NestAt α β]{i j l:Nat}{T:Nat → Prop}{w w':World}{O O':Lab}{e' e:TypeId}{v:Value}{xs:List α}{skip:Option Nat}
theorem NR.opn(o:NR β i w O e' e v xs skip)(j:Nat)(hj:j≠0)(m:j≠i):∃(rs:List (Raw (Rp.isAgg α) (Rp.size α))) (c:Lab),St (eT i) w O w c/\Rw i w c e' v rs/\Nest (β:=β) j w c e rs xs skip:=by
  obtain⟨rs,L,h1,h2,h3,h4,h5⟩:=o;have d:∀b,Fr 0 w O b->Fr 0 w (λb=>if O b=i/\L b≠0 then j else O b) b:=λb hb=>⟨hb.1,by show(if _ then _ else _)=_;rw[if_neg (by rw[hb.2];exact λo=>h3 o.1.symm)];exact hb.2⟩;refine⟨rs,λb=>if O b=i/\L b≠0 then j else O b,⟨rfl,rfl,rfl,V2 _,λb _ hb=>⟨rfl,if_neg λo=>hb o.1⟩⟩,⟨h1.mono d λg a hf=>?_,λg a=>?_,h3⟩,⟨λb=>L b-1,h4,λk r x f h=>⟨Rp.mono (h5 k r x f h).1 d,λn=>?_⟩⟩,hj⟩
  . have l:(if O g=i/\L g≠0 then j else O g)=0:=hf.2;rw[if_neg (λo=>o.2 (h2 g a).2),(h2 g a).1]at l;exact h3 l
  . show(if O g=i/\L g≠0 then j else O g)=i;rw[if_neg (λo=>o.2 (h2 g a).2)];exact(h2 g a).1
  . obtain⟨u,hu,hm⟩:=(h5 k r x f h).2 n;refine⟨u,hu,hm.mono d (λb hb=>⟨⟨hb.1.1,?_⟩,?_⟩) λb hf hm=>YY hj b hf hm.1⟩
    . show(if O b=i/\L b≠0 then j else O b)=j;rw[if_pos ⟨hb.1.2,by have:=hb.2;omega⟩]
    . show L b-1=k;have:=hb.2;omega
theorem NR.shut{rs:List (Raw (Rp.isAgg α) (Rp.size α))}(m:Rw i w O e' v rs)(n:Nest (β:=β) j w O e rs xs skip)(c:j≠i):∃f,St (eT j) w O w f/\NR β i w f e' e v xs skip:=by
  obtain⟨⟨L,h4,h5⟩,hj⟩:=n;obtain⟨o,h2,h3⟩:=m;have d:∀b,Fr 0 w O b->Fr 0 w (λb=>if O b=j then i else O b) b:=λb hb=>⟨hb.1,by show(if _ then _ else _)=_;rw[if_neg (by rw[hb.2];exact W0 hj)];exact hb.2⟩;have hi:∀g,v.ownBlock=some g->(if O g=j then i else O g)=i:=λg a=>by
    split
    . rfl
    . exact h2 g a
  refine⟨λb=>if O b=j then i else O b,⟨rfl,rfl,rfl,V2 _,λb _ hb=>⟨rfl,if_neg hb⟩⟩,rs,λb=>if O b=j then L b+1 else 0,o.mono d λg a hf=>h3 (((hi g a).symm.trans hf.2)),λg a=>⟨hi g a,?_⟩,h3,h4,λk r x h l=>⟨Rp.mono (h5 k r x h l).1 d,λp=>?_⟩⟩
  . show(if O g=j then L g+1 else 0)=0;rw[if_neg (by rw[h2 g a];exact W0 c)]
  . obtain⟨u,hu,hm⟩:=(h5 k r x h l).2 p;refine⟨u,hu,hm.mono d (λb hb=>⟨⟨hb.1.1,if_pos hb.1.2⟩,?_⟩) λb hf hm=>YY h3 b hf hm.1⟩;show(if O b=j then L b+1 else 0)=k+1;rw[if_pos hb.1.2,hb.2]
theorem NR.st(m:NR β i w O e' e v xs skip)(a:St T w O w' O')(c:¬T 0:=by decide)(hi:¬T i:=by decide):NR β i w' O' e' e v xs skip:=by
  obtain⟨rs,L,h1,h2,h3,h4,h5⟩:=m;have f:Rw i w' O' e' v rs:=Rw.st (O:=O) ⟨h1,λg d=>(h2 g d).1,h3⟩ a c hi;refine⟨rs,L,f.1,λg d=>⟨f.2.1 g d,(h2 g d).2⟩,h3,h4,λk r x h j=>⟨Rp.mono (Rp.agree (h5 k r x h j).1 (a.agree c)) (a.fr c),λl=>?_⟩⟩;obtain⟨u,hu,hm⟩:=(h5 k r x h j).2 l;exact⟨u,hu,(hm.agree (a.agree c) λb hb=>a.agree hi b hb.1).mono (a.fr c) (λb hb=>⟨a.fr hi b hb.1,hb.2⟩) λb hf hm=>YY h3 b hf hm.1⟩
theorem NR.nil(i:Nat)(hi:i≠0):NR (α:=α) β i w O e' e (.slice none 0 0) [] none :=
  ⟨[],λ_=>0,Own.nil _ _ _ _,λg a=>by simp[Value.ownBlock]at a,hi,rfl,λk r x a=>by simp at a⟩
theorem NR.len{A:Option Addr}{m c:Nat}(b:NR β i w O e' e (.slice A m c) xs skip):m=xs.length/\m<=c/\c<=9223372036854775807:=by
  obtain⟨rs,L,h1,h2,h3,h4,h5⟩:=b;have:=Rw.len (i:=i) (O:=O) ⟨h1,λg a=>(h2 g a).1,h3⟩;exact⟨this.1.trans h4,this.2⟩
theorem NR.lend(a:NR β i w O e' e v xs none):Vb w (FrS [i] w O) v xs:=by
  obtain⟨j,hj,hji,_,hf⟩:=Zm O w.heap.size i 0;obtain⟨rs,O1,hS,hR,hN⟩:=a.opn j hj hji;refine(Nest.lend hR hN).mono λk hk=>⟨hk.1,?_⟩;by_cases hi:O k=i
  . exact .inr (by rw[hi];simp)
  . have:=(hS.same k hk.1 hi).2;rcases hk.2 with h0|h0
    . exact .inl (this.symm.trans h0)
    . rw[this]at h0;rcases S0.1 h0 with h0|h0
      . exact(hi h0).elim
      . exact(hf k hk.1 (by simpa using h0)).elim
theorem NR.freeze(a:NR β i w O e' e v xs none):∃O',St (eT i) w O w O'/\Vb w (Fr 0 w O') v xs:=by
  refine⟨λk=>if O k=i then 0 else O k,⟨rfl,rfl,rfl,V2 _,λk _ hk=>⟨rfl,if_neg hk⟩⟩,a.lend.mono λk hk=>⟨hk.1,?_⟩⟩;show(if _ then _ else _)=_;rcases hk.2 with h0|h0
  . split
    . rfl
    . exact h0
  . rw[if_pos (by simpa using h0)]
theorem NR.at{A:Option Addr}{m c:Nat}(f:NR β i w O e' e (.slice A m c) xs skip){k:Nat}{x:α}(a:xs[k]?=some x):∃b o,A=some ⟨b,o,none⟩/\k<m:=by
  obtain⟨rs,L,h1,h2,h3,h4,h5⟩:=f;have hk:k<rs.length:=(by rw[h4];exact AF a);obtain⟨b,o,cs,h6,h7,_⟩:=Rw.elem (i:=i) (O:=O) ⟨h1,λg d=>(h2 g d).1,h3⟩ (D1 hk);exact⟨b,o,h6,h7⟩
theorem NR.peek{A:Option Addr}{m c b o:Nat}(p:NR β i w O e' e (.slice A m c) xs none)(hA:A=some ⟨b,o,none⟩){k:Nat}{x:α}(j:xs[k]?=some x) :
    ∃(d:Option Addr) (f:Nat),w.cell? ⟨b,o+k*Rp.size α+N.q,none⟩=some (.slice d (N.get x).length f)/\Vb w (FrS [i] w O) (.slice d (N.get x).length f) (N.get x):=by
  obtain⟨rs,L,h1,h2,h3,h4,h5⟩:=p;have hk:k<rs.length:=(by rw[h4];exact AF j);have hr:rs[k]?=some rs[k]:=D1 hk;obtain⟨n,o',cs,a,l,h8,h9⟩:=Rw.elem (i:=i) (O:=O) ⟨h1,λg hg=>(h2 g hg).1,h3⟩ hr;obtain⟨rfl,rfl⟩:b=n/\o=o':=(by rw[hA]at a;injection a with a;injection a with a l;exact⟨a,l⟩);have h:cs=rs[k].cs:=h9;subst h;obtain⟨u,hu,hm⟩:=(h5 k rs[k] x hr j).2 (by simp);obtain⟨d,f,_,rfl,_⟩:=hm.1.chunk;refine⟨d,f,DY h8 _ _ hu,hm.1.vb.mono λg hg=>?_⟩;rcases hg with hg|hg
  . exact⟨hg.1,.inl hg.2⟩
  . have:=(hm.2 g hg).1;exact⟨this.1,.inr (by rw[this.2];simp)⟩
theorem NR.stay{A:Option Addr}{m c b o p:Nat}{u:Value}(d:NR β i w O e' e (.slice A m c) xs skip)(hA:A=some ⟨b,o,none⟩)(a:St T w O w' O')(hi:¬T i)(hc:w.cell? ⟨b,p,none⟩=some u):w'.cell? ⟨b,p,none⟩=some u:=by
  obtain⟨rs,L,h1,h2,h3,h4,h5⟩:=d;subst hA;have:=a.same b (h1.lt b rfl).2 (by rw[(h2 b rfl).1];exact hi);rw[<- hc];unfold World.cell?
  rw[this.1]
theorem NR.take{A:Option Addr}{m c b o:Nat}(z:NR β i w O e' e (.slice A m c) xs none)(hA:A=some ⟨b,o,none⟩){k:Nat}{x:α}(p:xs[k]?=some x)(l:Nat)(hl:l≠0)(s:l≠i) :
    ∃(O':Lab) (f:Option Addr) (g:Nat),St (eT i) w O w O'/\w.cell? ⟨b,o+k*Rp.size α+N.q,none⟩=some (.slice f (N.get x).length g)/\NR β i w O' e' e (.slice A m c) xs (some k)/\Rw l w O' e (.slice f (N.get x).length g) (N.get x):=by
  obtain⟨j,hj,hji,hjl,hf⟩:=Zm O w.heap.size i l;obtain⟨rs,O1,hS,hR,hN⟩:=z.opn j hj hji;have d:rs.length=xs.length:=(by obtain⟨⟨_,z,_⟩,_⟩:=hN;exact z);have hk:k<rs.length:=(by rw[d];exact AF p);have hr:rs[k]?=some rs[k]:=D1 hk;obtain⟨y,u,hS2,hu,hN2,hw⟩:=hN.take hr p l hl (W0 hjl);obtain⟨f,g,rfl⟩:=hw.form;have h:=hR.st hS2 (λz=>hj z.symm) (W0 hji);obtain⟨t,hS3,h3⟩:=NR.shut h hN2 hji;obtain⟨v,o',cs,a,r,h4,h5⟩:=hR.elem hr;obtain⟨rfl,rfl⟩:b=v/\o=o':=(by rw[hA]at a;injection a with a;injection a with a r;exact⟨a,r⟩);have n:cs=rs[k].cs:=h5;subst n;exact⟨t,f,g,St.via (j:=j) hS hS2 hS3 hf (λ_ z=>z) (λ_ z=>.inr z) (λ_ z=>.inr z),DY h4 _ _ hu,h3,hw.st hS3 (λz=>hj z.symm) (W0 hjl)⟩
theorem NR.take'{A f:Option Addr}{m c b o g h:Nat}(s:NR β i w O e' e (.slice A m c) xs none)(hA:A=some ⟨b,o,none⟩){k:Nat}{x:α}(j:xs[k]?=some x)(hc:w.cell? ⟨b,o+k*Rp.size α+N.q,none⟩=some (.slice f g h))(l:Nat)(hl:l≠0)(d:l≠i) :
    ∃(O':Lab),St (eT i) w O w O'/\NR β i w O' e' e (.slice A m c) xs (some k)/\Rw l w O' e (.slice f g h) (N.get x):=by
  obtain⟨O',A2,c2,h1,a,h3,h4⟩:=s.take hA j l hl d;rw[hc]at a;injection a with a;injection a with n p r;subst n;subst p;subst r;exact⟨O',h1,h3,h4⟩
end
section
variable {P:Program}{n:Nat}{ops:Array Oper}{Q:X0}{rest:List Oper}{l:Env}{w:World}{d d1 d2:Tmp}{ty ty2:TypeId}{pos pos2:String}{aft aft2:Array Edge}
theorem TS{α β:Type}[Rp α][Rp β][N:NestAt α β]{i j:Nat}{O:Lab}{t e' e:TypeId}[TSlice P t e']{z:Value}{size bytes:Nat}[TInfo P e' z size bytes](b:size=Rp.size α){x y:Operand}{v u K:Value}{xs:List α}{a:α}{cs:List Value}(s:Rp.isAgg α=true)(L:NR β i w O e' e v xs none)
    (hu:u=.agg cs.toArray) (hl:cs.length=size) (B:∀u∈cs,u.oneCell'=true) (hr:Rp.R w (Fr 0 w O) (cs.set N.q (.slice none 0 0)) (N.put a [])) (T:cs[N.q]?=some K) (M:Rw j w O e K (N.get a)) (h:j≠i)
    (U:∀g,opv ((d1,.slice (some ⟨g,0,none⟩) 1 1)::l) x=some v) (V:opv l y=some u)
    (hz0:0<size) (hz1:size<=1000) (hb:(xs.length+[a].length)*bytes<=140737488355328) (C:xs.length+[a].length<=9223372036854775807) (hd:Nat.blt d1 n=true/\Nat.blt d2 n=true)
    (Z:∀g A c w' O',St (λq=>q=i\/q=j) w O w' O'->NR β i w' O' e' e (.slice A (xs++[a]).length c) (xs++[a]) none->owp P n ops Q rest ((d2,.slice A (xs++[a]).length c)::(d1,.slice (some ⟨g,0,none⟩) 1 1)::l) w') :
    owp P n ops Q (⟨some d1,.buildSlice t 1 #[(0,y)],ty,pos,aft,none⟩::⟨some d2,.call { callee:=.builtin .append,args:=#[x,.tmp d1],argTypes:=#[t,t] },ty2,pos2,aft2,none⟩::rest) l w:=by
  subst hu;obtain⟨q,hq0,hqi,hqj,hf⟩:=Zm O w.heap.size i j;have D:j≠0:=M.2.2;have f:i≠0:=(by obtain⟨_,_,_,_,Z,_⟩:=L;exact Z);obtain⟨rs,O1,hS,hRw,hN⟩:=L.opn q hq0 hqi;have d:rs.length=xs.length:=(by obtain⟨⟨_,Z,_⟩,_⟩:=hN;exact Z);have E:=M.st hS (λZ=>f Z.symm) h;have F:Rp.R w (Fr 0 w O1) (cs.set N.q (.slice none 0 0)) (N.put a []):=Rp.mono hr (hS.fr (λZ=>f Z.symm));obtain⟨W,hS2,hN2⟩:=Nest.snoc (r:=⟨cs,hl.trans b,B⟩) hN F T E (W0 hqj);have G:=hRw.st hS2 (λZ=>D Z.symm) (W0 h);refine Dl (α:=Raw (Rp.isAgg α) (Rp.size α)) (a:=⟨cs,hl.trans b,B⟩) b G (Vb.ofAgg s rfl) U V (hz0:=hz0) (hz1:=hz1) (by rw[d];exact hb) (by rw[d];exact C) hd λg A c w' Y m H=>?_;have I:=hN2.st m (λZ=>f Z.symm) hqi;obtain⟨X,hS4,h4⟩:=NR.shut H I hqi;have J:(rs++[(⟨cs,hl.trans b,B⟩:Raw (Rp.isAgg α) (Rp.size α))]).length=(xs++[a]).length:=(by simp[d]);rw[J]at h4 ⊢;refine Z g A c w' X ?_ h4;have o:St (λp=>p=i\/p=j) w O w W:=⟨rfl,rfl,rfl,V2 _,λk hk S=>by
    obtain⟨_,e2⟩:=hS.same k hk λZ=>S (.inl Z);obtain⟨_,e4⟩:=hS2.same k hk (by rw[e2];exact λZ=>S (.inr Z));exact⟨rfl,e4.trans e2⟩⟩
  exact St.via (j:=q) o m hS4 hf (λ_ Z=>Z) (λ_ Z=>.inl (.inl Z)) (λ_ Z=>.inr Z)
theorem Km{α β:Type}[Rp α][Rp β][N:NestAt α β](i:Nat)  {j:Nat} {O:Lab} {t e' e:TypeId} [TSlice P t e'] {z:Value} {size bytes:Nat} [TInfo P e' z size bytes] (b:size=Rp.size α) {y:Operand} {u o:Value} {a:α} {cs:List Value} (f:Rp.isAgg α=true)
    (hu:u=.agg cs.toArray) (hl:cs.length=size) (p:∀u∈cs,u.oneCell'=true) (hr:Rp.R w (Fr 0 w O) (cs.set N.q (.slice none 0 0)) (N.put a [])) (v:cs[N.q]?=some o) (s:Rw j w O e o (N.get a))
    (x:opv l y=some u)  (hd:Nat.blt d n=true)
    (F:∀g w' O',St (eT j) w O w' O'->NR β i w' O' e' e (.slice (some ⟨g,0,none⟩) [a].length 1) [a] none->owp P n ops Q rest ((d,.slice (some ⟨g,0,none⟩) [a].length 1)::l) w') (h:i≠0:=by decide) (A:j≠i:=by decide) (hz1:size<=1000:=by decide) :
    owp P n ops Q (⟨some d,.buildSlice t 1 #[(0,y)],ty,pos,aft,none⟩::rest) l w:=by
  subst hu;obtain⟨q,hq0,hqi,hqj,hf⟩:=Zm O w.heap.size i j;have B:j≠0:=s.2.2;obtain⟨C,hS2,hN2⟩:=Nest.snoc (n:=Rp.size α) (a:=Rp.isAgg α) (r:=⟨cs,hl.trans b,p⟩) (Nest.nil (β:=β) (w:=w) (O:=O) (e:=e) hq0) hr v s (W0 hqj);refine CW (α:=Raw (Rp.isAgg α) (Rp.size α)) i (hi:=h) C (ps:=[(0,y)]) (vs:=[.agg cs.toArray]) (xs:=[⟨cs,hl.trans b,p⟩]) b (by simp[X5,x]) rfl ⟨Vb.ofAgg f rfl,trivial⟩ (hz:=(by omega)) (hm:=(by omega)) (hd:=hd) λg w' E c k=>?_;have m:=hN2.st c (λF=>F) (λF=>F);obtain⟨D,hS4,h4⟩:=NR.shut k m hqi;exact F g w' D (St.via (j:=q) hS2 c hS4 hf (λ_ F=>F) (λ_ F=>F.elim) (λ_ F=>.inr F)) h4
theorem AbB(O:Lab)(n a b d:Nat):∃j,j≠0/\j≠a/\j≠b/\j≠d/\∀k,k<n->O k≠j:=by
  obtain⟨c,hc⟩:=AaM O n;exact⟨c+a+b+d+1,by omega,by omega,by omega,by omega,λk hk=>by have:=hc k hk;omega⟩
theorem Ib{α β:Type}[Rp α][Rp β][N:NestAt α β]{i j:Nat}{O:Lab}{t e' e:TypeId}[TSlice P t e']{z:Value}{size bytes:Nat}[TInfo P e' z size bytes](b:size=Rp.size α){x y:Operand}{v u:Value}{xs ys:List α}(J:NR β i w O e' e v xs none)(K:NR β j w O e' e u ys none)  (M:opv l x=some v) (R:opv l y=some u)
     (hb:(xs.length+ys.length)*bytes<=140737488355328) (C:xs.length+ys.length<=9223372036854775807) (hd:Nat.blt d n=true)
    (Y:∀A c w' O',St (λq=>q=i\/q=j) w O w' O'->NR β i w' O' e' e (.slice A (xs++ys).length c) (xs++ys) none->owp P n ops Q rest ((d,.slice A (xs++ys).length c)::l) w') (h:j≠i:=by decide) (hz0:0<size:=by decide) :
    owp P n ops Q (⟨some d,.call { callee:=.builtin .append,args:=#[x,y],argTypes:=#[t,t] },ty,pos,aft,none⟩::rest) l w:=by
  obtain⟨L,hq0,hqi,hqj,hf1⟩:=Zm O w.heap.size i j;obtain⟨S,hr0,hri,hrj,hrq,hf2⟩:=AbB O w.heap.size i j L;have m:i≠0:=(by obtain⟨_,_,_,_,Y,_⟩:=J;exact Y);have o:j≠0:=(by obtain⟨_,_,_,_,Y,_⟩:=K;exact Y);obtain⟨rs,O1,hS1,hRw,hN⟩:=J.opn L hq0 hqi;have D:=K.st hS1 (λY=>m Y.symm) h;obtain⟨p,O2,hS2,hUw,hM⟩:=D.opn S hr0 hrj;have r:=hRw.st hS2 (λY=>o Y.symm) (W0 h);have E:=hN.st hS2 (λY=>o Y.symm) hqj;have f:rs.length=xs.length:=(by obtain⟨⟨_,Y,_⟩,_⟩:=hN;exact Y);have g:p.length=ys.length:=(by obtain⟨⟨_,Y,_⟩,_⟩:=hM;exact Y);obtain⟨W,hS3,hN3⟩:=Nest.app E hM hrq;have s:=r.st hS3 (λY=>hr0 Y.symm) (W0 hri);have B:=hUw.st hS3 (λY=>hr0 Y.symm) (W0 hrj);refine DH (α:=Raw (Rp.isAgg α) (Rp.size α)) b s B.rd M R (hz0:=hz0) (by rw[f,g];exact hb) (by rw[f,g];exact C) (hd:=hd) λA c w' X a F=>?_;have G:=hN3.st a (λY=>m Y.symm) hqi;obtain⟨T,hS5,h5⟩:=NR.shut F G hqi;have H:(rs++p).length=(xs++ys).length:=(by simp[f,g]);rw[H]at h5 ⊢;refine Y A c w' T ⟨(hS5.os.trans a.os),(hS5.tape.trans a.tape),(hS5.output.trans a.output),U8 a.size hS5.size,λk hk I=>?_⟩ h5;obtain⟨_,e1⟩:=hS1.same k hk λY=>I (.inl Y);obtain⟨_,e2⟩:=hS2.same k hk (by rw[e1];exact λY=>I (.inr Y));obtain⟨_,e3⟩:=hS3.same k hk (by rw[e2,e1];exact hf2 k hk);obtain⟨U,e4⟩:=a.same k hk (by rw[e3,e2,e1];exact λY=>I (.inl Y));obtain⟨V,e5⟩:=hS5.same k (K1 hk a.size) (by rw[e4,e3,e2,e1];exact hf1 k hk);exact⟨V.trans U,by rw[e5,e4,e3,e2,e1]⟩
theorem XO{α β:Type}[Rp α][Rp β][N:NestAt α β]{i j:Nat}{O:Lab}{t e' e:TypeId}{z:Value}{size bytes:Nat}[TInfo P t z size bytes]{x y:Operand}{b o k off m c:Nat}{A C:Option Addr}{D E:Nat}{a:α}{ys:List β}{xs:List α}(S:NR β i w O e' e (.slice A m c) xs (some k))(T:Rw j w O e (.slice C D E) ys)(d:j≠i)(hA:A=some ⟨b,o,none⟩)(hk:xs[k]?=some a)
    (W:opv l x=some (.pointer (some ⟨b,o+k*Rp.size α+off,none⟩))) (X:opv l y=some (.slice C D E)) (f:off=N.q) (F:size=1) (G:N.q<Rp.size α)
    (h:∀w' O',St (λq=>q=i\/q=j) w O w' O'->NR β i w' O' e' e (.slice A m c) (xs.set k (N.put a ys)) none->owp P n ops Q rest l w'):owp P n ops Q (⟨none,.store t x y,ty,pos,aft,none⟩::rest) l w:=by
  subst f F;obtain⟨q,hq0,hqi,hqj,hf⟩:=Zm O w.heap.size i j;have H:j≠0:=T.2.2;have g:i≠0:=(by obtain⟨_,_,_,_,h,_⟩:=S;exact h);obtain⟨rs,O1,hS,hRw,hN⟩:=S.opn q hq0 hqi;have r:rs.length=xs.length:=(by obtain⟨⟨_,h,_⟩,_⟩:=hN;exact h);have I:k<rs.length:=(by rw[r];exact AF hk);have hr:rs[k]?=some rs[k]:=D1 I;have J:=T.st hS (λh=>g h.symm) d
  let r':Raw (Rp.isAgg α) (Rp.size α):=⟨rs[k].cs.set N.q (.slice C D E),by rw[Q7];exact rs[k].len,λu hu=>by
    rcases List.mem_or_eq_of_mem_set hu with h|h
    . exact rs[k].one u h
    . subst h;rfl⟩
  obtain⟨Y,hS2,hN2⟩:=hN.put (r':=r') hr hk rfl G J (W0 hqj);have K:=hRw.st hS2 (λh=>H h.symm) (W0 d);refine LM (a:=rs[k]) (a':=r') K hA hr W X rfl (by show N.q+1<=Rp.size α;omega) (λv U=>by simp[Value.cells]at U;subst U;rfl) (λZ hc=>?_) λw' s L=>?_
  . have M:Z=rs[k].cs:=hc;subst M;rfl
  have R:=hN2.st s (λh=>g h.symm) hqi;obtain⟨O4,hS4,h4⟩:=NR.shut L R hqi;refine h w' O4 ?_ h4;have B:St (λp=>p=i\/p=j) w O w Y:=⟨rfl,rfl,rfl,V2 _,λk hk V=>by
    obtain⟨_,e2⟩:=hS.same k hk λh=>V (.inl h);obtain⟨_,e4⟩:=hS2.same k hk (by rw[e2];exact λh=>V (.inr h));exact⟨rfl,e4.trans e2⟩⟩
  exact St.via (j:=q) B s hS4 hf (λ_ h=>h) (λ_ h=>.inl (.inl h)) (λ_ h=>.inr h)
end
def Acr(a w:World)(F:Nat->Prop)(e:TypeId)(v:Value)(x:Opr):Prop :=
  ∃(G:Nat->Prop) (p u:Value),(∀k,G k->F k/\k<w.heap.size)/\v=.agg #[.string x.name,.int .i64 x.cost,p,u]/\Vb w G p x.pre/\W1 x.cost/\x.name.size<=9223372036854775807/\Own w a.heap.size G e u x.effs
theorem Rw.outO{α:Type}[Rp α]{i:Nat}{w a:World}{O:Lab}{e:TypeId}{v:Value}{xs:List α}{A:Nat->Prop}(d:Rw i w O e v xs)(b:Bs a A w O)(hi:i≠1):Own w a.heap.size (Fr 0 w O) e v xs:=d.1.raise λg c=>by
  rcases T9 g a.heap.size with hlt|hge
  . have:=d.2.1 g c;have:=d.2.2;rcases b.lab g hlt with⟨_,e⟩|⟨_,e⟩<;>omega
  . exact hge
section
variable {P:Program}{n:Nat}{ops:Array Oper}{Q:X0}{rest:List Oper}{l:Env}{w:World}{d:Tmp}{ty:TypeId}{pos:String}{aft:Array Edge}
theorem Ll(i:Nat)  {f:FuncId} [Callable P f] {xs:List Operand} {vs:List Value} {r:Array TypeId} {O:Lab} {e:TypeId} {x:Opr} (hc:Fn P f vs w λv w'=>Ext w w'/\Acr w w' (upA (Fr 0 w O) w w') e v x) (s:X5 l xs=some vs) (hd:Nat.blt d n=true)
    (z:∀j m a b w' O',St nT w O w' O'->Vb w' (Fr 0 w' O') (.slice j x.pre.length m) x.pre->W1 x.cost->x.name.size<=9223372036854775807->Rw i w' O' e (.slice a x.effs.length b) x.effs->owp P n ops Q rest ((d,.agg #[.string x.name,.int .i64 x.cost,.slice j x.pre.length m,.slice a x.effs.length b])::l) w') (hi:i≠0:=by decide):owp P n ops Q (⟨some d,.call { callee:=.value (.func f),args:=xs.toArray,argTypes:=r },ty,pos,aft,none⟩::rest) l w :=
  By s (hd:=hd) hc λv w' ⟨t,G,p,u,o,hv,hp,hco,hna,ho⟩=>by
    subst hv;obtain⟨a,b,_,rfl,_⟩:=ho.chunk;obtain⟨j,m,rfl⟩:=hp.form;have y:=t.st O λk=>if(Value.slice a x.effs.length b).ownBlock=some k then i else 0;have c:∀k,G k->Fr 0 w' (upO O w.heap.size λk=>if(Value.slice a x.effs.length b).ownBlock=some k then i else 0) k:=λk hk=>by
      obtain⟨_,_,_,hno⟩:=ho;refine⟨(o k hk).2,?_⟩;rcases(o k hk).1 with h1|h1
      . exact(Ex h1.1).trans h1.2
      . rw[Fh h1.1,if_neg λhe=>hno k he hk]
    refine z j m a b w' _ y (hp.mono c) hco hna ⟨(ho.lower (V5 _)).mono c (λg h hf=>?_),λg h=>?_,hi⟩
    . have h1:=(ho.lt g h).1;have q:=hf.2;rw[Fh h1,if_pos h]at q;exact hi q
    . rw[Fh (ho.lt g h).1,if_pos h]
end
end
section
open Go Go.RowKit
structure ZOp where
  idx:Nat
  dst:Nat
  lab:Nat
  F:Value->World->Lab->Prop
  st:∀{v w O w' O'} {ls:List Nat},F v w O->St (·∈ls) w O w' O'->ls.contains 0=false->ls.contains lab=false->F v w' O'
def AaC(K:Env->World->Prop):X0
  |.normal,l,w=>K l w
  |_,_,_=>False
def AaV(P:Program)(n:Nat)(ops:Array Oper)(z:ZOp)(a:Env):Prop :=
  ∃o,ops[z.idx]?=some o/\∀l w O,W4 l a->owp P n ops (AaC λd b=>∃v c,St nT w O b c/\d=(z.dst,v)::l/\z.F v b c) [o] l w
def AaB:List Nat->Bool
  |[]=>true
  |a::r=>!r.contains a&&AaB r
theorem LU:∀{l:List Nat},AaB l=true->l.Nodup
  |[],_=>List.nodup_nil
  |a::r,h=>by
    simp only[AaB,N1]at h;exact R3.2 ⟨by simpa using h.1,LU h.2⟩
def AaJ(p:ZOp->Prop):List ZOp->Prop
  |[]=>True
  |z::r=>p z/\AaJ p r
theorem Nq{p:ZOp->Prop}:∀{zs:List ZOp}{z:ZOp},AaJ p zs->z∈zs->p z
  |_::_,z,h,hm=>by
    rcases S0.1 hm with rfl|hm
    . exact h.1
    . exact Nq h.2 hm
  |[],_,_,hm=>by cases hm
theorem Sk{p:ZOp->Prop}:∀{zs:List ZOp},(∀z∈zs,p z)->AaJ p zs
  |[],_=>trivial
  |z::_,h=>⟨h z K6,Sk λz hz=>h z (H0 _ hz)⟩
def ZJ:List ZOp->Array Bool->Nat
  |[],_=>0
  |z::r,b=>(if b.getD z.idx true=false then 1 else 0)+ZJ r b
def Aaf:List ZOp->(Nat->Value)->Env->Env
  |[],_,l=>l
  |z::r,u,l=>(z.dst,u z.dst)::Aaf r u l
theorem Sl{u:Nat->Value}{l:Env}:∀{zs:List ZOp}{z:ZOp},z∈zs->lk (Aaf zs u l) z.dst=some (u z.dst)
  |y  :: r,z,hm=>by
    simp only[Aaf,lk];cases hb:Nat.beq y.dst z.dst with
    |true=>rw[F1 hb]
    |false =>
      rcases S0.1 hm with rfl|hm
      . rw[T8]at hb;cases hb
      . exact Sl hm
  |[],_,hm=>by cases hm
theorem Lm{u:Nat->Value}{l:Env}{i:Nat}:∀{zs:List ZOp},(∀z∈zs,z.dst≠i)->lk (Aaf zs u l) i=lk l i
  |[],_=>rfl
  |y::r,h=>by
    simp only[Aaf,lk];cases hb:Nat.beq y.dst i with
    |true=>exact absurd (F1 hb) (h y K6)
    |false=>exact Lm λz hz=>h z (H0 _ hz)
theorem OY{n:Nat}{a:Act}{l:Env}(c:Ok n a l):∀zs:List ZOp,Ok n a (Aaf zs (λd=>a.tmps.getD d undef) l)
  |[]=>c
  |z  :: r=>⟨c.size,c.defers,λi v b=>by
    simp only[Aaf,lk]at b;cases hb:Nat.beq z.dst i with
    |true =>
      rw[hb]at b;have:=F1 hb;subst this;injection b
    |false=>rw[hb]at b;exact(OY c r).knows i v b⟩
theorem Sm{l b:Env}:∀{a:Env},W4 l a->(∀i v,lk l i=some v->lk b i=some v)->W4 b a
  |[],_,_=>trivial
  |(_,_)::_,h,k=>⟨k _ _ h.1,Sm h.2 k⟩
theorem St.nt{w w':World}{O a:Lab}(b:St nT w O w' a):St (·∈([]:List Nat)) w O w' a:=b.mono λ_ b=>b.elim
section
variable {P:Program}{n:Nat}{ops:Array Oper}{Q:X0}{acts:List (Nat × List Nat)}{w0:World}{O0 O:Lab}{l:Env}{w:World}
theorem Sn      {K:Env→World→Prop} {i:Nat} {o:Oper} (hi:ops[i]?=some o) (y:owp P n ops (AaC K) [o] l w) (a:Act) (e:Nat) (p:Ok n a l) :
    wpOp P ops (YZ n Q) i (λa' w'=>∃g b h,w'=dr b h/\Ok n a' g/\K g b) a (dr w e):=by
  have d:=y a e p;unfold wpList at d;unfold wpOp;simp only[hi];have conv:∀a' w',YZ n (AaC K) .normal a' w'->∃g b h,w'=dr b h/\Ok n a' g/\K g b:=by
    rintro a' w' ⟨_,g,b,h,rfl,ho,hK⟩;exact⟨g,b,h,rfl,ho,hK⟩
  have f:∀j a' w',YZ n (AaC K) j a' w'->j=.normal:=by
    rintro j a' w' ⟨hn,g,b,h,rfl,ho,q⟩;cases j<;>first|rfl|exact q.elim
  by_cases k:Region.wanted o (yielded ops a.tmps)=true
  . rw[if_pos k]at d;rw[if_pos k];rcases d with d|⟨d,r,w0,h2⟩
    . refine .inl ?_;unfold Oper.wp at *
      generalize (execOp a.eval o).run P (dr w e)=m at *
      cases m with
      |ok s w'  =>
        cases s<;>simp only[Oper.upon]at d ⊢ <;>
          first
            |exact conv _ _ d
            |exact V9 d (λt u he=>by
                cases t with
                |returned v=>exact conv _ _ he
                |panicked c=>exact absurd (f _ _ _ he) (by simp)
                |outgrown=>obtain⟨r,w0,hq⟩:=he;exact absurd (f _ _ _ hq) (by simp))
            |exact Rows.mono d (λ_ _ he=>conv _ _ he)
            |exact d.elim
      |halt x w'=>cases x<;>simp only[Oper.upon]at d ⊢<;>first|exact d.elim|exact absurd (f _ _ _ d) (by simp)
    . exact absurd (f _ _ _ h2) (by simp)
  . rw[if_neg k]at d;rw[if_neg k];exact conv _ _ d
def hwz(P:Program)(n:Nat)(ops:Array Oper)(Q:X0)(acts:List (Nat×List Nat))(zs:List ZOp)(fuel:Nat)(listed:Array Bool)(l:Env)(w:World)(O:Lab):Prop :=
  ∀b:Array Bool,b.size=listed.size->(∀i,(∀z∈zs,z.idx≠i)->b[i]?=listed[i]?)->Closed ops b->∀a c,Ok n a l->(∀z∈zs,b.getD z.idx true=true->z.F (a.tmps.getD z.dst undef) w O) ->
    ZA P ops (YZ n Q) (Sx acts w O) (fuel+ZJ zs b) b a (dr w c)
theorem Hl{a b:Array Bool}{i:Nat}{x:Bool}(c:a[i]?=b[i]?):a.getD i x=b.getD i x:=by rw[B7,B7,c]
theorem KC{i:Nat}{a:Array Bool}:∀{zs:List ZOp},(∀z∈zs,z.idx≠i)->ZJ zs (a.setIfInBounds i true)=ZJ zs a
  |[],_=>rfl
  |z::r,h=>by
    simp only[ZJ];rw[getD_set_ne true (W0 (h z K6)),KC λz hz=>h z (H0 _ hz)]
theorem QD{a:Array Bool}{z:ZOp}(hz:a.getD z.idx true=false):∀{zs:List ZOp},(zs.map (·.idx)).Nodup->z∈zs->ZJ zs (a.setIfInBounds z.idx true)+1=ZJ zs a
  |y  :: r,hn,hm=>by
    simp only[R9,R3]at hn;simp only[ZJ];have hlt:z.idx<a.size:=by
      rcases T9 z.idx a.size with h|h
      . exact h
      . rw[B7,E6 h]at hz;cases hz
    rcases S0.1 hm with rfl|hm
    . have c:(a.setIfInBounds z.idx true).getD z.idx true=true:=(by rw[B7,B0];simp[hlt]);rw[KC λy d e=>hn.1 (by rw[<- e];exact List.mem_map_of_mem d),c,hz,if_neg (by simp),if_pos rfl];omega
    . have b:y.idx≠z.idx:=λe=>hn.1 (by rw[e];exact List.mem_map_of_mem hm);rw[getD_set_ne true (W0 b)];have:=QD hz hn.2 hm;omega
  |[],_,hm=>by cases hm
theorem AcJ{acts c:List (Nat×List Nat)}{fuel:Nat}{listed:Array Bool}{a:Act}{h:World}{i:List Nat}{l:World}{m:Lab}(o:St (·∈i) w O l m)(f:∀q,q∈i->q∈tcs acts listed)(g:∀p,p∈c->p∈acts)
    (s:ZA P ops (YZ n Q) (Sx c l m) fuel listed a h):ZA P ops (YZ n Q) (Sx acts w O) fuel listed a h:=by
  refine Kz (λb=>∀j,listed.getD j false=true->b.getD j false=true) (λb k s j hj=>getD_set_true (s j hj)) ?_ _ _ _ _ (λj hj=>hj) s;rintro b v r ⟨e,O'',hS⟩;refine⟨e,O'',((o.mono λq d=>?_).comp (hS.mono λq d=>?_) λ_ s=>s:St (·∈tcs acts b) w O _ O'')⟩
  . have:=f q d;unfold tcs at this ⊢;rw[P2]at this ⊢;obtain⟨p,h1,h3⟩:=this;rw[Q9]at h1;exact⟨p,Q9.2 ⟨h1.1,r _ h1.2⟩,h3⟩
  . unfold tcs at d ⊢;rw[P2]at d ⊢;obtain⟨p,h1,h3⟩:=d;rw[Q9]at h1;exact⟨p,Q9.2 ⟨g _ h1.1,h1.2⟩,h3⟩
def AcV(ops:Array Oper)(acts:List (Nat×List Nat))(zs:List ZOp)(listed:Array Bool)(l:Env)(m:Nat):Bool :=
  zs.all λz=>listed.getD z.idx false&&(lk l z.dst).isNone && !acts.any (·.1==z.idx) && !(z.idx==m)&&(ops[z.idx]?).any λo=>o.after.all λe=>!Region.binds .any e||(listed.getD e.on false&&zs.all λy=>!(y.idx==e.on))
def Aar(ops:Array Oper)(m:Nat)(zs:List ZOp):List ZOp:=zs.filter λz=>!bef ops m z.idx
theorem Pv{ops:Array Oper}{m:Nat}{a:Array Bool}:∀{zs:List ZOp},(∀z∈zs,bef ops m z.idx=true->a.getD z.idx true=true)->ZJ (Aar ops m zs) a=ZJ zs a
  |[],_=>rfl
  |z  :: r,h=>by
    have b:=Pv (zs:=r) λy c=>h y (H0 _ c);unfold Aar at b ⊢;rw[P7];cases hb:bef ops m z.idx with
    |true =>
      simp only[Bool.not_true,L0,if_false,ZJ];rw[h z K6 hb,b];simp
    |false=>simp only[Bool.not_false,if_true,ZJ];rw[b]
def ZY(P:Program)(n:Nat)(ops:Array Oper)(Q:X0)(acts:List (Nat×List Nat))(zs:List ZOp)(fuel:Nat)(listed:Array Bool)(m:Nat)(u:Nat→Value)(w:World)(O:Lab):Env→World→Prop:=λc d =>
  ∃(e:Lab) (b:List Nat) (a:List (Nat×List Nat)) (f:Env),St (·∈b) w O d e/\(b.contains 0=false/\((Aar ops m zs).all λz=>!b.contains z.lab)=true/\(b.all λq=>(tcs acts (listed.setIfInBounds m true)).contains q)=true/\a.all (acts.contains ·)=true) /\
    AaJ (λz=>lk c z.dst=some (u z.dst)) (Aar ops m zs)/\W4 c f/\hwz P n ops Q a (Aar ops m zs) fuel (listed.setIfInBounds m true) f d e
theorem Jt      {zs:List ZOp} {fuel m:Nat} {om:Oper} {listed:Array Bool}  (hm:ops[m]?=some om)
    (hz:AaJ (λz=>∃req,AaV P n ops z req/\W4 l req) zs)
    (hs:∀(u:Nat->Value) w' O',St nT w O w' O'->AaJ (λz=>bef ops m z.idx=true->z.F (u z.dst) w' O') zs->owp P n ops (AaC (ZY P n ops Q acts zs fuel listed m u w' O')) [om] (Aaf zs u l) w') (hr:Region.ready .any ops listed=[m]:=by kernel_rfl) (hc:AcV ops acts zs listed l m=true:=by kernel_rfl) (hn:(AaB (zs.map (·.idx))&&AaB (zs.map (·.dst)))=true:=by kernel_rfl) :
    hwz P n ops Q acts zs (fuel+1) listed l w O:=by
  rw[N1]at hn;have hn1:=LU hn.1;have hn2:=LU hn.2;have chk:∀z∈zs,listed.getD z.idx false=true/\lk l z.dst=none/\acts.any (·.1==z.idx)=false/\z.idx≠m/\∃o,ops[z.idx]?=some o/\∀e∈o.after,Region.binds .any e=true->listed.getD e.on false=true/\∀y∈zs,y.idx≠e.on:=λz hzm=>by
    have:=N6.1 hc z hzm;simp only[N1]at this;obtain⟨⟨⟨⟨h1,h2⟩,h3⟩,h4⟩,h5⟩:=this;refine⟨h1,by simpa using h2,by simpa using h3,by simpa using h4,?_⟩;cases ho:ops[z.idx]? with
    |none=>rw[ho]at h5;simp at h5
    |some o =>
      rw[ho]at h5;simp only[Q2]at h5;refine⟨o,rfl,λe he hb=>?_⟩;have h6:=Array.all_eq_true'.1 h5 e he;rw[hb]at h6;simp only[Bool.not_true,Bool.false_or,N1]at h6;exact⟨h6.1,λy hy=>by have:=N6.1 h6.2 y hy;simpa using this⟩
  have hml:listed.getD m true=false:=by
    have:m∈Region.ready .any ops listed:=(by rw[hr];simp);exact(mem_ready.1 this).1
  have lkne:∀i v,lk l i=some v->∀z∈zs,z.dst≠i:=λi v h z hzm e=>by
    have:=(chk z hzm).2.1;rw[e,h]at this;cases this
  have lkne:∀i v,lk l i=some v->∀z∈zs,z.dst≠i:=λi v h z hzm e=>by
    have:=(chk z hzm).2.1;rw[e,h]at this;cases this
  have main : ∀(k:Nat)(real:Array Bool)(w':World)(O':Lab)(a:Act)(d:Nat),ZJ zs real=k→real.size=listed.size→(∀i,(∀z∈zs,z.idx≠i)→real[i]?=listed[i]?)→Closed ops real→Ok n a l→St nT w O w' O'→(∀z∈zs,real.getD z.idx true=true→z.F (a.tmps.getD z.dst undef) w' O') →
      ZA P ops (YZ n Q) (Sx acts w O) (fuel+k+1) real a (dr w' d):=by
    intro k
    induction k using Nat.strongRecOn with
    |ind k ih =>
    intro real w' O' a d hk hsz hag hcl ha hS hF;have ltl:∀i,listed.getD i false=true->i<real.size:=λi h5=>by
      rw[hsz];rcases T9 i listed.size with h|h
      . exact h
      . rw[B7,E6 h]at h5;cases h5
    have zready:∀z∈zs,real.getD z.idx true=false->z.idx∈Region.ready .any ops real:=λz hzm hb=>by
      obtain⟨_,_,_,_,o,ho,hp⟩:=chk z hzm;refine mem_ready.2 ⟨hb,o,ho,λe he hbi=>?_⟩;obtain⟨h1,h2⟩:=hp e he hbi;rw[Hl (hag e.on h2)];exact h1
    refine⟨λh0=>?_,λi hi=>?_⟩
    . exfalso;by_cases hall:∀z∈zs,real.getD z.idx true=true
      . have hmr:m∈Region.ready .any ops real:=by
          have h1:m∈Region.ready .any ops listed:=(by rw[hr];simp);obtain⟨h2,oi,h3,h4⟩:=mem_ready.1 h1;refine mem_ready.2 ⟨by rw[Hl (hag m λz hzm=>(chk z hzm).2.2.2.1)];exact h2,oi,h3,λe he hb=>?_⟩;have h5:=h4 e he hb;by_cases hex:∃z∈zs,z.idx=e.on
          . obtain⟨z,hzm,hze⟩:=hex;have h6:=hall z hzm;rw[hze]at h6;have:=ltl _ h5;rw[B7,C7 this]at h6 ⊢;exact h6
          . rw[Hl (hag e.on λz hzm e'=>hex ⟨z,hzm,e'⟩)];exact h5
        rw[h0]at hmr;cases hmr
      . obtain⟨z,hz1⟩:=Classical.not_forall.1 hall;obtain⟨hzm,hb⟩:=Classical.not_imp.1 hz1;have:=zready z hzm (by simpa using hb);rw[h0]at this;cases this
    . by_cases hex:∃z∈zs,z.idx=i
      . obtain⟨z,hzm,rfl⟩:=hex;have hb:=(mem_ready.1 hi).1;have hcs:=QD hb hn1 hzm;obtain⟨req,⟨o,ho,hstep⟩,hreq⟩:=Nq hz hzm;have hreq':W4 (Aaf zs (λd=>a.tmps.getD d undef) l) req:=Sm hreq λj v hj=>(by rw[Lm (lkne j v hj)];exact hj);refine wpOp_mono (λa' w2 h=>?_) (Sn ho (hstep _ w' O' hreq') a d (OY ha zs));obtain⟨l',w₀,d',rfl,hok,v,O2,hS2,rfl,hFz⟩:=h;have hS3:St nT w O w₀ O2:=hS.comp hS2 λ_ h=>h;refine⟨λ_=>⟨w₀.drawn,O2,hS3.mono λ_ h=>h.elim⟩,?_⟩;obtain⟨k',rfl⟩:∃k',k=k'+1:=⟨k-1,by omega⟩;refine ih k' (by omega) (real.setIfInBounds z.idx true) w₀ O2 a' d' (by omega) (by simpa using hsz) (λj hj=>?_) (hcl.set hi) ?_ hS3 λy hy hyb=>?_
        . rw[B1 (hj z hzm)];exact hag j hj
        . refine⟨hok.size,hok.defers,λj v' hj=>hok.knows j v' ?_⟩;have hne:=lkne j v' hj;simp only[lk];cases hbq:Nat.beq z.dst j with
          |true=>exact absurd (F1 hbq) (hne z hzm)
          |false=>show lk _ j=_;rw[Lm hne];exact hj
        . by_cases hyz:y.dst=z.dst
          . obtain rfl:y=z:=by
              by_cases he:y=z
              . exact he
              . exfalso;obtain⟨i1,hi1,e1⟩:=I4 hy;obtain⟨i2,hi2,e2⟩:=I4 hzm;have hne:i1≠i2:=λe=>he (by subst e;rw[<- e1,<- e2]);have:=D0.1 (C2.1 hn2);rcases T9 i1 i2 with h|h
                . exact this i1 i2 (by simpa using hi1) (by simpa using hi2) h (by simp[e1,e2,hyz])
                . exact this i2 i1 (by simpa using hi2) (by simpa using hi1) (by omega) (by simp[e1,e2,hyz])
            have:a'.tmps.getD y.dst undef=v:=hok.knows y.dst v (by simp only[lk,T8]);rw[this];exact hFz
          . have hlk:lk ((z.dst,v)::Aaf zs (λd=>a.tmps.getD d undef) l) y.dst=some (a.tmps.getD y.dst undef):=by
              simp only[lk];cases hbq:Nat.beq z.dst y.dst with
              |true=>exact absurd (F1 hbq).symm hyz
              |false=>exact Sl hy
            rw[hok.knows y.dst _ hlk];have hne:y.idx≠z.idx:=λe=>by
              obtain⟨i1,hi1,e1⟩:=I4 hy;obtain⟨i2,hi2,e2⟩:=I4 hzm;have hne:i1≠i2:=λe=>hyz (by subst e;rw[<- e1,<- e2]);have:=D0.1 (C2.1 hn1);rcases T9 i1 i2 with h|h
              . exact this i1 i2 (by simpa using hi1) (by simpa using hi2) h (by simp[e1,e2,e])
              . exact this i2 i1 (by simpa using hi2) (by simpa using hi1) (by omega) (by simp[e1,e2,e])
            rw[getD_set_ne true (W0 hne)]at hyb;exact y.st (hF y hy hyb) hS2.nt rfl rfl
      . have him:i=m:=by
          have:i∈Region.ready .any ops listed:=by
            obtain⟨h2,oi,h3,h4⟩:=mem_ready.1 hi;refine mem_ready.2 ⟨by rw[<- Hl (hag i λz hzm e=>hex ⟨z,hzm,e⟩)];exact h2,oi,h3,λe he hb=>?_⟩;by_cases hez:∃z∈zs,z.idx=e.on
            . obtain⟨z,hzm,hze⟩:=hez;rw[<- hze];exact(chk z hzm).1
            . rw[<- Hl (hag e.on λz hzm e'=>hez ⟨z,hzm,e'⟩)];exact h4 e he hb
          rw[hr]at this;simpa using this
        subst him;have hstep:=hs (λd=>a.tmps.getD d undef) w' O' hS (Sk λz hzm hbef=>hF z hzm (by
          obtain⟨_,oi,h3,h4⟩:=mem_ready.1 hi;have h5:=Gf hcl ops.size i z.idx oi h3 h4 (Kh hbef);rcases T9 z.idx real.size with h|h
          . rw[B7,C7 h]at h5 ⊢;exact h5
          . rw[B7,E6 h];rfl))
        refine wpOp_mono (λa' w2 h=>?_) (Sn hm hstep a d (OY ha zs));obtain⟨l2,w₀,d',rfl,hok,O2,ls,acts',l',hS2,⟨hc0,hc1,hc2,hc3⟩,hlk,hsub,hnext⟩:=h;have him':∀z∈zs,z.idx≠i:=λz hzm=>(chk z hzm).2.2.2.1;have htc:∀q,q∈tcs acts (listed.setIfInBounds i true)->q∈tcs acts (real.setIfInBounds i true):=λq hq=>by
          unfold tcs at hq ⊢;rw[P2]at hq ⊢;obtain⟨p,h1,h3⟩:=hq;rw[Q9]at h1;refine⟨p,Q9.2 ⟨h1.1,?_⟩,h3⟩;have hpz:∀z∈zs,z.idx≠p.1:=λz hzm e=>by
            have:=(chk z hzm).2.2.1;rw[List.any_eq_false]at this;exact this p h1.1 (by simp[e])
          by_cases hpi:i=p.1
          . have h6:=h1.2;rw[<- hpi]at h6 ⊢;rw[B7,B0]at h6 ⊢;rw[hsz];exact h6
          . rw[getD_set_ne false hpi,Hl (hag p.1 hpz)];have h6:=h1.2;rwa[getD_set_ne false hpi]at h6
        have hls:∀q,q∈ls->q∈tcs acts (real.setIfInBounds i true):=λq hq=>htc q (by simpa using N6.1 hc2 q hq);have hS3:St (·∈ls) w O w₀ O2:=St.comp (hS.mono λ_ h=>h.elim) hS2 λ_ h=>h;refine⟨λ_=>⟨w₀.drawn,O2,hS3.mono hls⟩,?_⟩;have hks:∀z,z∈Aar ops i zs->z∈zs:=λz hzm=>(Q9.1 hzm).1;have hdone:∀z∈zs,bef ops i z.idx=true->real.getD z.idx true=true/\real[z.idx]?=some true:=λz hzm hbef=>by
          obtain⟨_,oi,h3,h4⟩:=mem_ready.1 hi;have h5:=Gf hcl ops.size i z.idx oi h3 h4 (Kh hbef);rw[B7]at h5;cases hq:real[z.idx]? with
          |none=>rw[hq]at h5;cases h5
          |some b=>rw[hq]at h5;exact⟨by rw[B7,hq];exact h5,congrArg some h5⟩
        have hnx:=hnext (real.setIfInBounds i true) (by simpa using hsz) (λj hj=>?_) (hcl.set hi) a' d' (hok.sub hsub) λz hzm hzb=>?_
        . rw[KC λz hzm=>him' z (hks z hzm),Pv λz hzm hbef=>(hdone z hzm hbef).1,hk]at hnx;exact AcJ hS3 hls (λp hp=>by simpa using N6.1 hc3 p hp) hnx
        . by_cases hij:i=j
          . subst hij;rw[B0,B0,hsz]
          . rw[B1 hij,B1 hij];by_cases hez:∃z∈zs,z.idx=j
            . obtain⟨z,hzm,hze⟩:=hez;have hbef:bef ops i z.idx=true:=by
                cases hb:bef ops i z.idx with
                |true=>rfl
                |false=>exact absurd hze (hj z (Q9.2 ⟨hzm,by simp[hb]⟩))
              have h8:=(chk z hzm).1;rw[<- hze,(hdone z hzm hbef).2];rw[B7]at h8;cases hq:listed[z.idx]? with
              |none=>rw[hq]at h8;cases h8
              |some b=>rw[hq]at h8;exact(congrArg some h8).symm
            . exact hag j λz hzm e=>hez ⟨z,hzm,e⟩
        . rw[hok.knows z.dst _ (Nq hlk hzm)];rw[getD_set_ne true (W0 (him' z (hks z hzm)))]at hzb;exact z.st (hF z (hks z hzm) hzb) hS2 hc0 (by have:=N6.1 hc1 z hzm;simpa using this)
  intro real hsz hag hcl a d ha hF;have:=main _ real w O a d rfl hsz hag hcl ha (St.refl _ _ _) hF;rwa[show fuel+1+ZJ zs real=fuel+ZJ zs real+1 from by omega]
theorem Ww{zs:List ZOp}{fuel c:Nat}{listed:Array Bool}(m:Env)(hs:W4 l m)(o:fuel+zs.length=c)(hf:(zs.all λz=>!listed.getD z.idx true)=true)(q:hwz P n ops Q acts zs fuel (zs.foldl (λb z=>b.setIfInBounds z.idx true) listed) m w O):hwx P n ops Q acts w O c listed l w:=by
  intro g a s p;have h:∀(zs:List ZOp)(b:Array Bool),(zs.foldl (λb z=>b.setIfInBounds z.idx true) b).size=b.size:=λzs=>by
    induction zs with
    |nil=>intro b;rfl
    |cons z r d=>intro b;rw[P9,d];simp
  have j:∀(zs:List ZOp)(b:Array Bool)(i:Nat),(∀z∈zs,z.idx≠i)->(zs.foldl (λb z=>b.setIfInBounds z.idx true) b)[i]?=b[i]?:=λzs=>by
    induction zs with
    |nil=>intro b i _;rfl
    |cons z r d =>
      intro b i hi;rw[P9,d _ i λy k=>hi y (H0 _ k),B1 (hi z K6)]
  have e:∀(zs:List ZOp),(∀z∈zs,listed.getD z.idx true=false)->ZJ zs listed=zs.length:=λzs=>by
    induction zs with
    |nil=>intro _;rfl
    |cons z r d =>
      intro q;rw[ZJ,if_pos (q z K6),d λy k=>q y (H0 _ k),M8];omega
  have f:∀z∈zs,listed.getD z.idx true=false:=λz hz=>(by have:=N6.1 hf z hz;simpa using this);have:=q listed (h zs listed).symm (λi hi=>(j zs listed i hi).symm) g a s (p.sub hs) λz hz hb=>(by rw[f z hz]at hb;cases hb);rwa[e zs f,o]at this
theorem TT{fuel:Nat}{listed:Array Bool}(g:hwx P n ops Q acts w O fuel listed l w):hwz P n ops Q acts [] fuel listed l w O:=by
  intro b e c d a h f _;have:b=listed:=Array.ext_getElem? λi=>c i λz hz=>(by cases hz);subst this;exact g d a h f
theorem Ok.cons{n c:Nat}{a:Act}{l:Env}{v:Value}(d:Ok n a l)(b:a.tmps.getD c undef=v):Ok n a ((c,v)::l):=⟨d.size,d.defers,λi u hu=>by
  simp only[lk]at hu;cases hb:Nat.beq c i with
  |true =>
    rw[hb]at hu;have:=F1 hb;subst this;rw[b];injection hu
  |false=>rw[hb]at hu;exact d.knows i u hu⟩
theorem XP{z:ZOp}{zs:List ZOp}{fuel:Nat}{listed:Array Bool}(hm:(zs.all (λy=>!(y.idx==z.idx))&&listed.getD z.idx false)=true)(h:∀v,z.F v w O→hwz P n ops Q acts zs fuel listed ((z.dst,v)::l) w O)(k:hwz P n ops Q acts zs (fuel+1) (listed.setIfInBounds z.idx false) l w O):hwz P n ops Q acts (z::zs) fuel listed l w O:=by
  intro b d e f a o j g;rw[N1]at hm;have m:∀y∈zs,y.idx≠z.idx:=λy hy=>(by have:=N6.1 hm.1 y hy;simpa using this);have hlt:z.idx<listed.size:=by
    rcases T9 z.idx listed.size with h|h
    . exact h
    . have:=hm.2;rw[B7,E6 h]at this;cases this
  have hl:listed[z.idx]?=some true:=by
    have:=hm.2;rw[B7]at this;rw[C7 hlt]at this ⊢;exact congrArg some this
  cases hb:b.getD z.idx true with
  |true =>
    have hr:b[z.idx]?=some true:=by
      rw[B7]at hb;rw[C7 (by omega)]at hb ⊢;exact congrArg some hb
    have:=h _ (g z K6 hb) b d (λi hi=>by
      by_cases c:z.idx=i
      . subst c;rw[hr,hl]
      . exact e i λy hy=>by
          rcases S0.1 hy with rfl|hy
          . exact c
          . exact hi y hy) f a o (j.cons rfl) λy hy=>g y (H0 _ hy)
    simpa[ZJ,hb]using this
  |false  =>
    have:=k b (by simpa using d) (λi hi=>by
      by_cases c:z.idx=i
      . subst c;rw[B0,if_pos hlt];rw[B7]at hb;rw[C7 (by omega)]at hb ⊢;exact congrArg some hb
      . rw[B1 c];exact e i λy hy=>by
          rcases S0.1 hy with rfl|hy
          . exact c
          . exact hi y hy) f a o j λy hy=>g y (H0 _ hy)
    simp only[ZJ,hb,if_true];rwa[show fuel+(1+ZJ zs b)=fuel+1+ZJ zs b from by omega]
theorem OZ{zs zs':List ZOp}{fuel m:Nat}{listed:Array Bool}{u:Nat->Value}{c:Env}{d:World}{e:Lab}{b:List Nat}(a:List (Nat×List Nat))(f:Env)  (g:St (·∈b) w O d e)
    (hl:AaJ (λz=>lk c z.dst=some (u z.dst)) zs') (hs:W4 c f) (i:hwz P n ops Q a zs' fuel (listed.setIfInBounds m true) f d e) (hk:Aar ops m zs=zs':=by kernel_rfl) (hc:(!b.contains 0&&(zs'.all λz=>!b.contains z.lab)&&(b.all λq=>(tcs acts (listed.setIfInBounds m true)).contains q)&&a.all (acts.contains ·))=true:=by kernel_rfl):owp P n ops (AaC (ZY P n ops Q acts zs fuel listed m u w O)) [] c d:=by
  subst hk;simp only[N1]at hc;obtain⟨⟨⟨h,h2⟩,h3⟩,h4⟩:=hc;exact GU ⟨e,b,a,f,g,⟨by simpa using h,h2,h3,h4⟩,hl,hs,i⟩
theorem Ju{b:List Oper}{Q:X0}(c:Env)(hs:W4 l c)(e:owp P n ops Q b c w):owp P n ops Q b l w:=λa f d=>e a f (d.sub hs)
theorem QE{l b:Env}(hs:W4 b l):∀{xs:List Operand}{vs:List Value},X5 l xs=some vs→X5 b xs=some vs
  |[],_,e=>e
  |x  :: r,vs,e=>by
    simp only[X5]at e ⊢;cases a:opv l x with
    |none=>rw[a]at e;cases e
    |some v =>
      rw[a]at e;have c:opv b x=some v:=by
        cases x with
        |tmp t=>exact Bn hs t v a
        |const u=>exact a
        |global g=>exact a
        |func f=>exact a
      rw[c];dsimp only at e ⊢;cases hr:X5 l r with
      |none=>rw[hr]at e;cases e
      |some d=>rw[hr]at e;rw[QE hs hr];exact e
end
abbrev ZV{α:Type}[Rp α](i d R:Nat)(e:TypeId)(len:Nat)(xs:List α):ZOp where
  idx:=i
  dst:=d
  lab:=R
  F v w O:=∃g,v=.slice (some ⟨g,0,none⟩) xs.length len/\Rw R w O e (.slice (some ⟨g,0,none⟩) xs.length len) xs
  st:=by
    rintro v w O w' O' ls ⟨g,rfl,h⟩ hS h0 hl;exact⟨g,rfl,h.st hS (by simpa using h0) (by simpa using hl)⟩
abbrev Aav(i d R:Nat)(t:TypeId)(cs:List Value):ZOp where
  idx:=i
  dst:=d
  lab:=R
  F v w O:=∃g,v=.pointer (some ⟨g,0,none⟩)/\Lc R w O g t cs
  st:=by
    rintro v w O w' O' ls ⟨g,rfl,h⟩ hS _ hl;exact⟨g,rfl,h.st hS (by simpa using hl)⟩
section
variable {P:Program}{n:Nat}{ops:Array Oper}{Q:X0}{acts:List (Nat × List Nat)}{w0:World}{O0:Lab}{l:Env}{w:World}{fuel:Nat}{listed:Array Bool}
theorem Nr{α:Type}[Rp α]{i m R:Nat}  {t e:TypeId} [TSlice P t e] {z:Value} {size bytes a:Nat} [TInfo P e z size bytes] {ps:List (Nat×Operand)} {vs:List Value} {xs:List α} {ty:TypeId} {pos:String} {aft:Array Edge} {c:Env} (b:size=Rp.size α) (f:ops[i]?=some ⟨some m,.buildSlice t a ps.toArray,ty,pos,aft,none⟩) (hk:Aac 0 ps=true) (h:X5 c (ps.map (·.2))=some vs) (d:a=xs.length)
    (j:∀w O,Vall w (Fr 0 w O) vs xs)   (hd:Nat.blt m n=true) (k:R≠0:=by decide) (hz:a*size<=16777216:=by decide) (hm:a<=9223372036854775807:=by decide):AaV P n ops (ZV i m R e a xs) c :=
  ⟨_,f,λ_ w O hs=>CW R (hi:=k) O b (hk:=hk) (QE hs h) d (j w O) (hz:=hz) (hm:=hm) (hd:=hd) λg w' l S o=>GU ⟨_,l,S,rfl,g,rfl,o⟩⟩
theorem Wx{i e R:Nat}{t:TypeId}{z:Value}{size bytes:Nat}[TInfo P t z size bytes]{ty:TypeId}{pos:String}{aft:Array Edge}{a:Env}{cs:List Value}(c:ops[i]?=some ⟨some e,.alloc t,ty,pos,aft,none⟩)(b:z.cells.toList=cs)(hd:Nat.blt e n=true):AaV P n ops (Aav i e R t cs) a:=by
  subst b;exact⟨_,c,λ_ _ O _=>BL R O (hd:=hd) λg w' d S f=>GU ⟨_,d,S,rfl,g,rfl,f⟩⟩
theorem Qi{z:ZOp}(a:Env)(b:AaV P n ops z a)(c:AaV P n ops z a->hwx P n ops Q acts w0 O0 fuel listed l w):hwx P n ops Q acts w0 O0 fuel listed l w:=c b
end
end
section
open Go Go.RowKit
attribute [local irreducible] ewp owp hwp hwq hws Ev Evg Fn W6 X7 X4 X1
structure Rsl where
  verdict:Int
  plan:List Int
  cost:Int
  expanded:Int
instance:Rp Rsl where
  isAgg:=true
  size:=4
  R w F cs x:=∃a,cs=[.int .i64 x.verdict,a,.int .i64 x.cost,.int .i64 x.expanded]/\Vb w F a x.plan/\W1 x.verdict/\W1 x.cost/\W1 x.expanded
  len:=by rintro w F cs x ⟨a,rfl,h0,h1,h2,h3⟩;rfl
  one:=by rintro w F cs x ⟨a,rfl,h0,h1,h2,h3⟩ u hu;simp at hu;rcases hu with rfl|rfl|rfl|rfl<;>first|rfl|exact Vb.one rfl (by assumption)
  agree:=by rintro w w' F cs x ⟨a,rfl,h0,h1,h2,h3⟩ ha;exact⟨a,rfl,h0.agree ha,h1,h2,h3⟩
  mono:=by rintro w F G cs x ⟨a,rfl,h0,h1,h2,h3⟩ ha;exact⟨a,rfl,h0.mono ha,h1,h2,h3⟩
instance:El Rsl λe d w O x G=>∀(a:Option Addr)(b:Nat),W1 x.verdict->W1 x.cost->W1 x.expanded->Al e (.V (.slice a x.plan.length b) x.plan :: .V (.agg #[(.int .i64 x.verdict),(.slice a x.plan.length b),(.int .i64 x.cost),(.int .i64 x.expanded)]) x::d) w O->G (.agg #[(.int .i64 x.verdict),(.slice a x.plan.length b),(.int .i64 x.cost),(.int .i64 x.expanded)]):=⟨λf g k=>by
  have c:=g;unfold Vb at c;obtain⟨cs,rfl,v1,rfl,h2,r5,r6,r7⟩:=c;obtain⟨a,b,rfl⟩:=h2.form;exact k a b r5 r6 r7 ⟨h2,g,f⟩⟩
noncomputable def Ic(f:Tsk)(g:List Int)(h:Int):Option ((List Int)×Err) :=
  bnd (if h<0 then(some true)else(if(f.ops.length:Int)<=h then(some true)else(some false)):Option Bool) λi=>if i=true then(some (([]:List Int),(⟨1⟩:Err)))else(bnd (IX f.vars g) λj=>if j=true then bnd (atI f.ops h) λk=>bnd (DJ k.pre g) λl=>if l=true then bnd (CM g) λm=>bnd (atI f.ops h) λn=>bnd (rng (ρ:=(List Int)×Err) (λ(p:Nat)(a:Eff)(b:(List Int))=>bnd (DJ a.cond g) λd=>if d=true then bnd (atI b a.var) λo=>some (.next (b.set (a.var:Int).toNat a.val))else some (.next b)) n.effs 0 m) λc=>fin c λ(e:(List Int))=>some (e,(⟨0⟩:Err))else some (([]:List Int),(⟨12⟩:Err))else some (([]:List Int),(⟨2⟩:Err)))
section
attribute [local irreducible] Vb Lc Rw Ob
theorem QF{w:World}{A:Nat->Prop}(hA:∀k,A k->k<w.heap.size){c:Value}{j:Tsk}(n:Vb w A c j){d:Value}{l:List Int}(l0:Vb w A d l){e:Int}(p:W1 e){r:(List Int)×Err}(hm:Ic j l e=some r) :
    Fn prog 66 [c,d,(.int .i64 e)] w λv w'=>Ext w w'/\T2 w' (upA A w w') v r:=by
 obtain⟨_,_,_⟩:=Db hA;apply CZ n;intros;apply CZ l0;intros;refine AG func66 rfl ntmps66 ?_;unfold Ic at hm;refine Aj (Ae (Gx 2 ?_));intros;refine Au rfl (Au rfl (o_z (Aj (BC (Aj (Dp (X:=Unit) hm [1,2,3] [] [] [] (λ_ _ f _ t=>(11,.bool f)::t) (λ_ _ _ _ t=>t) ?_ ?_))))))
 ·intro f a;refine Ae (Ar rfl (Cp rfl rfl (λg=>?_) λg=>?_))
  ·replace a:=ip a g;refine Ar rfl (Ay rfl rfl (Ay rfl rfl (Ay rfl rfl (Ay rfl rfl (Ay rfl rfl (AV rfl rfl (Au rfl (o_z ?_))))))));obtain rfl:=sm a;exact Bb ()
  replace a:=im a g;refine Ar rfl (Az rfl rfl (Ar rfl (Az rfl rfl (AJ rfl (Az rfl rfl (BN (Az rfl rfl (AO rfl (Az rfl rfl (Es rfl rfl (λh=>?_) λh=>?_))))))))))
  ·replace a:=ip a h;refine AS rfl rfl (Au rfl (o_z ?_));obtain rfl:=sm a;exact Bb ()
  replace a:=im a h;refine AS rfl rfl (Au rfl (o_z ?_));obtain rfl:=sm a;exact Bb ()
 intro f _ _ _ _ hm;intros;refine BP ?_;refine Bx rfl (λi=>?_) (λi=>?_)
 ·replace hm:=ip hm i;refine Aj (Ae (Da rfl (Au rfl (Au rfl (o_z (AD ?_))))));obtain rfl:=sm hm;exact Ge
 replace hm:=im' hm i;refine Aj (Ae (AJ rfl (BN (Ar rfl ?_))));obtain⟨q,n0,hm⟩:=bs hm;refine DE rfl (PV (λ_ G=>G) zA zA n0) ?_;intros;cases q
 case false =>
  replace hm:=iF hm;refine Cx rfl (Au rfl (o_z (Am rfl (Aj (Ae (Da rfl (Au rfl (Au rfl (o_z (AD ?_))))))))));obtain rfl:=sm hm;exact Ge
 replace hm:=iT hm;refine Cw rfl (Au rfl (o_z (Ah rfl (Aj (Ae (AJ rfl (BN (Ar rfl ?_))))))));obtain⟨x,w0,hm⟩:=bs hm;refine KA ?_;intros;refine AJ rfl (OT (Ar rfl ?_));obtain⟨s,p0,hm⟩:=bs hm;refine DE rfl (FX (λ_ G=>G) zA zA p0) ?_;intros;cases s
 case false =>
  replace hm:=iF hm;refine Cx rfl (Au rfl (o_z (Am rfl (Aj (Ae (Da rfl (Au rfl (Au rfl (o_z (AD ?_))))))))));obtain rfl:=sm hm;exact Ge
 replace hm:=iT hm;refine Cw rfl (Au rfl (o_z (Ah rfl (AE (Aj (Ae (Ar rfl ?_)))))));obtain⟨y,q0,hm⟩:=bs hm;refine UU 3 rfl (Fb Fr.lt zV q0) ?_;intros;refine Au rfl (o_z (Aj (Aj (Ae (AJ rfl (BN (Ar rfl ?_)))))));obtain⟨z0,a1,hm⟩:=bs hm;refine KA ?_;intros;refine AJ rfl (OT (AO rfl (Ar rfl (o_z ?_))));refine Fq (X:=Unit) hm [1,8,47] [] [3,4] [3] (λ_ _ _ _ t=>t) (λ_ o m _ t=>uR (o 3) 3 m::t) () ?_ ?_
 ·intro z B m _ _ _ _ b C _ D;intros;refine Aj (Ae (FW ?_));intros;refine Gp ?_;refine Cv 4 ?_;intros;refine BW ?_;intros;refine o_z (Aj (Ae (AJ rfl (BN (Ar rfl ?_)))));obtain⟨u,i0,b⟩:=bs b;refine DE rfl (FX (λ_ G=>G) zA zA i0) ?_;intros;cases u
  case false =>
   replace b:=iF b;refine o_z (Ah rfl (AE ?_));exact EI () b
  replace b:=iT b;refine o_z (Am rfl (Ae (Ar rfl (AJ rfl (BN (AJ rfl ?_))))));refine BN ?_;obtain⟨E,t0,b⟩:=bs b;refine KA ?_;intros;refine Qw ?_;intros;refine o_z ?_;exact EI () b
 intro F _ _ _ _ hm;intros;refine BP ?_;refine Aj (Ae (Ar rfl (Au rfl (Au rfl (o_z (AD (GP 3 ?_)))))));intros;obtain rfl:=sm hm;exact Ge
end
end
section
open Go Go.RowKit
attribute [local irreducible] ewp owp hwp hwq hws Ev Evg Fn W6 X7 X4 X1
attribute [local irreducible] hwx YW hwz ZY
structure Prt where
  op:Int
instance:Rp Prt where
  isAgg:=true
  size:=1
  R w F cs x:=cs=[.int .i64 x.op]/\W1 x.op
  len:=by rintro w F cs x ⟨rfl,h0⟩;rfl
  one:=by rintro w F cs x ⟨rfl,h0⟩ u hu;simp at hu;rcases hu with rfl<;>first|rfl|exact Vb.one rfl (by assumption)
  agree:=by rintro w w' F cs x ⟨rfl,h0⟩ ha;exact⟨rfl,h0⟩
  mono:=by rintro w F G cs x ⟨rfl,h0⟩ ha;exact⟨rfl,h0⟩
instance:Ec Prt λe a w O i b o x G=>W1 x.op->Al e (.C i b o [(.int .i64 x.op)] :: .V (.agg #[(.int .i64 x.op)]) x::a) w O->G:=⟨λ{_ _ _ _ _ _ _ x _ _} f c hc g k=>by
  have d:=Vb.ofAgg (x:=x) rfl g;obtain⟨rfl,r1⟩:=g;exact k r1 ⟨⟨c,hc⟩,d,f⟩⟩
noncomputable def Gh(a:Opr)(g:Int)(h:Int):Option Opr :=
  bnd (Bd a.pre) λb=>bnd (X6 16 b [(⟨g,h⟩:Fct)]) λc=>bnd (Dr a.effs) λd=>bnd (W5 (h+1)) λe=>bnd (X6 40 d [(⟨([]:List Fct),g,e⟩:Eff)]) λf=>some (⟨a.name,a.cost,c,f⟩:Opr)
theorem IY{w:World}{A:Nat->Prop}(hA:∀k,A k->k<w.heap.size){g:Value}{j:Opr}(C:Vb w A g j){c:Int}(h:W1 c){e:Int}(p:W1 e){r:Opr}(hm:Gh j c e=some r) :
    Fn prog 47 [g,(.int .i64 c),(.int .i64 e)] w λv w'=>Ext w w'/\Acr w w' (upA A w w') 59 v r:=by
 obtain⟨O,hB,r1⟩:=enter hA;obtain⟨T,rfl,v5,v6,rfl,h7,p0,t0,u0⟩:=id C;obtain⟨U,c9,rfl⟩:=h7.form;obtain⟨V,u1,rfl⟩:=p0.form;refine AG func47 rfl ntmps47 ?_;unfold Gh at hm;refine Aj (Ae (Ea 2 O rfl λW X D E b=>?_));refine BL 3 D λY Z F B d=>?_;refine o_z (Aj (Ae (AJ rfl ?_)));replace b:=b.st B;refine AL (hc:=Blk.cell (i:=2) (b.1) rfl) rfl ?_;obtain⟨a2,z0,hm⟩:=bs hm;replace hB:=(hB.st E).st B;refine DF 4 (O:=F) (Bt Fr.lt (h7.zs hA hB) z0) rfl λb2 c2 d2 e2 q G=>?_;refine Ar rfl (Ar rfl (CK rfl rfl ?_));obtain⟨H,s,hm⟩:=bs hm;obtain⟨s,c1,d1⟩:=Bw s;refine Dl rfl (a:=(⟨c,e⟩:Fct)) G (Vb.ofAgg (cs:=[(.int .i64 c),(.int .i64 e)]) (x:=(⟨c,e⟩:Fct)) rfl ⟨rfl,h,p⟩) (λ_=>rfl) rfl c1 d1 ⟨rfl,rfl⟩ λf2 I J g2 K t f=>?_;rw[<- s]at f ⊢;refine AJ rfl ?_;replace b:=(b.st q).st t;refine AR b rfl rfl rfl (Bg) (allOne) λh2 u b=>?_;refine o_z (Aj (Ae (AJ rfl (AL (hc:=Blk.cell (i:=3) (b.1) rfl) rfl ?_))));obtain⟨i2,h1,hm⟩:=bs hm;replace hB:=((hB.st q).st t).st u;refine DF 5 (O:=K) (Fo Fr.lt (p0.zs hA hB) h1) rfl λj2 k2 l2 m2 l L=>?_;refine Ar rfl (Ar rfl ?_);obtain⟨l0,r0,hm⟩:=bs hm;have M:=(Bh r0);refine DM (he:=r0) rfl rfl (CK rfl rfl ?_);obtain⟨N,y,hm⟩:=bs hm;obtain⟨y,l1,m1⟩:=Bw y;refine Dl rfl (a:=(⟨([]:List Fct),c,l0⟩:Eff)) L (Vb.ofAgg (cs:=[(.slice none 0 0),(.int .i64 c),(.int .i64 l0)]) (x:=(⟨([]:List Fct),c,l0⟩:Eff)) rfl ⟨_,rfl,(Vb.nil _ _),h,M⟩) (λ_=>rfl) rfl l1 m1 ⟨rfl,rfl⟩ λn2 P Q o2 p2 m n=>?_;rw[<- y]at n ⊢;refine AJ rfl ?_;replace b:=(b.st l).st m;refine AR b rfl rfl rfl (Bg) (allOne) λq2 o b=>?_;refine o_z (Aj (Ae (BE (hl:=rfl) (hc:=(b.1).cellsAt) rfl ?_)));replace d:=(((((d.st q).st t).st u).st l).st m).st o;refine AR d rfl rfl rfl (Bg) (allOne) λR z d=>?_;refine o_z (AD ?_);replace f:=((((f.st u).st l).st m).st o).st z;obtain⟨S,o0,f⟩:=f.freeze;obtain rfl:=sm hm;replace hB:=((((hB.st l).st m).st o).st z).st o0;replace d:=d.st o0;replace n:=((n.st o).st z).st o0;exact X2 rfl (CC (cs:=[(.string j.name),(.int .i64 j.cost),(.slice I H.length J),(.slice P N.length Q)]) rfl rfl d.1.cellsAt) ⟨hB.ext,Fr 0 R S,_,_,λk hk=>⟨hB.out k hk,hk.1⟩,rfl,f,t0,u0,n.outO hB (by decide)⟩
noncomputable def Fi(h:Tsk)(M:List ByteArray)(N:Int):Option (Tsk×(List Prt)×Err) :=
  bnd (CE h) λw=>if w.n≠0 then(some ((⟨([]:List Int),([]:List Int),([]:List Fct),([]:List Opr)⟩:Tsk),([]:List Prt),(⟨w.n⟩:Err)))else(bnd (if N<0 then(some true)else(if 1000<N then(some true)else(some false)):Option Bool) λO=>if O=true then(some ((⟨([]:List Int),([]:List Int),([]:List Fct),([]:List Opr)⟩:Tsk),([]:List Prt),(⟨1⟩:Err)))else(if 63<(M.length:Int)then(some ((⟨([]:List Int),([]:List Int),([]:List Fct),([]:List Opr)⟩:Tsk),([]:List Prt),(⟨5⟩:Err)))else(bnd (W5 ((M.length:Int)+1)) λP=>bnd (CM h.vars) λQ=>bnd (X6 8 Q ([P]:List Int)) λR=>bnd (CM h.init) λS=>bnd (X6 8 S ([0]:List Int)) λT=>bnd (Bd h.goal) λU=>bnd (X6 16 U ([(⟨(h.vars.length:Int),(M.length:Int)⟩:Fct)]:List Fct)) λV=>bnd (some (R,T,V):Option ((List Int)×(List Int)×(List Fct))) λc=>bnd (rng (ρ:=Tsk×(List Prt)×Err) (λ(x:Nat)(a:Opr)(m:(List Prt)×(List Opr))=>bnd (W5 (a.cost+N)) λy=>bnd (Bd a.pre) λz=>bnd (Dr a.effs) λA=>bnd (X6 72 m.2 [(⟨a.name,y,z,A⟩:Opr)]) λB=>bnd (X6 8 m.1 [(⟨(x:Int)⟩:Prt)]) λC=>some (.next (C,B))) h.ops 0 (([]:List Prt),([]:List Opr))) λi=>fin i λ(o:(List Prt)×(List Opr))=>bnd (rng (ρ:=Tsk×(List Prt)×Err) (λ(p:Nat)(D:ByteArray)(q:(List Prt)×(List Opr))=>bnd (rng (ρ:=Ctl ((List Prt)×(List Opr)) (Tsk×(List Prt)×Err)) (λ(E:Nat)(r:Opr)(b:(List Prt)×(List Opr))=>if r.name=D then(bnd (Gh r (h.vars.length:Int) (p:Int)) λF=>bnd (X6 72 b.2 [F]) λG=>bnd (X6 8 b.1 [(⟨(E:Int)⟩:Prt)]) λH=>some (.next (H,G)))else(some (.next (b.1,b.2)))) h.ops 0 (q.1,q.2)) λj=>fin j λ(s:(List Prt)×(List Opr))=>bnd (Gh (⟨(⟨#[]⟩:ByteArray),N,([]:List Fct),([]:List Eff)⟩:Opr) (h.vars.length:Int) (p:Int)) λI=>bnd (X6 72 s.2 [I]) λd=>bnd (X6 8 s.1 [(⟨(-1)⟩:Prt)]) λt=>if 4096<(d.length:Int)then(some (.brk (t,d)))else(some (.next (t,d)))) M 0 (o.1,o.2)) λk=>fin k λ(e:(List Prt)×(List Opr))=>bnd (Zb (ρ:=Tsk×(List Prt)×Err) (λ(f:Nat)(g:(List Opr))=>bnd (g[f]?) λJ=>bnd (Fg J.effs) λK=>bnd (g[f]?) λL=>some (.next (g.set f ({ L with effs:=K }:Opr)))) e.2.length e.2) λl=>fin l λ(u:(List Opr))=>bnd (CE (⟨c.1,c.2.1,c.2.2,u⟩:Tsk)) λv=>if v.n≠0 then(some ((⟨([]:List Int),([]:List Int),([]:List Fct),([]:List Opr)⟩:Tsk),([]:List Prt),(⟨v.n⟩:Err)))else(some ((⟨c.1,c.2.1,c.2.2,u⟩:Tsk),e.1,(⟨0⟩:Err))))))
set_option maxHeartbeats 1000000 in
theorem JO{w:World}{A:Nat->Prop}(hA:∀k,A k->k<w.heap.size){ba:Value}{c:Tsk}(oG:Vb w A ba c){ca:Value}{n:List ByteArray}(m7:Vb w A ca n){q:Int}(da:W1 q){r:Tsk×(List Prt)×Err}(hm:Fi c n q=some r) :
    Fn prog 18 [ba,ca,(.int .i64 q)] w λv w'=>Ext w w'/\T3 w' (upA A w w') v r:=by
 obtain⟨O,hB,dO⟩:=enter hA;obtain⟨eO,rfl,v5,v6,v7,v8,rfl,h9,pG,qG,n7⟩:=id oG;obtain⟨p5,q5,rfl⟩:=h9.form;obtain⟨P,o3,rfl⟩:=pG.form;obtain⟨B,i2,rfl⟩:=qG.form;obtain⟨r5,s5,rfl⟩:=n7.form;obtain⟨u,d2,rfl⟩:=m7.form;refine AG func18 rfl ntmps18 ?_;unfold Fi at hm;refine Aj (Ae (Ea 2 O rfl λs fO lH mH l0=>?_));refine BL 3 lH λo nH rG sG l=>?_;refine Au rfl (Au rfl (o_z (Aj (Aj (Ae ?_)))));replace l0:=l0.st sG;refine BE (hl:=rfl) (hc:=(l0.1).cellsAt) rfl ?_;obtain⟨gO,oH,hm⟩:=bs hm;replace hB:=(hB.st mH).st sG;refine BO (O:=rG) (FY (λ_ h=>h) (Vb.mono (F:=Fr 0 nH rG) (oG.zs hA hB) Fr.lt) oH) rfl λhO iO tG E pH=>?_;obtain⟨rfl,qH⟩:=pH.err;refine Au rfl (o_z (Aj (Ae (Ar rfl (Cy rfl (λlB=>?_) λlB=>?_)))))
 ·replace hm:=ip hm lB;refine o_z (Am rfl (Aj (Ae (CK rfl rfl ?_))));refine ac ?_;replace l:=l.st E;refine AR l rfl rfl rfl (Bg) (allOne) λuG rH l=>?_;refine Au rfl (Au rfl (o_z (AD ?_)));obtain rfl:=sm hm;replace hB:=(hB.st E).st rH;exact ZG rfl (CC (cs:=[(.slice none 0 0),(.slice none 0 0),(.slice none 0 0),(.slice none 0 0)]) rfl rfl l.1.cellsAt) (AC rfl) (AC rfl) ⟨hB.ext,_,_,_,rfl,(Vb.mono (F:=Fr 0 uG tG) (Vb.ofAgg (cs:=[(.slice none 0 0),(.slice none 0 0),(.slice none 0 0),(.slice none 0 0)]) (x:=(⟨([]:List Int),([]:List Int),([]:List Fct),([]:List Opr)⟩:Tsk)) rfl ⟨_,_,_,_,rfl,(Vb.nil _ _),(Vb.nil _ _),(Vb.nil _ _),(Vb.nil _ _)⟩) hB.out),(Vb.mono (F:=Fr 0 uG tG) (Vb.nil _ _) hB.out),(vErr qH)⟩
 replace hm:=im hm lB;refine o_z (Ah rfl (AE (Aj (Aj ?_))));obtain⟨sH,f1,hm⟩:=bs hm;refine Bc (λl' w'=>∃(tH:Unit) (g:Lab),W4 l' [(1,(.slice u n.length d2)),(2,(.int .i64 q)),(3,(.pointer (some ⟨s,0,none⟩))),(6,(.pointer (some ⟨o,0,none⟩))),(32,(.bool sH))]/\Bs w A w' g/\Lc 2 w' g s 26 [(.slice p5 c.vars.length q5),(.slice P c.init.length o3),(.slice B c.goal.length i2),(.slice r5 c.ops.length s5)]/\Lc 3 w' g o 26 [(.slice none 0 0),(.slice none 0 0),(.slice none 0 0),(.slice none 0 0)]) ?_ ?_
 ·refine Ae (Ar rfl (Cp rfl rfl (λmB=>?_) λmB=>?_))
  ·replace f1:=ip f1 mB;refine Ar rfl (Ay rfl rfl (Ay rfl rfl (AV rfl rfl (o_z ?_))));obtain rfl:=sm f1;exact⟨(),_,Ad,hB.st E,l0.st E,l.st E⟩
  replace f1:=im f1 mB;refine Ar rfl (Az rfl rfl (Ar rfl (Az rfl rfl (Cq rfl rfl (λnB=>?_) λnB=>?_))))
  ·replace f1:=ip f1 nB;refine AS rfl rfl (o_z ?_);obtain rfl:=sm f1;exact⟨(),_,Ad,hB.st E,l0.st E,l.st E⟩
  replace f1:=im f1 nB;refine AS rfl rfl (o_z ?_);obtain rfl:=sm f1;exact⟨(),_,Ad,hB.st E,l0.st E,l.st E⟩
 replace hB:=hB.st E;replace l0:=l0.st E;replace l:=l.st E;rintro jO kO ⟨tH,o7,oB,hB,l0,l⟩;refine AQ _ oB ?_;refine Bx rfl (λpB=>?_) (λpB=>?_)
 ·replace hm:=ip hm pB;refine Aj (Ae (CK rfl rfl ?_));refine Da rfl ?_;refine AR l rfl rfl rfl (Bg) (allOne) λvG uH l=>?_;refine Au rfl (Au rfl (o_z (AD ?_)));obtain rfl:=sm hm;replace hB:=hB.st uH;exact ZG rfl (CC (cs:=[(.slice none 0 0),(.slice none 0 0),(.slice none 0 0),(.slice none 0 0)]) rfl rfl l.1.cellsAt) (AC rfl) (AC rfl) ⟨hB.ext,_,_,_,rfl,(Vb.mono (F:=Fr 0 vG o7) (Vb.ofAgg (cs:=[(.slice none 0 0),(.slice none 0 0),(.slice none 0 0),(.slice none 0 0)]) (x:=(⟨([]:List Int),([]:List Int),([]:List Fct),([]:List Opr)⟩:Tsk)) rfl ⟨_,_,_,_,rfl,(Vb.nil _ _),(Vb.nil _ _),(Vb.nil _ _),(Vb.nil _ _)⟩) hB.out),(Vb.mono (F:=Fr 0 vG o7) (Vb.nil _ _) hB.out),(vErr (by decide))⟩
 replace hm:=im' hm pB;refine AE (Aj (Aj (Ae (Ar rfl (AO rfl ?_)))));have vH:=Bj m7.len;have lO:=rngNat vH;refine Cq rfl rfl (λqB=>?_) λqB=>?_
 ·replace hm:=ip hm qB;refine o_z (Am rfl (Aj (Ae (CK rfl rfl ?_))));refine Da rfl ?_;refine AR l rfl rfl rfl (Bg) (allOne) λwG wH l=>?_;refine Au rfl (Au rfl (o_z (AD ?_)));obtain rfl:=sm hm;replace hB:=hB.st wH;exact ZG rfl (CC (cs:=[(.slice none 0 0),(.slice none 0 0),(.slice none 0 0),(.slice none 0 0)]) rfl rfl l.1.cellsAt) (AC rfl) (AC rfl) ⟨hB.ext,_,_,_,rfl,(Vb.mono (F:=Fr 0 wG o7) (Vb.ofAgg (cs:=[(.slice none 0 0),(.slice none 0 0),(.slice none 0 0),(.slice none 0 0)]) (x:=(⟨([]:List Int),([]:List Int),([]:List Fct),([]:List Opr)⟩:Tsk)) rfl ⟨_,_,_,_,rfl,(Vb.nil _ _),(Vb.nil _ _),(Vb.nil _ _),(Vb.nil _ _)⟩) hB.out),(Vb.mono (F:=Fr 0 wG o7) (Vb.nil _ _) hB.out),(vErr (by decide))⟩
 replace hm:=im hm qB;refine o_z (Ah rfl (AE (Aj (Ae (AJ rfl (AL (hc:=Blk.cell (i:=0) (l0.1) rfl) rfl (AO rfl ?_)))))));have xH:=Bj h9.len;have bB:=rngNat xH;refine Au rfl (o_z (Aj ?_));obtain⟨V,xG,hm⟩:=bs hm;obtain⟨yG,yH,hm⟩:=bs hm;obtain⟨W,rB,hm⟩:=bs hm;obtain⟨zG,zH,hm⟩:=bs hm;obtain⟨p7,sB,hm⟩:=bs hm;obtain⟨aH,aI,hm⟩:=bs hm;obtain⟨bI,tB,hm⟩:=bs hm;obtain⟨e,q7,hm⟩:=bs hm;refine Bc (λl' w'=>∃(b:Nat×(Option Addr×Nat)×(Option Addr×Nat)×(Option Addr×Nat)) (g:Lab),W4 l' [(1,(.slice u n.length d2)),(2,(.int .i64 q)),(3,(.pointer (some ⟨s,0,none⟩))),(6,(.pointer (some ⟨o,0,none⟩))),(10,(.int .i64 (c.vars.length:Int))),(11,(.pointer (some ⟨b.1,0,none⟩)))]/\Bs w A w' g/\Lc 2 w' g s 26 [(.slice p5 c.vars.length q5),(.slice P c.init.length o3),(.slice B c.goal.length i2),(.slice r5 c.ops.length s5)]/\Lc 3 w' g o 26 [(.slice none 0 0),(.slice none 0 0),(.slice none 0 0),(.slice none 0 0)]/\Lc 7 w' g b.1 26 [(.slice b.2.1.1 e.1.length b.2.1.2),(.slice b.2.2.1.1 e.2.1.length b.2.2.1.2),(.slice b.2.2.2.1 e.2.2.length b.2.2.2.2),(.slice none 0 0)]/\Rw 8 w' g 3 (.slice b.2.1.1 e.1.length b.2.1.2) e.1/\Rw 9 w' g 3 (.slice b.2.2.1.1 e.2.1.length b.2.2.1.2) e.2.1/\Rw 10 w' g 61 (.slice b.2.2.2.1 e.2.2.length b.2.2.2.2) e.2.2) ?_ ?_
 ·refine Ck [(7,[8]),(12,[9]),(21,[10])] o7 ?_;refine Bl (fuel:=20) [] (Ci [0,1,3,4,5]) rfl (Be rfl rfl (Bz (hc:=CH l0 0 rfl) rfl rfl (AM rfl rfl (OK rfl rfl rfl ?_))));have cI:=Bj m7.len;have mO:=rngNat cI;have dI:=(Bh xG);refine Jh (he:=xG) rfl rfl rfl (AP ?_);refine Bl (fuel:=18) [8] (Ci [8,9]) rfl (Be rfl rfl (Bz (hc:=CH l0 1 rfl) rfl rfl (AP ?_)));refine Bl (fuel:=12) [8,9] (Ci [13,14,16,17,18,19]) rfl (Be rfl rfl (Bz (hc:=CH l0 2 rfl) rfl rfl (AM rfl rfl (AM rfl rfl (OK rfl rfl rfl ?_)))));have eI:=Bj m7.len;have fI:=rngNat eI;refine Nj rfl rfl rfl ?_;refine AP (Qi (z:=(ZV (α:=Int) 6 49 4 3 1 ([V]:List Int))) [(48,(.int .i64 V))] (Nr rfl rfl rfl rfl rfl (λ_ _=>⟨(vInt dI),trivial⟩) rfl) λr7=>?_);refine Qi (z:=(ZV (α:=Int) 11 54 5 3 1 ([0]:List Int))) [] (Nr rfl rfl rfl rfl rfl (λ_ _=>⟨(vInt (W3 0)),trivial⟩) rfl) λe4=>?_;refine Qi (z:=(ZV (α:=Fct) 20 63 6 61 1 ([(⟨(c.vars.length:Int),(n.length:Int)⟩:Fct)]:List Fct))) [(62,(.agg #[(.int .i64 (c.vars.length:Int)),(.int .i64 (n.length:Int))]))] (Nr rfl rfl rfl rfl rfl (λ_ _=>⟨(Vb.ofAgg (cs:=[(.int .i64 (c.vars.length:Int)),(.int .i64 (n.length:Int))]) (x:=(⟨(c.vars.length:Int),(n.length:Int)⟩:Fct)) rfl ⟨rfl,bB,fI⟩),trivial⟩) rfl) λw2=>?_;refine Qi (z:=(Aav 23 11 7 26 [(.slice none 0 0),(.slice none 0 0),(.slice none 0 0),(.slice none 0 0)])) [] (Wx rfl rfl rfl) λy2=>?_;refine Ww (zs:=[(ZV (α:=Int) 6 49 4 3 1 ([V]:List Int)),(ZV (α:=Int) 11 54 5 3 1 ([0]:List Int)),(ZV (α:=Fct) 20 63 6 61 1 ([(⟨(c.vars.length:Int),(n.length:Int)⟩:Fct)]:List Fct)),(Aav 23 11 7 26 [(.slice none 0 0),(.slice none 0 0),(.slice none 0 0),(.slice none 0 0)])]) (fuel:=8) [(1,(.slice u n.length d2)),(2,(.int .i64 q)),(3,(.pointer (some ⟨s,0,none⟩))),(6,(.pointer (some ⟨o,0,none⟩))),(10,(.int .i64 (c.vars.length:Int))),(44,(.slice p5 c.vars.length q5)),(48,(.int .i64 V)),(52,(.slice P c.init.length o3)),(57,(.slice B c.goal.length i2)),(62,(.agg #[(.int .i64 (c.vars.length:Int)),(.int .i64 (n.length:Int))]))] Eo rfl (by kernel_rfl) ?_;refine Jt (m:=2) rfl ⟨⟨_,r7,B3⟩,⟨_,e4,trivial⟩,⟨_,w2,B3⟩,⟨_,y2,trivial⟩,trivial⟩ λcB nO uB t5 bH=>?_;refine Ju [(1,(.slice u n.length d2)),(2,(.int .i64 q)),(3,(.pointer (some ⟨s,0,none⟩))),(6,(.pointer (some ⟨o,0,none⟩))),(10,(.int .i64 (c.vars.length:Int))),(11,(cB 11)),(44,(.slice p5 c.vars.length q5)),(48,(.int .i64 V)),(49,(cB 49)),(52,(.slice P c.init.length o3)),(54,(cB 54)),(57,(.slice B c.goal.length i2)),(62,(.agg #[(.int .i64 (c.vars.length:Int)),(.int .i64 (n.length:Int))])),(63,(cB 63))] G5 ?_;replace hB:=hB.st t5;refine DF 8 (O:=uB) (Fb Fr.lt (h9.zs hA hB) yH) rfl λs7 t7 gI hI f4 u5=>?_;have d:=lZ f4;refine OZ (zs':=[(ZV (α:=Int) 6 49 4 3 1 ([V]:List Int)),(ZV (α:=Int) 11 54 5 3 1 ([0]:List Int)),(ZV (α:=Fct) 20 63 6 61 1 ([(⟨(c.vars.length:Int),(n.length:Int)⟩:Fct)]:List Fct)),(Aav 23 11 7 26 [(.slice none 0 0),(.slice none 0 0),(.slice none 0 0),(.slice none 0 0)])]) [(7,[8]),(12,[9]),(21,[10])] [(1,(.slice u n.length d2)),(2,(.int .i64 q)),(3,(.pointer (some ⟨s,0,none⟩))),(6,(.pointer (some ⟨o,0,none⟩))),(10,(.int .i64 (c.vars.length:Int))),(45,(.slice s7 yG.length t7)),(48,(.int .i64 V)),(52,(.slice P c.init.length o3)),(57,(.slice B c.goal.length i2)),(62,(.agg #[(.int .i64 (c.vars.length:Int)),(.int .i64 (n.length:Int))]))] d A1 Eo ?_;refine Jt (m:=7) rfl ⟨⟨_,r7,B3⟩,⟨_,e4,trivial⟩,⟨_,w2,B3⟩,⟨_,y2,trivial⟩,trivial⟩ λw5 iI jI g4 u7=>?_;obtain⟨vB,wB,xB⟩:=u7.1 (by kernel_rfl);refine Ju [(1,(.slice u n.length d2)),(2,(.int .i64 q)),(3,(.pointer (some ⟨s,0,none⟩))),(6,(.pointer (some ⟨o,0,none⟩))),(10,(.int .i64 (c.vars.length:Int))),(11,(w5 11)),(45,(.slice s7 yG.length t7)),(48,(.int .i64 V)),(49,(.slice (some ⟨vB,0,none⟩) ([V]:List Int).length 1)),(52,(.slice P c.init.length o3)),(54,(w5 54)),(57,(.slice B c.goal.length i2)),(62,(.agg #[(.int .i64 (c.vars.length:Int)),(.int .i64 (n.length:Int))])),(63,(w5 63))] ⟨rfl,rfl,rfl,rfl,rfl,rfl,rfl,rfl,(congrArg some wB),rfl,rfl,rfl,rfl,rfl,trivial⟩ ?_;obtain⟨rB,yB,zB⟩:=Bw rB;replace u5:=u5.st g4;refine DH rfl u5 (xB.rd) rfl rfl yB zB λQ R kI lI h4 x5=>?_;rw[<- rB]at x5 ⊢;have d:=h4.lst [8] (λ_ h=>by cases h;decide);refine OZ (zs':=[(ZV (α:=Int) 11 54 5 3 1 ([0]:List Int)),(ZV (α:=Fct) 20 63 6 61 1 ([(⟨(c.vars.length:Int),(n.length:Int)⟩:Fct)]:List Fct)),(Aav 23 11 7 26 [(.slice none 0 0),(.slice none 0 0),(.slice none 0 0),(.slice none 0 0)])]) [(12,[9]),(21,[10])] [(1,(.slice u n.length d2)),(2,(.int .i64 q)),(3,(.pointer (some ⟨s,0,none⟩))),(6,(.pointer (some ⟨o,0,none⟩))),(10,(.int .i64 (c.vars.length:Int))),(50,(.slice Q W.length R)),(52,(.slice P c.init.length o3)),(57,(.slice B c.goal.length i2)),(62,(.agg #[(.int .i64 (c.vars.length:Int)),(.int .i64 (n.length:Int))]))] d B5 D5 ?_;refine Jt (m:=10) rfl ⟨⟨_,e4,trivial⟩,⟨_,w2,B3⟩,⟨_,y2,trivial⟩,trivial⟩ λy5 mI aC p3 cH=>?_;refine Ju [(1,(.slice u n.length d2)),(2,(.int .i64 q)),(3,(.pointer (some ⟨s,0,none⟩))),(6,(.pointer (some ⟨o,0,none⟩))),(10,(.int .i64 (c.vars.length:Int))),(11,(y5 11)),(50,(.slice Q W.length R)),(52,(.slice P c.init.length o3)),(54,(y5 54)),(57,(.slice B c.goal.length i2)),(62,(.agg #[(.int .i64 (c.vars.length:Int)),(.int .i64 (n.length:Int))])),(63,(y5 63))] G7 ?_;replace hB:=(((hB.st f4).st g4).st h4).st p3;refine DF 9 (O:=aC) (Fb Fr.lt (pG.zs hA hB) zH) rfl λw7 x7 nI oI z2 z5=>?_;have d:=lZ z2;refine OZ (zs':=[(ZV (α:=Int) 11 54 5 3 1 ([0]:List Int)),(ZV (α:=Fct) 20 63 6 61 1 ([(⟨(c.vars.length:Int),(n.length:Int)⟩:Fct)]:List Fct)),(Aav 23 11 7 26 [(.slice none 0 0),(.slice none 0 0),(.slice none 0 0),(.slice none 0 0)])]) [(12,[9]),(21,[10])] [(1,(.slice u n.length d2)),(2,(.int .i64 q)),(3,(.pointer (some ⟨s,0,none⟩))),(6,(.pointer (some ⟨o,0,none⟩))),(10,(.int .i64 (c.vars.length:Int))),(50,(.slice Q W.length R)),(53,(.slice w7 zG.length x7)),(57,(.slice B c.goal.length i2)),(62,(.agg #[(.int .i64 (c.vars.length:Int)),(.int .i64 (n.length:Int))]))] d B5 D5 ?_;refine Jt (m:=12) rfl ⟨⟨_,e4,trivial⟩,⟨_,w2,B3⟩,⟨_,y2,trivial⟩,trivial⟩ λy7 pI qI a3 z7=>?_;obtain⟨bC,cC,dC⟩:=z7.1 (by kernel_rfl);refine Ju [(1,(.slice u n.length d2)),(2,(.int .i64 q)),(3,(.pointer (some ⟨s,0,none⟩))),(6,(.pointer (some ⟨o,0,none⟩))),(10,(.int .i64 (c.vars.length:Int))),(11,(y7 11)),(50,(.slice Q W.length R)),(53,(.slice w7 zG.length x7)),(54,(.slice (some ⟨bC,0,none⟩) ([0]:List Int).length 1)),(57,(.slice B c.goal.length i2)),(62,(.agg #[(.int .i64 (c.vars.length:Int)),(.int .i64 (n.length:Int))])),(63,(y7 63))] ⟨rfl,rfl,rfl,rfl,rfl,rfl,rfl,rfl,(congrArg some cC),rfl,rfl,rfl,trivial⟩ ?_;obtain⟨sB,eC,fC⟩:=Bw sB;replace z5:=z5.st a3;refine DH rfl z5 (dC.rd) rfl rfl eC fC λj2 k2 rI sI b3 a6=>?_;rw[<- sB]at a6 ⊢;have d:=b3.lst [9] (λ_ h=>by cases h;decide);refine OZ (zs':=[(ZV (α:=Fct) 20 63 6 61 1 ([(⟨(c.vars.length:Int),(n.length:Int)⟩:Fct)]:List Fct)),(Aav 23 11 7 26 [(.slice none 0 0),(.slice none 0 0),(.slice none 0 0),(.slice none 0 0)])]) [(21,[10])] [(1,(.slice u n.length d2)),(2,(.int .i64 q)),(3,(.pointer (some ⟨s,0,none⟩))),(6,(.pointer (some ⟨o,0,none⟩))),(10,(.int .i64 (c.vars.length:Int))),(50,(.slice Q W.length R)),(55,(.slice j2 p7.length k2)),(57,(.slice B c.goal.length i2)),(62,(.agg #[(.int .i64 (c.vars.length:Int)),(.int .i64 (n.length:Int))]))] d D4 D5 ?_;refine Jt (m:=15) rfl ⟨⟨_,w2,B3⟩,⟨_,y2,trivial⟩,trivial⟩ λa8 tI gC l2 dH=>?_;refine Ju [(1,(.slice u n.length d2)),(2,(.int .i64 q)),(3,(.pointer (some ⟨s,0,none⟩))),(6,(.pointer (some ⟨o,0,none⟩))),(10,(.int .i64 (c.vars.length:Int))),(11,(a8 11)),(50,(.slice Q W.length R)),(55,(.slice j2 p7.length k2)),(57,(.slice B c.goal.length i2)),(62,(.agg #[(.int .i64 (c.vars.length:Int)),(.int .i64 (n.length:Int))])),(63,(a8 63))] G3 ?_;replace hB:=(((hB.st z2).st a3).st b3).st l2;refine DF 10 (O:=gC) (Bt Fr.lt (qG.zs hA hB) aI) rfl λb8 c8 uI vI Y b6=>?_;have d:=lZ Y;refine OZ (zs':=[(ZV (α:=Fct) 20 63 6 61 1 ([(⟨(c.vars.length:Int),(n.length:Int)⟩:Fct)]:List Fct)),(Aav 23 11 7 26 [(.slice none 0 0),(.slice none 0 0),(.slice none 0 0),(.slice none 0 0)])]) [(21,[10])] [(1,(.slice u n.length d2)),(2,(.int .i64 q)),(3,(.pointer (some ⟨s,0,none⟩))),(6,(.pointer (some ⟨o,0,none⟩))),(10,(.int .i64 (c.vars.length:Int))),(50,(.slice Q W.length R)),(55,(.slice j2 p7.length k2)),(58,(.slice b8 aH.length c8)),(62,(.agg #[(.int .i64 (c.vars.length:Int)),(.int .i64 (n.length:Int))]))] d D4 D5 ?_;refine Jt (m:=21) rfl ⟨⟨_,w2,B3⟩,⟨_,y2,trivial⟩,trivial⟩ λhC wI xI Z d8=>?_;obtain⟨iC,jC,kC⟩:=d8.1 (by kernel_rfl);refine Ju [(1,(.slice u n.length d2)),(2,(.int .i64 q)),(3,(.pointer (some ⟨s,0,none⟩))),(6,(.pointer (some ⟨o,0,none⟩))),(10,(.int .i64 (c.vars.length:Int))),(11,(hC 11)),(50,(.slice Q W.length R)),(55,(.slice j2 p7.length k2)),(58,(.slice b8 aH.length c8)),(62,(.agg #[(.int .i64 (c.vars.length:Int)),(.int .i64 (n.length:Int))])),(63,(.slice (some ⟨iC,0,none⟩) ([(⟨(c.vars.length:Int),(n.length:Int)⟩:Fct)]:List Fct).length 1))] ⟨rfl,rfl,rfl,rfl,rfl,rfl,rfl,rfl,rfl,rfl,(congrArg some jC),trivial⟩ ?_;obtain⟨tB,lC,mC⟩:=Bw tB;replace b6:=b6.st Z;refine DH rfl b6 (kC.rd) rfl rfl lC mC λc6 d6 yI nC v1 e6=>?_;rw[<- tB]at e6 ⊢;have d:=v1.lst [10] (λ_ h=>by cases h;decide);refine OZ (zs':=[(Aav 23 11 7 26 [(.slice none 0 0),(.slice none 0 0),(.slice none 0 0),(.slice none 0 0)])]) [] [(1,(.slice u n.length d2)),(2,(.int .i64 q)),(3,(.pointer (some ⟨s,0,none⟩))),(6,(.pointer (some ⟨o,0,none⟩))),(10,(.int .i64 (c.vars.length:Int))),(50,(.slice Q W.length R)),(55,(.slice j2 p7.length k2)),(64,(.slice c6 bI.length d6))] d B3 D3 ?_;refine XP (by kernel_rfl) (λzI e8=>?_) ?_
  ·obtain⟨oC,rfl,f6⟩:=e8;refine TT ?_;refine Bl (fuel:=1) [] [(22,true)] rfl (Nj rfl rfl rfl ?_);refine AP (Bo (i:=24) rfl ?_);refine AR f6 rfl rfl rfl (Bg) (allOne) λaJ q3 f6=>?_;refine Gn (Dv ?_);obtain rfl:=sm q7;have g5:=(((((((((((t5.an f4).an g4).an h4).an p3).an z2).an a3).an b3).an l2).an Y).an Z).an v1).an q3;exact⟨(oC,(Q,R),(j2,k2),(c6,d6)),_,Af,(((hB.st Y).st Z).st v1).st q3,l0.st g5,l.st g5,f6,((((((((x5.st p3).st z2).st a3).st b3).st l2).st Y).st Z).st v1).st q3,((((a6.st l2).st Y).st Z).st v1).st q3,e6.st q3⟩
  ·refine TT ?_;refine Bl (fuel:=2) [] [(22,true)] rfl (Nj rfl rfl rfl ?_);refine AP (Bo (i:=23) rfl ?_);refine BL 7 nC λpC bJ cJ c3 g6=>?_;have d:=lZ c3;refine CT [] d (Bo (i:=24) rfl ?_);refine AR g6 rfl rfl rfl (Bg) (allOne) λdJ r3 g6=>?_;refine Gn (Dv ?_);obtain rfl:=sm q7;have h5:=((((((((((((t5.an f4).an g4).an h4).an p3).an z2).an a3).an b3).an l2).an Y).an Z).an v1).an c3).an r3;exact⟨(pC,(Q,R),(j2,k2),(c6,d6)),_,Af,((((hB.st Y).st Z).st v1).st c3).st r3,l0.st h5,l.st h5,g6,(((((((((x5.st p3).st z2).st a3).st b3).st l2).st Y).st Z).st v1).st c3).st r3,(((((a6.st l2).st Y).st Z).st v1).st c3).st r3,(e6.st c3).st r3⟩
 rintro eJ fJ ⟨b,qC,f8,hB,l0,l,f,q0,m0,n0⟩;refine AQ _ f8 ?_;refine Aj (Ae (Au rfl (o_z (Aj (Aj (Ae (AJ rfl (AL (hc:=Blk.cell (i:=3) (l0.1) rfl) rfl (AO rfl ?_)))))))));have h6:=Bj n7.len;have gJ:=rngNat h6;refine Ar rfl (o_z ?_);obtain⟨rC,g8,hm⟩:=bs hm;refine Dg (X:=(Option Addr×Nat)×(Option Addr×Nat)) (c.ops.length) g8 rfl h6 (λe2 S=>[(1,(.slice u n.length d2)),(2,(.int .i64 q)),(3,(.pointer (some ⟨s,0,none⟩))),(6,(.pointer (some ⟨o,0,none⟩))),(10,(.int .i64 (c.vars.length:Int))),(11,(.pointer (some ⟨b.1,0,none⟩))),(12,(.slice S.1.1 e2.1.length S.1.2)),(67,(.slice r5 c.ops.length s5))]) (λe2 S w'=>∃g:Lab,Bs w A w' g/\Lc 2 w' g s 26 [(.slice p5 c.vars.length q5),(.slice P c.init.length o3),(.slice B c.goal.length i2),(.slice r5 c.ops.length s5)]/\Lc 3 w' g o 26 [(.slice none 0 0),(.slice none 0 0),(.slice none 0 0),(.slice none 0 0)]/\Lc 7 w' g b.1 26 [(.slice b.2.1.1 e.1.length b.2.1.2),(.slice b.2.2.1.1 e.2.1.length b.2.2.1.2),(.slice b.2.2.2.1 e.2.2.length b.2.2.2.2),(.slice S.2.1 e2.2.length S.2.2)]/\Rw 8 w' g 3 (.slice b.2.1.1 e.1.length b.2.1.2) e.1/\Rw 9 w' g 3 (.slice b.2.2.1.1 e.2.1.length b.2.2.1.2) e.2.1/\Rw 10 w' g 61 (.slice b.2.2.2.1 e.2.2.length b.2.2.2.2) e.2.2/\NR Eff 14 w' g 57 59 (.slice S.2.1 e2.2.length S.2.2) e2.2 none/\Rw 15 w' g 66 (.slice S.1.1 e2.1.length S.1.2) e2.1) ((none,0),(none,0)) ⟨qC,hB,l0,l,f,q0,m0,n0,(NR.nil 14 (by decide)),(Rw.nil 15 (by decide))⟩ Eo (λ_ _=>rfl) ?_ ?_
 ·rintro i6 h8 e2 S hJ eH i5 ⟨sC,hB,l0,l,f,q0,m0,n0,s3,t3⟩ i0 dB eB;have aa:=YV i5 h6;refine Aj (Ae (Ar rfl ?_));obtain⟨iJ,jJ,fH,i8,j8,k8,kJ,lJ,rfl,i4,j4,mJ,tC⟩:=(n7.zs hA hB).elem' i5;obtain⟨nJ,oJ,rfl⟩:=i4.form;obtain⟨pJ,qJ,rfl⟩:=j4.form;refine BA (hA:=i8) (hj:=rfl) (hlt:=j8) rfl rfl (BE (hl:=rfl) (hc:=k8) rfl ?_);refine BL 11 sC λrJ sJ l8 d3 G=>?_;refine Au rfl (AR G rfl rfl rfl (Bg) (allOne) λtJ e3 G=>?_);refine o_z (Aj (Ae (AJ rfl (AL (hc:=Blk.cell (i:=1) (G.1) rfl) rfl (Ar rfl ?_)))));obtain⟨m8,n8,i0⟩:=bs i0;have uC:=(Bh n8);refine DM (he:=n8) rfl rfl (AJ rfl ?_);refine AR G rfl rfl rfl (Bg) (allOne) λuJ f3 G=>?_;refine o_z (Aj ?_);refine Ck [(7,[11])] l8 ?_;refine Bl (fuel:=6) [] (Ci [0,1,3,4]) rfl (Be rfl rfl (Bz (hc:=CH G 2 rfl) rfl rfl (Be rfl rfl (Bz (hc:=CH G 3 rfl) rfl rfl (AP (Bo (i:=2) rfl ?_))))));obtain⟨o8,vC,i0⟩:=bs i0;replace i4:=((i4.st d3).st e3).st f3;refine DF 12 (O:=l8) (Bt Fr.lt i4 vC) rfl λwC xC vJ yC m2 u3=>?_;have d:=lZ m2;refine CT [(7,[11])] d ?_;refine Bl (fuel:=4) [] [(6,true)] rfl (Be rfl rfl (AP (Bo (i:=5) rfl ?_)));obtain⟨p8,zC,i0⟩:=bs i0;replace j4:=(((j4.st d3).st e3).st f3).st m2;refine DF 13 (O:=yC) (Fo Fr.lt j4 zC) rfl λaD bD wJ xJ n2 j6=>?_;have d:=lZ n2;refine CT [(7,[11])] d (Bo (i:=7) rfl ?_);replace G:=(G.st m2).st n2;refine AR G rfl rfl rfl (Bg) (allOne) λyJ o2 G=>?_;have d:=o2.lst [11] (λ_ h=>by cases h;decide);refine CT [] d ?_;refine Bl (fuel:=1) [] [(8,true)] rfl (Be rfl rfl (AP (Bo (i:=9) rfl ?_)));refine AR G rfl rfl rfl (Bg) (allOne) λzJ g3 G=>?_;refine Gn (Dv (Ae (AJ rfl ?_)));replace f:=((((((f.st d3).st e3).st f3).st m2).st n2).st o2).st g3;refine AL (hc:=Blk.cell (i:=3) (f.1) rfl) rfl (BE (hl:=rfl) (hc:=(G.1).cellsAt) rfl ?_);replace u3:=((u3.st n2).st o2).st g3;obtain⟨aK,v3,u3⟩:=u3.freeze;obtain⟨bK,k6,i0⟩:=bs i0;obtain⟨k6,cD,dD⟩:=Bw k6;replace s3:=(((((((s3.st d3).st e3).st f3).st m2).st n2).st o2).st g3).st v3;replace j6:=((j6.st o2).st g3).st v3;refine TS (β:=Eff) (j:=13) (cs:=[(.string h8.name),(.int .i64 m8),(.slice wC o8.length xC),(.slice aD p8.length bD)]) (a:=(⟨h8.name,m8,o8,p8⟩:Opr)) rfl rfl s3 rfl rfl (by first|exact allOne|simp[Value.oneCell',GO]) ⟨_,_,rfl,u3,(Vb.nil _ _),uC,tC⟩ rfl j6 (by decide) (λ_=>rfl) rfl (by decide) (by decide) cD dD ⟨rfl,rfl⟩ λcK eD fD dK eK l6 q8=>?_;rw[<- k6]at q8 ⊢;refine Ar rfl (Ar rfl (CK rfl rfl ?_));obtain⟨fK,m6,i0⟩:=bs i0;obtain⟨m6,gD,hD⟩:=Bw m6;replace t3:=((((((((t3.st d3).st e3).st f3).st m2).st n2).st o2).st g3).st v3).st l6;refine Dl rfl (a:=(⟨(i6:Int)⟩:Prt)) t3 (Vb.ofAgg (cs:=[(.int .i64 (i6:Int))]) (x:=(⟨(i6:Int)⟩:Prt)) rfl ⟨rfl,aa⟩) (λ_=>rfl) rfl gD hD ⟨rfl,rfl⟩ λgK iD jD hK iK n6 r8=>?_;rw[<- m6]at r8 ⊢;refine AJ rfl ?_;replace f:=((f.st v3).st l6).st n6;refine AR f rfl rfl rfl (Bg) (allOne) λjK o6 f=>?_;refine Au rfl (o_z ?_);obtain rfl:=sm i0;have n1:=(((((((((d3.an e3).an f3).an m2).an n2).an o2).an g3).an v3).an l6).an n6).an o6;exact show Exists _ from⟨_,((iD,jD),(eD,fD)),rfl,Eo,_,hB.st n1,l0.st n1,l.st n1,f,q0.st n1,m0.st n1,n0.st n1,(q8.st n6).st o6,r8.st o6⟩
 rintro kK lK ⟨mK,k4,rfl,s8,kD,hB,l0,l,f,q0,m0,n0,s3,t3⟩;replace hm:=AW hm;refine AQ _ s8 ?_;refine Aj (Aj (Ae (Ar rfl (AO rfl ?_))));have p6:=Bj m7.len;have nK:=rngNat p6;refine Ar rfl (o_z ?_);obtain⟨q6,t8,hm⟩:=bs hm;refine Bc (aft q6 (λ(y:(List Prt)×(List Opr))(p:(Option Addr×Nat)×(Option Addr×Nat))=>[(6,(.pointer (some ⟨o,0,none⟩))),(11,(.pointer (some ⟨b.1,0,none⟩))),(12,(.slice p.1.1 y.1.length p.1.2))]) (λy p w'=>∃g:Lab,Bs w A w' g/\Lc 3 w' g o 26 [(.slice none 0 0),(.slice none 0 0),(.slice none 0 0),(.slice none 0 0)]/\Lc 7 w' g b.1 26 [(.slice b.2.1.1 e.1.length b.2.1.2),(.slice b.2.2.1.1 e.2.1.length b.2.2.1.2),(.slice b.2.2.2.1 e.2.2.length b.2.2.2.2),(.slice p.2.1 y.2.length p.2.2)]/\Rw 8 w' g 3 (.slice b.2.1.1 e.1.length b.2.1.2) e.1/\Rw 9 w' g 3 (.slice b.2.2.1.1 e.2.1.length b.2.2.1.2) e.2.1/\Rw 10 w' g 61 (.slice b.2.2.2.1 e.2.2.length b.2.2.2.2) e.2.2/\NR Eff 14 w' g 57 59 (.slice p.2.1 y.2.length p.2.2) y.2 none/\Rw 15 w' g 66 (.slice p.1.1 y.1.length p.1.2) y.1)) ?_ ?_
 ·refine BC (KO (σ:=(List Prt)×(List Opr)) (X:=(Option Addr×Nat)×(Option Addr×Nat)) (n.length) t8 rfl p6 (λ(y:(List Prt)×(List Opr))(p:(Option Addr×Nat)×(Option Addr×Nat))=>[(2,(.int .i64 q)),(3,(.pointer (some ⟨s,0,none⟩))),(6,(.pointer (some ⟨o,0,none⟩))),(10,(.int .i64 (c.vars.length:Int))),(11,(.pointer (some ⟨b.1,0,none⟩))),(12,(.slice p.1.1 y.1.length p.1.2)),(99,(.slice u n.length d2))]) _ (λy p w'=>∃g:Lab,Bs w A w' g/\Lc 2 w' g s 26 [(.slice p5 c.vars.length q5),(.slice P c.init.length o3),(.slice B c.goal.length i2),(.slice r5 c.ops.length s5)]/\Lc 3 w' g o 26 [(.slice none 0 0),(.slice none 0 0),(.slice none 0 0),(.slice none 0 0)]/\Lc 7 w' g b.1 26 [(.slice b.2.1.1 e.1.length b.2.1.2),(.slice b.2.2.1.1 e.2.1.length b.2.2.1.2),(.slice b.2.2.2.1 e.2.2.length b.2.2.2.2),(.slice p.2.1 y.2.length p.2.2)]/\Rw 8 w' g 3 (.slice b.2.1.1 e.1.length b.2.1.2) e.1/\Rw 9 w' g 3 (.slice b.2.2.1.1 e.2.1.length b.2.2.1.2) e.2.1/\Rw 10 w' g 61 (.slice b.2.2.2.1 e.2.2.length b.2.2.2.2) e.2.2/\NR Eff 14 w' g 57 59 (.slice p.2.1 y.2.length p.2.2) y.2 none/\Rw 15 w' g 66 (.slice p.1.1 y.1.length p.1.2) y.1) _ ((k4.1.1,k4.1.2),(k4.2.1,k4.2.2)) ⟨kD,hB,l0,l,f,q0,m0,n0,s3,t3⟩ D5 (λ_ _=>⟨rfl,rfl⟩) (λ_ _=>B5) (λ_ _ _ ⟨g,hB,l0,l,f,q0,m0,n0,h3,z0⟩=>⟨g,hB,l,f,q0,m0,n0,h3,z0⟩) ⟨rfl,rfl,rfl⟩ ⟨rfl,rfl⟩ ?_);rintro u8 lD y p oK gH j5 ⟨mD,hB,l0,l,f,q0,m0,n0,h3,z0⟩ e0 fB l4;have C:=YV j5 p6;refine Aj (Ae (Ar rfl ?_));obtain⟨pK,qK,hH,w8,x8,y8,rfl,rK⟩:=(m7.zs hA hB).elem' j5;refine BA (hA:=w8) (hj:=rfl) (hlt:=x8) rfl rfl (AL (hc:=cat0 y8) rfl (Au rfl (Au rfl (o_z (Aj (Aj (Ae (AJ rfl (AL (hc:=Blk.cell (i:=3) (l0.1) rfl) rfl (AO rfl ?_))))))))));have r6:=Bj n7.len;have sK:=rngNat r6;refine Ar rfl (o_z ?_);obtain⟨nD,z8,e0⟩:=bs e0;refine Dg (X:=(Option Addr×Nat)×(Option Addr×Nat)) (c.ops.length) z8 rfl r6 (λf2 H=>[(2,(.int .i64 q)),(3,(.pointer (some ⟨s,0,none⟩))),(6,(.pointer (some ⟨o,0,none⟩))),(10,(.int .i64 (c.vars.length:Int))),(11,(.pointer (some ⟨b.1,0,none⟩))),(12,(.slice H.1.1 f2.1.length H.1.2)),(15,(.int .i64 (u8:Int))),(16,(.string lD)),(99,(.slice u n.length d2)),(100,(.int .i64 (n.length:Int))),(101,(.int .i64 (u8:Int))),(107,(.slice r5 c.ops.length s5))]) (λf2 H w'=>∃g:Lab,Bs w A w' g/\Lc 2 w' g s 26 [(.slice p5 c.vars.length q5),(.slice P c.init.length o3),(.slice B c.goal.length i2),(.slice r5 c.ops.length s5)]/\Lc 3 w' g o 26 [(.slice none 0 0),(.slice none 0 0),(.slice none 0 0),(.slice none 0 0)]/\Lc 7 w' g b.1 26 [(.slice b.2.1.1 e.1.length b.2.1.2),(.slice b.2.2.1.1 e.2.1.length b.2.2.1.2),(.slice b.2.2.2.1 e.2.2.length b.2.2.2.2),(.slice H.2.1 f2.2.length H.2.2)]/\Rw 8 w' g 3 (.slice b.2.1.1 e.1.length b.2.1.2) e.1/\Rw 9 w' g 3 (.slice b.2.2.1.1 e.2.1.length b.2.2.1.2) e.2.1/\Rw 10 w' g 61 (.slice b.2.2.2.1 e.2.2.length b.2.2.2.2) e.2.2/\NR Eff 14 w' g 57 59 (.slice H.2.1 f2.2.length H.2.2) f2.2 none/\Rw 15 w' g 66 (.slice H.1.1 f2.1.length H.1.2) f2.1) ((p.1.1,p.1.2),(p.2.1,p.2.2)) ⟨mD,hB,l0,l,f,q0,m0,n0,h3,z0⟩ G5 (λ_ _=>rfl) ?_ ?_
  ·rintro L T f2 H tK iH k5 ⟨oD,hB,l0,l,f,q0,m0,n0,j0,k0⟩ g0 gB iB;have t:=YV k5 r6;refine Aj (Ae (Ar rfl ?_));obtain⟨uK,vK,jH,a9,b9,c9,wK,xK,rfl,p2,q2,d9,e9⟩:=(n7.zs hA hB).elem' k5;obtain⟨f9,g9,rfl⟩:=p2.form;obtain⟨i9,j9,rfl⟩:=q2.form;refine BA (hA:=a9) (hj:=rfl) (hlt:=b9) rfl rfl (BE (hl:=rfl) (hc:=c9) rfl ?_);refine BL 16 oD λyK zK s6 I m4=>?_;refine Au rfl (AR m4 rfl rfl rfl (Bg) (allOne) λaL J m4=>?_);refine o_z (Aj (Ae (AJ rfl (AL (hc:=Blk.cell (i:=0) (m4.1) rfl) rfl (Ar rfl (Qh rfl rfl rfl (λt6=>?_) λt6=>?_))))))
   ·replace g0:=ip g0 t6;refine o_z (Am rfl ?_);obtain⟨D,k9,g0⟩:=bs g0;obtain⟨bL,M,g0⟩:=bs g0;obtain⟨cL,N,g0⟩:=bs g0;refine Ck [(6,[17]),(7,[14,18]),(12,[15]),(14,[7])] s6 ?_;refine Bl (fuel:=13) [] (Ci [2,3,4]) rfl (ID (hl:=rfl) (hb:=Qs m4) rfl rfl (AM rfl rfl (AM rfl rfl (AP ?_))));refine Bl (fuel:=11) [17] (Ci [0,1]) rfl (Be rfl rfl ?_);replace f:=(f.st I).st J;refine Bz (hc:=CH f 3 rfl) rfl rfl (AP ?_);refine Bl (fuel:=8) [14,17,18] (Ci [8,9,10]) rfl (AM rfl rfl (AM rfl rfl (Nj rfl rfl rfl ?_)));refine AP ?_;refine NW (i:=5) (j:=11) rfl rfl ?_ ?_
    ·replace p2:=(p2.st I).st J;replace q2:=(q2.st I).st J;refine Ll 17 (O:=s6) (IY Fr.lt (Vb.ofAgg (cs:=[(.string T.name),(.int .i64 T.cost),(.slice f9 T.pre.length g9),(.slice i9 T.effs.length j9)]) (x:=T) rfl ⟨_,_,rfl,p2,q2,d9,e9⟩) bB C k9) rfl rfl λl9 m9 n9 o9 dL pD K n4 p9 q9 o4=>?_;have d:=lZ K;refine CT [(6,[17]),(7,[14,18]),(12,[15]),(14,[7])] d ?_;refine NW (i:=6) (j:=11) rfl rfl ?_ ?_
     ·refine Km (β:=Eff) 18 (j:=17) (cs:=[(.string D.name),(.int .i64 D.cost),(.slice l9 D.pre.length m9),(.slice n9 D.effs.length o9)]) (a:=D) rfl rfl rfl rfl (by first|exact allOne|simp[Value.oneCell',GO]) ⟨_,_,rfl,n4,(Vb.nil _ _),p9,q9⟩ rfl o4 rfl rfl λeL fL qD w1 p4=>?_;have d:=w1.lst [17] (λ_ h=>by cases h;decide);refine CT [(7,[14,18]),(12,[15]),(14,[7])] d ?_;refine NW (i:=7) (j:=11) rfl rfl ?_ ?_
      ·obtain⟨M,rD,sD⟩:=Bw M;replace j0:=(((j0.st I).st J).st K).st w1;refine Ib rfl j0 p4 rfl rfl rD sD rfl λtD uD gL vD q4 r9=>?_;rw[<- M]at r9 ⊢;have d:=q4.lst [14,18] (by rintro _ (h|h)<;>cases h<;>decide);refine CT [(12,[15]),(14,[7])] d ?_;refine Bl (fuel:=4) [15] [(13,true)] rfl (Be rfl rfl (AP (Bo (i:=11) rfl ?_)));refine CW 19 vD (xs:=([(⟨(L:Int)⟩:Prt)]:List Prt)) rfl rfl rfl ⟨(Vb.ofAgg (cs:=[(.int .i64 (L:Int))]) (x:=(⟨(L:Int)⟩:Prt)) rfl ⟨rfl,t⟩),trivial⟩ λhL iL jL w3 wD=>?_;have d:=lZ w3;refine CT [(12,[15]),(14,[7])] d (Bo (i:=12) rfl ?_);obtain⟨N,xD,yD⟩:=Bw N;replace k0:=(((((k0.st I).st J).st K).st w1).st q4).st w3;refine DH rfl k0 (wD.rd) rfl rfl xD yD λzD aE kL lL r4 s9=>?_;rw[<- N]at s9 ⊢;have d:=r4.lst [15] (λ_ h=>by cases h;decide);refine CT [(14,[7])] d (Bo (i:=14) rfl ?_);replace f:=((((f.st K).st w1).st q4).st w3).st r4;refine AR f rfl rfl rfl (Bg) (allOne) λmL s4 f=>?_;have d:=s4.lst [7] (λ_ h=>by cases h;decide);refine CT [] d ?_;refine Bl (fuel:=0) [] [(15,true)] rfl (CY rfl rfl (AP (Dv ?_)));obtain rfl:=sm g0;have o1:=((((((I.an J).an K).an w1).an q4).an w3).an r4).an s4;exact show Exists _ from⟨_,((zD,aE),(tD,uD)),rfl,G5,_,hB.st o1,l0.st o1,l.st o1,f,q0.st o1,m0.st o1,n0.st o1,((r9.st w3).st r4).st s4,s9.st s4⟩
      refine CW 19 qD (xs:=([(⟨(L:Int)⟩:Prt)]:List Prt)) rfl rfl rfl ⟨(Vb.ofAgg (cs:=[(.int .i64 (L:Int))]) (x:=(⟨(L:Int)⟩:Prt)) rfl ⟨rfl,t⟩),trivial⟩ λnL oL pL i3 u6=>?_;have d:=lZ i3;refine CT [(7,[14,18]),(12,[15]),(14,[7])] d (Bo (i:=7) rfl ?_);obtain⟨M,bE,cE⟩:=Bw M;replace j0:=((((j0.st I).st J).st K).st w1).st i3;replace p4:=p4.st i3;refine Ib rfl j0 p4 rfl rfl bE cE rfl λdE eE qL rL x3 t9=>?_;rw[<- M]at t9 ⊢;have d:=x3.lst [14,18] (by rintro _ (h|h)<;>cases h<;>decide);refine CT [(12,[15]),(14,[7])] d ?_;refine Bl (fuel:=3) [15] [(13,true)] rfl (Be rfl rfl (AP (Bo (i:=12) rfl ?_)));obtain⟨N,fE,gE⟩:=Bw N;replace k0:=(((((k0.st I).st J).st K).st w1).st i3).st x3;replace u6:=u6.st x3;refine DH rfl k0 (u6.rd) rfl rfl fE gE λhE iE sL tL t4 u9=>?_;rw[<- N]at u9 ⊢;have d:=t4.lst [15] (λ_ h=>by cases h;decide);refine CT [(14,[7])] d (Bo (i:=14) rfl ?_);replace f:=((((f.st K).st w1).st i3).st x3).st t4;refine AR f rfl rfl rfl (Bg) (allOne) λuL u4 f=>?_;have d:=u4.lst [7] (λ_ h=>by cases h;decide);refine CT [] d ?_;refine Bl (fuel:=0) [] [(15,true)] rfl (CY rfl rfl (AP (Dv ?_)));obtain rfl:=sm g0;have p1:=((((((I.an J).an K).an w1).an i3).an x3).an t4).an u4;exact show Exists _ from⟨_,((hE,iE),(dE,eE)),rfl,G5,_,hB.st p1,l0.st p1,l.st p1,f,q0.st p1,m0.st p1,n0.st p1,(t9.st t4).st u4,u9.st u4⟩
     refine CW 19 pD (xs:=([(⟨(L:Int)⟩:Prt)]:List Prt)) rfl rfl rfl ⟨(Vb.ofAgg (cs:=[(.int .i64 (L:Int))]) (x:=(⟨(L:Int)⟩:Prt)) rfl ⟨rfl,t⟩),trivial⟩ λvL wL xL r2 w6=>?_;have d:=lZ r2;refine CT [(6,[17]),(7,[14,18]),(12,[15]),(14,[7])] d (Bo (i:=6) rfl ?_);replace n4:=n4.st r2;replace o4:=o4.st r2;refine Km (β:=Eff) 18 (j:=17) (cs:=[(.string D.name),(.int .i64 D.cost),(.slice l9 D.pre.length m9),(.slice n9 D.effs.length o9)]) (a:=D) rfl rfl rfl rfl (by first|exact allOne|simp[Value.oneCell',GO]) ⟨_,_,rfl,n4,(Vb.nil _ _),p9,q9⟩ rfl o4 rfl rfl λyL zL aM j3 jE=>?_;have d:=j3.lst [17] (λ_ h=>by cases h;decide);refine CT [(7,[14,18]),(12,[15]),(14,[7])] d (Bo (i:=7) rfl ?_);obtain⟨M,kE,lE⟩:=Bw M;replace j0:=((((j0.st I).st J).st K).st r2).st j3;refine Ib rfl j0 jE rfl rfl kE lE rfl λmE nE bM cM y3 v9=>?_;rw[<- M]at v9 ⊢;have d:=y3.lst [14,18] (by rintro _ (h|h)<;>cases h<;>decide);refine CT [(12,[15]),(14,[7])] d ?_;refine Bl (fuel:=3) [15] [(13,true)] rfl (Be rfl rfl (AP (Bo (i:=12) rfl ?_)));obtain⟨N,oE,pE⟩:=Bw N;replace k0:=(((((k0.st I).st J).st K).st r2).st j3).st y3;replace w6:=(w6.st j3).st y3;refine DH rfl k0 (w6.rd) rfl rfl oE pE λqE rE dM eM v4 w9=>?_;rw[<- N]at w9 ⊢;have d:=v4.lst [15] (λ_ h=>by cases h;decide);refine CT [(14,[7])] d (Bo (i:=14) rfl ?_);replace f:=((((f.st K).st r2).st j3).st y3).st v4;refine AR f rfl rfl rfl (Bg) (allOne) λfM w4 f=>?_;have d:=w4.lst [7] (λ_ h=>by cases h;decide);refine CT [] d ?_;refine Bl (fuel:=0) [] [(15,true)] rfl (CY rfl rfl (AP (Dv ?_)));obtain rfl:=sm g0;have q1:=((((((I.an J).an K).an r2).an j3).an y3).an v4).an w4;exact show Exists _ from⟨_,((qE,rE),(mE,nE)),rfl,G5,_,hB.st q1,l0.st q1,l.st q1,f,q0.st q1,m0.st q1,n0.st q1,(v9.st v4).st w4,w9.st w4⟩
    refine CW 19 s6 (xs:=([(⟨(L:Int)⟩:Prt)]:List Prt)) rfl rfl rfl ⟨(Vb.ofAgg (cs:=[(.int .i64 (L:Int))]) (x:=(⟨(L:Int)⟩:Prt)) rfl ⟨rfl,t⟩),trivial⟩ λgM hM sE x6 y6=>?_;have d:=lZ x6;refine CT [(6,[17]),(7,[14,18]),(12,[15]),(14,[7])] d (Bo (i:=5) rfl ?_);have z3:=(I.an J).an x6;replace p2:=p2.st z3;replace q2:=q2.st z3;refine Ll 17 (O:=sE) (IY Fr.lt (Vb.ofAgg (cs:=[(.string T.name),(.int .i64 T.cost),(.slice f9 T.pre.length g9),(.slice i9 T.effs.length j9)]) (x:=T) rfl ⟨_,_,rfl,p2,q2,d9,e9⟩) bB C k9) rfl rfl λtE uE vE wE iM jM x4 xE yE zE aF=>?_;have d:=lZ x4;refine CT [(6,[17]),(7,[14,18]),(12,[15]),(14,[7])] d (Bo (i:=6) rfl ?_);refine Km (β:=Eff) 18 (j:=17) (cs:=[(.string D.name),(.int .i64 D.cost),(.slice tE D.pre.length uE),(.slice vE D.effs.length wE)]) (a:=D) rfl rfl rfl rfl (by first|exact allOne|simp[Value.oneCell',GO]) ⟨_,_,rfl,xE,(Vb.nil _ _),yE,zE⟩ rfl aF rfl rfl λkM lM mM y4 bF=>?_;have d:=y4.lst [17] (λ_ h=>by cases h;decide);refine CT [(7,[14,18]),(12,[15]),(14,[7])] d (Bo (i:=7) rfl ?_);obtain⟨M,cF,dF⟩:=Bw M;have l5:=(z3.an x4).an y4;replace j0:=j0.st l5;refine Ib rfl j0 bF rfl rfl cF dF rfl λeF fF nM oM z4 x9=>?_;rw[<- M]at x9 ⊢;have d:=z4.lst [14,18] (by rintro _ (h|h)<;>cases h<;>decide);refine CT [(12,[15]),(14,[7])] d ?_;refine Bl (fuel:=3) [15] [(13,true)] rfl (Be rfl rfl (AP (Bo (i:=12) rfl ?_)));obtain⟨N,gF,hF⟩:=Bw N;have m5:=l5.an z4;replace k0:=k0.st m5;replace y6:=((y6.st x4).st y4).st z4;refine DH rfl k0 (y6.rd) rfl rfl gF hF λiF jF pM qM a5 y9=>?_;rw[<- N]at y9 ⊢;have d:=a5.lst [15] (λ_ h=>by cases h;decide);refine CT [(14,[7])] d (Bo (i:=14) rfl ?_);replace f:=((((f.st x6).st x4).st y4).st z4).st a5;refine AR f rfl rfl rfl (Bg) (allOne) λrM b5 f=>?_;have d:=b5.lst [7] (λ_ h=>by cases h;decide);refine CT [] d ?_;refine Bl (fuel:=0) [] [(15,true)] rfl (CY rfl rfl (AP (Dv ?_)));obtain rfl:=sm g0;have r1:=(m5.an a5).an b5;exact show Exists _ from⟨_,((iF,jF),(eF,fF)),rfl,G5,_,hB.st r1,l0.st r1,l.st r1,f,q0.st r1,m0.st r1,n0.st r1,(x9.st a5).st b5,y9.st b5⟩
   replace g0:=im g0 t6;refine o_z (Ah rfl (AE ?_));obtain rfl:=sm g0;have w0:=I.an J;exact show Exists _ from⟨_,((H.1.1,H.1.2),(H.2.1,H.2.2)),rfl,G5,_,hB.st w0,l0.st w0,l.st w0,f.st w0,q0.st w0,m0.st w0,n0.st w0,j0.st w0,k0.st w0⟩
  rintro sM tM ⟨uM,vM,rfl,z9,aA,hB,l0,l,f,q0,m0,n0,j0,k0⟩;replace e0:=AW e0;refine AQ _ z9 ?_;refine Aj (Ck [(7,[20]),(8,[14,21])] aA ?_);refine Bl (fuel:=7) [] (Ci [2,3,4,5]) rfl (AM rfl rfl (Nj rfl rfl rfl ?_));refine AM rfl rfl (AM rfl rfl (AP ?_));refine Bl (fuel:=5) [20] (Ci [0,1]) rfl (Be rfl rfl (Bz (hc:=CH f 3 rfl) rfl rfl (AP (Bo (i:=6) rfl ?_))));obtain⟨a4,kF,e0⟩:=bs e0;refine Ll 20 (O:=aA) (IY Fr.lt (Vb.ofAgg (cs:=[(.string (⟨#[]⟩:ByteArray)),(.int .i64 q),(.slice none 0 0),(.slice none 0 0)]) (x:=(⟨(⟨#[]⟩:ByteArray),q,([]:List Fct),([]:List Eff)⟩:Opr)) rfl ⟨_,_,rfl,(Vb.nil _ _),(Vb.nil _ _),da,(show(⟨#[]⟩:ByteArray).size<=9223372036854775807 from by decide)⟩) bB C kF) rfl rfl λlF mF nF oF wM xM k3 pF qF rF sF=>?_;have d:=lZ k3;refine CT [(7,[20]),(8,[14,21])] d (Bo (i:=7) rfl ?_);refine Km (β:=Eff) 21 (j:=20) (cs:=[(.string a4.name),(.int .i64 a4.cost),(.slice lF a4.pre.length mF),(.slice nF a4.effs.length oF)]) (a:=a4) rfl rfl rfl rfl (by first|exact allOne|simp[Value.oneCell',GO]) ⟨_,_,rfl,pF,(Vb.nil _ _),qF,rF⟩ rfl sF rfl rfl λyM zM aN l3 tF=>?_;have d:=l3.lst [20] (λ_ h=>by cases h;decide);refine CT [(8,[14,21])] d (Bo (i:=8) rfl ?_);obtain⟨bN,z6,e0⟩:=bs e0;obtain⟨z6,uF,vF⟩:=Bw z6;replace j0:=(j0.st k3).st l3;refine Ib rfl j0 tF rfl rfl uF vF rfl λbA cA cN dN b4 m3=>?_;rw[<- z6]at m3 ⊢;have d:=b4.lst [14,21] (by rintro _ (h|h)<;>cases h<;>decide);refine CT [] d ?_;refine Bl (fuel:=1) [] [(9,true)] rfl (Be rfl rfl (AP (Bo (i:=10) rfl ?_)));replace f:=((f.st k3).st l3).st b4;refine AR f rfl rfl rfl (Bg) (allOne) λeN c5 f=>?_;refine Gn (Dv (Aj (Ae (Ar rfl (CK rfl rfl ?_)))));obtain⟨fN,a7,e0⟩:=bs e0;obtain⟨a7,wF,xF⟩:=Bw a7;replace k0:=(((k0.st k3).st l3).st b4).st c5;refine Dl rfl (a:=(⟨(-1)⟩:Prt)) k0 (Vb.ofAgg (cs:=[(.int .i64 (-1))]) (x:=(⟨(-1)⟩:Prt)) rfl ⟨rfl,(W3 (-1))⟩) (λ_=>rfl) rfl wF xF ⟨rfl,rfl⟩ λgN dA eA hN iN d5 b7=>?_;rw[<- a7]at b7 ⊢;refine Au rfl (o_z (Aj (Ae (AJ rfl ?_))));replace f:=f.st d5;refine AL (hc:=Blk.cell (i:=3) (f.1) rfl) rfl (AO rfl ?_);replace m3:=(m3.st c5).st d5;have yF:=Bj m3.len;have jN:=rngNat yF;refine Cq rfl rfl (λc7=>?_) λc7=>?_
  ·replace e0:=ip e0 c7;refine o_z (Am rfl (Cl ?_));obtain rfl:=sm e0;have g2:=(((k3.an l3).an b4).an c5).an d5;exact show Exists _ from⟨_,((dA,eA),(bA,cA)),l4 _ rfl,B5,_,hB.st g2,l.st g2,f,q0.st g2,m0.st g2,n0.st g2,m3,b7⟩
  replace e0:=im e0 c7;refine o_z (Ah rfl (AE ?_));obtain rfl:=sm e0;have s1:=(((k3.an l3).an b4).an c5).an d5;exact show Exists _ from⟨_,((dA,eA),(bA,cA)),rfl,D5,_,hB.st s1,l0.st s1,l.st s1,f,q0.st s1,m0.st s1,n0.st s1,m3,b7⟩
 rintro kN lN ⟨U,p0,rfl,fA,zF,hB,l,f,q0,m0,n0,h3,z0⟩;replace hm:=AW hm;refine AQ _ fA ?_;refine Aj (Aj (Ae (AJ rfl (AL (hc:=Blk.cell (i:=3) (f.1) rfl) rfl (AO rfl ?_)))));have d7:=Bj h3.len;have mN:=rngNat d7;refine Ar rfl (o_z ?_);obtain⟨aG,gA,hm⟩:=bs hm;refine LO (X:=Unit) (U.2.length) gA d7 (λe5 iA=>[(6,(.pointer (some ⟨o,0,none⟩))),(11,(.pointer (some ⟨b.1,0,none⟩))),(12,(.slice p0.1.1 U.1.length p0.1.2))]) (λe5 iA w'=>∃g:Lab,Bs w A w' g/\Lc 3 w' g o 26 [(.slice none 0 0),(.slice none 0 0),(.slice none 0 0),(.slice none 0 0)]/\Lc 7 w' g b.1 26 [(.slice b.2.1.1 e.1.length b.2.1.2),(.slice b.2.2.1.1 e.2.1.length b.2.2.1.2),(.slice b.2.2.2.1 e.2.2.length b.2.2.2.2),(.slice p0.2.1 U.2.length p0.2.2)]/\Rw 8 w' g 3 (.slice b.2.1.1 e.1.length b.2.1.2) e.1/\Rw 9 w' g 3 (.slice b.2.2.1.1 e.2.1.length b.2.2.1.2) e.2.1/\Rw 10 w' g 61 (.slice b.2.2.2.1 e.2.2.length b.2.2.2.2) e.2.2/\NR Eff 14 w' g 57 59 (.slice p0.2.1 U.2.length p0.2.2) e5 none/\Rw 15 w' g 66 (.slice p0.1.1 U.1.length p0.1.2) U.1) () ⟨zF,hB,l,f,q0,m0,n0,h3,z0⟩ Ad (λ_ _=>rfl) ?_ ?_
 ·rintro bG e5 iA e7 kH jA ⟨kA,hB,l,f,q0,m0,n0,h0,z0⟩ i1 jB kB;have ea:=AaQ jA d7;refine Aj (Ae (Ar rfl (Au rfl (o_z ?_))));refine Ck [(9,[14,25])] kA ?_;refine Bl (fuel:=7) [] (Ci (FH 3 6)) rfl (Be rfl rfl (Bz (hc:=CH f 3 rfl) rfl rfl (AM rfl rfl ?_)));obtain⟨f5,f7,i1⟩:=bs i1;obtain⟨nN,oN,u2,lA⟩:=h0.at f7;refine CX (hA:=u2) (hj:=rfl) (hlt:=lA) rfl rfl rfl (Be rfl rfl ?_);obtain⟨mA,nA,n5,oA⟩:=NR.peek h0 u2 f7;replace oA:Vb e7 (FrS [14] e7 kA) (.slice mA f5.effs.length nA) f5.effs:=oA;refine Bz (hc:=λw' ⟨g,hq⟩=>NR.stay h0 u2 hq (by decide) n5) rfl rfl ?_;refine AP ?_;refine Bl (fuel:=4) [14,25] (Ci [0,1,2]) rfl (Be rfl rfl (Bz (hc:=CH f 3 rfl) rfl rfl (AM rfl rfl (AP (Bo (i:=9) rfl ?_)))));obtain⟨pA,qA,h0,g7⟩:=NR.take' h0 u2 f7 n5 25 (by decide) (by decide);replace g7:Rw 25 e7 pA 59 (.slice mA f5.effs.length nA) f5.effs:=g7;have d:=qA.lst [14] (λ_ h=>by cases h;decide);obtain⟨cG,dG,i1⟩:=bs i1;refine BM (O:=pA) (LF g7 dG) rfl λpN qN rN h7 eG=>?_;obtain⟨fG,rfl⟩:=eG;replace d:=d.cmp h7 [14,25] (λ_ h=>by cases h;decide) rfl;refine CT [] d ?_;refine Bl (fuel:=1) [] (Ci [10,11]) rfl ?_;obtain⟨rA,sA,i1⟩:=bs i1;replace h0:=h0.st h7;obtain⟨sN,tN,o5,tA⟩:=h0.at sA;refine CX (hA:=o5) (hj:=rfl) (hlt:=tA) rfl rfl rfl (Be rfl rfl (AP (Bo (i:=12) rfl ?_)));refine XO (a:=rA) (off:=3) h0 fG (by decide) o5 sA rfl rfl rfl rfl (by decide) λgG hG iG i7=>?_;replace i7:NR Eff 14 gG hG 57 59 (.slice p0.2.1 U.2.length p0.2.2) (e5.set bG ({ rA with effs:=cG }:Opr)) none:=i7;refine Gn (Dv ?_);obtain rfl:=sm i1;have j1:=(qA.an h7).an iG;exact show Exists _ from⟨_,(),rfl,Ad,_,hB.st j1,l.st j1,f.st j1,q0.st j1,m0.st j1,n0.st j1,i7,z0.st j1⟩
 rintro uN jG ⟨uA,vN,rfl,vA,wN,hB,l,f,q0,m0,n0,h0,z0⟩;replace hm:=AW hm;refine AQ _ vA ?_;refine Aj (Aj (Ae (BE (hl:=rfl) (hc:=(f.1).cellsAt) rfl ?_)));obtain⟨xN,y1,q0⟩:=q0.freeze;replace m0:=m0.st y1;obtain⟨yN,z1,m0⟩:=m0.freeze;replace n0:=(n0.st y1).st z1;obtain⟨zN,a2,n0⟩:=n0.freeze;replace h0:=((h0.st y1).st z1).st a2;obtain⟨wA,b2,h0⟩:=h0.freeze;obtain⟨aO,kG,hm⟩:=bs hm;replace q0:=((q0.st z1).st a2).st b2;replace m0:=(m0.st a2).st b2;replace n0:=n0.st b2;refine BO (O:=wA) (FY (λ_ h=>h) (Vb.mono (F:=Fr 0 jG wA) (Vb.ofAgg (cs:=[(.slice b.2.1.1 e.1.length b.2.1.2),(.slice b.2.2.1.1 e.2.1.length b.2.2.1.2),(.slice b.2.2.2.1 e.2.2.length b.2.2.2.2),(.slice p0.2.1 U.2.length p0.2.2)]) (x:=(⟨e.1,e.2.1,e.2.2,uA⟩:Tsk)) rfl ⟨_,_,_,_,rfl,q0,m0,n0,h0⟩) Fr.lt) kG) rfl λbO cO xA s2 lG=>?_;obtain⟨rfl,mG⟩:=lG.err;refine Au rfl (o_z (Aj (Ae (Ar rfl (Cy rfl (λj7=>?_) λj7=>?_)))))
 ·replace hm:=ip hm j7;refine o_z (Am rfl (Aj (Ae (CK rfl rfl ?_))));refine ac ?_;replace l:=((((l.st y1).st z1).st a2).st b2).st s2;refine AR l rfl rfl rfl (Bg) (allOne) λyA nG l=>?_;refine Au rfl (Au rfl (o_z (AD ?_)));obtain rfl:=sm hm;replace hB:=(((((hB.st y1).st z1).st a2).st b2).st s2).st nG;exact ZG rfl (CC (cs:=[(.slice none 0 0),(.slice none 0 0),(.slice none 0 0),(.slice none 0 0)]) rfl rfl l.1.cellsAt) (AC rfl) (AC rfl) ⟨hB.ext,_,_,_,rfl,(Vb.mono (F:=Fr 0 yA xA) (Vb.ofAgg (cs:=[(.slice none 0 0),(.slice none 0 0),(.slice none 0 0),(.slice none 0 0)]) (x:=(⟨([]:List Int),([]:List Int),([]:List Fct),([]:List Opr)⟩:Tsk)) rfl ⟨_,_,_,_,rfl,(Vb.nil _ _),(Vb.nil _ _),(Vb.nil _ _),(Vb.nil _ _)⟩) hB.out),(Vb.mono (F:=Fr 0 yA xA) (Vb.nil _ _) hB.out),(vErr mG)⟩
 replace hm:=im hm j7;refine o_z (Ah rfl (AE (Aj (Ae ?_))));replace f:=((((f.st y1).st z1).st a2).st b2).st s2;refine BE (hl:=rfl) (hc:=(f.1).cellsAt) rfl (Ar rfl ?_);replace l:=((((l.st y1).st z1).st a2).st b2).st s2;refine AR l rfl rfl rfl (Bg) (allOne) λzA k7 l=>?_;refine Au rfl (Au rfl (o_z (AD ?_)));replace z0:=(((((z0.st y1).st z1).st a2).st b2).st s2).st k7;obtain⟨aB,l7,z0⟩:=z0.freeze;obtain rfl:=sm hm;have v2:=(s2.an k7).an l7;replace hB:=((((((hB.st y1).st z1).st a2).st b2).st s2).st k7).st l7;replace l:=l.st l7;replace q0:=q0.st v2;replace m0:=m0.st v2;replace n0:=n0.st v2;replace h0:=h0.st v2;exact ZG rfl (CC (cs:=[(.slice b.2.1.1 e.1.length b.2.1.2),(.slice b.2.2.1.1 e.2.1.length b.2.2.1.2),(.slice b.2.2.2.1 e.2.2.length b.2.2.2.2),(.slice p0.2.1 U.2.length p0.2.2)]) rfl rfl l.1.cellsAt) (AC rfl) (AC rfl) ⟨hB.ext,_,_,_,rfl,(Vb.mono (F:=Fr 0 zA aB) (Vb.ofAgg (cs:=[(.slice b.2.1.1 e.1.length b.2.1.2),(.slice b.2.2.1.1 e.2.1.length b.2.2.1.2),(.slice b.2.2.2.1 e.2.2.length b.2.2.2.2),(.slice p0.2.1 U.2.length p0.2.2)]) (x:=(⟨e.1,e.2.1,e.2.2,uA⟩:Tsk)) rfl ⟨_,_,_,_,rfl,q0,m0,n0,h0⟩) hB.out),(Vb.mono (F:=Fr 0 zA aB) z0 hB.out),(vErr (W3 0))⟩
end
section
open Go Go.RowKit
attribute [local irreducible] ewp owp hwp hwq hws Ev Evg Fn W6 X7 X4 X1
attribute [local irreducible] hwx YW hwz ZY
structure Ngd where
  facts:List Fct
  dist:Int
instance:Rp Ngd where
  isAgg:=true
  size:=2
  R w F cs x:=∃a,cs=[a,.int .i64 x.dist]/\Vb w F a x.facts/\W1 x.dist
  len:=by rintro w F cs x ⟨a,rfl,h0,h1⟩;rfl
  one:=by rintro w F cs x ⟨a,rfl,h0,h1⟩ u hu;simp at hu;rcases hu with rfl|rfl<;>first|rfl|exact Vb.one rfl (by assumption)
  agree:=by rintro w w' F cs x ⟨a,rfl,h0,h1⟩ ha;exact⟨a,rfl,h0.agree ha,h1⟩
  mono:=by rintro w F G cs x ⟨a,rfl,h0,h1⟩ ha;exact⟨a,rfl,h0.mono ha,h1⟩
instance:Ec Ngd λh d w O i b o x G=>∀(a:Option Addr)(c:Nat),W1 x.dist->Al h (.C i b o [(.slice a x.facts.length c),(.int .i64 x.dist)] :: .V (.slice a x.facts.length c) x.facts :: .V (.agg #[(.slice a x.facts.length c),(.int .i64 x.dist)]) x::d) w O->G:=⟨λ{_ _ _ _ _ _ _ x _ _} j e hc l k=>by
  have f:=Vb.ofAgg (x:=x) rfl l;obtain⟨g,rfl,h2,r5⟩:=l;obtain⟨a,c,rfl⟩:=h2.form;exact k a c r5 ⟨⟨e,hc⟩,h2,f,j⟩⟩
structure Crt where
  bound:Int
  nogoods:List Ngd
instance:Rp Crt where
  isAgg:=true
  size:=2
  R w F cs x:=∃a,cs=[.int .i64 x.bound,a]/\Vb w F a x.nogoods/\W1 x.bound
  len:=by rintro w F cs x ⟨a,rfl,h0,h1⟩;rfl
  one:=by rintro w F cs x ⟨a,rfl,h0,h1⟩ u hu;simp at hu;rcases hu with rfl|rfl<;>first|rfl|exact Vb.one rfl (by assumption)
  agree:=by rintro w w' F cs x ⟨a,rfl,h0,h1⟩ ha;exact⟨a,rfl,h0.agree ha,h1⟩
  mono:=by rintro w F G cs x ⟨a,rfl,h0,h1⟩ ha;exact⟨a,rfl,h0.mono ha,h1⟩
instance:El Crt λe d w O x G=>∀(a:Option Addr)(b:Nat),W1 x.bound->Al e (.V (.slice a x.nogoods.length b) x.nogoods :: .V (.agg #[(.int .i64 x.bound),(.slice a x.nogoods.length b)]) x::d) w O->G (.agg #[(.int .i64 x.bound),(.slice a x.nogoods.length b)]):=⟨λf g k=>by
  have c:=g;unfold Vb at c;obtain⟨cs,rfl,v1,rfl,h2,r5⟩:=c;obtain⟨a,b,rfl⟩:=h2.form;exact k a b r5 ⟨h2,g,f⟩⟩
structure CEn where
  facts:List Fct
  dist:Int
  order:Int
instance:Rp CEn where
  isAgg:=true
  size:=3
  R w F cs x:=∃a,cs=[a,.int .i64 x.dist,.int .i64 x.order]/\Vb w F a x.facts/\W1 x.dist/\W1 x.order
  len:=by rintro w F cs x ⟨a,rfl,h0,h1,h2⟩;rfl
  one:=by rintro w F cs x ⟨a,rfl,h0,h1,h2⟩ u hu;simp at hu;rcases hu with rfl|rfl|rfl<;>first|rfl|exact Vb.one rfl (by assumption)
  agree:=by rintro w w' F cs x ⟨a,rfl,h0,h1,h2⟩ ha;exact⟨a,rfl,h0.agree ha,h1,h2⟩
  mono:=by rintro w F G cs x ⟨a,rfl,h0,h1,h2⟩ ha;exact⟨a,rfl,h0.mono ha,h1,h2⟩
instance:Ec CEn λh d w O i b o x G=>∀(a:Option Addr)(c:Nat),W1 x.dist->W1 x.order->Al h (.C i b o [(.slice a x.facts.length c),(.int .i64 x.dist),(.int .i64 x.order)] :: .V (.slice a x.facts.length c) x.facts :: .V (.agg #[(.slice a x.facts.length c),(.int .i64 x.dist),(.int .i64 x.order)]) x::d) w O->G:=⟨λ{_ _ _ _ _ _ _ x _ _} j e hc l k=>by
  have f:=Vb.ofAgg (x:=x) rfl l;obtain⟨g,rfl,h2,r5,r6⟩:=l;obtain⟨a,c,rfl⟩:=h2.form;exact k a c r5 r6 ⟨⟨e,hc⟩,h2,f,j⟩⟩
noncomputable def Cr(f:List Fct):Option Bool :=
  bnd (rng (ρ:=Bool) (λ(g:Nat)(a:Fct)(i:Unit)=>bnd (if a.var<0 then(some true)else(if a.val<0 then(some true)else(if 0<(g:Int)then(bnd (W5 ((g:Int)-1)) λc=>bnd (atI f c) λd=>if a.var<=d.var then(some true)else(some false))else(some false))):Option Bool) λe=>if e=true then(some (.ret false))else(some (.next ()))) f 0 ()) λb=>fin b λ(h:Unit)=>some true
section
attribute [local irreducible] Vb Lc Rw Ob
theorem EL{w:World}{A:Nat->Prop}(hA:∀k,A k->k<w.heap.size){c:Value}{j:List Fct}(l:Vb w A c j){r:Bool}(hm:Cr j=some r) :
    Fn prog 85 [c] w λv w'=>Ext w w'/\Vb w' (upA A w w') v r:=by
 obtain⟨_,_,_⟩:=Db hA;apply CZ l;intros;refine AG func85 rfl ntmps85 ?_;unfold Cr at hm;refine Aj (Ae (Au rfl (o_z (Aj (Aj (Ae (Ar rfl (AO rfl (Ar rfl (o_z (Fq (X:=Unit) hm [0,5] [] [2] [] (λ_ _ _ _ t=>t) (λ_ _ _ _ t=>t) () ?_ ?_)))))))))))
 ·intro n o p _ _ _ _ b q _ m;intros;refine Aj (Ae (Ar rfl (FW ?_)));intros;refine Gp ?_;refine Cv 2 ?_;intros;refine Au rfl (BW ?_);intros;refine o_z (Aj (Dp (X:=Unit) b [0,5,6,7] [] [] [] (λ_ _ d _ t=>(34,.bool d)::t) (λ_ _ _ _ t=>t) ?_ ?_))
  ·intro d a;refine Qy (Ci (FH 0 23)) ?_;refine Be rfl rfl (Ji rfl (GN rfl rfl rfl (λe=>?_) λe=>?_))
   ·replace a:=ip a e;refine AM rfl rfl (AN rfl rfl rfl (AN rfl rfl rfl (AN rfl rfl rfl (Dn rfl rfl rfl (AM rfl rfl (AN rfl rfl rfl (AN rfl rfl rfl (AN rfl rfl rfl (AN rfl rfl rfl (AN rfl rfl rfl (AN rfl rfl rfl (AN rfl rfl rfl (AN rfl rfl rfl (AN rfl rfl rfl ?_))))))))))))));refine AN rfl rfl rfl (AN rfl rfl rfl (AN rfl rfl rfl (AN rfl rfl rfl (Dn rfl rfl rfl (h_z ?_)))));obtain rfl:=sm a;exact Bb ()
   replace a:=im a e;refine AM rfl rfl (AB rfl (AA rfl rfl (Cu rfl (AB rfl (AA rfl rfl (Mx (AB rfl (AA rfl rfl (AY (λ_ _=>Do rfl rfl) (λf=>?_) (λf=>?_))))))))))
   ·replace a:=ip a f;refine CG rfl rfl rfl (AM rfl rfl (AN rfl rfl rfl (AN rfl rfl rfl (AN rfl rfl rfl (AN rfl rfl rfl (AN rfl rfl rfl (AN rfl rfl rfl (AN rfl rfl rfl (AN rfl rfl rfl (AN rfl rfl rfl (AN rfl rfl rfl (AN rfl rfl rfl (AN rfl rfl rfl (AN rfl rfl rfl ?_))))))))))))));refine Dn rfl rfl rfl (h_z ?_);obtain rfl:=sm a;exact Bb ()
   replace a:=im a f;refine CG rfl rfl rfl (AM rfl rfl (AB rfl (AA rfl rfl (BK rfl (AB rfl (AA rfl rfl (AY (λ_ _=>Gi rfl rfl) (λg=>?_) (λg=>?_))))))))
   ·replace a:=ip a g;refine AB rfl (AA rfl rfl (BK rfl (AB rfl (AA rfl rfl (BK rfl (AB rfl (AA rfl rfl (BK rfl (AB rfl (AA rfl rfl ?_))))))))));obtain⟨s,l0,a⟩:=bs a;refine Wa (he:=l0) rfl rfl rfl (AB rfl (AA rfl rfl ?_));obtain⟨u,p0,a⟩:=bs a;refine IH ?_;intros;refine AB rfl (AA rfl rfl (Cu rfl (AB rfl (AA rfl rfl (IG (AB rfl (AA rfl rfl (Cu rfl (AB rfl (AA rfl rfl ?_))))))))));refine Mx (AB rfl (AA rfl rfl (AY (λ_ _=>Bi rfl rfl) (λh=>?_) (λh=>?_))))
    ·replace a:=ip a h;refine AB rfl (AA rfl rfl (JF rfl rfl (CG rfl rfl rfl (h_z ?_))));obtain rfl:=sm a;exact Bb ()
    replace a:=im a h;refine AB rfl (AA rfl rfl (JF rfl rfl (CG rfl rfl rfl (h_z ?_))));obtain rfl:=sm a;exact Bb ()
   replace a:=im a g;refine AB rfl (AA rfl rfl (BK rfl (AN rfl rfl rfl (AN rfl rfl rfl (AN rfl rfl rfl (AN rfl rfl rfl (AN rfl rfl rfl (AN rfl rfl rfl (AN rfl rfl rfl (AN rfl rfl rfl (AN rfl rfl rfl (AB rfl (AA rfl rfl (Nk rfl rfl ?_))))))))))))));refine CG rfl rfl rfl (h_z ?_);obtain rfl:=sm a;exact Bb ()
  intro d _ _ _ _ b;intros;refine BP ?_;refine Bx rfl (λi=>?_) (λi=>?_)
  ·replace b:=ip b i;refine Aj (Ae (Au rfl (o_z (AD ?_))));obtain rfl:=sm b;obtain rfl:=m _ rfl;exact Ca
  replace b:=im' b i;refine AE ?_;exact EI () b
 intro x _ _ _ _ hm;intros;refine BP ?_;refine Aj (Ae (Au rfl (o_z (AD ?_))));obtain rfl:=sm hm;exact Ca
end
noncomputable def EA(c:List Fct)(d:Int):Option Int :=
  bnd (rng (ρ:=Int) (λ(e:Nat)(a:Fct)(g:Unit)=>if a.var=d then(some (.ret a.val))else(some (.next ()))) c 0 ()) λb=>fin b λ(f:Unit)=>some (-1)
section
attribute [local irreducible] Vb Lc Rw Ob
theorem KU{w:World}{A:Nat->Prop}(hA:∀k,A k->k<w.heap.size){b:Value}{e:List Fct}(f:Vb w A b e){c:Int}(g:W1 c){r:Int}(hm:EA e c=some r) :
    Fn prog 112 [b,(.int .i64 c)] w λv w'=>Ext w w'/\Vb w' (upA A w w') v r:=by
 obtain⟨_,_,_⟩:=Db hA;apply CZ f;intros;refine AG func112 rfl ntmps112 ?_;unfold EA at hm;refine Aj (Ae (Au rfl (o_z (Aj (Aj (Ae (Ar rfl (AO rfl (Ar rfl (o_z (Fq (X:=Unit) hm [1,7] [] [2] [] (λ_ _ _ _ t=>t) (λ_ _ _ _ t=>t) () ?_ ?_)))))))))))
 ·intro i j l _ _ _ _ a m _ h;intros;refine Aj (Ae (FW ?_));intros;refine Gp ?_;refine Cv 2 ?_;intros;refine BW ?_;intros;refine o_z (Aj (Ae (AJ rfl (BN (Ar rfl (EH rfl rfl (λd=>?_) λd=>?_))))))
  ·replace a:=ip a d;refine o_z (Am rfl (Aj (Ae (AJ rfl (BN (Au rfl (o_z (AD ?_))))))));obtain rfl:=sm a;obtain rfl:=h _ rfl;exact Ca
  replace a:=im a d;refine o_z (Ah rfl (AE ?_));exact EI () a
 intro n _ _ _ _ hm;intros;refine BP ?_;refine Aj (Ae (Au rfl (o_z (AD ?_))));obtain rfl:=sm hm;exact Ca
end
noncomputable def CF(d:List Fct)(e:List Fct):Option Bool :=
  bnd (rng (ρ:=Bool) (λ(f:Nat)(a:Fct)(g:Unit)=>bnd (EA d a.var) λc=>if c≠a.val then(some (.ret false))else(some (.next ()))) e 0 ()) λb=>fin b λ(h:Unit)=>some true
section
attribute [local irreducible] Vb Lc Rw Ob
theorem Hd{w:World}{A:Nat->Prop}(hA:∀k,A k->k<w.heap.size){b:Value}{e:List Fct}(g:Vb w A b e){c:Value}{f:List Fct}(h:Vb w A c f){r:Bool}(hm:CF e f=some r) :
    Fn prog 86 [b,c] w λv w'=>Ext w w'/\Vb w' (upA A w w') v r:=by
 obtain⟨_,_,_⟩:=Db hA;apply CZ g;intros;apply CZ h;intros;refine AG func86 rfl ntmps86 ?_;unfold CF at hm;refine Aj (Ae (Au rfl (o_z (Aj (Aj (Ae (Ar rfl (AO rfl (Ar rfl (o_z (Fq (X:=Unit) hm [0,7] [] [2] [] (λ_ _ _ _ t=>t) (λ_ _ _ _ t=>t) () ?_ ?_)))))))))))
 ·intro l m n _ _ _ _ a o _ j;intros;refine Aj (Ae (FW ?_));intros;refine Gp ?_;refine Cv 2 ?_;intros;refine BW ?_;intros;refine o_z (Aj (Tb [] ?_));refine Bl (fuel:=2) [] (Ci [0,1,2,4,5]) rfl (AM rfl rfl (Be rfl rfl (Ji rfl (Be rfl rfl ?_))));refine Ji rfl (AP (Bo (i:=3) rfl ?_));refine q_S [] ?_;intros;obtain⟨p,g0,a⟩:=bs a;refine DE rfl (KU (λ_ q=>q) zA zI g0) ?_;intros;refine GZ [] ?_;refine Bl (fuel:=0) [] [(6,true)] rfl (SR rfl rfl rfl rfl (λd=>?_) λd=>?_)
  ·replace a:=ip a d;refine AP (Dv (Am rfl (Aj (Ae (Au rfl (o_z (AD ?_)))))));obtain rfl:=sm a;obtain rfl:=j _ rfl;exact Ca
  replace a:=im a d;refine AP (Dv (Ah rfl (AE ?_)));exact EI () a
 intro l0 _ _ _ _ hm;intros;refine BP ?_;refine Aj (Ae (Au rfl (o_z (AD ?_))));obtain rfl:=sm hm;exact Ca
end
noncomputable def Fv(d:List Fct)(e:List Fct):Option Bool :=
  bnd (bnd (Cr d) λa=>if a=true then bnd (Cr e) λb=>if b=true then bnd (CF d e) λc=>if c=true then some true else some false else some false else some false:Option Bool) λf=>some f
section
attribute [local irreducible] Vb Lc Rw Ob
theorem LV{w:World}{A:Nat->Prop}(hA:∀k,A k->k<w.heap.size){b:Value}{e:List Fct}(g:Vb w A b e){c:Value}{f:List Fct}(h:Vb w A c f){r:Bool}(hm:Fv e f=some r) :
    Fn prog 57 [b,c] w λv w'=>Ext w w'/\Vb w' (upA A w w') v r:=by
 obtain⟨_,_,_⟩:=Db hA;apply CZ g;intros;apply CZ h;intros;refine AG func57 rfl ntmps57 ?_;unfold Fv at hm;refine Aj (Ae (Au rfl (o_z (Aj (Dp (X:=Unit) hm [] [] [] [] (λ_ _ d _ t=>(4,.bool d)::t) (λ_ _ _ _ t=>t) ?_ ?_)))))
 ·intro d a;refine Ae (Ar rfl ?_);obtain⟨i,e0,a⟩:=bs a;refine DE rfl (EL (λ_ m=>m) zA e0) ?_;intros;cases i
  case false =>
   replace a:=iF a;refine Ar rfl (Ay rfl rfl (Ay rfl rfl (AS rfl rfl (Ar rfl (Ay rfl rfl (Ay rfl rfl (Ay rfl rfl (AS rfl rfl (Au rfl (o_z ?_))))))))));obtain rfl:=sm a;exact Bb ()
  replace a:=iT a;refine Ar rfl (Az rfl rfl (Ar rfl (Az rfl rfl ?_)));obtain⟨j,g0,a⟩:=bs a;refine DE rfl (EL (λ_ m=>m) zA g0) ?_;intros;cases j
  case false =>
   replace a:=iF a;refine AV rfl rfl (Ar rfl (Ay rfl rfl (Ay rfl rfl (Ay rfl rfl (AS rfl rfl (Au rfl (o_z ?_)))))));obtain rfl:=sm a;exact Bb ()
  replace a:=iT a;refine AV rfl rfl (Ar rfl (Az rfl rfl (Ar rfl (Az rfl rfl (Ar rfl (Az rfl rfl ?_))))));obtain⟨l,i0,a⟩:=bs a;refine DE rfl (Hd (λ_ m=>m) zA zA i0) ?_;intros;cases l
  case false =>
   replace a:=iF a;refine AV rfl rfl (Au rfl (o_z ?_));obtain rfl:=sm a;exact Bb ()
  replace a:=iT a;refine AV rfl rfl (Au rfl (o_z ?_));obtain rfl:=sm a;exact Bb ()
 intro d _ _ _ _ hm;intros;refine BP ?_;refine AD ?_;obtain rfl:=sm hm;exact Ca
end
noncomputable def DV(e:List Fct)(f:List Fct):Option Bool :=
  bnd (rng (ρ:=Bool) (λ(g:Nat)(a:Fct)(h:Unit)=>bnd (EA e a.var) λb=>bnd (if 0<=b then(if b≠a.val then(some true)else(some false))else(some false):Option Bool) λd=>if d=true then(some (.ret true))else(some (.next ()))) f 0 ()) λc=>fin c λ(i:Unit)=>some false
section
attribute [local irreducible] Vb Lc Rw Ob
theorem LW{w:World}{A:Nat->Prop}(hA:∀k,A k->k<w.heap.size){c:Value}{i:List Fct}(l:Vb w A c i){d:Value}{j:List Fct}(m:Vb w A d j){r:Bool}(hm:DV i j=some r) :
    Fn prog 146 [c,d] w λv w'=>Ext w w'/\Vb w' (upA A w w') v r:=by
 obtain⟨_,_,_⟩:=Db hA;apply CZ l;intros;apply CZ m;intros;refine AG func146 rfl ntmps146 ?_;unfold DV at hm;refine Aj (Ae (Au rfl (o_z (Aj (Aj (Ae (Ar rfl (AO rfl (Ar rfl (o_z (Fq (X:=Unit) hm [0,8] [] [2] [] (λ_ _ _ _ t=>t) (λ_ _ _ _ t=>t) () ?_ ?_)))))))))))
 ·intro l0 o p _ _ _ _ b q _ n;intros;refine Aj (Ae (FW ?_));intros;refine Gp ?_;refine Cv 2 ?_;intros;refine BW ?_;intros;refine o_z (Aj (Ae (Ar rfl (AJ rfl (BN ?_)))));obtain⟨s,k0,b⟩:=bs b;refine DE rfl (KU (λ_ x=>x) zA zI k0) ?_;intros;refine Au rfl (o_z (Aj (Dp (X:=Unit) b [0,8,9,10] [] [] [] (λ_ _ e _ t=>(25,.bool e)::t) (λ_ _ _ _ t=>t) ?_ ?_)))
  ·intro e a;refine Ae (Ar rfl (Es rfl rfl (λf=>?_) λf=>?_))
   ·replace a:=ip a f;refine Ar rfl (Az rfl rfl (Ar rfl (Az rfl rfl (AJ rfl (Az rfl rfl (BN (Az rfl rfl (Gm rfl rfl (λg=>?_) λg=>?_))))))))
    ·replace a:=ip a g;refine AV rfl rfl (o_z ?_);obtain rfl:=sm a;exact Bb ()
    replace a:=im a g;refine AV rfl rfl (o_z ?_);obtain rfl:=sm a;exact Bb ()
   replace a:=im a f;refine Ar rfl (Ay rfl rfl (Ay rfl rfl (Ay rfl rfl (Ay rfl rfl (AS rfl rfl (o_z ?_))))));obtain rfl:=sm a;exact Bb ()
  intro e _ _ _ _ b;intros;refine BP ?_;refine Bx rfl (λh=>?_) (λh=>?_)
  ·replace b:=ip b h;refine Aj (Ae (Au rfl (o_z (AD ?_))));obtain rfl:=sm b;obtain rfl:=n _ rfl;exact Ca
  replace b:=im' b h;refine AE ?_;exact EI () b
 intro u _ _ _ _ hm;intros;refine BP ?_;refine Aj (Ae (Au rfl (o_z (AD ?_))));obtain rfl:=sm hm;exact Ca
end
noncomputable def FI(q:List (List Fct)):Option (List (List Fct)) :=
  bnd (rng (ρ:=(List (List Fct))) (λ(d:Nat)(a:List Fct)(k:(List (List Fct)))=>bnd (Cr a) λl=>if l=true then bnd (rng (ρ:=Ctl (List (List Fct)) (List (List Fct))) (λ(e:Nat)(b:List Fct)(m:Bool)=>bnd (if(d:Int)≠(e:Int)then(bnd (Cr b) λn=>if n=true then bnd (CF a b) λo=>if o=true then if(b.length:Int)<(a.length:Int)then(some true)else(if(e:Int)<(d:Int)then(some true)else(some false))else some false else some false)else(some false):Option Bool) λp=>if p=true then(some (.brk false))else(some (.next m))) q 0 true) λc=>fin c λ(f:Bool)=>if f=true then(bnd (Bd a) λg=>bnd (X6 24 k [g]) λh=>some (.next h))else(some (.next k))else some (.next k)) q 0 ([]:List (List Fct))) λi=>fin i λ(j:(List (List Fct)))=>some j
theorem MJ{w:World}{A:Nat->Prop}(hA:∀k,A k->k<w.heap.size){vx0:Value}{x0:List (List Fct)}(s0:Vb w A vx0 x0){r:(List (List Fct))}(hm:FI x0=some r) :
    Fn prog 59 [vx0] w λv w'=>Ext w w'/\RowR w w' (upA A w w') 23 v r:=by
 obtain⟨O,hB,s3⟩:=enter hA;obtain⟨A2,c3,rfl⟩:=s0.form;refine AG func59 rfl ntmps59 ?_;unfold FI at hm;refine Aj (Ae (Au rfl (o_z (Aj (Ae (Au rfl (o_z (Aj (Aj (Ae (Ar rfl (AO rfl ?_))))))))))));have l5:=Bj s0.len;have r4:=rngNat l5;refine Ar rfl (o_z ?_);obtain⟨b2,c2,hm⟩:=bs hm;refine Dg (X:=(Option Addr×Nat)) (x0.length) c2 rfl l5 (λs8 x9=>[(0,(.slice A2 x0.length c3)),(3,(.slice x9.1 s8.length x9.2)),(9,(.slice A2 x0.length c3))]) (λs8 x9 w'=>∃O':Lab,Bs w A w' O'/\Rw 3 w' O' 23 (.slice x9.1 s8.length x9.2) s8) (none,0) ⟨O,hB,(Rw.nil 3 (by decide))⟩ Ad (λ_ _=>rfl) ?_ ?_
 ·rintro t0 i0 s8 x9 t3 d2 u0 ⟨e2,hB,d0⟩ b0 e1 f1;have rk10:=YV u0 l5;refine Aj (Ae (Ar rfl ?_));obtain⟨u3,v3,f2,g1,h1,i1,w3,rfl,c0⟩:=(s0.zs hA hB).elem' u0;replace c0:=Vb.of_slice c0;obtain⟨q0,r0,rfl⟩:=c0.form;refine BA (hA:=g1) (hj:=rfl) (hlt:=h1) rfl rfl (AL (hc:=cat0 i1) rfl (Au rfl (Au rfl (o_z (Aj (Aj (Ae (Ar rfl ?_))))))));obtain⟨g2,h2,b0⟩:=bs b0;refine BO (O:=e2) (EL (λ_ h=>h) (vMo c0) h2) rfl λx3 y3 i2 j0 j2=>?_;obtain rfl:=j2.bool;cases g2
  case false =>
   replace b0:=iF b0;refine Cx rfl (o_z (Am rfl (Cl ?_)));obtain rfl:=sm b0;exact show Exists _ from⟨_,(x9.1,x9.2),rfl,Ad,_,hB.st j0,d0.st j0⟩
  replace b0:=iT b0;refine Cw rfl (o_z (Ah rfl (AE (Aj (Ae (Au rfl (o_z (Aj (Aj (Ae (Ar rfl (AO rfl ?_))))))))))));have j1:=Bj s0.len;have z3:=rngNat j1;refine Ar rfl (o_z ?_);obtain⟨v0,k1,b0⟩:=bs b0;refine Bc (aft v0 (λ(k0:Bool)(d1:Unit)=>[(0,(.slice A2 x0.length c3)),(3,(.slice x9.1 s8.length x9.2)),(5,(.slice q0 i0.length r0)),(6,(.bool k0)),(9,(.slice A2 x0.length c3)),(10,(.int .i64 (x0.length:Int))),(11,(.int .i64 (t0:Int)))]) (λk0 d1 w'=>∃O':Lab,Bs w A w' O'/\Rw 3 w' O' 23 (.slice x9.1 s8.length x9.2) s8/\Vb w' (Fr 0 w' O') (.slice q0 i0.length r0) i0)) ?_ ?_
  ·refine BC ?_;replace hB:=hB.st j0;replace d0:=d0.st j0;replace c0:=c0.st j0;refine KO (σ:=Bool) (X:=Unit) (x0.length) k1 rfl j1 (λ(k0:Bool)(d1:Unit)=>[(0,(.slice A2 x0.length c3)),(3,(.slice x9.1 s8.length x9.2)),(4,(.int .i64 (t0:Int))),(5,(.slice q0 i0.length r0)),(6,(.bool k0)),(9,(.slice A2 x0.length c3)),(10,(.int .i64 (x0.length:Int))),(11,(.int .i64 (t0:Int))),(19,(.slice A2 x0.length c3))]) _ (λk0 d1 w'=>∃O':Lab,Bs w A w' O'/\Rw 3 w' O' 23 (.slice x9.1 s8.length x9.2) s8/\Vb w' (Fr 0 w' O') (.slice q0 i0.length r0) i0) _ () ⟨i2,hB,d0,c0⟩ G3 (λ_ _=>⟨rfl,rfl⟩) (λ_ _=>D2) (λ_ _ _ ⟨O',hB,d0,c0⟩=>⟨O',hB,d0,c0⟩) ⟨rfl,rfl,rfl⟩ ⟨rfl,rfl⟩ ?_;rintro k2 a4 k0 d1 b4 l2 w0 ⟨m2,hB,d0,c0⟩ e0 l1 l0;have rk49:=YV w0 j1;refine Aj (Ae (Ar rfl ?_));obtain⟨c4,d4,n2,m1,n1,o1,e4,rfl,h0⟩:=(s0.zs hA hB).elem' w0;replace h0:=Vb.of_slice h0;obtain⟨f4,g4,rfl⟩:=h0.form;refine BA (hA:=m1) (hj:=rfl) (hlt:=n1) rfl rfl (AL (hc:=cat0 o1) rfl (Au rfl (Au rfl (o_z (Aj ?_)))));obtain⟨o2,a0,e0⟩:=bs e0;refine Bc (λl' w'=>∃(p2:Unit) (O':Lab),W4 l' [(0,(.slice A2 x0.length c3)),(3,(.slice x9.1 s8.length x9.2)),(4,(.int .i64 (t0:Int))),(5,(.slice q0 i0.length r0)),(6,(.bool k0)),(9,(.slice A2 x0.length c3)),(10,(.int .i64 (x0.length:Int))),(11,(.int .i64 (t0:Int))),(19,(.slice A2 x0.length c3)),(20,(.int .i64 (x0.length:Int))),(21,(.int .i64 (k2:Int))),(49,(.bool o2))]/\Bs w A w' O'/\Rw 3 w' O' 23 (.slice x9.1 s8.length x9.2) s8/\Vb w' (Fr 0 w' O') (.slice q0 i0.length r0) i0) ?_ ?_
   ·refine Ae (Ar rfl (Ar rfl (Gm rfl rfl (λp1=>?_) λp1=>?_)))
    ·replace a0:=ip a0 p1;refine Ar rfl (Az rfl rfl (Ar rfl (Az rfl rfl ?_)));obtain⟨q2,r2,a0⟩:=bs a0;refine BO (O:=m2) (EL (λ_ h=>h) (vMo h0) r2) rfl λh4 i4 s2 f0 t2=>?_;obtain rfl:=t2.bool;cases q2
     case false =>
      replace a0:=iF a0;refine AV rfl rfl (Ar rfl (Ay rfl rfl (Ay rfl rfl (Ay rfl rfl (AS rfl rfl (Ar rfl (Ay rfl rfl (Ay rfl rfl (Ay rfl rfl (Ay rfl rfl (Ay rfl rfl (Ay rfl rfl (Ay rfl rfl (Ay rfl rfl ?_))))))))))))));refine Ay rfl rfl (Ay rfl rfl (AS rfl rfl (o_z ?_)));obtain rfl:=sm a0;exact⟨(),_,G7,hB.st f0,d0.st f0,c0.st f0⟩
     replace a0:=iT a0;refine AV rfl rfl (Ar rfl (Az rfl rfl (Ar rfl (Az rfl rfl (Ar rfl (Az rfl rfl ?_))))));obtain⟨u2,v2,a0⟩:=bs a0;replace c0:=c0.st f0;replace h0:=h0.st f0;refine BO (O:=s2) (Hd (λ_ h=>h) (vMo c0) (vMo h0) v2) rfl λj4 k4 l4 g0 w2=>?_;obtain rfl:=w2.bool;cases u2
     case false =>
      replace a0:=iF a0;refine AV rfl rfl (Ar rfl (Ay rfl rfl (Ay rfl rfl (Ay rfl rfl (Ay rfl rfl (Ay rfl rfl (Ay rfl rfl (Ay rfl rfl (Ay rfl rfl (Ay rfl rfl (Ay rfl rfl (AS rfl rfl (o_z ?_)))))))))))));obtain rfl:=sm a0;exact⟨(),_,G7,(hB.st f0).st g0,(d0.st f0).st g0,c0.st g0⟩
     replace a0:=iT a0;refine AV rfl rfl (Ar rfl (Az rfl rfl (Ar rfl (Az rfl rfl (AO rfl ?_)))));replace h0:=h0.st g0;have x2:=Bj h0.len;have m4:=rngNat x2;refine Az rfl rfl (Ar rfl (Az rfl rfl (AO rfl ?_)));replace c0:=c0.st g0;have y2:=Bj c0.len;have n4:=rngNat y2;refine Az rfl rfl (Cp rfl rfl (λq1=>?_) λq1=>?_)
     ·replace a0:=ip a0 q1;refine Az rfl rfl (Ar rfl (Ay rfl rfl (Ay rfl rfl (Ay rfl rfl (Az rfl rfl (AV rfl rfl (AV rfl rfl (o_z ?_))))))));obtain rfl:=sm a0;exact⟨(),_,G7,(hB.st f0).st g0,(d0.st f0).st g0,c0⟩
     replace a0:=im a0 q1;refine Az rfl rfl (Ar rfl (Az rfl rfl (Ar rfl (Az rfl rfl (Ar rfl (Az rfl rfl (Cp rfl rfl (λr1=>?_) λr1=>?_)))))))
     ·replace a0:=ip a0 r1;refine Az rfl rfl (AS rfl rfl (AV rfl rfl (o_z ?_)));obtain rfl:=sm a0;exact⟨(),_,G7,(hB.st f0).st g0,(d0.st f0).st g0,c0⟩
     replace a0:=im a0 r1;refine Az rfl rfl (AS rfl rfl (AV rfl rfl (o_z ?_)));obtain rfl:=sm a0;exact⟨(),_,G7,(hB.st f0).st g0,(d0.st f0).st g0,c0⟩
    replace a0:=im a0 p1;refine Ar rfl (Ay rfl rfl (Ay rfl rfl (AS rfl rfl (Ar rfl (Ay rfl rfl (Ay rfl rfl (Ay rfl rfl (AS rfl rfl (Ar rfl (Ay rfl rfl (Ay rfl rfl (Ay rfl rfl (Ay rfl rfl (Ay rfl rfl ?_))))))))))))));refine Ay rfl rfl (Ay rfl rfl (Ay rfl rfl (Ay rfl rfl (Ay rfl rfl (AS rfl rfl (o_z ?_))))));obtain rfl:=sm a0;exact⟨(),_,G7,hB,d0,c0⟩
   rintro o4 p4 ⟨p2,q4,s1,hB,d0,c0⟩;refine AQ _ s1 ?_;refine Bx rfl (λm0=>?_) (λm0=>?_)
   ·replace e0:=ip e0 m0;refine Aj (Ae (Au rfl (o_z (Cl ?_))));obtain rfl:=sm e0;exact show Exists _ from⟨_,(),l0 _ rfl,D2,_,hB,d0,c0⟩
   replace e0:=im' e0 m0;refine AE ?_;obtain rfl:=sm e0;exact show Exists _ from⟨_,(),rfl,G3,_,hB,d0,c0⟩
  replace hB:=hB.st j0;replace d0:=d0.st j0;replace c0:=c0.st j0;rintro z2 a3 ⟨b3,d3,rfl,y0,t1,hB,d0,c0⟩;replace b0:=AW b0;refine AQ _ y0 ?_;refine Aj (Ae (Ar rfl (o_z (Bx rfl (λn0=>?_) (λn0=>?_)))))
  ·replace b0:=ip b0 n0;refine Ae (Ar rfl (Ar rfl ?_));obtain⟨u1,v1,b0⟩:=bs b0;refine DF 2 (O:=t1) (Bt Fr.lt c0 v1) rfl λe3 f3 g3 h3 z0 o0=>?_;obtain⟨i3,a1,o0⟩:=o0.freeze;obtain⟨j3,p0,b0⟩:=bs b0;obtain⟨p0,w1,x1⟩:=Bw p0;replace d0:=(d0.st z0).st a1;refine Dl rfl (a:=u1) d0 o0 (λ_=>rfl) rfl w1 x1 ⟨rfl,rfl⟩ λk3 y1 z1 l3 m3 a2 b1=>?_;rw[<- p0]at b1 ⊢;refine Au rfl (o_z ?_);obtain rfl:=sm b0;exact show Exists _ from⟨_,(y1,z1),rfl,Ad,_,((hB.st z0).st a1).st a2,b1⟩
  replace b0:=im' b0 n0;refine AE ?_;obtain rfl:=sm b0;exact show Exists _ from⟨_,(x9.1,x9.2),rfl,Ad,_,hB,d0⟩
 rintro n3 o3 ⟨p3,q3,rfl,c1,r3,hB,d0⟩;replace hm:=AW hm;refine AQ _ c1 ?_;refine Aj (Ae (Ar rfl (Au rfl (o_z (AD ?_)))));obtain rfl:=sm hm;exact X2 rfl (AC rfl) ⟨hB.ext,(d0.out hB (by decide))⟩
noncomputable def Ew(l:List Int)(m:Eff):Option ((List (List Fct))×Err) :=
  bnd (rng (ρ:=(List (List Fct))×Err) (λ(n:Nat)(a:Fct)(g:(List (List Fct)))=>bnd (atI l a.var) λh=>bnd (Aa0 h) λi=>bnd (Zb (ρ:=Ctl (List (List Fct)) ((List (List Fct))×Err)) (λ(d:Nat)(e:(List (List Fct)))=>if(d:Int)≠a.val then(bnd (X6 24 e [[(⟨a.var,(d:Int)⟩:Fct)]]) λj=>some (.next j))else(some (.next e))) i g) λb=>fin b λ(k:(List (List Fct)))=>some (.next k)) m.cond 0 ([]:List (List Fct))) λc=>fin c λ(f:(List (List Fct)))=>if 1024<(f.length:Int)then(some (([]:List (List Fct)),(⟨5⟩:Err)))else(some (f,(⟨0⟩:Err)))
section
attribute [local irreducible] Vb Lc Rw Ob
theorem JP{w:World}{A:Nat->Prop}(hA:∀k,A k->k<w.heap.size){b:Value}{l:List Int}(n:Vb w A b l){c:Value}{m:Eff}(l0:Vb w A c m){r:(List (List Fct))×Err}(hm:Ew l m=some r) :
    Fn prog 113 [b,c] w λv w'=>Ext w w'/\T2 w' (upA A w w') v r:=by
 obtain⟨_,_,_⟩:=Db hA;apply CZ n;intros;apply CZ l0;intros;refine AG func113 rfl ntmps113 ?_;unfold Ew at hm;refine Aj (Ae (Gx 2 ?_));intros;refine Au rfl (Au rfl (o_z (Aj (Ae (Au rfl (o_z (Aj (Aj (Ae (AJ rfl (BN (AO rfl (Ar rfl (o_z ?_))))))))))))));refine Fq (X:=(Option Addr×Nat)) hm [0,11] [] [3,4,5] [] (λ_ _ e g t=>(6,sv g e)::t) (λ_ _ e g t=>fR 5 23 g e::t) (_,_) ?_ ?_
 ·intro s o e _ _ _ _ d u _ x;intros;refine Aj (Ae (FW ?_));intros;refine Gp ?_;refine Cv 3 ?_;intros;refine BW ?_;intros;refine o_z (Aj (Ae (Ar rfl (AJ rfl (BN ?_)))));obtain⟨y,t0,d⟩:=bs d;refine KA ?_;intros;refine Le (Ar rfl (o_z ?_));refine XL (X:=(Option Addr×Nat)) d [0,8,11,12,13] [] [4,5] [] (λ_ _ f h t=>(6,sv h f)::t) (λ_ _ f h t=>fR 5 23 h f::t) (_,_) ?_ ?_
  ·intro p q f _ _ _ _ a _ _ _ z;intros;refine Aj (Ae (Ar rfl (Au rfl (o_z (Aj (Ae (Ar rfl (AJ rfl (BN (Gm rfl rfl (λi=>?_) λi=>?_))))))))))
   ·replace a:=ip a i;refine o_z (Am rfl (Ae (Ar rfl (AJ rfl (BN (Ar rfl (CK rfl rfl ?_)))))));refine GC 4 ([(⟨o.var,(q:Int)⟩:Fct)]:List Fct) ?_;intros;refine GP 4 ?_;intros;obtain⟨B,q0,a⟩:=bs a;refine YR q0 ?_;intros;refine Au rfl (o_z ?_);exact EI (_,_) a
   replace a:=im a i;refine o_z (Ah rfl (AE ?_));exact EI (_,_) a
  intro p C _ _ _ _ d;intros;exact EI (_,_) d
 intro D _ _ _ _ hm;intros;refine BP ?_;refine Aj (Aj (Ae (Ar rfl (AO rfl (Cq rfl rfl (λj=>?_) λj=>?_)))))
 ·replace hm:=ip hm j;refine o_z (Am rfl (Aj (Ae (Da rfl (Au rfl (Au rfl (o_z (AD ?_))))))));obtain rfl:=sm hm;exact Ge
 replace hm:=im hm j;refine o_z (Ah rfl (AE (Aj (Ae (Ar rfl (Au rfl (Au rfl (o_z (AD (GP 5 ?_))))))))));intros;obtain rfl:=sm hm;exact Ge
end
noncomputable def EM(f:List Fct):Option Bool :=
  bnd (rng (ρ:=Bool) (λ(g:Nat)(a:Fct)(i:Unit)=>bnd (if a.var<0 then(some true)else(if 64<=a.var then(some true)else(if a.val<0 then(some true)else(if 64<=a.val then(some true)else(if 0<(g:Int)then(bnd (W5 ((g:Int)-1)) λc=>bnd (atI f c) λd=>if a.var<=d.var then(some true)else(some false))else(some false))))):Option Bool) λe=>if e=true then(some (.ret false))else(some (.next ()))) f 0 ()) λb=>fin b λ(h:Unit)=>some true
section
attribute [local irreducible] Vb Lc Rw Ob
theorem Ln{w:World}{A:Nat->Prop}(hA:∀k,A k->k<w.heap.size){c:Value}{m:List Fct}(l0:Vb w A c m){r:Bool}(hm:EM m=some r) :
    Fn prog 108 [c] w λv w'=>Ext w w'/\Vb w' (upA A w w') v r:=by
 obtain⟨_,_,_⟩:=Db hA;apply CZ l0;intros;refine AG func108 rfl ntmps108 ?_;unfold EM at hm;refine Aj (Ae (Au rfl (o_z (Aj (Aj (Ae (Ar rfl (AO rfl (Ar rfl (o_z (Fq (X:=Unit) hm [0,5] [] [2] [] (λ_ _ _ _ t=>t) (λ_ _ _ _ t=>t) () ?_ ?_)))))))))))
 ·intro o p q _ _ _ _ b s _ n;intros;refine Aj (Ae (Ar rfl (FW ?_)));intros;refine Gp ?_;refine Cv 2 ?_;intros;refine Au rfl (BW ?_);intros;refine o_z (Aj (Dp (X:=Unit) b [0,5,6,7] [] [] [] (λ_ _ d _ t=>(44,.bool d)::t) (λ_ _ _ _ t=>t) ?_ ?_))
  ·intro d a;refine Qy (Ci (FH 0 33)) ?_;refine Be rfl rfl (Ji rfl (GN rfl rfl rfl (λe=>?_) λe=>?_))
   ·replace a:=ip a e;refine AM rfl rfl (AN rfl rfl rfl (AN rfl rfl rfl (AN rfl rfl rfl (Dn rfl rfl rfl (AM rfl rfl (AN rfl rfl rfl (AN rfl rfl rfl (AN rfl rfl rfl (Dn rfl rfl rfl (AM rfl rfl (AN rfl rfl rfl (AN rfl rfl rfl (AN rfl rfl rfl (Dn rfl rfl rfl ?_))))))))))))));refine AM rfl rfl (AN rfl rfl rfl (AN rfl rfl rfl (AN rfl rfl rfl (AN rfl rfl rfl (AN rfl rfl rfl (AN rfl rfl rfl (AN rfl rfl rfl (AN rfl rfl rfl (AN rfl rfl rfl (AN rfl rfl rfl (AN rfl rfl rfl (AN rfl rfl rfl (AN rfl rfl rfl (Dn rfl rfl rfl ?_))))))))))))));refine h_z ?_;obtain rfl:=sm a;exact Bb ()
   replace a:=im a e;refine AM rfl rfl (AB rfl (AA rfl rfl (Cu rfl (AB rfl (AA rfl rfl (Mx (AB rfl (AA rfl rfl (AY (λ_ _=>Bi rfl rfl) (λf=>?_) (λf=>?_))))))))))
   ·replace a:=ip a f;refine CG rfl rfl rfl (AM rfl rfl (AN rfl rfl rfl (AN rfl rfl rfl (AN rfl rfl rfl (Dn rfl rfl rfl (AM rfl rfl (AN rfl rfl rfl (AN rfl rfl rfl (AN rfl rfl rfl (Dn rfl rfl rfl (AM rfl rfl (AN rfl rfl rfl (AN rfl rfl rfl (AN rfl rfl rfl ?_))))))))))))));refine AN rfl rfl rfl (AN rfl rfl rfl (AN rfl rfl rfl (AN rfl rfl rfl (AN rfl rfl rfl (AN rfl rfl rfl (AN rfl rfl rfl (AN rfl rfl rfl (AN rfl rfl rfl (AN rfl rfl rfl (Dn rfl rfl rfl (h_z ?_)))))))))));obtain rfl:=sm a;exact Bb ()
   replace a:=im a f;refine CG rfl rfl rfl (AM rfl rfl (AB rfl (AA rfl rfl (Cu rfl (AB rfl (AA rfl rfl (Mx (AB rfl (AA rfl rfl (AY (λ_ _=>Do rfl rfl) (λg=>?_) (λg=>?_)))))))))))
   ·replace a:=ip a g;refine CG rfl rfl rfl (AM rfl rfl (AN rfl rfl rfl (AN rfl rfl rfl (AN rfl rfl rfl (Dn rfl rfl rfl (AM rfl rfl (AN rfl rfl rfl (AN rfl rfl rfl (AN rfl rfl rfl (AN rfl rfl rfl (AN rfl rfl rfl (AN rfl rfl rfl (AN rfl rfl rfl (AN rfl rfl rfl ?_))))))))))))));refine AN rfl rfl rfl (AN rfl rfl rfl (AN rfl rfl rfl (AN rfl rfl rfl (AN rfl rfl rfl (Dn rfl rfl rfl (h_z ?_))))));obtain rfl:=sm a;exact Bb ()
   replace a:=im a g;refine CG rfl rfl rfl (AM rfl rfl (AB rfl (AA rfl rfl (Cu rfl (AB rfl (AA rfl rfl (Mx (AB rfl (AA rfl rfl (AY (λ_ _=>Bi rfl rfl) (λh=>?_) (λh=>?_)))))))))))
   ·replace a:=ip a h;refine CG rfl rfl rfl (AM rfl rfl (AN rfl rfl rfl (AN rfl rfl rfl (AN rfl rfl rfl (AN rfl rfl rfl (AN rfl rfl rfl (AN rfl rfl rfl (AN rfl rfl rfl (AN rfl rfl rfl (AN rfl rfl rfl (AN rfl rfl rfl (AN rfl rfl rfl (AN rfl rfl rfl (AN rfl rfl rfl ?_))))))))))))));refine Dn rfl rfl rfl (h_z ?_);obtain rfl:=sm a;exact Bb ()
   replace a:=im a h;refine CG rfl rfl rfl (AM rfl rfl (AB rfl (AA rfl rfl (BK rfl (AB rfl (AA rfl rfl (AY (λ_ _=>Gi rfl rfl) (λi=>?_) (λi=>?_))))))))
   ·replace a:=ip a i;refine AB rfl (AA rfl rfl (BK rfl (AB rfl (AA rfl rfl (BK rfl (AB rfl (AA rfl rfl (BK rfl (AB rfl (AA rfl rfl ?_))))))))));obtain⟨u,n0,a⟩:=bs a;refine Wa (he:=n0) rfl rfl rfl (AB rfl (AA rfl rfl ?_));obtain⟨x,r0,a⟩:=bs a;refine IH ?_;intros;refine AB rfl (AA rfl rfl (Cu rfl (AB rfl (AA rfl rfl (IG (AB rfl (AA rfl rfl (Cu rfl (AB rfl (AA rfl rfl ?_))))))))));refine Mx (AB rfl (AA rfl rfl (AY (λ_ _=>Bi rfl rfl) (λj=>?_) (λj=>?_))))
    ·replace a:=ip a j;refine AB rfl (AA rfl rfl (JF rfl rfl (CG rfl rfl rfl (h_z ?_))));obtain rfl:=sm a;exact Bb ()
    replace a:=im a j;refine AB rfl (AA rfl rfl (JF rfl rfl (CG rfl rfl rfl (h_z ?_))));obtain rfl:=sm a;exact Bb ()
   replace a:=im a i;refine AB rfl (AA rfl rfl (BK rfl (AN rfl rfl rfl (AN rfl rfl rfl (AN rfl rfl rfl (AN rfl rfl rfl (AN rfl rfl rfl (AN rfl rfl rfl (AN rfl rfl rfl (AN rfl rfl rfl (AN rfl rfl rfl (AB rfl (AA rfl rfl (Nk rfl rfl ?_))))))))))))));refine CG rfl rfl rfl (h_z ?_);obtain rfl:=sm a;exact Bb ()
  intro d _ _ _ _ b;intros;refine BP ?_;refine Bx rfl (λl=>?_) (λl=>?_)
  ·replace b:=ip b l;refine Aj (Ae (Au rfl (o_z (AD ?_))));obtain rfl:=sm b;obtain rfl:=n _ rfl;exact Ca
  replace b:=im' b l;refine AE ?_;exact EI () b
 intro y _ _ _ _ hm;intros;refine BP ?_;refine Aj (Ae (Au rfl (o_z (AD ?_))));obtain rfl:=sm hm;exact Ca
end
noncomputable def Ek(a:Crt):Option Err :=
  bnd (if a.bound<(-1)then(some true)else(if 1099511627776<a.bound then(some true)else(some false)):Option Bool) λe=>if e=true then(some (⟨1⟩:Err))else(if 4096<(a.nogoods.length:Int)then(some (⟨5⟩:Err))else(bnd (rng (ρ:=Err) (λ(j:Nat)(f:Ngd)(k:Unit)=>bnd (EM f.facts) λg=>if g=true then some (.next ())else some (.ret (⟨2⟩:Err))) a.nogoods 0 ()) λc=>fin c λ(l:Unit)=>bnd (rng (ρ:=Err) (λ(m:Nat)(b:Ngd)(n:Unit)=>bnd (if b.dist<0 then(some true)else(if 0<=a.bound then(if a.bound<=b.dist then(some true)else(if a.bound<0 then(if b.dist≠0 then(some true)else(some false))else(some false)))else(if a.bound<0 then(if b.dist≠0 then(some true)else(some false))else(some false))):Option Bool) λh=>if h=true then(some (.ret (⟨1⟩:Err)))else(some (.next ()))) a.nogoods 0 ()) λd=>fin d λ(i:Unit)=>some (⟨0⟩:Err)))
section
attribute [local irreducible] Vb Lc Rw Ob
theorem Ij{w:World}{A:Nat->Prop}(hA:∀k,A k->k<w.heap.size){e:Value}{x:Crt}(y:Vb w A e x){r:Err}(hm:Ek x=some r) :
    Fn prog 77 [e] w λv w'=>Ext w w'/\Vb w' (upA A w w') v r:=by
 obtain⟨_,_,_⟩:=Db hA;apply CZ y;intros;refine AG func77 rfl ntmps77 ?_;unfold Ek at hm;refine Aj (Ae (Gx 2 ?_));intros;refine Au rfl (o_z (Aj (Aj (Dp (X:=Unit) hm [1] [] [] [] (λ_ _ f _ t=>(14,.bool f)::t) (λ_ _ _ _ t=>t) ?_ ?_))))
 ·intro f b;refine Ae (AJ rfl (BN (Cp rfl rfl (λg=>?_) λg=>?_)))
  ·replace b:=ip b g;refine Ar rfl (Ay rfl rfl (Ay rfl rfl (Ay rfl rfl (AV rfl rfl (o_z ?_)))));obtain rfl:=sm b;exact Bb ()
  replace b:=im b g;refine Ar rfl (Az rfl rfl (AJ rfl (Az rfl rfl (BN (Az rfl rfl (Cq rfl rfl (λh=>?_) λh=>?_))))))
  ·replace b:=ip b h;refine AS rfl rfl (o_z ?_);obtain rfl:=sm b;exact Bb ()
  replace b:=im b h;refine AS rfl rfl (o_z ?_);obtain rfl:=sm b;exact Bb ()
 intro f _ _ _ _ hm;intros;refine BP ?_;refine Bx rfl (λi=>?_) (λi=>?_)
 ·replace hm:=ip hm i;refine Aj (Ae (Da rfl (Au rfl (o_z (AD ?_)))));obtain rfl:=sm hm;exact Ca
 replace hm:=im' hm i;refine AE (Aj (Aj (Ae (AJ rfl (BN (AO rfl (Cq rfl rfl (λj=>?_) λj=>?_)))))))
 ·replace hm:=ip hm j;refine o_z (Am rfl (Aj (Ae (Da rfl (Au rfl (o_z (AD ?_)))))));obtain rfl:=sm hm;exact Ca
 replace hm:=im hm j;refine o_z (Ah rfl (AE (Aj (Aj (Ae (AJ rfl (BN (AO rfl (Ar rfl (o_z ?_))))))))));refine Fq (X:=Unit) hm [1,22] [] [3] [] (λ_ _ _ _ t=>t) (λ_ _ _ _ t=>t) () ?_ ?_
 ·intro D E F _ _ _ _ c G _ z;intros;refine Aj (Ae (FW ?_));intros;refine Gp ?_;refine Cv 3 ?_;intros;refine BW ?_;intros;refine o_z (Aj (Ae (AJ rfl (BN ?_))));obtain⟨B,y0,c⟩:=bs c;refine DE rfl (Ln (λ_ M=>M) zA y0) ?_;intros;cases B
  case false =>
   replace c:=iF c;refine Cx rfl (o_z (Am rfl (Aj (Ae (Da rfl (Au rfl (o_z (AD ?_))))))));obtain rfl:=sm c;obtain rfl:=z _ rfl;exact Ca
  replace c:=iT c;refine Cw rfl (o_z (Ah rfl (AE ?_)));exact EI () c
 intro H _ _ _ _ hm;intros;refine BP ?_;refine Aj (Aj (Ae (AJ rfl (BN (AO rfl (Ar rfl (o_z ?_)))))));refine Fq (X:=Unit) hm [1,35] [] [4] [] (λ_ _ _ _ t=>t) (λ_ _ _ _ t=>t) () ?_ ?_
 ·intro I J K _ _ _ _ d z0 _ C;intros;refine Aj (Ae (FW ?_));intros;refine Gp ?_;refine Cv 4 ?_;intros;refine BW ?_;intros;refine o_z (Aj (Dp (X:=Unit) d [1,35,36,37] [] [] [] (λ_ _ l0 _ t=>(65,.bool l0)::t) (λ_ _ _ _ t=>t) ?_ ?_))
  ·intro l0 a;refine Ae (AJ rfl (BN (Cp rfl rfl (λl=>?_) λl=>?_)))
   ·replace a:=ip a l;refine Ar rfl (Ay rfl rfl (Ay rfl rfl (Ay rfl rfl (Ay rfl rfl (Ay rfl rfl (Ay rfl rfl (Ay rfl rfl (Ay rfl rfl (Ay rfl rfl (Ay rfl rfl (AV rfl rfl (Ar rfl (Ay rfl rfl (Ay rfl rfl ?_))))))))))))));refine Ay rfl rfl (Ay rfl rfl (Ay rfl rfl (Ay rfl rfl (Ay rfl rfl (Ay rfl rfl (AV rfl rfl (o_z ?_)))))));obtain rfl:=sm a;exact Bb ()
   replace a:=im a l;refine Ar rfl (Az rfl rfl (AJ rfl (Az rfl rfl (BN (Az rfl rfl (Es rfl rfl (λm=>?_) λm=>?_))))))
   ·replace a:=ip a m;refine Az rfl rfl (Ar rfl (Az rfl rfl (AJ rfl (Az rfl rfl (BN (Az rfl rfl (AJ rfl (Az rfl rfl ?_))))))));refine BN (Az rfl rfl (Es rfl rfl (λn=>?_) λn=>?_))
    ·replace a:=ip a n;refine Az rfl rfl (AV rfl rfl (AS rfl rfl (Ar rfl (Ay rfl rfl (Ay rfl rfl (Ay rfl rfl (Ay rfl rfl (Ay rfl rfl (Ay rfl rfl (Ay rfl rfl (Ay rfl rfl (AV rfl rfl (o_z ?_)))))))))))));obtain rfl:=sm a;exact Bb ()
    replace a:=im a n;refine Az rfl rfl (AV rfl rfl (AS rfl rfl (Ar rfl (Az rfl rfl (AJ rfl (Az rfl rfl (BN (Az rfl rfl (Cp rfl rfl (λo=>?_) λo=>?_)))))))))
    ·replace a:=ip a o;refine Az rfl rfl (Ar rfl (Az rfl rfl (AJ rfl (Az rfl rfl (BN (Az rfl rfl (Gm rfl rfl (λp=>?_) λp=>?_)))))))
     ·replace a:=ip a p;refine Az rfl rfl (AV rfl rfl (AS rfl rfl (o_z ?_)));obtain rfl:=sm a;exact Bb ()
     replace a:=im a p;refine Az rfl rfl (AV rfl rfl (AS rfl rfl (o_z ?_)));obtain rfl:=sm a;exact Bb ()
    replace a:=im a o;refine Az rfl rfl (Ar rfl (Ay rfl rfl (Ay rfl rfl (Ay rfl rfl (Az rfl rfl (AS rfl rfl (AS rfl rfl (o_z ?_))))))));obtain rfl:=sm a;exact Bb ()
   replace a:=im a m;refine Az rfl rfl (Ar rfl (Ay rfl rfl (Ay rfl rfl (Ay rfl rfl (Ay rfl rfl (Ay rfl rfl (Az rfl rfl (AS rfl rfl (AS rfl rfl (Ar rfl (Az rfl rfl (AJ rfl (Az rfl rfl (BN ?_))))))))))))));refine Az rfl rfl (Cp rfl rfl (λq=>?_) λq=>?_)
   ·replace a:=ip a q;refine Az rfl rfl (Ar rfl (Az rfl rfl (AJ rfl (Az rfl rfl (BN (Az rfl rfl (Gm rfl rfl (λs=>?_) λs=>?_)))))))
    ·replace a:=ip a s;refine Az rfl rfl (AV rfl rfl (AS rfl rfl (o_z ?_)));obtain rfl:=sm a;exact Bb ()
    replace a:=im a s;refine Az rfl rfl (AV rfl rfl (AS rfl rfl (o_z ?_)));obtain rfl:=sm a;exact Bb ()
   replace a:=im a q;refine Az rfl rfl (Ar rfl (Ay rfl rfl (Ay rfl rfl (Ay rfl rfl (Az rfl rfl (AS rfl rfl (AS rfl rfl (o_z ?_))))))));obtain rfl:=sm a;exact Bb ()
  intro l0 _ _ _ _ d;intros;refine BP ?_;refine Bx rfl (λu=>?_) (λu=>?_)
  ·replace d:=ip d u;refine Aj (Ae (Da rfl (Au rfl (o_z (AD ?_)))));obtain rfl:=sm d;obtain rfl:=C _ rfl;exact Ca
  replace d:=im' d u;refine AE ?_;exact EI () d
 intro L _ _ _ _ hm;intros;refine BP ?_;refine Aj (Ae (Au rfl (o_z (AD ?_))));obtain rfl:=sm hm;exact Ca
end
noncomputable def Ee(f:List Int)(e:Crt):Option Err :=
  bnd (Ek e) λb=>if b.n≠0 then(some (⟨b.n⟩:Err))else(bnd (rng (ρ:=Err) (λ(g:Nat)(c:Ngd)(h:Unit)=>bnd (EJ f c.facts) λd=>if d=true then some (.next ())else some (.ret (⟨2⟩:Err))) e.nogoods 0 ()) λa=>fin a λ(i:Unit)=>some (⟨0⟩:Err))
section
attribute [local irreducible] Vb Lc Rw Ob
theorem Lo{w:World}{A:Nat->Prop}(hA:∀k,A k->k<w.heap.size){b:Value}{e:List Int}(g:Vb w A b e){c:Value}{f:Crt}(h:Vb w A c f){r:Err}(hm:Ee e f=some r) :
    Fn prog 63 [b,c] w λv w'=>Ext w w'/\Vb w' (upA A w w') v r:=by
 obtain⟨_,_,_⟩:=Db hA;apply CZ g;intros;apply CZ h;intros;refine AG func63 rfl ntmps63 ?_;unfold Ee at hm;refine Aj (Ae (Gx 2 ?_));intros;refine Au rfl (o_z (Aj (Aj (Ae (Ep ?_)))));obtain⟨l,f0,hm⟩:=bs hm;refine DE rfl (Ij (λ_ q=>q) zA f0) ?_;intros;refine Au rfl (o_z (Aj (Ae (Ar rfl (Cy rfl (λd=>?_) λd=>?_)))))
 ·replace hm:=ip hm d;refine o_z (Am rfl (Aj (Ae (Ar rfl (Au rfl (o_z (AD ?_)))))));obtain rfl:=sm hm;exact Ca
 replace hm:=im hm d;refine o_z (Ah rfl (AE (Aj (Aj (Ae (AJ rfl (BN (AO rfl (Ar rfl (o_z ?_))))))))));refine Fq (X:=Unit) hm [0,14] [] [3] [] (λ_ _ _ _ t=>t) (λ_ _ _ _ t=>t) () ?_ ?_
 ·intro m l0 n _ _ _ _ a o _ i;intros;refine Aj (Ae (FW ?_));intros;refine Gp ?_;refine Cv 3 ?_;intros;refine BW ?_;intros;refine o_z (Aj (Ae (Ar rfl (AJ rfl (BN ?_)))));obtain⟨j,i0,a⟩:=bs a;refine DE rfl (HZ (λ_ q=>q) zA zA i0) ?_;intros;cases j
  case false =>
   replace a:=iF a;refine Cx rfl (o_z (Am rfl (Aj (Ae (Da rfl (Au rfl (o_z (AD ?_))))))));obtain rfl:=sm a;obtain rfl:=i _ rfl;exact Ca
  replace a:=iT a;refine Cw rfl (o_z (Ah rfl (AE ?_)));exact EI () a
 intro p _ _ _ _ hm;intros;refine BP ?_;refine Aj (Ae (Au rfl (o_z (AD ?_))));obtain rfl:=sm hm;exact Ca
end
end
section
open Go Go.RowKit
attribute [local irreducible] ewp owp hwp hwq hws Ev Evg Fn W6 X7 X4 X1
attribute [local irreducible] hwx YW hwz ZY
structure Cov where
  vars:List Int
  used:Int
  steps:Int
  full:Bool
instance:Ow Cov where
  R w F d v x:=∃(g:Nat) (L:Lab) (a:Value),v=.pointer (some ⟨g,0,none⟩)/\Blk w g 234 [a,.int .i64 x.used,.int .i64 x.steps,.bool x.full]/\d g/\L g=0/\Vb w F a x.vars/\W1 x.used/\W1 x.steps
  agree:=by rintro w w' F d v x ⟨g,L,a,rfl,hb,hM,hL,h0,h1,h2⟩ a1 a2;exact⟨g,L,a,rfl,hb.keep (a2 g hM),hM,hL,h0.agree a1,h1,h2⟩
  mono:=by rintro w F d b c v x ⟨g,L,a,rfl,hb,hM,hL,h0,h1,h2⟩ a1 a2 a3;exact⟨g,L,a,rfl,hb,a2 g hM,hL,h0.mono a1,h1,h2⟩
theorem Cov.opn{i:Nat}{w:World}{O:Lab}{p:Nat}{x:Cov}(d:Ob i w O (.pointer (some ⟨p,0,none⟩)) x)(l0:Nat)(hl:l0≠0):∃(b:Lab) (c:Value),St (eT i) w O w b/\(∀k,Fr i w O k->∃q,q∈[l0]/\Fr q w b k)/\Lc l0 w b p 234 [c,.int .i64 x.used,.int .i64 x.steps,.bool x.full]/\Vb w (Fr 0 w b) c x.vars/\W1 x.used/\W1 x.steps:=by
  obtain⟨⟨g,L,c,a,hb,hM,hL,h0,h1,h2⟩,hi⟩:=d;obtain rfl:p=g:=(by injection a with a;injection a with a;injection a);exact⟨part O i L [l0],c,Js hi,Iq (by simp),⟨hb,(Gg (j:=0) rfl p ⟨hM,hL⟩).2⟩,h0.mono (DR hi),h1,h2⟩
theorem Cov.shut{w:World}{O:Lab}{p:Nat}{x:Cov}{l0:Nat}{b:Value}(hd:¬0∈[l0]/\[l0].idxOf l0=0)(hb:Lc l0 w O p 234 [b,.int .i64 x.used,.int .i64 x.steps,.bool x.full])(f:Vb w (Fr 0 w O) b x.vars)(g:W1 x.used)(h:W1 x.steps):∃a,St (·∈[l0]) w O w a/\(∀k,Fr 0 w O k->Fr 0 w a k)/\(∀q,q∈[l0]->∀k,Fr q w O k->Fr l0 w a k)/\Ob l0 w a (.pointer (some ⟨p,0,none⟩)) x:=by
  have c:l0≠0:=λe=>hd.1 (by simp[e]);have d:=FG (i:=l0) hd.2 (by simp) p ⟨hb.1.lt,hb.2⟩;exact⟨ZS O l0 [l0],Ir,CD hd.1,HO,⟨p,λk=>[l0].idxOf (O k),b,rfl,hb.1,d.1,d.2,f.mono (CD hd.1),g,h⟩,c⟩
noncomputable def Ft(a:Cov)(i:List Fct)(j:List (List Fct)):Option (Bool×Cov) :=
  if a.steps<=a.used then(some (false,(⟨a.vars,a.used,a.steps,true⟩:Cov)))else(bnd (W5 (a.used+1)) λe=>bnd (rng (ρ:=Bool×Cov) (λ(k:Nat)(b:List Fct)(d:(List (List Fct)))=>bnd (CF i b) λf=>if f=true then some (.ret (true,(⟨a.vars,e,a.steps,a.full⟩:Cov)))else bnd (DV i b) λg=>if g=true then some (.next d)else bnd (X6 24 d [b]) λh=>some (.next h)) j 0 ([]:List (List Fct))) λc=>fin c λ(l:(List (List Fct)))=>none)
theorem KD{w:World}{O:Lab}{p0 i0:Nat}{x0:Cov}(k0:Ob i0 w O (.pointer (some ⟨p0,0,none⟩)) x0){vx1:Value}{x1:List Fct}(m0:Vb w (Fr 0 w O) vx1 x1){vx2:Value}{x2:List (List Fct)}(n0:Vb w (Fr 0 w O) vx2 x2){r:Bool×Cov}(hm:Ft x0 x1 x2=some r) :
    Fn prog 130 [(.pointer (some ⟨p0,0,none⟩)),vx1,vx2] w λv w'=>∃O',St (eT i0) w O w' O'/\Ob i0 w' O' (.pointer (some ⟨p0,0,none⟩)) r.2/\Vb w' (Fr 0 w' O') v r.1:=by
 obtain⟨O0,hE,s0,m1⟩:=Y3 (w:=w) (O:=O) k0.2;have k0':=Ob.leave k0 s0 m1 (j:=2) (by decide);have hB:Bm w O0 w O0:=Bm.refl;replace m0:=m0.mono s0;obtain⟨A4,c5,rfl⟩:=m0.form;replace n0:=n0.mono s0;obtain⟨A6,c7,rfl⟩:=n0.form;refine AG func130 rfl ntmps130 ?_;unfold Ft at hm;refine Aj (Ae (Au rfl (o_z (Aj (Aj ?_)))));refine Ct (·=w) [(0,true),(1,true),(2,true),(3,true),(4,true),(5,true),(6,true),(7,true),(8,true)] rfl rfl ?_;refine AM rfl rfl (En rfl rfl ?_);obtain⟨O8,p2,S9,n1,c0,g0,o1,c1⟩:=Cov.opn k0' 2 (by decide);obtain⟨q2,r2,rfl⟩:=g0.form;refine Be rfl rfl (Du (hc:=Blk.cell (i:=1) (c0.1) rfl) rfl rfl (AM rfl rfl (En rfl rfl (Be rfl rfl (Du (hc:=Blk.cell (i:=2) (c0.1) rfl) rfl rfl (VT rfl rfl rfl rfl (λt0=>?_) λt0=>?_))))))
 ·replace hm:=ip hm t0;refine h_z (Am rfl (Aj (Ae (Ar rfl (Cm rfl (AJ rfl ?_))))));refine AR c0 rfl rfl rfl (Bg) (allOne) λs2 d1 c0=>?_;refine o_z (Aj (Ae (Au rfl (o_z (AD ?_)))));replace g0:=g0.st d1;obtain⟨t2,p1,q1,r1,s1⟩:=Cov.shut (x:=(⟨x0.vars,x0.used,x0.steps,true⟩:Cov)) (l0:=2) (by decide) c0 g0 o1 c1;obtain rfl:=sm hm;replace hB:=((hB.st S9).st d1).st p1;obtain⟨O',hS',hz,hl⟩:=hE.leave (λq=>if q=2 then i0 else 0) rfl hB;exact X2 rfl (AC rfl) ⟨O',hS',(Ob.leave s1 hz (hl 2 (by decide) (by decide)) k0.2),vBool⟩
 replace hm:=im hm t0;refine h_z (Ah rfl (AE (Aj (Ae (Ar rfl (Cm rfl (AJ rfl (AL (hc:=Blk.cell (i:=1) (c0.1) rfl) rfl ?_))))))));obtain⟨e1,f1,hm⟩:=bs hm;have t1:=(Bh f1);refine DM (he:=f1) rfl rfl (Cm rfl (AJ rfl ?_));refine AR c0 rfl rfl rfl (Bg) (allOne) λu2 g1 c0=>?_;refine o_z (Aj (Ae (Au rfl (o_z (Aj (Aj (Ae (Ar rfl (AO rfl ?_)))))))));have u0:=Bj n0.len;have v2:=rngNat u0;refine Ar rfl (o_z ?_);replace g0:=g0.st g1;obtain⟨u1,v1,w1,y1,d0⟩:=Cov.shut (x:=(⟨x0.vars,e1,x0.steps,x0.full⟩:Cov)) (l0:=2) (by decide) c0 g0 t1 c1;obtain⟨h1,v0,hm⟩:=bs hm;replace hB:=((hB.st S9).st g1).st v1;refine Dg (X:=(Option Addr×Nat)) (x2.length) v0 rfl u0 (λo0 e0=>[(0,(.pointer (some ⟨p0,0,none⟩))),(1,(.slice A4 x1.length c5)),(7,(.slice e0.1 o0.length e0.2)),(35,(.slice A6 x2.length c7))]) (λo0 e0 w'=>∃O':Lab,Bm w O0 w' O'/\Ob 2 w' O' (.pointer (some ⟨p0,0,none⟩)) (⟨x0.vars,e1,x0.steps,x0.full⟩:Cov)/\Rw 3 w' O' 23 (.slice e0.1 o0.length e0.2) o0) (none,0) ⟨u1,hB,d0,(Rw.nil 3 (by decide))⟩ Af (λ_ _=>rfl) ?_ ?_
 ·rintro w2 z1 o0 e0 a2 b2 q0 ⟨i1,hB,d0,r0⟩ a0 h0 w0;have rk42:=YV q0 u0;refine Aj (Ae ?_);obtain⟨y2,z2,c2,y0,z0,a1,a3,rfl,b0⟩:=(n0.z hB).elem' q0;replace b0:=Vb.of_slice b0;obtain⟨b3,c3,rfl⟩:=b0.form;refine BA (hA:=y0) (hj:=rfl) (hlt:=z0) rfl rfl (AL (hc:=cat0 a1) rfl (Au rfl (o_z (Aj (Aj (Ae (Ar rfl (Ar rfl ?_))))))));obtain⟨d2,e2,a0⟩:=bs a0;refine BO (O:=i1) (Hd (λ_ h=>h) (Vb.mono (F:=Fr 0 a2 i1) (m0.z hB) Fr.lt) (vMo b0) e2) rfl λd3 f2 j1 f0 g2=>?_;obtain rfl:=g2.bool;cases d2
  case false =>
   replace a0:=iF a0;refine o_z (Ah rfl (AE (Aj (Ae (Ar rfl (Ar rfl ?_))))));obtain⟨h2,i2,a0⟩:=bs a0;replace hB:=hB.st f0;replace b0:=b0.st f0;refine BO (O:=j1) (LW (λ_ h=>h) (Vb.mono (F:=Fr 0 f2 j1) (m0.z hB) Fr.lt) (vMo b0) i2) rfl λe3 f3 g3 j0 j2=>?_;obtain rfl:=j2.bool;cases h2
   case false =>
    replace a0:=iF a0;refine Cx rfl (o_z (Am rfl (Ae (Ar rfl (Ar rfl ?_)))));obtain⟨h3,b1,a0⟩:=bs a0;obtain⟨b1,k2,l2⟩:=Bw b1;replace r0:=(r0.st f0).st j0;replace b0:=b0.st j0;refine Dl rfl (a:=z1) r0 b0 (λ_=>rfl) rfl k2 l2 ⟨rfl,rfl⟩ λi3 m2 n2 j3 k3 k1 l1=>?_;rw[<- b1]at l1 ⊢;refine Au rfl (o_z ?_);obtain rfl:=sm a0;exact show Exists _ from⟨_,(m2,n2),rfl,Af,_,(hB.st j0).st k1,((d0.st f0).st j0).st k1,l1⟩
   replace a0:=iT a0;refine Cw rfl (o_z (Ah rfl (AE ?_)));obtain rfl:=sm a0;exact show Exists _ from⟨_,(e0.1,e0.2),rfl,Af,_,hB.st j0,(d0.st f0).st j0,(r0.st f0).st j0⟩
  replace a0:=iT a0;refine o_z (Am rfl (Aj (Ae (Au rfl (o_z (AD ?_))))));obtain rfl:=sm a0;obtain rfl:=h0 _ rfl;obtain rfl:=sm (Bp hm);replace hB:=hB.st f0;obtain⟨O',hS',hz,hl⟩:=hE.leave (λq=>if q=2 then i0 else 0) rfl hB;replace d0:=d0.st f0;exact X2 rfl (AC rfl) ⟨O',hS',(Ob.leave d0 hz (hl 2 (by decide) (by decide)) k0.2),vBool⟩
 rintro l3 m3 ⟨n3,o3,rfl,o2,p3,hB,d0,r0⟩;replace hm:=AW hm;exact nomatch hm
noncomputable def FO(b:List Fct)(c:List Int):Option Bool :=
  bnd (bnd (EJ c b) λa=>if a=true then some false else some true:Option Bool) λd=>some d
theorem Lp{w:World}{A:Nat->Prop}(hA:∀k,A k->k<w.heap.size){d:Value}{h:List Fct}(j:Vb w A d h){a:Nat}{b:List Value}{l:List Int}(e:Blk w a 22 b)(f:A a)(c:Rp.R w A b l){r:Bool}(hm:FO h l=some r) :
    Fn prog 129 [d,(.pointer (some ⟨a,0,none⟩))] w λv w'=>Ext w w'/\Vb w' (upA A w w') v r:=by
 obtain⟨O,hB,d0⟩:=enter hA;have g:Lc 0 w O a 22 b:=⟨e,(d0 a f).2⟩;replace c:=Rp.mono c d0;obtain⟨u,rfl,h3⟩:=c;replace h3:=Vb.of_slice h3;obtain⟨x,c5,rfl⟩:=h3.form;obtain⟨y,c7,rfl⟩:=j.form;refine AG func129 rfl ntmps129 ?_;unfold FO at hm;refine Aj (Ae (Au rfl (o_z (Aj ?_))));obtain⟨n,a0,hm⟩:=bs hm;refine Bc (λo w'=>∃(p:Unit) (q:Lab),W4 o [(3,(.bool n))]/\Bs w A w' q) ?_ ?_
 ·refine Ae (AL (hc:=Blk.cell (i:=0) (g.1) rfl) rfl (Ar rfl ?_));obtain⟨s,h0,a0⟩:=bs a0;refine BO (O:=O) (HZ (λ_ E=>E) (vMo h3) (Vb.mono (F:=Fr 0 w O) (j.zs hA hB) Fr.lt) h0) rfl λz B l0 m t=>?_;obtain rfl:=t.bool;cases s
  case false =>
   replace a0:=iF a0;refine Cx rfl (Au rfl (o_z ?_));obtain rfl:=sm a0;exact⟨(),_,B3,hB.st m⟩
  replace a0:=iT a0;refine Cw rfl (Au rfl (o_z ?_));obtain rfl:=sm a0;exact⟨(),_,B3,hB.st m⟩
 rintro C D ⟨p,o0,b0,hB⟩;refine AQ _ b0 ?_;refine AD ?_;obtain rfl:=sm hm;exact X2 rfl (AC rfl) ⟨hB.ext,vBool⟩
noncomputable def BG(e:List (List Fct))(f:List Int):Option Int :=
  bnd (rng (ρ:=Int) (λ(b:Nat)(c:List Fct)(g:Unit)=>bnd (FO c f) λd=>if d=true then some (.ret (b:Int))else some (.next ())) e 0 ()) λa=>fin a λ(h:Unit)=>some (-1)
theorem EW{w:World}{A:Nat->Prop}(hA:∀k,A k->k<w.heap.size){f:Value}{j:List (List Fct)}(m:Vb w A f j){b:Nat}{c:List Value}{e:List Int}(g:Blk w b 22 c)(h:A b)(d:Rp.R w A c e){r:Int}(hm:BG j e=some r) :
    Fn prog 111 [f,(.func (.func 129) #[] #[(.pointer (some ⟨b,0,none⟩))])] w λv w'=>Ext w w'/\Vb w' (upA A w w') v r:=by
 obtain⟨O,hB,n0⟩:=enter hA;have a:Lc 0 w O b 22 c:=⟨g,(n0 b h).2⟩;replace d:=Rp.mono d n0;obtain⟨C,rfl,h4⟩:=d;replace h4:=Vb.of_slice h4;obtain⟨p,c6,rfl⟩:=h4.form;obtain⟨B,c8,rfl⟩:=m.form;refine AG func111 rfl ntmps111 ?_;unfold BG at hm;refine Aj (Ae (Au rfl (o_z (Aj (Aj (Ae (Ar rfl (AO rfl ?_))))))));have n:=Bj m.len;have D:=rngNat n;refine Ar rfl (o_z ?_);obtain⟨E,h0,hm⟩:=bs hm;refine Dg (X:=Unit) (j.length) h0 rfl n (λq s=>[(0,(.slice B j.length c8)),(1,(.func (.func 129) #[] #[(.pointer (some ⟨b,0,none⟩))]))]) (λq s w'=>∃o:Lab,Bs w A w' o/\Lc 0 w' o b 22 [(.slice p e.length c6)]/\Vb w' (Fr 0 w' o) (.slice p e.length c6) e) () ⟨O,hB,a,h4⟩ A1 (λ_ _=>rfl) ?_ ?_
 ·rintro G H q s t I u ⟨y,hB,a,h4⟩ a0 b0 i0;have i:=YV u n;refine Aj (Ae (Ar rfl (Au rfl (o_z (Aj (Ae (Ar rfl (Ar rfl (Ar rfl ?_)))))))));obtain⟨J,d1,v0,j0,k0,l0,e1,rfl,d0⟩:=(m.zs hA hB).elem' u;replace d0:=Vb.of_slice d0;obtain⟨K,g1,rfl⟩:=d0.form;refine BA (hA:=j0) (hj:=rfl) (hlt:=k0) rfl rfl (AL (hc:=cat0 l0) rfl ?_);obtain⟨z,w0,a0⟩:=bs a0;refine Lb (O:=y) (A:=All t) (R:=λw' F v=>Vb w' F v z) (Lp (λ_ T=>T) (vMo d0) a.1 a.1.lt (Rp.mono (F:=Fr 0 t y) (x:=e) (Vb.cells1 h4) Fr.lt) w0) rfl rfl rfl rfl λL M N l z0=>?_;obtain rfl:=z0.bool;cases z
  case false =>
   replace a0:=iF a0;refine o_z (Ah rfl (AE ?_));obtain rfl:=sm a0;exact show Exists _ from⟨_,(),rfl,A1,_,hB.st l,a.st l,h4.st l⟩
  replace a0:=iT a0;refine o_z (Am rfl (Aj (Ae (Ar rfl (Au rfl (o_z (AD ?_)))))));obtain rfl:=sm a0;obtain rfl:=b0 _ rfl;obtain rfl:=sm (Bp hm);replace hB:=hB.st l;exact X2 rfl (AC rfl) ⟨hB.ext,(vInt i)⟩
 rintro P Q ⟨S,n1,rfl,m0,o1,hB,a,h4⟩;replace hm:=AW hm;refine AQ _ m0 ?_;refine Aj (Ae (Au rfl (o_z (AD ?_))));obtain rfl:=sm hm;exact X2 rfl (AC rfl) ⟨hB.ext,(vInt (W3 (-1)))⟩
noncomputable def Bq(b:List (List Fct))(c:List Int):Option Bool :=
  bnd (bnd (BG b c) λa=>if 0<=a then(some true)else(some false):Option Bool) λd=>some d
theorem EG{w:World}{A:Nat->Prop}(hA:∀k,A k->k<w.heap.size){e:Value}{j:List (List Fct)}(l:Vb w A e j){a:Nat}{b:List Value}{h:List Int}(f:Blk w a 22 b)(g:A a)(c:Rp.R w A b h){r:Bool}(hm:Bq j h=some r) :
    Fn prog 82 [e,(.func (.func 129) #[] #[(.pointer (some ⟨a,0,none⟩))])] w λv w'=>Ext w w'/\Vb w' (upA A w w') v r:=by
 obtain⟨O,hB,e0⟩:=enter hA;have d:Lc 0 w O a 22 b:=⟨f,(e0 a g).2⟩;replace c:=Rp.mono c e0;obtain⟨t,rfl,h4⟩:=c;replace h4:=Vb.of_slice h4;obtain⟨u,c6,rfl⟩:=h4.form;obtain⟨y,c8,rfl⟩:=l.form;refine AG func82 rfl ntmps82 ?_;unfold Bq at hm;refine Aj (Ae (Au rfl (o_z (Aj ?_))));obtain⟨n,a0,hm⟩:=bs hm;refine Bc (λo w'=>∃(p:Unit) (q:Lab),W4 o [(4,(.bool n))]/\Bs w A w' q) ?_ ?_
 ·refine Ae (Ar rfl (Ar rfl ?_));obtain⟨z,h0,a0⟩:=bs a0;refine BO (O:=O) (EW (λ_ G=>G) (Vb.mono (F:=Fr 0 w O) (l.zs hA hB) Fr.lt) d.1 d.1.lt (Rp.mono (F:=Fr 0 w O) (x:=h) (Vb.cells1 h4) Fr.lt) h0) rfl λB l0 C m s=>?_;obtain⟨rfl,n0⟩:=s.int;refine Es rfl rfl (λi=>?_) λi=>?_
  ·replace a0:=ip a0 i;refine Au rfl (o_z ?_);obtain rfl:=sm a0;exact⟨(),_,B3,hB.st m⟩
  replace a0:=im a0 i;refine Au rfl (o_z ?_);obtain rfl:=sm a0;exact⟨(),_,B3,hB.st m⟩
 rintro D E ⟨p,q0,c0,hB⟩;refine AQ _ c0 ?_;refine AD ?_;obtain rfl:=sm hm;exact X2 rfl (AC rfl) ⟨hB.ext,vBool⟩
noncomputable def Gy(b:List Int)(f:List Fct)(g:List (List Fct))(h:Int):Option (Bool×Int×Err) :=
  bnd (bnd (EJ b f) λc=>if c=true then bnd (Bq g b) λd=>if d=true then some true else some false else some true:Option Bool) λe=>if e=true then(some (false,0,(⟨2⟩:Err)))else(bnd (Ft (⟨b,0,h,false⟩:Cov) f g) λa=>if a.2.full=true then(some (false,0,(⟨10⟩:Err)))else(some (a.1,a.2.used,(⟨0⟩:Err))))
theorem MK{w:World}{A:Nat->Prop}(hA:∀k,A k->k<w.heap.size){vx0:Value}{x0:List Int}(c0:Vb w A vx0 x0){vx1:Value}{x1:List Fct}(f0:Vb w A vx1 x1){vx2:Value}{x2:List (List Fct)}(g0:Vb w A vx2 x2){x3:Int}(rx3:W1 x3){r:Bool×Int×Err}(hm:Gy x0 x1 x2 x3=some r) :
    Fn prog 95 [vx0,vx1,vx2,(.int .i64 x3)] w λv w'=>Ext w w'/\T3 w' (upA A w w') v r:=by
 obtain⟨O,hB,u1⟩:=enter hA;obtain⟨A5,c6,rfl⟩:=c0.form;obtain⟨A7,c8,rfl⟩:=f0.form;obtain⟨A9,u0,rfl⟩:=g0.form;refine AG func95 rfl ntmps95 ?_;unfold Gy at hm;refine Aj (Ae (Ea 2 O rfl λn0 o0 h0 p0 b0=>?_));refine Au rfl (Au rfl (Au rfl (o_z (Aj (Aj ?_)))));obtain⟨v0,a0,hm⟩:=bs hm;refine Bc (λl' w'=>∃(w0:Unit) (O':Lab),W4 l' [(1,(.slice A7 x1.length c8)),(2,(.slice A9 x2.length u0)),(3,(.int .i64 x3)),(4,(.pointer (some ⟨n0,0,none⟩))),(21,(.bool v0))]/\Bs w A w' O'/\Lc 2 w' O' n0 22 [(.slice A5 x0.length c6)]) ?_ ?_
 ·refine Ae (AL (hc:=Blk.cell (i:=0) (b0.1) rfl) rfl (Ar rfl ?_));obtain⟨y0,z0,a0⟩:=bs a0;replace hB:=hB.st p0;refine BO (O:=h0) (HZ (λ_ h=>h) (Vb.mono (F:=Fr 0 o0 h0) (c0.zs hA hB) Fr.lt) (Vb.mono (F:=Fr 0 o0 h0) (f0.zs hA hB) Fr.lt) z0) rfl λv1 q0 i0 d0 a1=>?_;obtain rfl:=a1.bool;cases y0
  case false =>
   replace a0:=iF a0;refine Cx rfl (Ar rfl (Ay rfl rfl (Ay rfl rfl (Ay rfl rfl (AV rfl rfl (o_z ?_))))));obtain rfl:=sm a0;exact⟨(),_,Ad,hB.st d0,b0.st d0⟩
  replace a0:=iT a0;refine Cw rfl (Ar rfl (Az rfl rfl (Ar rfl (Az rfl rfl (Qq rfl rfl rfl (Az rfl rfl ?_))))));obtain⟨b1,c1,a0⟩:=bs a0;replace hB:=hB.st d0;replace b0:=b0.st d0;refine BO (O:=i0) (EG (λ_ h=>h) (Vb.mono (F:=Fr 0 q0 i0) (g0.zs hA hB) Fr.lt) b0.1 b0.1.lt (Rp.mono (F:=Fr 0 q0 i0) (x:=x0) (Vb.cells1 (c0.zs hA hB)) Fr.lt) c1) rfl λw1 y1 z1 e0 d1=>?_;obtain rfl:=d1.bool;cases b1
  case false =>
   replace a0:=iF a0;refine AS rfl rfl (o_z ?_);obtain rfl:=sm a0;exact⟨(),_,Ad,hB.st e0,b0.st e0⟩
  replace a0:=iT a0;refine AS rfl rfl (o_z ?_);obtain rfl:=sm a0;exact⟨(),_,Ad,hB.st e0,b0.st e0⟩
 replace hB:=hB.st p0;rintro a2 b2 ⟨w0,e1,j0,hB,b0⟩;refine AQ _ j0 ?_;refine Bx rfl (λk0=>?_) (λk0=>?_)
 ·replace hm:=ip hm k0;refine Aj (Ae (Da rfl (Au rfl (Au rfl (Au rfl (o_z (AD ?_)))))));obtain rfl:=sm hm;exact ZG rfl (AC rfl) (AC rfl) (AC rfl) ⟨hB.ext,_,_,_,rfl,vBool,(vInt (W3 0)),(vErr (by decide))⟩
 replace hm:=im' hm k0;refine AE (Aj (Ae (AL (hc:=Blk.cell (i:=0) (b0.1) rfl) rfl (Ar rfl (CK rfl rfl ?_)))));refine Ea 3 e1 rfl λc2 d2 e2 f1 g1=>?_;refine Au rfl (o_z (Aj (Ae (Ar rfl (Ar rfl (Ar rfl ?_))))));replace hB:=hB.st f1;obtain⟨h1,i1,j1,k1,l1⟩:=Cov.shut (x:=(⟨x0,0,x3,false⟩:Cov)) (l0:=3) (by decide) g1 (c0.zs hA hB) (W3 0) rx3;obtain⟨f2,m1,hm⟩:=bs hm;replace hB:=hB.st i1;refine BM (O:=h1) (KD l1 (f0.zs hA hB) (g0.zs hA hB) m1) rfl λg2 n1 h2 r0 o1=>?_;obtain⟨p1,q1⟩:=o1;obtain rfl:=q1.bool;refine Au rfl (o_z (Aj (Aj (Ae (Ar rfl (Cm rfl ?_))))));obtain⟨i2,j2,s0,r1,t0,s1,t1,k2⟩:=Cov.opn p1 3 (by decide);obtain⟨l2,m2,rfl⟩:=s1.form;refine AJ rfl (AL (hc:=Blk.cell (i:=3) (t0.1) rfl) rfl (o_z (Bx rfl (λm0=>?_) (λm0=>?_))))
 ·replace hm:=ip hm m0;refine Aj (Ae (Da rfl (Au rfl (Au rfl (Au rfl (o_z (AD ?_)))))));obtain rfl:=sm hm;replace hB:=(hB.st r0).st s0;exact ZG rfl (AC rfl) (AC rfl) (AC rfl) ⟨hB.ext,_,_,_,rfl,vBool,(vInt (W3 0)),(vErr (by decide))⟩
 replace hm:=im' hm m0;refine AE (Aj (Ct (·=n1) [(0,true),(1,true),(2,true),(3,true),(4,true),(5,true),(6,true),(7,true)] rfl rfl ?_));refine AM rfl rfl (AM rfl rfl (En rfl rfl (Be rfl rfl (Du (hc:=Blk.cell (i:=1) (t0.1) rfl) rfl rfl (CY rfl rfl (CY rfl rfl (CY rfl rfl (h_z (AD ?_)))))))));obtain rfl:=sm hm;replace hB:=(hB.st r0).st s0;exact ZG rfl (AC rfl) (AC rfl) (AC rfl) ⟨hB.ext,_,_,_,rfl,vBool,(vInt t1),(vErr (W3 0))⟩
structure Chk where
  t:Tsk
  c:Crt
  steps:Int
instance:Ow Chk where
  R w F j v x:=∃(g:Nat) (L:Lab) (a b d e f:Value),v=.pointer (some ⟨g,0,none⟩)/\Blk w g 144 [a,b,d,e,.int .i64 x.c.bound,f,.int .i64 x.steps]/\j g/\L g=0/\Vb w F a x.t.vars/\Vb w F b x.t.init/\Vb w F d x.t.goal/\Vb w F e x.t.ops/\W1 x.c.bound/\Vb w F f x.c.nogoods/\W1 x.steps
  agree:=by rintro w w' F j v x ⟨g,L,a,b,d,e,f,rfl,hb,hM,hL,h0,h1,h2,h3,h4,h5,h6⟩ a1 a2;exact⟨g,L,a,b,d,e,f,rfl,hb.keep (a2 g hM),hM,hL,h0.agree a1,h1.agree a1,h2.agree a1,h3.agree a1,h4,h5.agree a1,h6⟩
  mono:=by rintro w F j h i v x ⟨g,L,a,b,d,e,f,rfl,hb,hM,hL,h0,h1,h2,h3,h4,h5,h6⟩ a1 a2 a3;exact⟨g,L,a,b,d,e,f,rfl,hb,a2 g hM,hL,h0.mono a1,h1.mono a1,h2.mono a1,h3.mono a1,h4,h5.mono a1,h6⟩
theorem Chk.opn{i:Nat}{w:World}{O:Lab}{p:Nat}{x:Chk}(m:Ob i w O (.pointer (some ⟨p,0,none⟩)) x)(l0:Nat)(hl:l0≠0):∃(a:Lab) (d e f h l:Value),St (eT i) w O w a/\(∀k,Fr i w O k->∃q,q∈[l0]/\Fr q w a k)/\Lc l0 w a p 144 [d,e,f,h,.int .i64 x.c.bound,l,.int .i64 x.steps]/\Vb w (Fr 0 w a) d x.t.vars/\Vb w (Fr 0 w a) e x.t.init/\Vb w (Fr 0 w a) f x.t.goal/\Vb w (Fr 0 w a) h x.t.ops/\W1 x.c.bound/\Vb w (Fr 0 w a) l x.c.nogoods/\W1 x.steps:=by
  obtain⟨⟨g,L,d,e,f,h,l,b,hb,hM,hL,h0,h1,h2,h3,h4,h5,h6⟩,hi⟩:=m;obtain rfl:p=g:=(by injection b with b;injection b with b;injection b);exact⟨part O i L [l0],d,e,f,h,l,Js hi,Iq (by simp),⟨hb,(Gg (j:=0) rfl p ⟨hM,hL⟩).2⟩,h0.mono (DR hi),h1.mono (DR hi),h2.mono (DR hi),h3.mono (DR hi),h4,h5.mono (DR hi),h6⟩
theorem Chk.shut{w:World}{O:Lab}{p:Nat}{x:Chk}{l0:Nat}{b d f g h:Value}(hd:¬0∈[l0]/\[l0].idxOf l0=0)(hb:Lc l0 w O p 144 [b,d,f,g,.int .i64 x.c.bound,h,.int .i64 x.steps])(m:Vb w (Fr 0 w O) b x.t.vars)(n:Vb w (Fr 0 w O) d x.t.init)(o:Vb w (Fr 0 w O) f x.t.goal)(r:Vb w (Fr 0 w O) g x.t.ops)(s:W1 x.c.bound)(u:Vb w (Fr 0 w O) h x.c.nogoods)(v:W1 x.steps):∃a,St (·∈[l0]) w O w a/\(∀k,Fr 0 w O k->Fr 0 w a k)/\(∀q,q∈[l0]->∀k,Fr q w O k->Fr l0 w a k)/\Ob l0 w a (.pointer (some ⟨p,0,none⟩)) x:=by
  have j:l0≠0:=λe=>hd.1 (by simp[e]);have l:=FG (i:=l0) hd.2 (by simp) p ⟨hb.1.lt,hb.2⟩;exact⟨ZS O l0 [l0],Ir,CD hd.1,HO,⟨p,λk=>[l0].idxOf (O k),b,d,f,g,h,rfl,hb.1,l.1,l.2,m.mono (CD hd.1),n.mono (CD hd.1),o.mono (CD hd.1),r.mono (CD hd.1),s,u.mono (CD hd.1),v⟩,j⟩
noncomputable def DK(g:Chk)(h:Int):Option (List (List Fct)) :=
  bnd (rng (ρ:=(List (List Fct))) (λ(i:Nat)(b:Ngd)(d:(List (List Fct)))=>if b.dist<=h then(bnd (X6 24 d [b.facts]) λe=>some (.next e))else(some (.next d))) g.c.nogoods 0 ([]:List (List Fct))) λa=>fin a λ(f:(List (List Fct)))=>some f
theorem Iv{w:World}{O:Lab}{p j:Nat}{b:Chk}{cs:List Value}{g:Option Addr}{h:Nat}(B:Lc j w O p 144 cs)(C:cs[5]?=some (.slice g b.c.nogoods.length h))(D:Vb w (Fr 0 w O) (.slice g b.c.nogoods.length h) b.c.nogoods){k:Int}(E:W1 k){r:List (List Fct)}(hm:DK b k=some r) :
    Fn prog 96 [.pointer (some ⟨p,0,none⟩),.int .i64 k] w λv w'=>Ext w w'/\Vb w' (upA (Fr 0 w O) w w') v r:=by
 obtain⟨F,hB,b1⟩:=enter (w:=w) (A:=Fr 0 w O) Fr.lt;have e:=D.mono b1;refine AG func96 rfl ntmps96 ?_;unfold DK at hm;refine Aj (Ae (Au rfl (o_z (Aj (Ae (Au rfl (o_z (Aj (Aj (Ae (Ar rfl (Cm rfl ?_))))))))))));refine AJ rfl (AJ rfl (AL (hc:=Blk.cell (i:=5) B.1 C) rfl (AO rfl ?_)));have n:=Bj e.len;have L:=rngNat n;refine Ar rfl (o_z ?_);obtain⟨z0,p0,hm⟩:=bs hm;refine Dg (X:=(Option Addr×Nat)) (b.c.nogoods.length) p0 rfl n (λf d=>[(1,(.int .i64 k)),(5,(.slice d.1 f.length d.2)),(12,(.slice g b.c.nogoods.length h))]) (λf d w'=>∃o:Lab,Bs w (Fr 0 w O) w' o/\Rw 4 w' o 23 (.slice d.1 f.length d.2) f/\Vb w' (Fr 0 w' o) (.slice g b.c.nogoods.length h) b.c.nogoods) (none,0) ⟨F,hB,(Rw.nil 4 (by decide)),e⟩ Ad (λ_ _=>rfl) ?_ ?_
 ·rintro M G f d N P u ⟨H,hB,d0,e⟩ a0 q0 r0;have x:=YV u n;refine Aj (Ae ?_);obtain⟨Q,q1,f1,s0,t0,u0,r1,rfl,k0,s1⟩:=e.elem' u;obtain⟨R,u1,rfl⟩:=k0.form;refine BA (hA:=s0) (hj:=rfl) (hlt:=t0) rfl rfl (BE (hl:=rfl) (hc:=u0) rfl ?_);refine BL 3 H λS T U l0 l=>?_;refine AR l rfl rfl rfl (Bg) (allOne) λV m l=>?_;refine o_z (Aj (Ae (AJ rfl (AL (hc:=Blk.cell (i:=1) (l.1) rfl) rfl (Ar rfl (Mt rfl rfl rfl (λq=>?_) λq=>?_))))))
  ·replace a0:=ip a0 q;refine o_z (Am rfl (Ae (Ar rfl (AJ rfl (AL (hc:=Blk.cell (i:=0) (l.1) rfl) rfl ?_)))));obtain⟨W,s,a0⟩:=bs a0;obtain⟨s,g1,h1⟩:=Bw s;replace d0:=(d0.st l0).st m;replace k0:=(k0.st l0).st m;refine Dl rfl (a:=G.facts) d0 k0 (λ_=>rfl) rfl g1 h1 ⟨rfl,rfl⟩ λY I J Z d2 K y=>?_;rw[<- s]at y ⊢;refine Au rfl (o_z ?_);obtain rfl:=sm a0;have z:=(l0.an m).an K;exact show Exists _ from⟨_,(I,J),rfl,Ad,_,hB.st z,y,e.st z⟩
  replace a0:=im a0 q;refine o_z (Ah rfl (AE ?_));obtain rfl:=sm a0;have t:=l0.an m;exact show Exists _ from⟨_,(d.1,d.2),rfl,Ad,_,hB.st t,d0.st t,e.st t⟩
 rintro e2 f2 ⟨g2,h2,rfl,y0,i2,hB,d0,e⟩;replace hm:=AW hm;refine AQ _ y0 ?_;refine Aj (Ae (Ar rfl (Au rfl (o_z (AD ?_)))));obtain⟨j2,l1,d0⟩:=d0.freeze;obtain rfl:=sm hm;replace hB:=hB.st l1;exact X2 rfl (AC rfl) ⟨hB.ext,Vb.mono d0 hB.out⟩
noncomputable def Cs(a:Chk)(f:List Fct)(g:Int):Option (Bool×Err×Chk) :=
  bnd (DK a g) λd=>bnd (Gy a.t.vars f d a.steps) λb=>if b.2.2.n≠0 then(some (false,(⟨b.2.2.n⟩:Err),a))else(bnd (W5 (a.steps-b.2.1)) λe=>some (b.1,(⟨0⟩:Err),(⟨(⟨a.t.vars,a.t.init,a.t.goal,a.t.ops⟩:Tsk),(⟨a.c.bound,a.c.nogoods⟩:Crt),e⟩:Chk)))
theorem Hb{w:World}{O:Lab}{p0 i0:Nat}{x0:Chk}(j0:Ob i0 w O (.pointer (some ⟨p0,0,none⟩)) x0){vx1:Value}{x1:List Fct}(m0:Vb w (Fr 0 w O) vx1 x1){x2:Int}(rx2:W1 x2){r:Bool×Err×Chk}(hm:Cs x0 x1 x2=some r) :
    Fn prog 64 [(.pointer (some ⟨p0,0,none⟩)),vx1,(.int .i64 x2)] w λv w'=>∃O',St (eT i0) w O w' O'/\∃v0 v1:Value,Ob i0 w' O' (.pointer (some ⟨p0,0,none⟩)) r.2.2/\v=.tuple #[v0,v1]/\Vb w' (Fr 0 w' O') v0 r.1/\Vb w' (Fr 0 w' O') v1 r.2.1:=by
 obtain⟨O0,hE,q0,z0⟩:=Y3 (w:=w) (O:=O) j0.2;have j0':=Ob.leave j0 q0 z0 (j:=2) (by decide);have hB:Bm w O0 w O0:=Bm.refl;replace m0:=m0.mono q0;obtain⟨A4,c5,rfl⟩:=m0.form;refine AG func64 rfl ntmps64 ?_;unfold Cs at hm;refine Aj (Ae (Au rfl (Au rfl (o_z (Aj ?_)))));obtain⟨O6,s1,t1,u1,w1,y1,S7,z1,h8,c0,f0,g0,h0,r0,d0,s0⟩:=Chk.opn j0' 2 (by decide);obtain⟨a2,b2,rfl⟩:=c0.form;obtain⟨c2,d2,rfl⟩:=f0.form;obtain⟨e2,f2,rfl⟩:=g0.form;obtain⟨g2,h2,rfl⟩:=h0.form;obtain⟨i2,j2,rfl⟩:=d0.form;refine Ck [] O6 ?_;refine Bl (fuel:=9) [] (Ci [0,1,2,3,4,5,6,7,9,10,11,12]) rfl (AM rfl rfl (En rfl rfl (Be rfl rfl (Be rfl rfl (Bz (hc:=CH h8 0 rfl) rfl rfl (AM rfl rfl (AM rfl rfl (AM rfl rfl (AM rfl rfl (En rfl rfl (Be rfl rfl (Bz (hc:=CH h8 6 rfl) rfl rfl (AP (Bo (i:=8) rfl ?_))))))))))))));obtain⟨k2,a1,hm⟩:=bs hm;refine Sd (O:=O6) (Iv h8 rfl d0 rx2 a1) rfl rfl λl2 t0 u0 k0 w0=>?_;obtain⟨m2,n2,rfl⟩:=w0.form;have hZ:=lZ k0;refine CT [] hZ (Bo (i:=13) rfl ?_);obtain⟨b1,c1,hm⟩:=bs hm;replace hB:=(hB.st S7).st k0;replace c0:=c0.st k0;refine Ip (O:=u0) (A:=All t0) (R:=λw' F v=>T3 w' F v b1) (MK (λ_ h=>h) (vMo c0) (Vb.mono (F:=Fr 0 t0 u0) (m0.z hB) Fr.lt) (vMo w0) s0 c1) rfl rfl λo2 p2 q2 e0 d1=>?_;obtain⟨r2,s2,t2,rfl,e1,f1,g1⟩:=d1;obtain rfl:=e1.bool;obtain⟨rfl,u2⟩:=f1.int;obtain⟨rfl,h1⟩:=g1.err;have hZ:=lZ e0;refine CT [] hZ ?_;refine Bl (fuel:=0) [] (Ci (FH 14 7)) rfl (AM rfl rfl (IW rfl rfl rfl (IW rfl rfl rfl (IW rfl rfl rfl (CY rfl rfl (CY rfl rfl (CY rfl rfl (AP (Dv (Aj (Aj (Ae (Ar rfl (Cy rfl (λn0=>?_) λn0=>?_))))))))))))))
 ·replace hm:=ip hm n0;refine o_z (Am rfl (Aj (Ae (Ar rfl (Au rfl (Au rfl (o_z (AD ?_))))))));have a0:=k0.an e0;replace h8:=h8.st a0;replace c0:=c0.st e0;replace f0:=f0.st a0;replace g0:=g0.st a0;replace h0:=h0.st a0;replace d0:=d0.st a0;obtain⟨v2,i1,j1,k1,l1⟩:=Chk.shut (x:=x0) (l0:=2) (by decide) h8 c0 f0 g0 h0 r0 d0 s0;obtain rfl:=sm hm;replace hB:=(hB.st e0).st i1;obtain⟨O',hS',hz,hl⟩:=hE.leave (λq=>if q=2 then i0 else 0) rfl hB;exact X3 rfl (AC rfl) (AC rfl) ⟨O',hS',_,_,(Ob.leave l1 hz (hl 2 (by decide) (by decide)) j0.2),rfl,vBool,(vErr h1)⟩
 replace hm:=im hm n0;refine o_z (Ah rfl (AE (Aj (Ae (Ar rfl (Cm rfl (AJ rfl ?_)))))));replace h8:=(h8.st k0).st e0;refine AL (hc:=Blk.cell (i:=6) (h8.1) rfl) rfl (Ar rfl ?_);obtain⟨m1,y0,hm⟩:=bs hm;have n1:=(Bh y0);refine Hi (he:=y0) rfl rfl (Cm rfl (AJ rfl ?_));refine AR h8 rfl rfl rfl (Bg) (allOne) λw2 o0 h8=>?_;refine o_z (Aj (Ae (Ar rfl (Au rfl (Au rfl (o_z (AD ?_)))))));have b0:=(k0.an e0).an o0;replace c0:=(c0.st e0).st o0;replace f0:=f0.st b0;replace g0:=g0.st b0;replace h0:=h0.st b0;replace d0:=d0.st b0;obtain⟨y2,o1,p1,q1,r1⟩:=Chk.shut (x:=(⟨(⟨x0.t.vars,x0.t.init,x0.t.goal,x0.t.ops⟩:Tsk),(⟨x0.c.bound,x0.c.nogoods⟩:Crt),m1⟩:Chk)) (l0:=2) (by decide) h8 c0 f0 g0 h0 r0 d0 n1;obtain rfl:=sm hm;replace hB:=((hB.st e0).st o0).st o1;obtain⟨O',hS',hz,hl⟩:=hE.leave (λq=>if q=2 then i0 else 0) rfl hB;exact X3 rfl (AC rfl) (AC rfl) ⟨O',hS',_,_,(Ob.leave r1 hz (hl 2 (by decide) (by decide)) j0.2),rfl,vBool,(vErr (W3 0))⟩
noncomputable def EB(c:Ngd)(d:List Fct):Option Bool :=
  bnd (bnd (Fv d c.facts) λa=>if a=true then some true else some false:Option Bool) λb=>some b
theorem KV{w:World}{A:Nat->Prop}(hA:∀k,A k->k<w.heap.size){e:Value}{j:Ngd}(o:Vb w A e j){a:Nat}{b:List Value}{l:List Fct}(f:Blk w a 23 b)(g:A a)(c:Rp.R w A b l){r:Bool}(hm:EB j l=some r) :
    Fn prog 56 [e,(.pointer (some ⟨a,0,none⟩))] w λv w'=>Ext w w'/\Vb w' (upA A w w') v r:=by
 obtain⟨O,hB,d0⟩:=enter hA;have d:Lc 0 w O a 23 b:=⟨f,(d0 a g).2⟩;replace c:=Rp.mono c d0;obtain⟨z,rfl,h3⟩:=c;replace h3:=Vb.of_slice h3;obtain⟨B,c5,rfl⟩:=h3.form;obtain⟨C,rfl,v7,rfl,h8,p0⟩:=id o;obtain⟨D,q0,rfl⟩:=h8.form;refine AG func56 rfl ntmps56 ?_;unfold EB at hm;refine Aj (Ae (Ea 2 O rfl λE p m h q=>?_));refine Au rfl (o_z (Aj ?_));obtain⟨s,a0,hm⟩:=bs hm;refine Bc (λt w'=>∃(u:Unit) (x:Lab),W4 t [(3,(.bool s))]/\Bs w A w' x) ?_ ?_
 ·refine Ae ?_;replace d:=d.st h;refine AL (hc:=Blk.cell (i:=0) (d.1) rfl) rfl (AJ rfl (AL (hc:=Blk.cell (i:=0) (q.1) rfl) rfl ?_));obtain⟨l0,m0,a0⟩:=bs a0;replace hB:=hB.st h;replace h3:=h3.st h;refine BO (O:=m) (LV (λ_ L=>L) (vMo h3) (Vb.mono (F:=Fr 0 p m) (h8.zs hA hB) Fr.lt) m0) rfl λG H I n y=>?_;obtain rfl:=y.bool;cases l0
  case false =>
   replace a0:=iF a0;refine Au rfl (o_z ?_);obtain rfl:=sm a0;exact⟨(),_,B3,hB.st n⟩
  replace a0:=iT a0;refine Au rfl (o_z ?_);obtain rfl:=sm a0;exact⟨(),_,B3,hB.st n⟩
 replace hB:=hB.st h;rintro J K ⟨u,z0,c0,hB⟩;refine AQ _ c0 ?_;refine AD ?_;obtain rfl:=sm hm;exact X2 rfl (AC rfl) ⟨hB.ext,vBool⟩
noncomputable def BF(e:List Ngd)(f:List Fct):Option Int :=
  bnd (rng (ρ:=Int) (λ(b:Nat)(c:Ngd)(g:Unit)=>bnd (EB c f) λd=>if d=true then some (.ret (b:Int))else some (.next ())) e 0 ()) λa=>fin a λ(h:Unit)=>some (-1)
theorem EF{w:World}{A:Nat->Prop}(hA:∀k,A k->k<w.heap.size){f:Value}{j:List Ngd}(m:Vb w A f j){b:Nat}{c:List Value}{e:List Fct}(g:Blk w b 23 c)(h:A b)(d:Rp.R w A c e){r:Int}(hm:BF j e=some r) :
    Fn prog 84 [f,(.func (.func 56) #[] #[(.pointer (some ⟨b,0,none⟩))])] w λv w'=>Ext w w'/\Vb w' (upA A w w') v r:=by
 obtain⟨O,hB,p0⟩:=enter hA;have a:Lc 0 w O b 23 c:=⟨g,(p0 b h).2⟩;replace d:=Rp.mono d p0;obtain⟨G,rfl,h4⟩:=d;replace h4:=Vb.of_slice h4;obtain⟨t,c6,rfl⟩:=h4.form;obtain⟨C,c8,rfl⟩:=m.form;refine AG func84 rfl ntmps84 ?_;unfold BF at hm;refine Aj (Ae (Au rfl (o_z (Aj (Aj (Ae (Ar rfl (AO rfl ?_))))))));have n:=Bj m.len;have H:=rngNat n;refine Ar rfl (o_z ?_);obtain⟨I,g0,hm⟩:=bs hm;refine Dg (X:=Unit) (j.length) g0 rfl n (λu y=>[(0,(.slice C j.length c8)),(1,(.func (.func 56) #[] #[(.pointer (some ⟨b,0,none⟩))]))]) (λu y w'=>∃o:Lab,Bs w A w' o/\Lc 0 w' o b 23 [(.slice t e.length c6)]/\Vb w' (Fr 0 w' o) (.slice t e.length c6) e) () ⟨O,hB,a,h4⟩ A1 (λ_ _=>rfl) ?_ ?_
 ·rintro J p u y q K z ⟨s,hB,a,h4⟩ a0 b0 k0;have i:=YV z n;refine Aj (Ae (Ar rfl (Au rfl (o_z (Aj (Ae (Ar rfl (Ar rfl (Ar rfl ?_)))))))));obtain⟨L,g1,w0,l0,m0,n0,h1,rfl,t0,z0⟩:=(m.zs hA hB).elem' z;obtain⟨D,b1,rfl⟩:=t0.form;refine BA (hA:=l0) (hj:=rfl) (hlt:=m0) rfl rfl (BE (hl:=rfl) (hc:=n0) rfl ?_);obtain⟨B,c1,a0⟩:=bs a0;refine Lb (O:=s) (A:=All q) (R:=λw' F v=>Vb w' F v B) (KV (λ_ U=>U) (Vb.mono (F:=Fr 0 q s) (Vb.ofAgg (cs:=[(.slice D p.facts.length b1),(.int .i64 p.dist)]) (x:=p) rfl ⟨_,rfl,t0,z0⟩) Fr.lt) a.1 a.1.lt (Rp.mono (F:=Fr 0 q s) (x:=e) (Vb.cells1 h4) Fr.lt) c1) rfl rfl rfl rfl λM N P l E=>?_;obtain rfl:=E.bool;cases B
  case false =>
   replace a0:=iF a0;refine o_z (Ah rfl (AE ?_));obtain rfl:=sm a0;exact show Exists _ from⟨_,(),rfl,A1,_,hB.st l,a.st l,h4.st l⟩
  replace a0:=iT a0;refine o_z (Am rfl (Aj (Ae (Ar rfl (Au rfl (o_z (AD ?_)))))));obtain rfl:=sm a0;obtain rfl:=b0 _ rfl;obtain rfl:=sm (Bp hm);replace hB:=hB.st l;exact X2 rfl (AC rfl) ⟨hB.ext,(vInt i)⟩
 rintro Q S ⟨T,o1,rfl,o0,p1,hB,a,h4⟩;replace hm:=AW hm;refine AQ _ o0 ?_;refine Aj (Ae (Au rfl (o_z (AD ?_))));obtain rfl:=sm hm;exact X2 rfl (AC rfl) ⟨hB.ext,(vInt (W3 (-1)))⟩
noncomputable def BB(b:List Ngd)(c:List Fct):Option Bool :=
  bnd (bnd (BF b c) λa=>if 0<=a then(some true)else(some false):Option Bool) λd=>some d
theorem Et{w:World}{A:Nat->Prop}(hA:∀k,A k->k<w.heap.size){e:Value}{j:List Ngd}(l:Vb w A e j){a:Nat}{b:List Value}{h:List Fct}(f:Blk w a 23 b)(g:A a)(c:Rp.R w A b h){r:Bool}(hm:BB j h=some r) :
    Fn prog 55 [e,(.func (.func 56) #[] #[(.pointer (some ⟨a,0,none⟩))])] w λv w'=>Ext w w'/\Vb w' (upA A w w') v r:=by
 obtain⟨O,hB,e0⟩:=enter hA;have d:Lc 0 w O a 23 b:=⟨f,(e0 a g).2⟩;replace c:=Rp.mono c e0;obtain⟨t,rfl,h4⟩:=c;replace h4:=Vb.of_slice h4;obtain⟨u,c6,rfl⟩:=h4.form;obtain⟨y,c8,rfl⟩:=l.form;refine AG func55 rfl ntmps55 ?_;unfold BB at hm;refine Aj (Ae (Au rfl (o_z (Aj ?_))));obtain⟨n,a0,hm⟩:=bs hm;refine Bc (λo w'=>∃(p:Unit) (q:Lab),W4 o [(4,(.bool n))]/\Bs w A w' q) ?_ ?_
 ·refine Ae (Ar rfl (Ar rfl ?_));obtain⟨z,h0,a0⟩:=bs a0;refine BO (O:=O) (EF (λ_ G=>G) (Vb.mono (F:=Fr 0 w O) (l.zs hA hB) Fr.lt) d.1 d.1.lt (Rp.mono (F:=Fr 0 w O) (x:=h) (Vb.cells1 h4) Fr.lt) h0) rfl λB l0 C m s=>?_;obtain⟨rfl,n0⟩:=s.int;refine Es rfl rfl (λi=>?_) λi=>?_
  ·replace a0:=ip a0 i;refine Au rfl (o_z ?_);obtain rfl:=sm a0;exact⟨(),_,B3,hB.st m⟩
  replace a0:=im a0 i;refine Au rfl (o_z ?_);obtain rfl:=sm a0;exact⟨(),_,B3,hB.st m⟩
 rintro D E ⟨p,q0,c0,hB⟩;refine AQ _ c0 ?_;refine AD ?_;obtain rfl:=sm hm;exact X2 rfl (AC rfl) ⟨hB.ext,vBool⟩
noncomputable def Fw(c:List Fct)(d:List Ngd):Option Bool :=
  bnd (bnd (BB d c) λa=>if a=true then some true else some false:Option Bool) λb=>some b
theorem LX{w:World}{A:Nat->Prop}(hA:∀k,A k->k<w.heap.size){a:Value}{c:List Fct}(e:Vb w A a c){b:Value}{f:List Ngd}(g:Vb w A b f){r:Bool}(hm:Fw c f=some r) :
    Fn prog 27 [a,b] w λv w'=>Ext w w'/\Vb w' (upA A w w') v r:=by
 obtain⟨O,hB,m0⟩:=enter hA;obtain⟨s,c4,rfl⟩:=e.form;obtain⟨t,c6,rfl⟩:=g.form;refine AG func27 rfl ntmps27 ?_;unfold Fw at hm;refine Aj (Ae (Ea 2 O rfl λu h d i j=>?_));refine Au rfl (o_z (Aj ?_));obtain⟨m,a0,hm⟩:=bs hm;refine Bc (λn w'=>∃(o:Unit) (p:Lab),W4 n [(4,(.bool m))]/\Bs w A w' p) ?_ ?_
 ·refine Ae (Ar rfl (Qq rfl rfl rfl ?_));obtain⟨q,k0,a0⟩:=bs a0;replace hB:=hB.st i;refine BO (O:=d) (Et (λ_ E=>E) (Vb.mono (F:=Fr 0 h d) (g.zs hA hB) Fr.lt) j.1 j.1.lt (Rp.mono (F:=Fr 0 h d) (x:=c) (Vb.cells1 (e.zs hA hB)) Fr.lt) k0) rfl λy z B l l0=>?_;obtain rfl:=l0.bool;cases q
  case false =>
   replace a0:=iF a0;refine Au rfl (o_z ?_);obtain rfl:=sm a0;exact⟨(),_,B3,hB.st l⟩
  replace a0:=iT a0;refine Au rfl (o_z ?_);obtain rfl:=sm a0;exact⟨(),_,B3,hB.st l⟩
 replace hB:=hB.st i;rintro C D ⟨o,s0,b0,hB⟩;refine AQ _ b0 ?_;refine AD ?_;obtain rfl:=sm hm;exact X2 rfl (AC rfl) ⟨hB.ext,vBool⟩
noncomputable def ES(a:Int):Option Bool :=
  bnd (if(-1)<=a then(if a<=1099511627776 then(some true)else(some false))else(some false):Option Bool) λb=>some b
section
attribute [local irreducible] Vb Lc Rw Ob
theorem ML{w:World}{A:Nat->Prop}(hA:∀k,A k->k<w.heap.size){b:Int}(f:W1 b){r:Bool}(hm:ES b=some r) :
    Fn prog 23 [(.int .i64 b)] w λv w'=>Ext w w'/\Vb w' (upA A w w') v r:=by
 obtain⟨_,_,_⟩:=Db hA;refine AG func23 rfl ntmps23 ?_;unfold ES at hm;refine Aj (Ae (Au rfl (o_z (Aj (Dp (X:=Unit) hm [] [] [] [] (λ_ _ c _ t=>(2,.bool c)::t) (λ_ _ _ _ t=>t) ?_ ?_)))))
 ·intro c a;refine Ae (Ar rfl (Es rfl rfl (λd=>?_) λd=>?_))
  ·replace a:=ip a d;refine Ar rfl (Az rfl rfl (Ar rfl (Az rfl rfl (Mt rfl rfl rfl (λe=>?_) λe=>?_))))
   ·replace a:=ip a e;refine AV rfl rfl (Au rfl (o_z ?_));obtain rfl:=sm a;exact Bb ()
   replace a:=im a e;refine AV rfl rfl (Au rfl (o_z ?_));obtain rfl:=sm a;exact Bb ()
  replace a:=im a d;refine Ar rfl (Ay rfl rfl (Ay rfl rfl (AS rfl rfl (Au rfl (o_z ?_)))));obtain rfl:=sm a;exact Bb ()
 intro c _ _ _ _ hm;intros;refine BP ?_;refine AD ?_;obtain rfl:=sm hm;exact Ca
end
end
section
open Go Go.RowKit
attribute [local irreducible] ewp owp hwp hwq hws Ev Evg Fn W6 X7 X4 X1
attribute [local irreducible] hwx YW hwz ZY
noncomputable def Gq(a:Int):Option Bool :=
  bnd (if a≠a then(some true)else(some false):Option Bool) λb=>some b
section
attribute [local irreducible] Vb Lc Rw Ob
theorem Kn{w:World}{A:Nat->Prop}(hA:∀k,A k->k<w.heap.size){b:Int}(e:W1 b){r:Bool}(hm:Gq b=some r) :
    Fn prog 128 [(.int .i64 b)] w λv w'=>Ext w w'/\Vb w' (upA A w w') v r:=by
 obtain⟨_,_,_⟩:=Db hA;refine AG func128 rfl ntmps128 ?_;unfold Gq at hm;refine Aj (Ae (Au rfl (o_z (Aj (Dp (X:=Unit) hm [] [] [] [] (λ_ _ c _ t=>(2,.bool c)::t) (λ_ _ _ _ t=>t) ?_ ?_)))))
 ·intro c a;refine Ae (Ar rfl (Ar rfl (Gm rfl rfl (λd=>?_) λd=>?_)))
  ·replace a:=ip a d;refine Au rfl (o_z ?_);obtain rfl:=sm a;exact Bb ()
  replace a:=im a d;refine Au rfl (o_z ?_);obtain rfl:=sm a;exact Bb ()
 intro c _ _ _ _ hm;intros;refine BP ?_;refine AD ?_;obtain rfl:=sm hm;exact Ca
end
noncomputable def ET(b:Int)(c:Int):Option Int :=
  bnd (bnd (Gq b) λe=>if e=true then some true else some false:Option Bool) λf=>bnd (bnd (Gq c) λd=>if d=true then some true else some false:Option Bool) λa=>if f=true then(if a=true then(some 0)else(some (-1)))else(if a=true then(some 1)else(if b<c then(some (-1))else(if c<b then(some 1)else(some 0))))
section
attribute [local irreducible] Vb Lc Rw Ob
theorem Ja{w:World}{A:Nat->Prop}(hA:∀k,A k->k<w.heap.size){c:Int}(m:W1 c){d:Int}(n:W1 d){r:Int}(hm:ET c d=some r) :
    Fn prog 94 [(.int .i64 c),(.int .i64 d)] w λv w'=>Ext w w'/\Vb w' (upA A w w') v r:=by
 obtain⟨_,_,_⟩:=Db hA;refine AG func94 rfl ntmps94 ?_;unfold ET at hm;refine Aj (Ae (Au rfl (o_z (Aj (Dp (X:=Unit) hm [0,1] [] [] [] (λ_ _ e _ t=>(5,.bool e)::t) (λ_ _ _ _ t=>t) ?_ ?_)))))
 ·intro e a;refine Ae (Ar rfl ?_);obtain⟨o,e9,a⟩:=bs a;refine DE rfl (Kn (λ_ q=>q) zI e9) ?_;intros;cases o
  case false =>
   replace a:=iF a;refine Au rfl (o_z ?_);obtain rfl:=sm a;exact Bb ()
  replace a:=iT a;refine Au rfl (o_z ?_);obtain rfl:=sm a;exact Bb ()
 intro e _ _ _ _ hm;intros;refine BP ?_;refine Aj (Dp (X:=Unit) hm [0,1,5] [] [] [] (λ_ _ f _ t=>(6,.bool f)::t) (λ_ _ _ _ t=>t) ?_ ?_)
 ·intro f b;refine Ae (Ar rfl ?_);obtain⟨p,j0,b⟩:=bs b;refine DE rfl (Kn (λ_ q=>q) zI j0) ?_;intros;cases p
  case false =>
   replace b:=iF b;refine Au rfl (o_z ?_);obtain rfl:=sm b;exact Bb ()
  replace b:=iT b;refine Au rfl (o_z ?_);obtain rfl:=sm b;exact Bb ()
 intro f _ _ _ _ hm;intros;refine BP ?_;refine Aj (Aj (Ae (Ar rfl (o_z (Bx rfl (λg=>?_) (λg=>?_))))))
 ·replace hm:=ip hm g;refine Aj (Aj (Ae (Ar rfl (o_z (Bx rfl (λh=>?_) (λh=>?_))))))
  ·replace hm:=ip hm h;refine Aj (Ae (Au rfl (o_z (AD ?_))));obtain rfl:=sm hm;exact Ca
  replace hm:=im' hm h;refine AE (Aj (Ae (Au rfl (o_z (AD ?_)))));obtain rfl:=sm hm;exact Ca
 replace hm:=im' hm g;refine AE (Aj (Aj (Ae (Ar rfl (o_z (Bx rfl (λi=>?_) (λi=>?_)))))))
 ·replace hm:=ip hm i;refine Aj (Ae (Au rfl (o_z (AD ?_))));obtain rfl:=sm hm;exact Ca
 replace hm:=im' hm i;refine AE (Aj (Aj (Ae (Ar rfl (Ar rfl (Cp rfl rfl (λj=>?_) λj=>?_))))))
 ·replace hm:=ip hm j;refine o_z (Am rfl (Aj (Ae (Au rfl (o_z (AD ?_))))));obtain rfl:=sm hm;exact Ca
 replace hm:=im hm j;refine o_z (Ah rfl (AE (Aj (Aj (Ae (Ar rfl (Ar rfl (Cq rfl rfl (λl=>?_) λl=>?_))))))))
 ·replace hm:=ip hm l;refine o_z (Am rfl (Aj (Ae (Au rfl (o_z (AD ?_))))));obtain rfl:=sm hm;exact Ca
 replace hm:=im hm l;refine o_z (Ah rfl (AE (Aj (Ae (Au rfl (o_z (AD ?_)))))));obtain rfl:=sm hm;exact Ca
end
noncomputable def Id(c:List Int):Option Int :=
  bnd (rng (ρ:=Int) (λ(e:Nat)(a:Int)(f:Unit)=>if a≠0 then(some (.ret a))else(some (.next ()))) c 0 ()) λb=>fin b λ(d:Unit)=>some 0
section
attribute [local irreducible] Vb Lc Rw Ob
theorem QG{w:World}{A:Nat->Prop}(hA:∀k,A k->k<w.heap.size){b:Value}{d:List Int}(e:Vb w A b d){r:Int}(hm:Id d=some r) :
    Fn prog 93 [b] w λv w'=>Ext w w'/\Vb w' (upA A w w') v r:=by
 obtain⟨_,_,_⟩:=Db hA;apply CZ e;intros;refine AG func93 rfl ntmps93 ?_;unfold Id at hm;refine Aj (Ae (Au rfl (o_z (Aj (Ae (Au rfl (o_z (Aj (Aj (Ae (Ar rfl (AO rfl (Ar rfl (o_z ?_))))))))))))));refine Fq (X:=Unit) hm [3,6] [] [] [] (λ_ _ _ _ t=>t) (λ_ _ _ _ t=>t) () ?_ ?_
 ·intro g h i _ _ _ _ a j _ f;intros;refine Aj (Ae (FW ?_));intros;refine Le (Au rfl (o_z (Aj (Ae (Ar rfl (Ar rfl (Gm rfl rfl (λc=>?_) λc=>?_)))))))
  ·replace a:=ip a c;refine o_z (Am rfl (Aj (Ae (Ar rfl (Au rfl (o_z (AD ?_)))))));obtain rfl:=sm a;obtain rfl:=f _ rfl;exact Ca
  replace a:=im a c;refine o_z (Ah rfl (AE ?_));exact EI () a
 intro l _ _ _ _ hm;intros;refine BP ?_;refine Aj (Ae (Ar rfl (Au rfl (o_z (AD ?_)))));obtain rfl:=sm hm;exact Ca
end
noncomputable def Ef(d:Fct)(e:Fct):Option Int :=
  bnd (ET d.var e.var) λa=>bnd (ET d.val e.val) λb=>bnd (Id ([a,b]:List Int)) λc=>some c
section
attribute [local irreducible] Vb Lc Rw Ob
theorem Lq{w:World}{A:Nat->Prop}(hA:∀k,A k->k<w.heap.size){a:Value}{c:Fct}(e:Vb w A a c){b:Value}{d:Fct}(f:Vb w A b d){r:Int}(hm:Ef c d=some r) :
    Fn prog 92 [a,b] w λv w'=>Ext w w'/\Vb w' (upA A w w') v r:=by
 obtain⟨_,_,_⟩:=Db hA;apply CZ e;intros;apply CZ f;intros;refine AG func92 rfl ntmps92 ?_;unfold Ef at hm;refine Aj (Ae (Gx 2 ?_));intros;refine Gx 3 ?_;intros;refine Au rfl (o_z (Aj (Tb [] ?_)));refine Bl (fuel:=5) [] (Ci [0,1,2,3,5,6,7,8]) rfl (Be rfl rfl (Ji rfl (Be rfl rfl ?_)));refine Ji rfl (Be rfl rfl ?_);refine Ji rfl (Be rfl rfl ?_);refine Ji rfl (AP (Bo (i:=4) rfl ?_));refine q_S [] ?_;intros;obtain⟨g,d0,hm⟩:=bs hm;refine DE rfl (Ja (λ_ l=>l) zI zI d0) ?_;intros;refine GZ [] ?_;refine Bo (i:=9) rfl (q_S [] ?_);intros;obtain⟨h,f0,hm⟩:=bs hm;refine DE rfl (Ja (λ_ l=>l) zI zI f0) ?_;intros;refine GZ [] ?_;refine Bo (i:=10) rfl (q_S [] ?_);intros;refine GC 4 (([g,h]:List Int):List Int) ?_;intros;refine GZ [] ?_;refine Bo (i:=11) rfl (q_S [] ?_);intros;obtain⟨j,g0,hm⟩:=bs hm;refine DE rfl (QG (λ_ l=>l) zAr g0) ?_;intros;refine GZ [] ?_;refine Bl (fuel:=0) [] [(12,true)] rfl (CY rfl rfl (AP (Dv (AD ?_))));obtain rfl:=sm hm;exact Ca
end
noncomputable def Bk(g:List Fct)(d:List Fct):Option Int :=
  bnd (rng (ρ:=Int) (λ(b:Nat)(e:Fct)(h:Unit)=>if(d.length:Int)<=(b:Int)then(some (.ret 1))else(bnd (d[b]?) λf=>bnd (Ef e f) λc=>if c≠0 then(some (.ret c))else(some (.next ())))) g 0 ()) λa=>fin a λ(i:Unit)=>if(g.length:Int)<(d.length:Int)then(some (-1))else(some 0)
section
attribute [local irreducible] Vb Lc Rw Ob
theorem DL{w:World}{A:Nat->Prop}(hA:∀k,A k->k<w.heap.size){b:Value}{g:List Fct}(j:Vb w A b g){c:Value}{h:List Fct}(l:Vb w A c h){r:Int}(hm:Bk g h=some r) :
    Fn prog 91 [b,c,(.func (.func 92) #[] #[])] w λv w'=>Ext w w'/\Vb w' (upA A w w') v r:=by
 obtain⟨_,_,_⟩:=Db hA;apply CZ j;intros;apply CZ l;intros;refine AG func91 rfl ntmps91 ?_;unfold Bk at hm;refine Aj (Ae (Au rfl (o_z (Aj (Aj (Ae (Ar rfl (AO rfl (Ar rfl (o_z (Fq (X:=Unit) hm [0,1,2,11] [] [2,3] [] (λ_ _ _ _ t=>t) (λ_ _ _ _ t=>t) () ?_ ?_)))))))))))
 ·intro m n l0 _ _ _ _ a o _ i;intros;refine Aj (Ae (Ar rfl (FW ?_)));intros;refine Gp ?_;refine Cv 2 ?_;intros;refine Au rfl (BW ?_);intros;refine o_z (Aj (Aj (Ae (Ar rfl (Ar rfl (AO rfl (Es rfl rfl (λd=>?_) λd=>?_)))))))
  ·replace a:=ip a d;refine o_z (Am rfl (Aj (Ae (Au rfl (o_z (AD ?_))))));obtain rfl:=sm a;obtain rfl:=i _ rfl;exact Ca
  replace a:=im a d;refine o_z (Ah rfl (AE (Aj (Ae (Ar rfl (Ar rfl ?_))))));obtain⟨p,n0,a⟩:=bs a;refine FW ?_;intros;refine Gp ?_;refine Cv 3 ?_;intros;refine BW ?_;intros;refine o_z (Aj (Ae (Ar rfl (Ep ?_))));refine Ep ?_;obtain⟨q,i0,a⟩:=bs a;refine YS rfl rfl (Lq (λ_ u=>u) zA zA i0) ?_;intros;refine Au rfl (o_z (Aj (Ae (Ar rfl (Gm rfl rfl (λe=>?_) λe=>?_)))))
  ·replace a:=ip a e;refine o_z (Am rfl (Aj (Ae (Ar rfl (Au rfl (o_z (AD ?_)))))));obtain rfl:=sm a;obtain rfl:=i _ rfl;exact Ca
  replace a:=im a e;refine o_z (Ah rfl (AE ?_));exact EI () a
 intro s _ _ _ _ hm;intros;refine BP ?_;refine Aj (Aj (Ae (Ar rfl (AO rfl (Ar rfl (AO rfl (Cp rfl rfl (λf=>?_) λf=>?_)))))))
 ·replace hm:=ip hm f;refine o_z (Am rfl (Aj (Ae (Au rfl (o_z (AD ?_))))));obtain rfl:=sm hm;exact Ca
 replace hm:=im hm f;refine o_z (Ah rfl (AE (Aj (Ae (Au rfl (o_z (AD ?_)))))));obtain rfl:=sm hm;exact Ca
end
noncomputable def DO(a:List Fct)(b:List Fct):Option Int :=
  bnd (Bk a b) λc=>some c
section
attribute [local irreducible] Vb Lc Rw Ob
theorem Hv{w:World}{A:Nat->Prop}(hA:∀k,A k->k<w.heap.size){a:Value}{c:List Fct}(e:Vb w A a c){b:Value}{d:List Fct}(f:Vb w A b d){r:Int}(hm:DO c d=some r) :
    Fn prog 61 [a,b] w λv w'=>Ext w w'/\Vb w' (upA A w w') v r:=by
 obtain⟨_,_,_⟩:=Db hA;apply CZ e;intros;apply CZ f;intros;refine AG func61 rfl ntmps61 ?_;unfold DO at hm;refine Aj (Ae (Au rfl (o_z (Aj (Ae (Ar rfl (Ar rfl ?_)))))));obtain⟨g,c0,hm⟩:=bs hm;refine DE rfl (DL (λ_ h=>h) zA zA c0) ?_;intros;refine Au rfl (o_z (AD ?_));obtain rfl:=sm hm;exact Ca
end
noncomputable def AU(e:List (List Fct))(m:List Fct):Option (Int×Bool) :=
  bnd (lop (ρ:=Int×Bool) (λ(a:Int×Int)=>if a.1<a.2 then(bnd (W5 (a.1+a.2)) λf=>bnd (Z4 (BitVec.ofInt 64 f) 1) λb=>bnd (atI e b.toInt) λg=>bnd (DO g m) λh=>if h<0 then(bnd (W5 (b.toInt+1)) λi=>some (.next (i,a.2)))else(some (.next (a.1,b.toInt))))else(some (.brk (a.1,a.2)))) (0,(e.length:Int))) λc=>fin c λ(d:Int×Int)=>bnd (if d.1<(e.length:Int)then(bnd (atI e d.1) λj=>bnd (DO j m) λk=>if k=0 then(some true)else(some false))else(some false):Option Bool) λl=>some (d.1,l)
theorem DW{w:World}{A:Nat->Prop}(hA:∀k,A k->k<w.heap.size){vx0:Value}{x0:List (List Fct)}(g0:Vb w A vx0 x0){vx1:Value}{x1:List Fct}(l0:Vb w A vx1 x1){r:Int×Bool}(hm:AU x0 x1=some r) :
    Fn prog 116 [vx0,vx1,(.func (.func 61) #[] #[])] w λv w'=>Ext w w'/\T2 w' (upA A w w') v r:=by
 obtain⟨O,hB,g2⟩:=enter hA;obtain⟨A4,c5,rfl⟩:=g0.form;obtain⟨A6,c7,rfl⟩:=l0.form;refine AG func116 rfl ntmps116 ?_;unfold AU at hm;refine Aj (Ae (Au rfl (Au rfl (o_z (Aj (Ae (Ar rfl (AO rfl ?_))))))));have l9:=Bj g0.len;have r8:=rngNat l9;refine Au rfl (o_z (Aj (Ae (Ar rfl (Au rfl (Au rfl (o_z (Aj ?_))))))));obtain⟨e0,m0,hm⟩:=bs hm;refine Bc (aft e0 (λ(c0:Int×Int)(h0:Unit)=>[(0,(.slice A4 x0.length c5)),(1,(.slice A6 x1.length c7)),(2,(.func (.func 61) #[] #[])),(8,(.int .i64 (x0.length:Int))),(9,(.int .i64 c0.1))]) (λc0 h0 w'=>∃O':Lab,Bs w A w' O'/\W1 c0.1/\W1 c0.2)) ?_ ?_
 ·refine BC (GB (σ:=Int×Int) (X:=Unit) m0 (λ(c0:Int×Int)(h0:Unit)=>[(0,(.slice A4 x0.length c5)),(1,(.slice A6 x1.length c7)),(2,(.func (.func 61) #[] #[])),(8,(.int .i64 (x0.length:Int))),(9,(.int .i64 c0.1)),(10,(.int .i64 c0.2))]) _ (λc0 h0 w'=>∃O':Lab,Bs w A w' O'/\W1 c0.1/\W1 c0.2) _ () ⟨O,hB,(W3 0),r8⟩ Af ?_);rintro c0 h0 b1 j1 ⟨c1,hB,i0,n0⟩ a0 o0 d0;refine Aj (Aj (Ae (Ar rfl (Ar rfl (Cp rfl rfl (λp0=>?_) λp0=>?_)))))
  ·replace a0:=ip a0 p0;refine o_z (Am rfl (AE (BC (Aj (Ae (Ar rfl (Ar rfl ?_)))))));obtain⟨k1,d1,a0⟩:=bs a0;have h2:=(Bh d1);refine DM (he:=d1) rfl rfl (Wc rfl rfl ?_);obtain⟨l1,m1,a0⟩:=bs a0;refine SW (a:=(BitVec.ofInt 64 k1)) (he:=m1) rfl rfl rfl (Wd (a:=l1) rfl rfl (Au rfl (o_z (Aj (Ae (Ar rfl (Ar rfl (Ar rfl ?_))))))));obtain⟨i2,n1,a0⟩:=bs a0;obtain⟨o1,p1⟩:=Cn n1;obtain⟨j2,k2,q1,q0,r0,s0,l2,rfl,j0⟩:=(g0.zs hA hB).elem' p1;replace j0:=Vb.of_slice j0;obtain⟨m2,n2,rfl⟩:=j0.form;refine BA (hA:=q0) (hj:=o1) (hlt:=r0) rfl rfl (AL (hc:=cat0 s0) rfl (Ar rfl ?_));obtain⟨r1,s1,a0⟩:=bs a0;refine Nl (O:=c1) (A:=All b1) (R:=λw' F v=>Vb w' F v r1) (Hv (λ_ h=>h) (vMo j0) (Vb.mono (F:=Fr 0 b1 c1) (l0.zs hA hB) Fr.lt) s1) rfl rfl rfl λo2 p2 q2 e1 t1=>?_;obtain⟨rfl,r2⟩:=t1.int;refine Cp rfl rfl (λt0=>?_) λt0=>?_
   ·replace a0:=ip a0 t0;refine o_z (Am rfl (Ae (Ar rfl ?_)));obtain⟨s2,f1,a0⟩:=bs a0;have u1:=(Bh f1);refine DM (he:=f1) rfl rfl (Au rfl (o_z ?_));obtain rfl:=sm a0;exact show Exists _ from⟨_,(),rfl,Af,_,hB.st e1,u1,n0⟩
   replace a0:=im a0 t0;refine o_z (Ah rfl (Ae (Ar rfl (Au rfl (o_z ?_)))));obtain rfl:=sm a0;exact show Exists _ from⟨_,(),rfl,Af,_,hB.st e1,i0,(Abm _)⟩
  replace a0:=im a0 p0;refine o_z (Ah rfl (Cl ?_));obtain rfl:=sm a0;exact show Exists _ from⟨_,(),d0 _ rfl,Ad,_,hB,i0,n0⟩
 rintro t2 g1 ⟨v1,u2,rfl,u0,h1,hB,i0,n0⟩;replace hm:=AW hm;refine AQ _ u0 ?_;refine Aj ?_;obtain⟨w1,b0,hm⟩:=bs hm;refine Bc (λl' w'=>∃(y1:Unit) (O':Lab),W4 l' [(6,(.int .i64 v1.1)),(7,(.bool w1))]/\Bs w A w' O') ?_ ?_
 ·refine Ae (Ar rfl (Ar rfl (Ar rfl (Cp rfl rfl (λv0=>?_) λv0=>?_))))
  ·replace b0:=ip b0 v0;refine Ar rfl (Az rfl rfl (Ar rfl (Az rfl rfl (Ar rfl (Az rfl rfl (Ar rfl (Az rfl rfl ?_)))))));obtain⟨v2,z1,b0⟩:=bs b0;obtain⟨a2,b2⟩:=Cn z1;obtain⟨w2,x2,c2,w0,y0,z0,y2,rfl,k0⟩:=(g0.zs hA hB).elem' b2;replace k0:=Vb.of_slice k0;obtain⟨z2,a3,rfl⟩:=k0.form;refine BA (hA:=w0) (hj:=a2) (hlt:=y0) rfl rfl (Az rfl rfl (AL (hc:=cat0 z0) rfl (Az rfl rfl (Ar rfl (Az rfl rfl ?_)))));obtain⟨d2,e2,b0⟩:=bs b0;refine Nl (O:=h1) (A:=All g1) (R:=λw' F v=>Vb w' F v d2) (Hv (λ_ h=>h) (vMo k0) (Vb.mono (F:=Fr 0 g1 h1) (l0.zs hA hB) Fr.lt) e2) rfl rfl rfl λb3 c3 d3 i1 f2=>?_;obtain⟨rfl,e3⟩:=f2.int;refine Az rfl rfl (EH rfl rfl (λa1=>?_) λa1=>?_)
   ·replace b0:=ip b0 a1;refine AV rfl rfl (Au rfl (Au rfl (o_z ?_)));obtain rfl:=sm b0;exact⟨(),_,D4,hB.st i1⟩
   replace b0:=im b0 a1;refine AV rfl rfl (Au rfl (Au rfl (o_z ?_)));obtain rfl:=sm b0;exact⟨(),_,D4,hB.st i1⟩
  replace b0:=im b0 v0;refine Ar rfl (Ay rfl rfl (Ay rfl rfl (Ay rfl rfl (Ay rfl rfl (Ay rfl rfl (Ay rfl rfl (Ay rfl rfl (Ay rfl rfl (AS rfl rfl (Au rfl (Au rfl (o_z ?_))))))))))));obtain rfl:=sm b0;exact⟨(),_,D4,hB⟩
 rintro f3 g3 ⟨y1,h3,f0,hB⟩;refine AQ _ f0 ?_;refine AD ?_;obtain rfl:=sm hm;exact X3 rfl (AC rfl) (AC rfl) ⟨hB.ext,_,_,rfl,(vInt i0),vBool⟩
noncomputable def Fx(b:List Fct)(c:List Fct):Option Bool :=
  bnd (bnd (DO b c) λa=>if a=0 then(some true)else(some false):Option Bool) λd=>some d
theorem LY{w:World}{A:Nat->Prop}(hA:∀k,A k->k<w.heap.size){d:Value}{j:List Fct}(l:Vb w A d j){a:Nat}{b:List Value}{m:List Fct}(e:Blk w a 23 b)(f:A a)(c:Rp.R w A b m){r:Bool}(hm:Fx j m=some r) :
    Fn prog 114 [d,(.pointer (some ⟨a,0,none⟩))] w λv w'=>Ext w w'/\Vb w' (upA A w w') v r:=by
 obtain⟨O,hB,e0⟩:=enter hA;have g:Lc 0 w O a 23 b:=⟨e,(e0 a f).2⟩;replace c:=Rp.mono c e0;obtain⟨u,rfl,h3⟩:=c;replace h3:=Vb.of_slice h3;obtain⟨x,c5,rfl⟩:=h3.form;obtain⟨y,c7,rfl⟩:=l.form;refine AG func114 rfl ntmps114 ?_;unfold Fx at hm;refine Aj (Ae (Au rfl (o_z (Aj ?_))));obtain⟨o,a0,hm⟩:=bs hm;refine Bc (λp w'=>∃(q:Unit) (s:Lab),W4 p [(3,(.bool o))]/\Bs w A w' s) ?_ ?_
 ·refine Ae (Ar rfl (AL (hc:=Blk.cell (i:=0) (g.1) rfl) rfl ?_));obtain⟨z,h0,a0⟩:=bs a0;refine BO (O:=O) (Hv (λ_ G=>G) (Vb.mono (F:=Fr 0 w O) (l.zs hA hB) Fr.lt) (vMo h3) h0) rfl λB l0 C n t=>?_;obtain⟨rfl,n0⟩:=t.int;refine EH rfl rfl (λh=>?_) λh=>?_
  ·replace a0:=ip a0 h;refine Au rfl (o_z ?_);obtain rfl:=sm a0;exact⟨(),_,B3,hB.st n⟩
  replace a0:=im a0 h;refine Au rfl (o_z ?_);obtain rfl:=sm a0;exact⟨(),_,B3,hB.st n⟩
 rintro D E ⟨q,q0,c0,hB⟩;refine AQ _ c0 ?_;refine AD ?_;obtain rfl:=sm hm;exact X2 rfl (AC rfl) ⟨hB.ext,vBool⟩
noncomputable def BJ(e:List (List Fct))(f:List Fct):Option Int :=
  bnd (rng (ρ:=Int) (λ(b:Nat)(c:List Fct)(g:Unit)=>bnd (Fx c f) λd=>if d=true then some (.ret (b:Int))else some (.next ())) e 0 ()) λa=>fin a λ(h:Unit)=>some (-1)
theorem Fj{w:World}{A:Nat->Prop}(hA:∀k,A k->k<w.heap.size){f:Value}{j:List (List Fct)}(m:Vb w A f j){b:Nat}{c:List Value}{e:List Fct}(g:Blk w b 23 c)(h:A b)(d:Rp.R w A c e){r:Int}(hm:BJ j e=some r) :
    Fn prog 111 [f,(.func (.func 114) #[] #[(.pointer (some ⟨b,0,none⟩))])] w λv w'=>Ext w w'/\Vb w' (upA A w w') v r:=by
 obtain⟨O,hB,n0⟩:=enter hA;have a:Lc 0 w O b 23 c:=⟨g,(n0 b h).2⟩;replace d:=Rp.mono d n0;obtain⟨C,rfl,h4⟩:=d;replace h4:=Vb.of_slice h4;obtain⟨p,c6,rfl⟩:=h4.form;obtain⟨B,c8,rfl⟩:=m.form;refine AG func111 rfl ntmps111 ?_;unfold BJ at hm;refine Aj (Ae (Au rfl (o_z (Aj (Aj (Ae (Ar rfl (AO rfl ?_))))))));have n:=Bj m.len;have D:=rngNat n;refine Ar rfl (o_z ?_);obtain⟨E,h0,hm⟩:=bs hm;refine Dg (X:=Unit) (j.length) h0 rfl n (λq s=>[(0,(.slice B j.length c8)),(1,(.func (.func 114) #[] #[(.pointer (some ⟨b,0,none⟩))]))]) (λq s w'=>∃o:Lab,Bs w A w' o/\Lc 0 w' o b 23 [(.slice p e.length c6)]/\Vb w' (Fr 0 w' o) (.slice p e.length c6) e) () ⟨O,hB,a,h4⟩ A1 (λ_ _=>rfl) ?_ ?_
 ·rintro G H q s t I u ⟨y,hB,a,h4⟩ a0 b0 i0;have i:=YV u n;refine Aj (Ae (Ar rfl (Au rfl (o_z (Aj (Ae (Ar rfl (Ar rfl (Ar rfl ?_)))))))));obtain⟨J,d1,v0,j0,k0,l0,e1,rfl,d0⟩:=(m.zs hA hB).elem' u;replace d0:=Vb.of_slice d0;obtain⟨K,g1,rfl⟩:=d0.form;refine BA (hA:=j0) (hj:=rfl) (hlt:=k0) rfl rfl (AL (hc:=cat0 l0) rfl ?_);obtain⟨z,w0,a0⟩:=bs a0;refine Lb (O:=y) (A:=All t) (R:=λw' F v=>Vb w' F v z) (LY (λ_ T=>T) (vMo d0) a.1 a.1.lt (Rp.mono (F:=Fr 0 t y) (x:=e) (Vb.cells1 h4) Fr.lt) w0) rfl rfl rfl rfl λL M N l z0=>?_;obtain rfl:=z0.bool;cases z
  case false =>
   replace a0:=iF a0;refine o_z (Ah rfl (AE ?_));obtain rfl:=sm a0;exact show Exists _ from⟨_,(),rfl,A1,_,hB.st l,a.st l,h4.st l⟩
  replace a0:=iT a0;refine o_z (Am rfl (Aj (Ae (Ar rfl (Au rfl (o_z (AD ?_)))))));obtain rfl:=sm a0;obtain rfl:=b0 _ rfl;obtain rfl:=sm (Bp hm);replace hB:=hB.st l;exact X2 rfl (AC rfl) ⟨hB.ext,(vInt i)⟩
 rintro P Q ⟨S,n1,rfl,m0,o1,hB,a,h4⟩;replace hm:=AW hm;refine AQ _ m0 ?_;refine Aj (Ae (Au rfl (o_z (AD ?_))));obtain rfl:=sm hm;exact X2 rfl (AC rfl) ⟨hB.ext,(vInt (W3 (-1)))⟩
noncomputable def AX(b:List (List Fct))(c:List Fct):Option Bool :=
  bnd (bnd (BJ b c) λa=>if 0<=a then(some true)else(some false):Option Bool) λd=>some d
theorem Dy{w:World}{A:Nat->Prop}(hA:∀k,A k->k<w.heap.size){e:Value}{j:List (List Fct)}(l:Vb w A e j){a:Nat}{b:List Value}{h:List Fct}(f:Blk w a 23 b)(g:A a)(c:Rp.R w A b h){r:Bool}(hm:AX j h=some r) :
    Fn prog 82 [e,(.func (.func 114) #[] #[(.pointer (some ⟨a,0,none⟩))])] w λv w'=>Ext w w'/\Vb w' (upA A w w') v r:=by
 obtain⟨O,hB,e0⟩:=enter hA;have d:Lc 0 w O a 23 b:=⟨f,(e0 a g).2⟩;replace c:=Rp.mono c e0;obtain⟨t,rfl,h4⟩:=c;replace h4:=Vb.of_slice h4;obtain⟨u,c6,rfl⟩:=h4.form;obtain⟨y,c8,rfl⟩:=l.form;refine AG func82 rfl ntmps82 ?_;unfold AX at hm;refine Aj (Ae (Au rfl (o_z (Aj ?_))));obtain⟨n,a0,hm⟩:=bs hm;refine Bc (λo w'=>∃(p:Unit) (q:Lab),W4 o [(4,(.bool n))]/\Bs w A w' q) ?_ ?_
 ·refine Ae (Ar rfl (Ar rfl ?_));obtain⟨z,h0,a0⟩:=bs a0;refine BO (O:=O) (Fj (λ_ G=>G) (Vb.mono (F:=Fr 0 w O) (l.zs hA hB) Fr.lt) d.1 d.1.lt (Rp.mono (F:=Fr 0 w O) (x:=h) (Vb.cells1 h4) Fr.lt) h0) rfl λB l0 C m s=>?_;obtain⟨rfl,n0⟩:=s.int;refine Es rfl rfl (λi=>?_) λi=>?_
  ·replace a0:=ip a0 i;refine Au rfl (o_z ?_);obtain rfl:=sm a0;exact⟨(),_,B3,hB.st m⟩
  replace a0:=im a0 i;refine Au rfl (o_z ?_);obtain rfl:=sm a0;exact⟨(),_,B3,hB.st m⟩
 rintro D E ⟨p,q0,c0,hB⟩;refine AQ _ c0 ?_;refine AD ?_;obtain rfl:=sm hm;exact X2 rfl (AC rfl) ⟨hB.ext,vBool⟩
end
section
open Go.Shelf
def RG:Go.Shelf.Ren:=⟨fun|189=>135|125=>90|257=>149|128=>126|129=>127|294=>160|295=>161|296=>162|297=>163|298=>164|299=>165|216=>166|300=>167|301=>168|328=>177|329=>142|330=>143|331=>178|332=>179|215=>128|343=>191|n=>n,fun|28=>22|3=>3|46=>187|0=>0|51=>230|53=>203|4=>4|183=>224|182=>223|131=>40|5=>5|9=>9|218=>251|222=>254|228=>264|229=>265|n=>n,fun|n=>n⟩
theorem Abp:Go.Proofs.Lays.n189 prog RG:={
  mixed:=by kernel_rfl
  f125:=func90.trans (congrArg some (by kernel_rfl))
  f128:=func126.trans (congrArg some (by kernel_rfl))
  f129:=func127.trans (congrArg some (by kernel_rfl))
  f189:=func135.trans (congrArg some (by kernel_rfl))
  f215:=func128.trans (congrArg some (by kernel_rfl))
  f216:=func166.trans (congrArg some (by kernel_rfl))
  f257:=func149.trans (congrArg some (by kernel_rfl))
  f294:=func160.trans (congrArg some (by kernel_rfl))
  f295:=func161.trans (congrArg some (by kernel_rfl))
  f296:=func162.trans (congrArg some (by kernel_rfl))
  f297:=func163.trans (congrArg some (by kernel_rfl))
  f298:=func164.trans (congrArg some (by kernel_rfl))
  f299:=func165.trans (congrArg some (by kernel_rfl))
  f300:=func167.trans (congrArg some (by kernel_rfl))
  f301:=func168.trans (congrArg some (by kernel_rfl))
  f328:=func177.trans (congrArg some (by kernel_rfl))
  f329:=func142.trans (congrArg some (by kernel_rfl))
  f330:=func143.trans (congrArg some (by kernel_rfl))
  f331:=func178.trans (congrArg some (by kernel_rfl))
  f332:=func179.trans (congrArg some (by kernel_rfl))
  f343:=func191.trans (congrArg some (by kernel_rfl))
  t0:=underlying0
  a0:=isAgg0
  z0:=sizeOf0
  v0:=zeroValue0
  t3:=underlying3
  a3:=isAgg3
  z3:=sizeOf3
  v3:=zeroValue3
  t4:=underlying4
  a4:=isAgg4
  z4:=sizeOf4
  v4:=zeroValue4
  t5:=underlying5
  a5:=isAgg5
  z5:=sizeOf5
  v5:=zeroValue5
  t9:=underlying9
  a9:=isAgg9
  z9:=sizeOf9
  v9:=zeroValue9
  t28:=underlying22
  a28:=isAgg22
  z28:=sizeOf22
  v28:=zeroValue22
  t46:=underlying187
  a46:=isAgg187
  z46:=sizeOf187
  v46:=zeroValue187
  t51:=underlying230
  a51:=isAgg230
  z51:=sizeOf230
  v51:=zeroValue230
  t53:=underlying203
  a53:=isAgg203
  z53:=sizeOf203
  v53:=zeroValue203
  t131:=underlying40
  a131:=isAgg40
  z131:=sizeOf40
  v131:=zeroValue40
  t182:=underlying223
  a182:=isAgg223
  z182:=sizeOf223
  v182:=zeroValue223
  t183:=underlying224
  a183:=isAgg224
  z183:=sizeOf224
  v183:=zeroValue224
  t218:=underlying251
  a218:=isAgg251
  z218:=sizeOf251
  v218:=zeroValue251
  t222:=underlying254
  a222:=isAgg254
  z222:=sizeOf254
  v222:=zeroValue254
  t228:=underlying264
  a228:=isAgg264
  z228:=sizeOf264
  v228:=zeroValue264
  t229:=underlying265
  a229:=isAgg265
  z229:=sizeOf265
  v229:=zeroValue265 }
open Go.Sort Go.RowKit in
theorem slices_Sort_int(a off cap:Nat)(zs:List Int)(w:World)(d:Holds (Value.int .i64) w a off zs.toArray)(b:a<w.heap.size)(c:zs.length<4611686018427387904) :
    Calls prog 135 #[.slice (some ⟨a,off,none⟩) zs.length cap] w λe w' =>
      e=.returned (.tuple #[])/\∃n os,w'=grow (putRow (Value.int .i64) (Sort.ahead w n) a off (zs.mergeSort λx y=>decide (x<=y)).toArray) os:=Any.slices_Sort_int Abp a off cap zs w d b c
open Go.RowKit Go.Sort in
theorem slices_Sort_int_none(p:Option Addr)(cap:Nat)(w:World) :
    Calls prog 135 #[.slice p 0 cap] w λe w'=>e=.returned (.tuple #[])/\w'=w:=Any.slices_Sort_int_none Abp p cap w
end
section
open Go Go.RowKit
def Aau(xs:List Int):List Int:=xs.mergeSort λx y=>decide (x<=y)
theorem Ga(xs:List Int):(Aau xs).length=xs.length:=List.length_mergeSort xs
theorem LB{w:World}{F:Nat->Prop}:∀{xs:List Int}{cells:List Value},Chunks w F cells xs->cells=xs.map (Value.int .i64)/\∀x∈xs,W1 x
  |[],_,h=>⟨h,λ_ a=>by simp at a⟩
  |x::xs,cells,⟨cs,rest,he,hr,hc⟩=>by
    obtain⟨b,h2⟩:=LB hc;obtain⟨c,h4⟩:=hr;refine⟨by rw[he,c,b];rfl,λy hy=>?_⟩;rcases S0.1 hy with rfl|hy
    . exact h4
    . exact h2 y hy
theorem LC{w:World}{F:Nat->Prop}:∀{xs:List Int},(∀x∈xs,W1 x)->Chunks w F (xs.map (Value.int .i64)) xs
  |[],_=>rfl
  |x::xs,h=>⟨[.int .i64 x],xs.map (Value.int .i64),rfl,⟨rfl,h x (by simp)⟩,LC λy a=>h y (by simp[a])⟩
theorem AbM{w:World}{base:Nat}{F:Nat→Prop}{v:Value}{xs:List Int}(u:Own w base F 3 v xs)(hl:xs.length≤1000000) :
    Fn prog 135 [v] w λr w'=>r=.tuple #[]/\Own w' base F 3 v (Aau xs)/\Kept w w' v:=by
  intro z;rcases K4 xs.length with h0|h0
  . have d:xs=[]:=B2 h0;subst d;have q:∃p c,v=.slice p 0 c:=by
      obtain⟨cells,o,_⟩:=u;rcases o.2 with⟨rfl,_⟩|⟨g,cap,cur,rfl,_⟩
      . exact⟨_,_,rfl⟩
      . exact⟨_,_,rfl⟩
    obtain⟨p,c,rfl⟩:=q;refine(slices_Sort_int_none p c (dr w z)).mono λe w' ⟨he,hw⟩=>⟨_,w,z,he,hw,rfl,by simpa[Aau]using u,⟨rfl,rfl,rfl,V2 _,λ_ _ _=>rfl⟩⟩
  . obtain⟨g,cap,cells,sp,rfl,hg,hFg,hb,hc,hlen,hnc,hcm,htot⟩:=u.open h0;obtain⟨rfl,hin⟩:=LB hc;have s:Go.Sort.Holds (Value.int .i64) (dr w z) g 0 xs.toArray:=λj hj=>by
      have a:j<xs.length:=(by simpa using hj);refine⟨?_,by rw[U4];exact hb.frozen j⟩;rw[U4];refine hb.cell ?_;rw[C4 (by simpa using a),M3,D1 a];simp[a]
    refine(slices_Sort_int g 0 cap xs (dr w z) s hb.lt (by omega)).mono λe w' ⟨he,n,os,hw⟩=>⟨_,w',w'.drawn,he,rfl,rfl,?_,?_⟩
    . have b:Blk w' g 3 ((Aau xs).map (Value.int .i64)++sp):=by
        subst hw;unfold Blk at hb ⊢;have f:g<w.heap.size:=Blk.lt hb;show((w.heap.modify g _)++os)[g]?=_;rw[B8 (by simpa using f),F3,if_pos rfl,hb];simp only[R0,Go.Sort.onCells];congr 2;apply Array.ext
        . simp[Go.Sort.putCells,Ga]
        . intro i o t;simp only[Go.Sort.putCells,H3,U4,U7,V5,true_and];have h:(List.mergeSort xs λx y=>decide (x<=y)).length=xs.length:=List.length_mergeSort xs;by_cases hi:i<xs.length
          . rw[if_pos (by simpa[h]using hi)];simp only[H2];rw[D8 (by simpa[Ga]using hi),List.getElem_map];congr 1;rw[getElem!_pos _ _ (by simpa[h]using hi)];simp[Aau]
          . rw[if_neg (by simpa[h]using hi)];simp only[H2];rw[C8 (by simp;omega),C8 (by simp[Ga];omega)];simp[Ga]
      have:=Own.close (w:=w') (base:=base) (cap:=cap) hg hFg b (LC (F:=F) (w:=w') λx d=>hin x (by
        have:=(I5 xs λx y=>decide (x<=y)).mem_iff.1 d;exact this)) (by rw[Ga];exact hnc) hcm (by simpa[Ga]using htot)
      rwa[Ga]at this
    . subst hw;refine⟨rfl,rfl,rfl,?_,λk hk l=>?_⟩
      . show w.heap.size<=((w.heap.modify g _)++os).size;simp
      . have m:g≠k:=λe=>l (by simp[Value.ownBlock,e]);show((w.heap.modify g _)++os)[k]?=_;rw[B8 (by simpa using hk),F3,if_neg m]
end
section
open Go Go.RowKit
def Abz(a b:ByteArray):Option ByteArray:=if a.size+b.size<=9223372036854775807 then some (a++b)else none
section
variable {P:Program}{l:Env}{w:World}{dst:Option Tmp}{ty:TypeId}{pos:String}{aft:Array Edge}
theorem TU{t u:TypeId}{x y:Operand}{a b c:ByteArray}(he:Abz a b=some c)(f:opv l x=some (.string a))(g:opv l y=some (.string b)):Ev P ⟨dst,.binOp .add t x y u,ty,pos,aft,none⟩ l w (.string c):=λ_ _ e d=>by
  obtain⟨h,rfl⟩:=FV he;simp[execOp,d.eval f,d.eval g,eqGuard,binOp,Op.stringOp];omega
end
section
variable {P:Program}{n:Nat}{ops:Array Oper}{Q:X0}{rest:List Oper}{l:Env}{w:World}{d:Tmp}{ty:TypeId}{pos:String}{aft:Array Edge}
theorem Qj{t u:TypeId}{x y:Operand}{a b c:ByteArray}(he:Abz a b=some c)(e:opv l x=some (.string a))(f:opv l y=some (.string b))(hd:Nat.blt d n=true)(g:owp P n ops Q rest ((d,.string c)::l) w):owp P n ops Q (⟨some d,.binOp .add t x y u,ty,pos,aft,none⟩::rest) l w:=AT (TU he e f) hd g
variable {S:World → Prop}{r:List (Nat × Bool)}{i:Nat}
theorem Tf{t u:TypeId}{x y:Operand}{a b c:ByteArray}(he:Abz a b=some c)(hi:ops[i]?=some ⟨some d,.binOp .add t x y u,ty,pos,aft,none⟩)(e:opv l x=some (.string a))(f:opv l y=some (.string b))(hd:Nat.blt d n=true)(g:hwp P n ops Q S r ((d,.string c)::l) w):hwp P n ops Q S ((i,true)::r) l w:=AB hi (Bv (λ_ _=>TU he e f) hd g)
theorem XQ{t e:TypeId}[g:TSlice P t e]{dst:Option Tmp}{x:Operand}{A:Option Addr}{m c:Nat}(b:opv l x=some (.slice A m c)):Ev P ⟨dst,.call { callee:=.builtin .cap,args:=#[x],argTypes:=#[t] },ty,pos,aft,none⟩ l w (.int .i64 (c:Int)):=λ_ a d f=>by
  simp[execOp,resolve,invoke,builtin,f.eval b,Builtin.cap_,run_underlying g.eq,goInt]
end
attribute [local irreducible] ewp owp hwp hwq hws Ev Evg Fn W6 X7 X4 X1
attribute [local irreducible] hwx YW
end
end Go.Proofs.YthgeinkfgcgjiaaGreatDoor

/- Own text: what the proof of orbitFinds_holds uses, part 5: rules, models and their proofs, plain laws. -/
import Derived.Test.YtdlhmdckakbboaaGreatDoorOFeD
set_option linter.unusedVariables false
set_option linter.unusedSimpArgs false
namespace Go.Proofs.YtdlhmdckakbboaaGreatDoor
open Go Go.RowKit Go.Proofs.Tryz
section
open Go Go.RowKit
attribute [local irreducible] ewp owp hwp hwq hws Ev Evg Fn Q4 R7 R2 Q9
attribute [local irreducible] hwx U0
structure ONd where
  state:List Int
  cost:Int
  parent:Int
  op:Int
  used:List Int
  fin:Bool
instance:Rp ONd where
  isAgg:=true
  size:=6
  R w F cs x:=∃ a b,cs=[a,.int .i64 x.cost,.int .i64 x.parent,.int .i64 x.op,b,.bool x.fin]/\Vb w F a x.state/\Vb w F b x.used/\P9 x.cost/\P9 x.parent/\P9 x.op
  len:=by rintro w F cs x ⟨a,b,rfl,h0,h1,h2,h3,h4⟩;rfl
  one:=by rintro w F cs x ⟨a,b,rfl,h0,h1,h2,h3,h4⟩ u hu;simp at hu;rcases hu with rfl|rfl|rfl|rfl|rfl|rfl<;>first|rfl|exact Vb.one rfl (by assumption)
  agree:=by rintro w w' F cs x ⟨a,b,rfl,h0,h1,h2,h3,h4⟩ ha;exact ⟨a,b,rfl,h0.agree ha,h1.agree ha,h2,h3,h4⟩
  mono:=by rintro w F G cs x ⟨a,b,rfl,h0,h1,h2,h3,h4⟩ ha;exact ⟨a,b,rfl,h0.mono ha,h1.mono ha,h2,h3,h4⟩
structure Ors where
  t:Tsk
  gens:List Swp
  nodes:List ONd
  tab:MapP ByteArray Int
  open_ : List OEn
  number:Int
instance:Ow Ors where
  R w F M v x:=∃ (g:Nat) (l:Lab) (c0 a b c d e f h:Value),v=.pointer (some ⟨g,0,none⟩)/\Blk w g 73 [c0,a,b,c,d,e,f,h,.int .i64 x.number]/\M g/\l g=0/\Vb w F c0 x.t.vars/\Vb w F a x.t.init/\Vb w F b x.t.goal/\Vb w F c x.t.ops/\Vb w F d x.gens/\RwM w F (λ k=>M k/\l k=1) 82 e x.nodes/\Ow.R w F (λ k=>M k/\l k=2) f x.tab/\RwM w F (λ k=>M k/\l k=3) 77 h x.open_/\P9 x.number
  agree:=by rintro w w' F M v x ⟨g,l,c0,a,b,c,d,e,f,h,rfl,hb,hM,hL,h0,h1,h2,h3,h4,h5,h6,h7,h8⟩ a1 a2;exact ⟨g,l,c0,a,b,c,d,e,f,h,rfl,hb.keep (a2 g hM),hM,hL,h0.agree a1,h1.agree a1,h2.agree a1,h3.agree a1,h4.agree a1,h5.agree a1 λ k hk=>a2 k hk.1,Ow.agree h6 a1 λ k hk=>a2 k hk.1,h7.agree a1 λ k hk=>a2 k hk.1,h8⟩
  mono:=by rintro w F M i j v x ⟨g,l,c0,a,b,c,d,e,f,h,rfl,hb,hM,hL,h0,h1,h2,h3,h4,h5,h6,h7,h8⟩ a1 a2 a3;exact ⟨g,l,c0,a,b,c,d,e,f,h,rfl,hb,a2 g hM,hL,h0.mono a1,h1.mono a1,h2.mono a1,h3.mono a1,h4.mono a1,h5.mono a1 (λ k hk=>⟨a2 k hk.1,hk.2⟩) λ k hf hm=>a3 k hf hm.1,Ow.mono h6 a1 (λ k hk=>⟨a2 k hk.1,hk.2⟩) λ k hf hm=>a3 k hf hm.1,h7.mono a1 (λ k hk=>⟨a2 k hk.1,hk.2⟩) λ k hf hm=>a3 k hf hm.1,h8⟩
theorem Ors.opn {i:Nat} {w:World} {O:Lab} {p:Nat} {x:Ors} (o:Ob i w O (.pointer (some ⟨p,0,none⟩)) x) (l0 l1 b c:Nat) (hl:l0≠0/\l1≠0/\b≠0/\c≠0):∃ (a:Lab) (c0 d e f h l m n:Value),St (eT i) w O w a/\(∀ k,Fr i w O k->∃ q,q∈[l0,l1,b,c]/\Fr q w a k)/\Lc l0 w a p 73 [c0,d,e,f,h,l,m,n,.int .i64 x.number]/\Vb w (Fr 0 w a) c0 x.t.vars/\Vb w (Fr 0 w a) d x.t.init/\Vb w (Fr 0 w a) e x.t.goal/\Vb w (Fr 0 w a) f x.t.ops/\Vb w (Fr 0 w a) h x.gens/\Rw l1 w a 82 l x.nodes/\Ob b w a m x.tab/\Rw c w a 77 n x.open_/\P9 x.number:=by
  obtain ⟨⟨g,L,c0,d,e,f,h,l,m,n,hv,hb,hM,hL,h0,h1,h2,h3,h4,h5,h6,h7,h8⟩,hi⟩:=o
  obtain rfl:p=g:=by injection hv with hv;injection hv with hv;injection hv
  exact ⟨part O i L [l0,l1,b,c],c0,d,e,f,h,l,m,n,JH hi,IO (by simp),⟨hb,(Em (j:=0) rfl p ⟨hM,hL⟩).2⟩,h0.mono (CQ hi),h1.mono (CQ hi),h2.mono (CQ hi),h3.mono (CQ hi),h4.mono (CQ hi),h5.rw (CQ hi) (Em (j:=1) rfl) hl.2.1,⟨Ow.mono h6 (CQ hi) (Em (j:=2) rfl) (S4 hl.2.2.1),hl.2.2.1⟩,h7.rw (CQ hi) (Em (j:=3) rfl) hl.2.2.2,h8⟩
theorem Ors.shut {w:World} {O:Lab} {p:Nat} {x:Ors} {l0 l1 c d:Nat} {c0 h j l n o r s:Value} (hd:¬ 0∈[l0,l1,c,d]/\[l0,l1,c,d].idxOf l0=0/\[l0,l1,c,d].idxOf l1=1/\[l0,l1,c,d].idxOf c=2/\[l0,l1,c,d].idxOf d=3) (hb:Lc l0 w O p 73 [c0,h,j,l,n,o,r,s,.int .i64 x.number]) (v:Vb w (Fr 0 w O) c0 x.t.vars) (y:Vb w (Fr 0 w O) h x.t.init) (z:Vb w (Fr 0 w O) j x.t.goal) (A:Vb w (Fr 0 w O) l x.t.ops) (B:Vb w (Fr 0 w O) n x.gens) (C:Rw l1 w O 82 o x.nodes) (D:Ob c w O r x.tab) (E:Rw d w O 77 s x.open_) (F:P9 x.number):∃ g,St (·∈[l0,l1,c,d]) w O w g/\(∀ k,Fr 0 w O k->Fr 0 w g k)/\(∀ q,q∈[l0,l1,c,d]->∀ k,Fr q w O k->Fr l0 w g k)/\Ob l0 w g (.pointer (some ⟨p,0,none⟩)) x:=by
  have f:l0≠0:=λ e=>hd.1 (by simp [e])
  have u:=DN (i:=l0) hd.2.1 (by simp) p ⟨hb.1.lt,hb.2⟩
  exact ⟨X2 O l0 [l0,l1,c,d],IP,BX hd.1,Id,⟨p,λ k=>[l0,l1,c,d].idxOf (O k),c0,h,j,l,n,o,r,s,rfl,hb.1,u.1,u.2,v.mono (BX hd.1),y.mono (BX hd.1),z.mono (BX hd.1),A.mono (BX hd.1),B.mono (BX hd.1),C.m (BX hd.1) (DN hd.2.2.1 (by simp)) (λ k a b=>S4 f k a b.1),Ow.mono D.1 (BX hd.1) (DN hd.2.2.2.1 (by simp)) (λ k a b=>S4 f k a b.1),E.m (BX hd.1) (DN hd.2.2.2.2 (by simp)) (λ k a b=>S4 f k a b.1),F⟩,f⟩
noncomputable def Ha (g:List Int):Option ByteArray :=
  bnd (mkI 1 ((bw 0):Byt) (g.length:Int)) λ h=>bnd (rng (ρ:=ByteArray) (λ (b:Nat) (d:Int) (c:(List Byt))=>bnd (c[b]?) λ i=>some (.next (c.set b (bw d)))) g 0 h) λ a=>fin a λ (e:(List Byt))=>bnd (Aax e) λ f=>some f
theorem Rz {w:World} {A:Nat->Prop} (hA:∀ k,A k->k < w.heap.size) {c:Value} {d:List Int} (e:Vb w A c d) {r:ByteArray} (hm:Ha d=some r) :
    Fn prog 49 [c] w λ v w'=>Ext w w'/\Vb w' (upA A w w') v r:=by
 obtain ⟨O,hB,i1⟩:=enter hA
 obtain ⟨q,c3,rfl⟩:=e.form
 refine AK func49 rfl ntmps49 ?_
 unfold Ha at hm
 refine Am (Ah (Au rfl (o_z (Am (Ah (At rfl (AU rfl ?_)))))))
 have s:=Cv e.len
 have z:=rngNat s
 obtain ⟨h,e7,hm⟩:=bs hm
 obtain ⟨i,e9,w0,y0,a1⟩:=EN e7
 refine Gp 2 O (z0:=((bw 0):Byt)) rfl rfl rfl rfl rfl e9 (vByte (x:=(bw 0))) w0 y0 λ j B t u l=>?_
 rw [<- a1] at l ⊢
 refine Au rfl (o_z (Am (Am (Ah (At rfl (AU rfl ?_))))))
 have f:=Cv e.len
 have C:=rngNat f
 refine At rfl (o_z ?_)
 obtain ⟨D,g0,hm⟩:=bs hm
 replace hB:=hB.st u
 refine EB (X:=Unit) (d.length) g0 rfl f (λ g m=>[(3,(.slice (some ⟨j,0,none⟩) h.length i)),(9,(.slice q d.length c3))]) (λ g m w'=>∃ n:Lab,Bs w A w' n/\Rw 2 w' n 5 (.slice (some ⟨j,0,none⟩) h.length i) g) () ⟨t,hB,l⟩ ⟨rfl,rfl,rfl,rfl,trivial⟩ (λ _ _=>rfl) ?_ ?_
 ·
  rintro l1 o g m E F c0 ⟨G,hB,b⟩ a0 i0 j0
  have p:=U9 c0 f
  refine Am (Ah (At rfl ?_))
  obtain ⟨H,p1,e1,k0,l0,m0,rfl,q1⟩:=(e.zs hA hB).elem' c0
  refine CZ (hA:=k0) (hj:=rfl) (hlt:=l0) rfl rfl (AQ (hc:=cat0 m0) rfl (Au rfl (Au rfl (o_z (Ah (At rfl (At rfl (At rfl (Zu rfl rfl ?_)))))))))
  obtain ⟨I,u0,a0⟩:=bs a0
  obtain ⟨J,t1,f1,d0,n0,g1,rfl⟩:=b.elem u0
  refine CZ (hA:=d0) (hj:=rfl) (hlt:=n0) rfl rfl ?_
  refine Fi rfl b (a:=(bw o)) (vByte (x:=(bw o))) d0 rfl rfl (AD u0) λ K y b=>?_
  refine o_z ?_
  obtain rfl:=sm a0
  exact show Exists _ from ⟨_,(),rfl,⟨rfl,rfl,rfl,rfl,trivial⟩,_,hB.st y,b⟩
 rintro L M ⟨N,y1,rfl,o0,z1,hB,b⟩
 replace hm:=BF hm
 refine Bg _ o0 ?_
 refine Am (Ah (At rfl ?_))
 obtain ⟨P,v0,hm⟩:=bs hm
 refine Zv (hv:=(b).all) (he:=v0) rfl rfl (Au rfl (o_z (AM ?_)))
 obtain rfl:=sm hm
 exact T8 rfl (Bc rfl) ⟨hB.ext,(vStr (WK v0))⟩
noncomputable def CD (b:Ors) (p:List Int) (i:Int) (k:Int) (m:Int):Option (Err×Ors) :=
  bnd (Cz b.t b.gens p) λ c=>if c.2.2.n≠0 then (some ((⟨c.2.2.n⟩:Err),b)) else (bnd (Ha c.1) λ d=>bnd (if (mhas b.tab.l d)=true then (bnd (atI b.nodes (mget 0 b.tab.l d)) λ j=>if j.cost<=i then (some (true,true)) else (some (true,false))) else (some (false,false)):Option (Bool×Bool)) λ f=>if f.2=true then (some ((⟨0⟩:Err),b)) else (bnd (if f.1=true then (bnd (atI b.nodes (mget 0 b.tab.l d)) λ o=>some ((mget 0 b.tab.l d),(⟨(⟨b.t.vars,b.t.init,b.t.goal,b.t.ops⟩:Tsk),b.gens,(b.nodes.set ((mget 0 b.tab.l d):Int).toNat (⟨c.1,i,k,m,c.2.1,false⟩:ONd)),b.tab,b.open_,b.number⟩:Ors))) else (bnd (R8 80 b.nodes [(⟨c.1,i,k,m,c.2.1,false⟩:ONd)]) λ g=>some ((b.nodes.length:Int),(⟨(⟨b.t.vars,b.t.init,b.t.goal,b.t.ops⟩:Tsk),b.gens,g,(⟨R3 b.tab.l d (b.nodes.length:Int)⟩:MapP ByteArray Int),b.open_,b.number⟩:Ors))):Option (Int×Ors)) λ a=>bnd (Q1 (a.2.number + 1)) λ e=>bnd (DC (⟨a.2.open_⟩:BxR 71 77 OEn) (⟨(⟨i,e,a.1⟩:OEn)⟩:An 77 OEn)) λ h=>some ((⟨0⟩:Err),(⟨(⟨a.2.t.vars,a.2.t.init,a.2.t.goal,a.2.t.ops⟩:Tsk),a.2.gens,a.2.nodes,a.2.tab,h.l,e⟩:Ors))))
theorem Ig {w:World} {O:Lab} {p0 i0:Nat} {x0:Ors} (s2:Ob i0 w O (.pointer (some ⟨p0,0,none⟩)) x0) {vx1:Value} {x1:List Int} (v3:Vb w (Fr 0 w O) vx1 x1) {x2:Int} (rx2:P9 x2) {x3:Int} (rx3:P9 x3) {x4:Int} (rx4:P9 x4) {r:Err×Ors} (hm:CD x0 x1 x2 x3 x4=some r) :
    Fn prog 20 [(.pointer (some ⟨p0,0,none⟩)),vx1,(.int .i64 x2),(.int .i64 x3),(.int .i64 x4)] w λ v w'=>∃ O',St (eT i0) w O w' O'/\Ob i0 w' O' (.pointer (some ⟨p0,0,none⟩)) r.2/\Vb w' (Fr 0 w' O') v r.1:=by
 obtain ⟨O0,hE,g6,e7⟩:=V0 (w:=w) (O:=O) s2.2
 have s2':=Ob.leave s2 g6 e7 (j:=2) (by decide)
 have hB:Bm w O0 w O0:=Bm.refl
 replace v3:=v3.mono g6
 obtain ⟨A6,c7,rfl⟩:=v3.form
 refine AK func20 rfl ntmps20 ?_
 unfold CD at hm
 refine Am (Ah (Au rfl (o_z (Am ?_))))
 obtain ⟨O8,lC,mC,nC,oC,pC,qC,rC,sC,S9,f7,d1,t0,u0,v0,w0,y0,e1,p1,a1,w3⟩:=Ors.opn s2' 2 3 4 5 (by decide)
 obtain ⟨g7,h7,rfl⟩:=t0.form
 obtain ⟨i7,j7,rfl⟩:=u0.form
 obtain ⟨k7,l7,rfl⟩:=v0.form
 obtain ⟨m7,n7,rfl⟩:=w0.form
 obtain ⟨tC,uC,rfl⟩:=y0.form
 obtain ⟨vC,wC,rfl⟩:=e1.form
 obtain ⟨xC,rfl⟩:=p1.mptr
 obtain ⟨yC,zC,rfl⟩:=a1.form
 refine Bl [] O8 ?_
 refine AH (fuel:=8) [] (AX (CR 0 9)) rfl (AJ rfl rfl (BG rfl rfl (AL rfl rfl (Dm (hl:=rfl) (hb:=λ w' ⟨O',hq⟩=>(FZ 0 4 ((d1.st hq (by decide)).1).cellsAt)) rfl rfl ?_))))
 refine AJ rfl rfl (BG rfl rfl (AL rfl rfl (AZ (hc:=Bn d1 4 rfl) rfl rfl (AJ rfl rfl (AC (AF (i:=9) rfl ?_))))))
 obtain ⟨e0,o7,hm⟩:=bs hm
 replace hB:=hB.st S9
 refine Gw (O:=O8) (R:=λ w' F v=>T3 w' F v e0) (Kl Fr.lt (Vb.ofAgg (cs:=[(.slice g7 x0.t.vars.length h7),(.slice i7 x0.t.init.length j7),(.slice k7 x0.t.goal.length l7),(.slice m7 x0.t.ops.length n7)]) (x:=x0.t) rfl ⟨_,_,_,_,rfl,t0,u0,v0,w0⟩) y0 (v3.z hB) o7) rfl rfl λ aD bD p7 h0 q7=>?_
 obtain ⟨cD,dD,eD,rfl,z0,b1,r7⟩:=q7
 obtain ⟨y3,z3,rfl⟩:=z0.form
 obtain ⟨a4,b4,rfl⟩:=b1.form
 obtain ⟨rfl,s7⟩:=r7.err
 have hZ:=lZ h0
 refine AV [] hZ ?_
 refine AH (fuel:=0) [] (AX (CR 10 7)) rfl (AJ rfl rfl (IL rfl rfl rfl (IL rfl rfl rfl (IL rfl rfl rfl (Ei rfl rfl (Ei rfl rfl (Ei rfl rfl (AC (Ba (Am (Am (Ah (At rfl (FS rfl (λ c4=>?_) λ c4=>?_))))))))))))))
 ·
  replace hm:=ip hm c4
  refine o_z (Aj rfl (Am (Ah (At rfl (Au rfl (o_z (AM ?_)))))))
  replace d1:=d1.st h0
  replace t0:=t0.st h0
  replace u0:=u0.st h0
  replace v0:=v0.st h0
  replace w0:=w0.st h0
  replace y0:=y0.st h0
  replace e1:=e1.st h0
  replace p1:=p1.st h0
  replace a1:=a1.st h0
  obtain ⟨fD,t7,u7,v7,w7⟩:=Ors.shut (x:=x0) (l0:=2) (by decide) d1 t0 u0 v0 w0 y0 e1 p1 a1 w3
  obtain rfl:=sm hm
  replace hB:=(hB.st h0).st t7
  obtain ⟨O',hS',hz,hl⟩:=hE.leave (λ q=>if q=2 then i0 else 0) rfl hB
  exact T8 rfl (Bc rfl) ⟨O',hS',(Ob.leave w7 hz (hl 2 (by decide) (by decide)) s2.2),(vErr s7)⟩
 replace hm:=im hm c4
 refine o_z (Ae rfl (AN (Am (Ah (At rfl ?_)))))
 obtain ⟨q1,x7,hm⟩:=bs hm
 refine Du (O:=p7) (Rz (λ _ h=>h) (vMo z0) x7) rfl λ gD hD iD q0 y7=>?_
 obtain ⟨rfl,jD⟩:=y7.str
 refine Au rfl (o_z (Am (Ah (At rfl (CV rfl (AO rfl ?_))))))
 replace d1:=(d1.st h0).st q0
 refine AQ (hc:=Blk.cell (i:=6) (d1.1) rfl) rfl (At rfl ?_)
 replace p1:=(p1.st h0).st q0
 obtain ⟨kD,d4,z7⟩:=MapP.get p1 q1 (vInt (R0 0))
 obtain ⟨rfl,a8⟩:=z7.int
 refine YY q1 d4 rfl rfl rfl ?_
 refine At rfl (CK rfl rfl (CK rfl rfl (Au rfl (Au rfl (o_z (Am (Am ?_)))))))
 obtain ⟨h6,d0,hm⟩:=bs hm
 refine Bi (λ l' w'=>∃ (b8:Unit) (O':Lab),Q2 l' [(0,(.pointer (some ⟨p0,0,none⟩))),(2,(.int .i64 x2)),(3,(.int .i64 x3)),(4,(.int .i64 x4)),(11,(.slice y3 e0.1.length z3)),(12,(.slice a4 e0.2.1.length b4)),(14,(.string q1)),(15,(.int .i64 (mget 0 x0.tab.l q1))),(16,(.bool h6.1)),(58,(.bool h6.2))]/\Bm w O0 w' O'/\Ob 2 w' O' (.pointer (some ⟨p0,0,none⟩)) x0/\Vb w' (Fr 0 w' O') (.slice y3 e0.1.length z3) e0.1/\Vb w' (Fr 0 w' O') (.slice a4 e0.2.1.length b4) e0.2.1) ?_ ?_
 ·
  refine Ah (At rfl (At rfl ?_))
  rcases C8 (mhas x0.tab.l q1) with d3|d3
  ·
   try rw [d3]
   replace d0:=ip d0 d3
   refine AB rfl rfl (At rfl (AB rfl rfl (CV rfl (AB rfl rfl (AO rfl (AB rfl rfl (AQ (hc:=Blk.cell (i:=5) (d1.1) rfl) rfl (AB rfl rfl (At rfl (AB rfl rfl ?_))))))))))
   obtain ⟨lD,c8,d0⟩:=bs d0
   obtain ⟨d8,e8⟩:=Br c8
   replace e1:=(e1.st h0).st q0
   obtain ⟨mD,nD,f8,e4,f4,g4,oD,pD,rfl,h4,i4,g8,h8,i8⟩:=e1.elem e8
   obtain ⟨j8,k8,rfl⟩:=h4.form
   obtain ⟨l8,m8,rfl⟩:=i4.form
   refine CZ (hA:=e4) (hj:=d8) (hlt:=f4) rfl rfl (AB rfl rfl (AO rfl (AB rfl rfl (AQ (hc:=cat1 g4) rfl (AB rfl rfl (At rfl (AB rfl rfl (JY rfl rfl (λ t2=>?_) λ t2=>?_))))))))
   ·
    replace d0:=ip d0 t2
    refine BJ rfl rfl (o_z ?_)
    have k0:=h0.an q0
    replace t0:=t0.st k0
    replace u0:=u0.st k0
    replace v0:=v0.st k0
    replace w0:=w0.st k0
    replace y0:=y0.st k0
    replace a1:=a1.st k0
    obtain ⟨n8,u2,i6,j6,j4⟩:=Ors.shut (x:=x0) (l0:=2) (by decide) d1 t0 u0 v0 w0 y0 e1 p1 a1 w3
    obtain rfl:=sm d0
    exact ⟨(),_,⟨rfl,rfl,rfl,rfl,rfl,rfl,rfl,rfl,rfl,rfl,trivial⟩,((hB.st h0).st q0).st u2,j4,(z0.st q0).st u2,(b1.st q0).st u2⟩
   replace d0:=im d0 t2
   refine BJ rfl rfl (o_z ?_)
   have m0:=h0.an q0
   replace t0:=t0.st m0
   replace u0:=u0.st m0
   replace v0:=v0.st m0
   replace w0:=w0.st m0
   replace y0:=y0.st m0
   replace a1:=a1.st m0
   obtain ⟨o8,v2,k6,l6,k4⟩:=Ors.shut (x:=x0) (l0:=2) (by decide) d1 t0 u0 v0 w0 y0 e1 p1 a1 w3
   obtain rfl:=sm d0
   exact ⟨(),_,⟨rfl,rfl,rfl,rfl,rfl,rfl,rfl,rfl,rfl,rfl,trivial⟩,((hB.st h0).st q0).st v2,k4,(z0.st q0).st v2,(b1.st q0).st v2⟩
  try rw [d3]
  replace d0:=im' d0 d3
  refine AA rfl rfl (AA rfl rfl (AA rfl rfl (AA rfl rfl (AA rfl rfl (AA rfl rfl (AA rfl rfl (AA rfl rfl (AA rfl rfl (AA rfl rfl (BK rfl rfl (o_z ?_)))))))))))
  have f0:=h0.an q0
  replace t0:=t0.st f0
  replace u0:=u0.st f0
  replace v0:=v0.st f0
  replace w0:=w0.st f0
  replace y0:=y0.st f0
  replace e1:=e1.st f0
  replace a1:=a1.st f0
  obtain ⟨p8,w2,m6,n6,l4⟩:=Ors.shut (x:=x0) (l0:=2) (by decide) d1 t0 u0 v0 w0 y0 e1 p1 a1 w3
  obtain rfl:=sm d0
  exact ⟨(),_,⟨rfl,rfl,rfl,rfl,rfl,rfl,rfl,rfl,rfl,rfl,trivial⟩,((hB.st h0).st q0).st w2,l4,(z0.st q0).st w2,(b1.st q0).st w2⟩
 replace hB:=(hB.st h0).st q0
 replace z0:=z0.st q0
 replace b1:=b1.st q0
 rintro q8 r8 ⟨b8,m4,e3,hB,s0,z0,b1⟩
 refine Bg _ e3 ?_
 refine BP rfl (λ y2=>?_) (λ y2=>?_)
 ·
  replace hm:=ip hm y2
  refine Am (Ah (Au rfl (o_z (AM ?_))))
  obtain rfl:=sm hm
  obtain ⟨O',hS',hz,hl⟩:=hE.leave (λ q=>if q=2 then i0 else 0) rfl hB
  exact T8 rfl (Bc rfl) ⟨O',hS',(Ob.leave s0 hz (hl 2 (by decide) (by decide)) s2.2),(vErr (R0 0))⟩
 replace hm:=im' hm y2
 refine AN (Am (Ah (At rfl (At rfl (At rfl (At rfl (At rfl (DU rfl rfl ?_))))))))
 refine BL 6 m4 λ s8 t8 u8 f1 r0=>?_
 refine AT r0 rfl rfl rfl (Bf) (allOne) λ v8 g1 r0=>?_
 refine o_z (Am ?_)
 obtain ⟨a0,b0,hm⟩:=bs hm
 refine Bi (λ l' w'=>∃ (n4:Unit) (O':Lab),Q2 l' [(0,(.pointer (some ⟨p0,0,none⟩))),(2,(.int .i64 x2)),(15,(.int .i64 a0.1))]/\Bm w O0 w' O'/\Ob 2 w' O' (.pointer (some ⟨p0,0,none⟩)) a0.2/\P9 a0.1) ?_ ?_
 ·
  refine Am (Ah (At rfl (o_z (BP rfl (λ z2=>?_) (λ z2=>?_)))))
  ·
   replace b0:=ip b0 z2
   replace s0:=(s0.st f1).st g1
   obtain ⟨o4,w8,x8,y8,z8,a9,b9,c9,d9,f3,o6,r1,s1,t1,u1,v1,w1,h1,y1,z1,p4⟩:=Ors.opn s0 2 3 4 5 (by decide)
   obtain ⟨e9,f9,rfl⟩:=s1.form
   obtain ⟨g9,h9,rfl⟩:=t1.form
   obtain ⟨i9,j9,rfl⟩:=u1.form
   obtain ⟨k9,l9,rfl⟩:=v1.form
   obtain ⟨m9,n9,rfl⟩:=w1.form
   obtain ⟨o9,p9,rfl⟩:=h1.form
   obtain ⟨q9,rfl⟩:=y1.mptr
   obtain ⟨r9,s9,rfl⟩:=z1.form
   refine Bl [] o4 ?_
   refine AH (fuel:=1) [] (AX (CR 0 7)) rfl (AJ rfl rfl (BG rfl rfl (AL rfl rfl (AZ (hc:=Bn r1 5 rfl) rfl rfl (AJ rfl rfl ?_)))))
   replace r0:=r0.st f3
   refine Dm (hl:=rfl) (hb:=Gl r0) rfl rfl ?_
   obtain ⟨t9,q4,b0⟩:=bs b0
   obtain ⟨r4,g3⟩:=Br q4
   obtain ⟨u9,v9,p6,r2,q6,h3,r6,w9,x9,rfl,s4,t4,y9,z9,aA⟩:=h1.elemF g3
   obtain ⟨bA,cA,rfl⟩:=s4.form
   obtain ⟨dA,eA,rfl⟩:=t4.form
   refine BT (hA:=r2) (hj:=r4) (hlt:=h3) rfl rfl rfl (AC (AF (i:=7) rfl ?_))
   have i1:=(f1.an g1).an f3
   replace z0:=z0.st i1
   replace b1:=b1.st i1
   refine Fi rfl h1 (a:=(⟨e0.1,x2,x3,x4,e0.2.1,false⟩:ONd)) (Vb.ofAgg (cs:=[(.slice y3 e0.1.length z3),(.int .i64 x2),(.int .i64 x3),(.int .i64 x4),(.slice a4 e0.2.1.length b4),(.bool false)]) (x:=(⟨e0.1,x2,x3,x4,e0.2.1,false⟩:ONd)) rfl ⟨_,_,rfl,z0,b1,rx2,rx3,rx4⟩) r2 rfl rfl (AD g3) λ fA o0 h1=>?_
   refine Bz (Ba ?_)
   replace r1:=r1.st o0
   replace s1:=s1.st o0
   replace t1:=t1.st o0
   replace u1:=u1.st o0
   replace v1:=v1.st o0
   replace w1:=w1.st o0
   replace y1:=y1.st o0
   replace z1:=z1.st o0
   obtain ⟨gA,u4,s6,t6,v4⟩:=Ors.shut (x:=(⟨(⟨x0.t.vars,x0.t.init,x0.t.goal,x0.t.ops⟩:Tsk),x0.gens,(x0.nodes.set ((mget 0 x0.tab.l q1):Int).toNat (⟨e0.1,x2,x3,x4,e0.2.1,false⟩:ONd)),x0.tab,x0.open_,x0.number⟩:Ors)) (l0:=2) (by decide) (by have q:=r1;rw [<- ((by simp:(x0.nodes.set ((mget 0 x0.tab.l q1):Int).toNat (⟨e0.1,x2,x3,x4,e0.2.1,false⟩:ONd)).length=x0.nodes.length).trans rfl)] at q;exact q) s1 t1 u1 v1 w1 h1.relen y1 z1 p4
   obtain rfl:=sm b0
   have i3:=(i1.an o0).an u4
   exact ⟨(),_,⟨rfl,rfl,rfl,trivial⟩,hB.st i3,v4,a8⟩
  replace b0:=im' b0 z2
  refine Am (Ah (At rfl (CV rfl ?_)))
  replace s0:=(s0.st f1).st g1
  obtain ⟨j3,iA,jA,kA,lA,mA,nA,oA,pA,k3,u6,j0,a2,b2,c2,d2,e2,j1,l3,f2,w4⟩:=Ors.opn s0 2 3 4 5 (by decide)
  obtain ⟨qA,rA,rfl⟩:=a2.form
  obtain ⟨sA,tA,rfl⟩:=b2.form
  obtain ⟨uA,vA,rfl⟩:=c2.form
  obtain ⟨wA,xA,rfl⟩:=d2.form
  obtain ⟨yA,zA,rfl⟩:=e2.form
  obtain ⟨aB,bB,rfl⟩:=j1.form
  obtain ⟨cB,rfl⟩:=l3.mptr
  obtain ⟨dB,eB,rfl⟩:=f2.form
  refine AO rfl (AQ (hc:=Blk.cell (i:=5) (j0.1) rfl) rfl (AU rfl ?_))
  have y4:=Cv j1.len
  have m3:=rngNat y4
  refine Au rfl (o_z (Am (Ah (At rfl (CV rfl (AO rfl (AQ (hc:=Blk.cell (i:=6) (j0.1) rfl) rfl (At rfl (At rfl ?_)))))))))
  refine Yk (a:=q1) (b:=(x0.nodes.length:Int)) l3 (vInt m3) rfl rfl rfl λ fB k1 a3=>?_
  refine o_z ?_
  refine Bl [(7,[3])] j3 ?_
  refine AH (fuel:=6) [] (AX (CR 1 5)) rfl (AJ rfl rfl (BG rfl rfl (AL rfl rfl ?_)))
  replace j0:=j0.st k1
  refine AZ (hc:=Bn j0 5 rfl) rfl rfl ?_
  replace r0:=(r0.st k3).st k1
  refine Dm (hl:=rfl) (hb:=Gl r0) rfl rfl (AC ?_)
  refine AH (fuel:=5) [3] [(0,true)] rfl (AJ rfl rfl (AC (AF (i:=6) rfl ?_)))
  have m1:=((f1.an g1).an k3).an k1
  replace z0:=z0.st m1
  replace b1:=b1.st m1
  refine DW 7 j3 (xs:=([(⟨e0.1,x2,x3,x4,e0.2.1,false⟩:ONd)]:List ONd)) rfl rfl rfl ⟨(Vb.ofAgg (cs:=[(.slice y3 e0.1.length z3),(.int .i64 x2),(.int .i64 x3),(.int .i64 x4),(.slice a4 e0.2.1.length b4),(.bool false)]) (x:=(⟨e0.1,x2,x3,x4,e0.2.1,false⟩:ONd)) rfl ⟨_,_,rfl,z0,b1,rx2,rx3,rx4⟩),trivial⟩ rfl λ gB iB jB c1 z4=>?_
  have hZ:=lZ c1
  refine AV [(7,[3])] hZ (AF (i:=7) rfl ?_)
  obtain ⟨a5,b3,b0⟩:=bs b0
  obtain ⟨b3,b5,c5⟩:=Bt b3
  replace j1:=(j1.st k1).st c1
  refine EL rfl j1 (z4.rd) rfl rfl b5 c5 rfl λ kB lB mB nB n1 g2=>?_
  rw [<- b3] at g2 ⊢
  have hZ:=n1.lst [3] (λ _ h=>by cases h;decide)
  refine AV [] hZ ?_
  refine AH (fuel:=1) [] (AX [8,9]) rfl (BG rfl rfl (AL rfl rfl (AC (AF (i:=10) rfl ?_))))
  replace j0:=(j0.st c1).st n1
  refine AT j0 rfl rfl rfl (Bf) (allOne) λ oB h2 j0=>?_
  refine Bz (Ba ?_)
  have n0:=((k1.an c1).an n1).an h2
  replace a2:=a2.st n0
  replace b2:=b2.st n0
  replace c2:=c2.st n0
  replace d2:=d2.st n0
  replace e2:=e2.st n0
  replace f2:=f2.st n0
  replace a3:=((a3.st c1).st n1).st h2
  replace g2:=g2.st h2
  obtain ⟨pB,d5,v6,w6,e5⟩:=Ors.shut (x:=(⟨(⟨x0.t.vars,x0.t.init,x0.t.goal,x0.t.ops⟩:Tsk),x0.gens,a5,(⟨R3 x0.tab.l q1 (x0.nodes.length:Int)⟩:MapP ByteArray Int),x0.open_,x0.number⟩:Ors)) (l0:=2) (by decide) j0 a2 b2 c2 d2 e2 g2 a3 f2 w4
  obtain rfl:=sm b0
  have n3:=(((m1.an c1).an n1).an h2).an d5
  exact ⟨(),_,⟨rfl,rfl,rfl,trivial⟩,hB.st n3,e5,m3⟩
 replace hB:=(hB.st f1).st g1
 rintro qB rB ⟨n4,sB,o3,hB,f5,g5⟩
 refine Bg _ o3 ?_
 refine Am (Ah (At rfl (CV rfl ?_)))
 obtain ⟨h5,tB,uB,vB,wB,xB,yB,zB,aC,i5,x6,o1,i2,j2,k2,l2,m2,n2,o2,p2,bC⟩:=Ors.opn f5 2 3 4 5 (by decide)
 obtain ⟨j5,k5,rfl⟩:=i2.form
 obtain ⟨l5,m5,rfl⟩:=j2.form
 obtain ⟨n5,o5,rfl⟩:=k2.form
 obtain ⟨p5,q5,rfl⟩:=l2.form
 obtain ⟨r5,s5,rfl⟩:=m2.form
 obtain ⟨t5,u5,rfl⟩:=n2.form
 obtain ⟨v5,rfl⟩:=o2.mptr
 obtain ⟨w5,x5,rfl⟩:=p2.form
 refine AO rfl (AQ (hc:=Blk.cell (i:=8) (o1.1) rfl) rfl ?_)
 obtain ⟨q2,p3,hm⟩:=bs hm
 have q3:=(BE p3)
 refine Fu (he:=p3) rfl rfl (CV rfl (AO rfl ?_))
 refine AT o1 rfl rfl rfl (Bf) (allOne) λ cC c3 o1=>?_
 refine o_z (Am ?_)
 refine Bl [] h5 ?_
 refine AH (fuel:=1) [] (AX (CR 0 12)) rfl (AJ rfl rfl (BG rfl rfl (AL rfl rfl (Wr rfl rfl rfl (AJ rfl rfl (AJ rfl rfl (BG rfl rfl (AL rfl rfl (AZ (hc:=Bn o1 8 rfl) rfl rfl (AJ rfl rfl (Ew rfl rfl rfl ?_)))))))))))
 refine Wr rfl rfl rfl (AC (AF (i:=12) rfl ?_))
 replace p2:=p2.st c3
 obtain ⟨y5,r3,y6,z6,z5⟩:=BxC.shut (cx:=(⟨73,[(.slice j5 a0.2.t.vars.length k5),(.slice l5 a0.2.t.init.length m5),(.slice n5 a0.2.t.goal.length o5),(.slice p5 a0.2.t.ops.length q5),(.slice r5 a0.2.gens.length s5),(.slice t5 a0.2.nodes.length u5),(.map (some v5))],[(.int .i64 q2)]⟩:Cx)) (p:=p0) (c0:=.slice w5 a0.2.open_.length x5) (x:=(⟨a0.2.open_⟩:BxR 71 77 OEn)) (l0:=2) (l1:=5) (by decide) o1 p2
 obtain ⟨a6,b6,hm⟩:=bs hm
 refine Cg (O:=y5) (JL z5 (AaV (Vb.ofAgg (cs:=[(.int .i64 x2),(.int .i64 q2),(.int .i64 a0.1)]) (x:=(⟨x2,q2,a0.1⟩:OEn)) rfl ⟨rfl,rx2,q3,g5⟩)) b6) rfl λ dC eC fC s3 c6=>?_
 obtain ⟨gC,hC,t3,a7,d6,u3⟩:=BxC.opn c6 2 5 (by decide)
 obtain ⟨iC,jC,rfl⟩:=u3.form
 refine Bz (Ba (Am (Ah (Au rfl (o_z (AM ?_))))))
 have g0:=((c3.an r3).an s3).an t3
 replace i2:=i2.st g0
 replace j2:=j2.st g0
 replace k2:=k2.st g0
 replace l2:=l2.st g0
 replace m2:=m2.st g0
 replace n2:=n2.st g0
 replace o2:=o2.st g0
 obtain ⟨kC,e6,b7,d7,f6⟩:=Ors.shut (x:=(⟨(⟨a0.2.t.vars,a0.2.t.init,a0.2.t.goal,a0.2.t.ops⟩:Tsk),a0.2.gens,a0.2.nodes,a0.2.tab,a6.l,q2⟩:Ors)) (l0:=2) (by decide) d6 i2 j2 k2 l2 m2 n2 o2 u3 q3
 obtain rfl:=sm hm
 replace hB:=(((((hB.st i5).st c3).st r3).st s3).st t3).st e6
 obtain ⟨O',hS',hz,hl⟩:=hE.leave (λ q=>if q=2 then i0 else 0) rfl hB
 exact T8 rfl (Bc rfl) ⟨O',hS',(Ob.leave f6 hz (hl 2 (by decide) (by decide)) s2.2),(vErr (R0 0))⟩
noncomputable def Dz (l:Ors) (E:Int):Option ((List Int)×Err) :=
  bnd (lop (ρ:=(List Int)×Err) (λ (m:Int×(List Int))=>if 0<=m.1 then (bnd (R8 8 m.2 [m.1]) λ A=>bnd (atI l.nodes m.1) λ B=>some (.next (B.parent,A))) else (some (.brk (m.1,m.2)))) (E,([]:List Int))) λ res3=>fin res3 λ (i:Int×(List Int))=>bnd (Da i.2) λ o=>bnd (DS l.t) λ b=>if b.2.n≠0 then (some (([]:List Int),(⟨b.2.n⟩:Err))) else (bnd (rng (ρ:=(List Int)×Err) (λ (p:Nat) (C:Int) (a:(List Int)×(List Int)×(List (List Int))×(List Int))=>bnd (o[p]?) λ j=>bnd (bnd (atI l.nodes j) λ k=>if 0<=k.op then (bnd (DK l.t (⟨a.2.1,a.2.2.1,a.2.2.2⟩:Swp)) λ c=>bnd (some (c.1.vars,c.1.vals,c.1.ops):Option ((List Int)×(List (List Int))×(List Int))) λ q=>if c.2.n≠0 then (some (.ret (.ret (([]:List Int),(⟨c.2.n⟩:Err))))) else (bnd (atI q.2.2 k.op) λ r=>bnd (R8 8 a.1 [r]) λ s=>some (.done s))) else (some (.done a.1)):Option (Fin (List Int) (Ctl ((List Int)×(List Int)×(List (List Int))×(List Int)) ((List Int)×Err)))) λ u=>fin u λ (v:(List Int))=>bnd (atI l.nodes j) λ w=>bnd (rng (ρ:=Ctl ((List Int)×(List Int)×(List (List Int))×(List Int)) ((List Int)×Err)) (λ (D:Nat) (x:Int) (e:(List Int)×(List (List Int))×(List Int))=>bnd (atI l.gens x) λ y=>bnd (CX l.t (⟨e.1,e.2.1,e.2.2⟩:Swp) y) λ d=>if d.2.n≠0 then (some (.ret (.ret (([]:List Int),(⟨d.2.n⟩:Err))))) else (some (.next (d.1.vars,d.1.vals,d.1.ops)))) w.used 0 (a.2.1,a.2.2.1,a.2.2.2)) λ g=>fin g λ (f:(List Int)×(List (List Int))×(List Int))=>some (.next (v,f.1,f.2.1,f.2.2))) i.2 0 (([]:List Int),b.1.vars,b.1.vals,b.1.ops)) λ h=>fin h λ (z:(List Int)×(List Int)×(List (List Int))×(List Int))=>some (z.1,(⟨0⟩:Err)))
theorem KP {w:World} {O:Lab} {p0 i0:Nat} {x0:Ors} (y1:Ob i0 w O (.pointer (some ⟨p0,0,none⟩)) x0) {x1:Int} (rx1:P9 x1) {r:(List Int)×Err} (hm:Dz x0 x1=some r) :
    Fn prog 24 [(.pointer (some ⟨p0,0,none⟩)),(.int .i64 x1)] w λ v w'=>∃ O',St (eT i0) w O w' O'/\∃ v0 v1:Value,Ob i0 w' O' (.pointer (some ⟨p0,0,none⟩)) x0/\v=.tuple #[v0,v1]/\Vb w' (Fr 0 w' O') v0 r.1/\Vb w' (Fr 0 w' O') v1 r.2:=by
 obtain ⟨O0,hE,bF,cF⟩:=V0 (w:=w) (O:=O) y1.2
 have y1':=Ob.leave y1 bF cF (j:=2) (by decide)
 have hB:Bm w O0 w O0:=Bm.refl
 refine AK func24 rfl ntmps24 ?_
 unfold Dz at hm
 refine Am (Ah (Au rfl (Au rfl (o_z (Am (Ah (Au rfl (o_z (Am ?_)))))))))
 obtain ⟨j8,dF,hm⟩:=bs hm
 refine Bi (aft j8 (λ (s5:Int×(List Int)) (x6:(Option Addr×Nat))=>[(0,(.pointer (some ⟨p0,0,none⟩))),(6,(.slice x6.1 s5.2.length x6.2))]) (λ s5 x6 w'=>∃ O':Lab,Bm w O0 w' O'/\Ob 2 w' O' (.pointer (some ⟨p0,0,none⟩)) x0/\Rw 3 w' O' 3 (.slice x6.1 s5.2.length x6.2) s5.2/\P9 s5.1)) ?_ ?_
 ·
  refine Bx (Ex (σ:=Int×(List Int)) (X:=(Option Addr×Nat)) dF (λ (s5:Int×(List Int)) (x6:(Option Addr×Nat))=>[(0,(.pointer (some ⟨p0,0,none⟩))),(1,(.int .i64 s5.1)),(6,(.slice x6.1 s5.2.length x6.2))]) _ (λ s5 x6 w'=>∃ O':Lab,Bm w O0 w' O'/\Ob 2 w' O' (.pointer (some ⟨p0,0,none⟩)) x0/\Rw 3 w' O' 3 (.slice x6.1 s5.2.length x6.2) s5.2/\P9 s5.1) _ (none,0) ⟨O0,hB,y1',(Rw.nil 3 (by decide)),rx1⟩ ⟨rfl,rfl,rfl,trivial⟩ ?_)
  rintro s5 x6 w9 eF ⟨sM,hB,y1',g8,k8⟩ m1 l8 x4
  refine Am (Am (Ah (At rfl (GH rfl rfl (λ m8=>?_) λ m8=>?_))))
  ·
   replace m1:=ip m1 m8
   refine o_z (Aj rfl (AN (Am (Bx (Ah (At rfl (At rfl ?_)))))))
   obtain ⟨tM,n8,m1⟩:=bs m1
   obtain ⟨n8,fF,gF⟩:=Bt n8
   refine FE rfl (a:=s5.1) g8 (vInt k8) (λ _=>rfl) rfl fF gF ⟨rfl,rfl⟩ λ uM hF iF vM wM gD hD=>?_
   rw [<- n8] at hD ⊢
   refine Au rfl (o_z (Ah (At rfl (CV rfl ?_))))
   replace y1':=y1'.st gD
   obtain ⟨xM,yM,zM,aN,bN,cN,dN,eN,fN,iD,jF,jD,kD,lD,mD,nD,oD,o8,pD,qD,kF⟩:=Ors.opn y1' 2 4 5 6 (by decide)
   obtain ⟨gN,hN,rfl⟩:=kD.form
   obtain ⟨iN,jN,rfl⟩:=lD.form
   obtain ⟨kN,lN,rfl⟩:=mD.form
   obtain ⟨mN,nN,rfl⟩:=nD.form
   obtain ⟨oN,pN,rfl⟩:=oD.form
   obtain ⟨qN,rN,rfl⟩:=o8.form
   obtain ⟨sN,rfl⟩:=pD.mptr
   obtain ⟨tN,uN,rfl⟩:=qD.form
   refine AO rfl (AQ (hc:=Blk.cell (i:=5) (jD.1) rfl) rfl (At rfl ?_))
   obtain ⟨vN,lF,m1⟩:=bs m1
   obtain ⟨mF,nF⟩:=Br lF
   obtain ⟨wN,xN,oF,p8,q8,r8,yN,zN,rfl,pF,qF,aO,rF,bO⟩:=o8.elem nF
   obtain ⟨cO,dO,rfl⟩:=pF.form
   obtain ⟨eO,fO,rfl⟩:=qF.form
   refine CZ (hA:=p8) (hj:=mF) (hlt:=q8) rfl rfl (AO rfl (AQ (hc:=cat2 r8) rfl (Au rfl (o_z ?_))))
   obtain ⟨gO,rD,sD,tD,sF⟩:=Ors.shut (x:=x0) (l0:=2) (by decide) jD kD lD mD nD oD o8 pD qD kF
   obtain rfl:=sm m1
   exact show Exists _ from ⟨_,(hF,iF),rfl,⟨rfl,rfl,rfl,trivial⟩,_,((hB.st gD).st iD).st rD,sF,(hD.st iD).st rD,rF⟩
  replace m1:=im m1 m8
  refine o_z (Ae rfl (Cq ?_))
  obtain rfl:=sm m1
  exact show Exists _ from ⟨_,(x6.1,x6.2),x4 _ rfl,⟨rfl,rfl,trivial⟩,_,hB,y1',g8,k8⟩
 rintro tF uF ⟨d1,n0,rfl,m5,s8,hB,y1',g8,k8⟩
 replace hm:=BF hm
 refine Bg _ m5 ?_
 refine Am (Ah (At rfl ?_))
 obtain ⟨i4,t8,hm⟩:=bs hm
 refine Cg (O:=s8) (IA g8 t8) rfl λ vF wF xF y4 e0=>?_
 refine o_z (Am (Ah (At rfl (CV rfl ?_))))
 replace y1':=y1'.st y4
 obtain ⟨u8,yF,zF,aG,bG,cG,dG,eG,fG,z4,uD,t2,z1,a2,b2,c2,u2,v2,w2,x2,n5⟩:=Ors.opn y1' 2 4 5 6 (by decide)
 obtain ⟨v8,w8,rfl⟩:=z1.form
 obtain ⟨x8,y8,rfl⟩:=a2.form
 obtain ⟨z8,a9,rfl⟩:=b2.form
 obtain ⟨b9,c9,rfl⟩:=c2.form
 obtain ⟨gG,hG,rfl⟩:=u2.form
 obtain ⟨iG,jG,rfl⟩:=v2.form
 obtain ⟨kG,rfl⟩:=w2.mptr
 obtain ⟨lG,mG,rfl⟩:=x2.form
 refine AO rfl (BH (hl:=rfl) (hc:=(FZ 0 4 (t2.1).cellsAt)) rfl ?_)
 obtain ⟨d9,e9,hm⟩:=bs hm
 refine Gw (O:=u8) (R:=λ w' F v=>T2 w' F v d9) (KO Fr.lt (Vb.ofAgg (cs:=[(.slice v8 x0.t.vars.length w8),(.slice x8 x0.t.init.length y8),(.slice z8 x0.t.goal.length a9),(.slice b9 x0.t.ops.length c9)]) (x:=x0.t) rfl ⟨_,_,_,_,rfl,z1,a2,b2,c2⟩) e9) rfl rfl λ nG oG f9 r3 g9=>?_
 obtain ⟨pG,qG,rfl,h9,i9⟩:=g9
 obtain ⟨vD,rfl,rG,sG,tG,rfl,j4,k4,l4⟩:=h9
 obtain ⟨j9,k9,rfl⟩:=j4.form
 obtain ⟨l9,m9,rfl⟩:=k4.form
 obtain ⟨n9,o9,rfl⟩:=l4.form
 obtain ⟨rfl,p9⟩:=i9.err
 refine At rfl (CK rfl rfl (CK rfl rfl (BL 7 f9 λ d2 uG vG k3 c0=>?_)))
 refine AT c0 rfl rfl rfl (Bf) (allOne) λ wG l3 c0=>?_
 refine Au rfl (o_z (Am (Am (Ah (At rfl (FS rfl (λ a5=>?_) λ a5=>?_))))))
 ·
  replace hm:=ip hm a5
  refine o_z (Aj rfl (Am (Ah (At rfl (Au rfl (Au rfl (o_z (AM ?_))))))))
  have w0:=(r3.an k3).an l3
  replace t2:=t2.st w0
  replace z1:=z1.st w0
  replace a2:=a2.st w0
  replace b2:=b2.st w0
  replace c2:=c2.st w0
  replace u2:=u2.st w0
  replace v2:=v2.st w0
  replace w2:=w2.st w0
  replace x2:=x2.st w0
  obtain ⟨xG,q9,wD,xD,r9⟩:=Ors.shut (x:=x0) (l0:=2) (by decide) t2 z1 a2 b2 c2 u2 v2 w2 x2 n5
  obtain rfl:=sm hm
  replace hB:=(((((hB.st y4).st z4).st r3).st k3).st l3).st q9
  obtain ⟨O',hS',hz,hl⟩:=hE.leave (λ q=>if q=2 then i0 else 0) rfl hB
  exact T4 rfl (Bc rfl) (Bc rfl) ⟨O',hS',_,_,(Ob.leave r9 hz (hl 2 (by decide) (by decide)) y1.2),rfl,(Vb.mono (Vb.nil _ _) hz),(vErr p9)⟩
 replace hm:=im hm a5
 refine o_z (Ae rfl (AN (Am (Ah (Au rfl (o_z (Am (Am (Ah (At rfl (AU rfl ?_)))))))))))
 replace e0:=(((e0.st z4).st r3).st k3).st l3
 have b5:=Cv e0.len
 have yG:=rngNat b5
 refine At rfl (o_z ?_)
 have y0:=(r3.an k3).an l3
 replace t2:=t2.st y0
 replace z1:=z1.st y0
 replace a2:=a2.st y0
 replace b2:=b2.st y0
 replace c2:=c2.st y0
 replace u2:=u2.st y0
 replace v2:=v2.st y0
 replace w2:=w2.st y0
 replace x2:=x2.st y0
 obtain ⟨s9,m4,yD,zD,y2⟩:=Ors.shut (x:=x0) (l0:=2) (by decide) t2 z1 a2 b2 c2 u2 v2 w2 x2 n5
 obtain ⟨t9,o5,hm⟩:=bs hm
 have s3:=(k3.an l3).an m4
 replace hB:=(((((hB.st y4).st z4).st r3).st k3).st l3).st m4
 replace e0:=e0.st m4
 replace j4:=j4.st s3
 replace k4:=k4.st s3
 replace l4:=l4.st s3
 replace c0:=c0.st m4
 refine EB (X:=(Option Addr×Nat)×(Option Addr×Nat)×(Option Addr×Nat)×(Option Addr×Nat)) (d1.2.length) o5 rfl b5 (λ b0 a0=>[(0,(.pointer (some ⟨p0,0,none⟩))),(7,(.pointer (some ⟨d2,0,none⟩))),(9,(.slice a0.1.1 b0.1.length a0.1.2)),(44,(.slice n0.1 d1.2.length n0.2))]) (λ b0 a0 w'=>∃ O':Lab,Bm w O0 w' O'/\Ob 2 w' O' (.pointer (some ⟨p0,0,none⟩)) x0/\Lc 7 w' O' d2 55 [(.slice a0.2.1.1 b0.2.1.length a0.2.1.2),(.slice a0.2.2.1.1 b0.2.2.1.length a0.2.2.1.2),(.slice a0.2.2.2.1 b0.2.2.2.length a0.2.2.2.2)]/\Vb w' (Fr 0 w' O') (.slice a0.2.1.1 b0.2.1.length a0.2.1.2) b0.2.1/\Vb w' (Fr 0 w' O') (.slice a0.2.2.1.1 b0.2.2.1.length a0.2.2.1.2) b0.2.2.1/\Vb w' (Fr 0 w' O') (.slice a0.2.2.2.1 b0.2.2.2.length a0.2.2.2.2) b0.2.2.2/\Rw 10 w' O' 3 (.slice a0.1.1 b0.1.length a0.1.2) b0.1/\Rw 3 w' O' 3 (.slice n0.1 d1.2.length n0.2) i4) ((none,0),(j9,k9),(l9,m9),(n9,o9)) ⟨s9,hB,y2,c0,j4,k4,l4,(Rw.nil 10 (by decide)),e0⟩ ⟨rfl,rfl,rfl,rfl,rfl,rfl,trivial⟩ (λ _ _=>rfl) ?_ ?_
 ·
  rintro c5 zG b0 a0 aH aE p5 ⟨bH,hB,y2,c0,h0,j0,k0,e1,e0⟩ f0 g3 h8
  have rk203:=U9 p5 b5
  refine Am (Ah ?_)
  obtain ⟨q5,u9,f0⟩:=bs f0
  obtain ⟨cH,dH,bE,r5,t5,u5,rfl,eH⟩:=e0.elem u9
  refine CZ (hA:=r5) (hj:=rfl) (hlt:=t5) rfl rfl (AQ (hc:=cat0 u5) rfl (Au rfl (o_z (Am ?_))))
  obtain ⟨v9,d0,f0⟩:=bs f0
  refine Bi (λ l' w'=>∃ (e2:(List Int)) (f1:(Option Addr×Nat)) (O':Lab),v9=.done e2/\Q2 l' [(0,(.pointer (some ⟨p0,0,none⟩))),(7,(.pointer (some ⟨d2,0,none⟩))),(9,(.slice f1.1 e2.length f1.2)),(11,(.int .i64 q5)),(44,(.slice n0.1 d1.2.length n0.2)),(45,(.int .i64 (d1.2.length:Int))),(46,(.int .i64 (c5:Int)))]/\Bm w O0 w' O'/\Ob 2 w' O' (.pointer (some ⟨p0,0,none⟩)) x0/\Lc 7 w' O' d2 55 [(.slice a0.2.1.1 b0.2.1.length a0.2.1.2),(.slice a0.2.2.1.1 b0.2.2.1.length a0.2.2.1.2),(.slice a0.2.2.2.1 b0.2.2.2.length a0.2.2.2.2)]/\Vb w' (Fr 0 w' O') (.slice a0.2.1.1 b0.2.1.length a0.2.1.2) b0.2.1/\Vb w' (Fr 0 w' O') (.slice a0.2.2.1.1 b0.2.2.1.length a0.2.2.1.2) b0.2.2.1/\Vb w' (Fr 0 w' O') (.slice a0.2.2.2.1 b0.2.2.2.length a0.2.2.2.2) b0.2.2.2/\Rw 10 w' O' 3 (.slice f1.1 e2.length f1.2) e2/\Rw 3 w' O' 3 (.slice n0.1 d1.2.length n0.2) i4) ?_ ?_
  ·
   refine Am (Ah (At rfl (CV rfl ?_)))
   obtain ⟨x9,fH,gH,hH,iH,jH,kH,lH,mH,t3,cE,c1,o0,q0,r0,s0,n1,g1,o1,p1,d5⟩:=Ors.opn y2 2 4 5 6 (by decide)
   obtain ⟨v5,w5,rfl⟩:=o0.form
   obtain ⟨x5,y5,rfl⟩:=q0.form
   obtain ⟨z5,a6,rfl⟩:=r0.form
   obtain ⟨b6,c6,rfl⟩:=s0.form
   obtain ⟨nH,oH,rfl⟩:=n1.form
   obtain ⟨pH,qH,rfl⟩:=g1.form
   obtain ⟨rH,rfl⟩:=o1.mptr
   obtain ⟨sH,tH,rfl⟩:=p1.form
   refine AO rfl (AQ (hc:=Blk.cell (i:=5) (c1.1) rfl) rfl (At rfl ?_))
   obtain ⟨q1,y9,d0⟩:=bs d0
   obtain ⟨z9,aA⟩:=Br y9
   obtain ⟨uH,vH,dE,d6,e6,f6,wH,xH,rfl,m3,n3,yH,zH,aI⟩:=g1.elem aA
   obtain ⟨g6,h6,rfl⟩:=m3.form
   obtain ⟨i6,j6,rfl⟩:=n3.form
   refine CZ (hA:=d6) (hj:=z9) (hlt:=e6) rfl rfl (BH (hl:=rfl) (hc:=f6) rfl ?_)
   refine BL 8 x9 λ k6 bI e5 h1 z2=>?_
   refine AT z2 rfl rfl rfl (Bf) (allOne) λ cI i1 z2=>?_
   refine o_z (Am (Ah (AO rfl (AQ (hc:=Blk.cell (i:=3) (z2.1) rfl) rfl (GH rfl rfl (λ f5=>?_) λ f5=>?_)))))
   ·
    replace d0:=ip d0 f5
    refine o_z (Aj rfl (Am ?_))
    obtain ⟨n4,l6,d0⟩:=bs d0
    obtain ⟨t1,s4,d0⟩:=bs d0
    refine Bi (λ l' w'=>∃ (u0:Nat×(Option Addr×Nat)×(Option Addr×Nat)×(Option Addr×Nat)) (O':Lab),Q2 l' [(0,(.pointer (some ⟨p0,0,none⟩))),(7,(.pointer (some ⟨d2,0,none⟩))),(9,(.slice a0.1.1 b0.1.length a0.1.2)),(11,(.int .i64 q5)),(12,(.pointer (some ⟨k6,0,none⟩))),(13,(.pointer (some ⟨u0.1,0,none⟩))),(14,(V6 n4.2.n)),(44,(.slice n0.1 d1.2.length n0.2)),(45,(.int .i64 (d1.2.length:Int))),(46,(.int .i64 (c5:Int)))]/\Bm w O0 w' O'/\Ob 2 w' O' (.pointer (some ⟨p0,0,none⟩)) x0/\Lc 7 w' O' d2 55 [(.slice a0.2.1.1 b0.2.1.length a0.2.1.2),(.slice a0.2.2.1.1 b0.2.2.1.length a0.2.2.1.2),(.slice a0.2.2.2.1 b0.2.2.2.length a0.2.2.2.2)]/\Vb w' (Fr 0 w' O') (.slice a0.2.1.1 b0.2.1.length a0.2.1.2) b0.2.1/\Vb w' (Fr 0 w' O') (.slice a0.2.2.1.1 b0.2.2.1.length a0.2.2.1.2) b0.2.2.1/\Vb w' (Fr 0 w' O') (.slice a0.2.2.2.1 b0.2.2.2.length a0.2.2.2.2) b0.2.2.2/\Rw 10 w' O' 3 (.slice a0.1.1 b0.1.length a0.1.2) b0.1/\Lc 8 w' O' k6 82 [(.slice g6 q1.state.length h6),(.int .i64 q1.cost),(.int .i64 q1.parent),(.int .i64 q1.op),(.slice i6 q1.used.length j6),(.bool q1.fin)]/\Vb w' (Fr 0 w' O') (.slice g6 q1.state.length h6) q1.state/\Vb w' (Fr 0 w' O') (.slice i6 q1.used.length j6) q1.used/\Lc 9 w' O' u0.1 55 [(.slice u0.2.1.1 t1.1.length u0.2.1.2),(.slice u0.2.2.1.1 t1.2.1.length u0.2.2.1.2),(.slice u0.2.2.2.1 t1.2.2.length u0.2.2.2.2)]/\Vb w' (Fr 0 w' O') (.slice u0.2.1.1 t1.1.length u0.2.1.2) t1.1/\Vb w' (Fr 0 w' O') (.slice u0.2.2.1.1 t1.2.1.length u0.2.2.1.2) t1.2.1/\Vb w' (Fr 0 w' O') (.slice u0.2.2.2.1 t1.2.2.length u0.2.2.2.2) t1.2.2/\Rw 3 w' O' 3 (.slice n0.1 d1.2.length n0.2) i4/\P9 n4.2.n) ?_ ?_
    ·
     refine Bl [(10,[9])] e5 ?_
     refine AH (fuel:=7) [] (AX (CR 0 5)) rfl (AJ rfl rfl (BG rfl rfl (AL rfl rfl ?_)))
     replace c1:=(c1.st h1).st i1
     refine Dm (hl:=rfl) (hb:=λ w' ⟨O',hq⟩=>(FZ 0 4 ((c1.st hq (by decide)).1).cellsAt)) rfl rfl ?_
     replace c0:=((c0.st t3).st h1).st i1
     refine Dm (hl:=rfl) (hb:=Gl c0) rfl rfl (AC ?_)
     refine DQ (i:=5) (j:=9) rfl rfl ?_ ?_
     ·
      have f2:=h1.an i1
      have h3:=(t3.an h1).an i1
      replace h0:=h0.st h3
      replace j0:=j0.st h3
      replace k0:=k0.st h3
      replace o0:=o0.st f2
      replace q0:=q0.st f2
      replace r0:=r0.st f2
      replace s0:=s0.st f2
      refine Gw (O:=e5) (R:=λ w' F v=>T2 w' F v n4) (If Fr.lt (Vb.ofAgg (cs:=[(.slice v5 x0.t.vars.length w5),(.slice x5 x0.t.init.length y5),(.slice z5 x0.t.goal.length a6),(.slice b6 x0.t.ops.length c6)]) (x:=x0.t) rfl ⟨_,_,_,_,rfl,o0,q0,r0,s0⟩) (Vb.ofAgg (cs:=[(.slice a0.2.1.1 b0.2.1.length a0.2.1.2),(.slice a0.2.2.1.1 b0.2.2.1.length a0.2.2.1.2),(.slice a0.2.2.2.1 b0.2.2.2.length a0.2.2.2.2)]) (x:=(⟨b0.2.1,b0.2.2.1,b0.2.2.2⟩:Swp)) rfl ⟨_,_,_,rfl,h0,j0,k0⟩) l6) rfl rfl λ dI eI bA o4 cA=>?_
      obtain ⟨fI,gI,rfl,dA,eA⟩:=cA
      obtain ⟨eE,rfl,hI,iI,jI,rfl,m6,n6,o6⟩:=dA
      obtain ⟨fA,gA,rfl⟩:=m6.form
      obtain ⟨iA,jA,rfl⟩:=n6.form
      obtain ⟨kA,lA,rfl⟩:=o6.form
      obtain ⟨rfl,mA⟩:=eA.err
      have hZ:=lZ o4
      refine AV [(10,[9])] hZ ?_
      refine AH (fuel:=4) [] (AX [6,7]) rfl (AJ rfl rfl (IL rfl rfl rfl (AC ?_)))
      refine AH (fuel:=3) [9] [(8,true)] rfl (IL rfl rfl rfl (AC (AF (i:=9) rfl ?_)))
      refine BL 9 bA λ nA kI lI u3 g5=>?_
      have hZ:=lZ u3
      refine AV [(10,[9])] hZ (AF (i:=10) rfl ?_)
      refine AT g5 rfl rfl rfl (Bf) (allOne) λ mI v3 g5=>?_
      have hZ:=v3.lst [9] (λ _ h=>by cases h;decide)
      refine AV [] hZ ?_
      refine AH (fuel:=0) [] [(11,true)] rfl (Ei rfl rfl (AC (Ba ?_)))
      have r1:=(o4.an u3).an v3
      have g2:=((f2.an o4).an u3).an v3
      replace c1:=c1.st r1
      replace o0:=o0.st r1
      replace q0:=q0.st r1
      replace r0:=r0.st r1
      replace s0:=s0.st r1
      replace n1:=n1.st g2
      replace g1:=g1.st g2
      replace o1:=o1.st g2
      replace p1:=p1.st g2
      obtain ⟨nI,w3,fE,gE,oA⟩:=Ors.shut (x:=x0) (l0:=2) (by decide) c1 o0 q0 r0 s0 n1 g1 o1 p1 d5
      obtain rfl:=sm s4
      have x3:=(u3.an v3).an w3
      have h2:=r1.an w3
      have t4:=g2.an w3
      have y3:=(((h3.an o4).an u3).an v3).an w3
      exact ⟨(nA,(fA,gA),(iA,jA),(kA,lA)),_,⟨rfl,rfl,rfl,rfl,rfl,rfl,rfl,rfl,rfl,rfl,trivial⟩,hB.st y3,oA,c0.st h2,h0.st h2,j0.st h2,k0.st h2,e1.st y3,z2.st h2,m3.st t4,n3.st t4,g5.st w3,m6.st x3,n6.st x3,o6.st x3,e0.st y3,mA⟩
     refine BL 9 e5 λ pA oI qA z3 a4=>?_
     have hZ:=lZ z3
     refine AV [(10,[9])] hZ (AF (i:=5) rfl ?_)
     have i2:=(h1.an i1).an z3
     have i3:=((t3.an h1).an i1).an z3
     replace h0:=h0.st i3
     replace j0:=j0.st i3
     replace k0:=k0.st i3
     replace o0:=o0.st i2
     replace q0:=q0.st i2
     replace r0:=r0.st i2
     replace s0:=s0.st i2
     refine Gw (O:=qA) (R:=λ w' F v=>T2 w' F v n4) (If Fr.lt (Vb.ofAgg (cs:=[(.slice v5 x0.t.vars.length w5),(.slice x5 x0.t.init.length y5),(.slice z5 x0.t.goal.length a6),(.slice b6 x0.t.ops.length c6)]) (x:=x0.t) rfl ⟨_,_,_,_,rfl,o0,q0,r0,s0⟩) (Vb.ofAgg (cs:=[(.slice a0.2.1.1 b0.2.1.length a0.2.1.2),(.slice a0.2.2.1.1 b0.2.2.1.length a0.2.2.1.2),(.slice a0.2.2.2.1 b0.2.2.2.length a0.2.2.2.2)]) (x:=(⟨b0.2.1,b0.2.2.1,b0.2.2.2⟩:Swp)) rfl ⟨_,_,_,rfl,h0,j0,k0⟩) l6) rfl rfl λ pI qI rI a3 rA=>?_
     obtain ⟨sI,tI,rfl,sA,tA⟩:=rA
     obtain ⟨iE,rfl,uI,vI,wI,rfl,p6,q6,r6⟩:=sA
     obtain ⟨uA,vA,rfl⟩:=p6.form
     obtain ⟨wA,xA,rfl⟩:=q6.form
     obtain ⟨yA,zA,rfl⟩:=r6.form
     obtain ⟨rfl,aB⟩:=tA.err
     have hZ:=lZ a3
     refine AV [(10,[9])] hZ ?_
     refine AH (fuel:=3) [] (AX [6,7]) rfl (AJ rfl rfl (IL rfl rfl rfl (AC ?_)))
     refine AH (fuel:=2) [9] [(8,true)] rfl (IL rfl rfl rfl (AC (AF (i:=10) rfl ?_)))
     replace a4:=a4.st a3
     refine AT a4 rfl rfl rfl (Bf) (allOne) λ xI u1 a4=>?_
     have hZ:=u1.lst [9] (λ _ h=>by cases h;decide)
     refine AV [] hZ ?_
     refine AH (fuel:=0) [] [(11,true)] rfl (Ei rfl rfl (AC (Ba ?_)))
     have j2:=a3.an u1
     have k2:=(i2.an a3).an u1
     replace c1:=((c1.st z3).st a3).st u1
     replace o0:=o0.st j2
     replace q0:=q0.st j2
     replace r0:=r0.st j2
     replace s0:=s0.st j2
     replace n1:=n1.st k2
     replace g1:=g1.st k2
     replace o1:=o1.st k2
     replace p1:=p1.st k2
     obtain ⟨yI,l2,jE,kE,bB⟩:=Ors.shut (x:=x0) (l0:=2) (by decide) c1 o0 q0 r0 s0 n1 g1 o1 p1 d5
     obtain rfl:=sm s4
     have b4:=j2.an l2
     have u4:=((z3.an a3).an u1).an l2
     have v4:=k2.an l2
     have c4:=((i3.an a3).an u1).an l2
     exact ⟨(pA,(uA,vA),(wA,xA),(yA,zA)),_,⟨rfl,rfl,rfl,rfl,rfl,rfl,rfl,rfl,rfl,rfl,trivial⟩,hB.st c4,bB,c0.st u4,h0.st b4,j0.st b4,k0.st b4,e1.st c4,z2.st u4,m3.st v4,n3.st v4,a4.st l2,(p6.st u1).st l2,(q6.st u1).st l2,(r6.st u1).st l2,e0.st c4,aB⟩
    have j1:=(t3.an h1).an i1
    replace hB:=hB.st j1
    replace e0:=e0.st j1
    replace c0:=c0.st j1
    replace e1:=e1.st j1
    replace h0:=h0.st j1
    replace j0:=j0.st j1
    replace k0:=k0.st j1
    replace m3:=(m3.st h1).st i1
    replace n3:=(n3.st h1).st i1
    rintro zI aJ ⟨u0,bJ,s6,hB,t6,c0,h0,j0,k0,e1,z2,m3,n3,cB,cJ,dJ,dB,e0,eB⟩
    refine Bg _ s6 ?_
    refine Am (Am (Ah (At rfl (FS rfl (λ h5=>?_) λ h5=>?_))))
    ·
     replace d0:=ip d0 h5
     refine o_z (Aj rfl (Am (Ah (At rfl (Au rfl (Au rfl (o_z (AM ?_))))))))
     obtain rfl:=sm d0
     obtain rfl:=sm (Eb f0)
     obtain rfl:=g3 _ rfl
     obtain rfl:=sm (Eb hm)
     obtain ⟨O',hS',hz,hl⟩:=hE.leave (λ q=>if q=2 then i0 else 0) rfl hB
     exact T4 rfl (Bc rfl) (Bc rfl) ⟨O',hS',_,_,(Ob.leave t6 hz (hl 2 (by decide) (by decide)) y1.2),rfl,(Vb.mono (Vb.nil _ _) hz),(vErr eB)⟩
    replace d0:=im d0 h5
    refine o_z (Ae rfl (AN (Ah (At rfl (AO rfl (AQ (hc:=Blk.cell (i:=2) (cB.1) rfl) rfl (AO rfl (AQ (hc:=Blk.cell (i:=3) (z2.1) rfl) rfl ?_))))))))
    obtain ⟨fB,gB,d0⟩:=bs d0
    obtain ⟨iB,jB⟩:=Br gB
    obtain ⟨eJ,fJ,lE,u6,v6,w6,rfl,kB⟩:=dB.elem' jB
    refine CZ (hA:=u6) (hj:=iB) (hlt:=v6) rfl rfl (AQ (hc:=cat0 w6) rfl ?_)
    obtain ⟨gJ,i5,d0⟩:=bs d0
    obtain ⟨i5,lB,mB⟩:=Bt i5
    refine FE rfl (a:=fB) e1 (vInt kB) (λ _=>rfl) rfl lB mB ⟨rfl,rfl⟩ λ hJ nB oB iJ jJ b3 y6=>?_
    rw [<- i5] at y6 ⊢
    refine Au rfl (o_z ?_)
    obtain rfl:=sm d0
    exact ⟨_,(nB,oB),_,rfl,⟨rfl,rfl,rfl,rfl,rfl,rfl,rfl,trivial⟩,hB.st b3,t6.st b3,c0.st b3,h0.st b3,j0.st b3,k0.st b3,y6,e0.st b3⟩
   replace d0:=im d0 f5
   refine o_z (Ae rfl (AN ?_))
   have z0:=h1.an i1
   replace c1:=c1.st z0
   replace o0:=o0.st z0
   replace q0:=q0.st z0
   replace r0:=r0.st z0
   replace s0:=s0.st z0
   replace n1:=n1.st z0
   replace g1:=g1.st z0
   replace o1:=o1.st z0
   replace p1:=p1.st z0
   obtain ⟨kJ,pB,mE,nE,qB⟩:=Ors.shut (x:=x0) (l0:=2) (by decide) c1 o0 q0 r0 s0 n1 g1 o1 p1 d5
   obtain rfl:=sm d0
   have k1:=((t3.an h1).an i1).an pB
   exact ⟨_,(a0.1.1,a0.1.2),_,rfl,⟨rfl,rfl,rfl,rfl,rfl,rfl,rfl,trivial⟩,hB.st k1,qB,c0.st k1,h0.st k1,j0.st k1,k0.st k1,e1.st k1,e0.st k1⟩
  rintro lJ mJ ⟨e2,f1,nJ,rfl,z6,hB,rB,c0,h0,j0,k0,c3,e0⟩
  replace f0:=BF f0
  refine Bg _ z6 ?_
  refine Am (Ah (At rfl (CV rfl ?_)))
  obtain ⟨oJ,pJ,qJ,rJ,sJ,tJ,uJ,vJ,wJ,sB,oE,a7,b7,c7,d7,e7,f7,j5,g7,h7,tB⟩:=Ors.opn rB 2 4 5 6 (by decide)
  obtain ⟨xJ,yJ,rfl⟩:=b7.form
  obtain ⟨zJ,aK,rfl⟩:=c7.form
  obtain ⟨bK,cK,rfl⟩:=d7.form
  obtain ⟨dK,eK,rfl⟩:=e7.form
  obtain ⟨fK,gK,rfl⟩:=f7.form
  obtain ⟨hK,iK,rfl⟩:=j5.form
  obtain ⟨jK,rfl⟩:=g7.mptr
  obtain ⟨kK,lK,rfl⟩:=h7.form
  refine AO rfl (AQ (hc:=Blk.cell (i:=5) (a7.1) rfl) rfl (At rfl ?_))
  obtain ⟨p4,uB,f0⟩:=bs f0
  obtain ⟨vB,wB⟩:=Br uB
  obtain ⟨mK,nK,pE,i7,j7,k7,oK,pK,rfl,xB,w1,qK,rK,sK⟩:=j5.elem wB
  obtain ⟨tK,uK,rfl⟩:=xB.form
  obtain ⟨l7,m7,rfl⟩:=w1.form
  refine CZ (hA:=i7) (hj:=vB) (hlt:=j7) rfl rfl (AO rfl (AQ (hc:=cat4 k7) rfl (AU rfl ?_)))
  have k5:=Cv w1.len
  have vK:=rngNat k5
  refine At rfl (o_z ?_)
  obtain ⟨yB,n7,qE,rE,d4⟩:=Ors.shut (x:=x0) (l0:=2) (by decide) a7 b7 c7 d7 e7 f7 j5 g7 h7 tB
  obtain ⟨zB,o7,f0⟩:=bs f0
  have l1:=sB.an n7
  replace hB:=hB.st l1
  replace e0:=e0.st l1
  replace c0:=c0.st l1
  replace h0:=h0.st l1
  replace j0:=j0.st l1
  replace k0:=k0.st l1
  replace c3:=c3.st l1
  replace w1:=w1.st n7
  refine EB (X:=(Option Addr×Nat)×(Option Addr×Nat)×(Option Addr×Nat)) (p4.used.length) o7 rfl k5 (λ m0 g0=>[(0,(.pointer (some ⟨p0,0,none⟩))),(7,(.pointer (some ⟨d2,0,none⟩))),(9,(.slice f1.1 e2.length f1.2)),(44,(.slice n0.1 d1.2.length n0.2)),(45,(.int .i64 (d1.2.length:Int))),(46,(.int .i64 (c5:Int))),(88,(.slice l7 p4.used.length m7))]) (λ m0 g0 w'=>∃ O':Lab,Bm w O0 w' O'/\Ob 2 w' O' (.pointer (some ⟨p0,0,none⟩)) x0/\Lc 7 w' O' d2 55 [(.slice g0.1.1 m0.1.length g0.1.2),(.slice g0.2.1.1 m0.2.1.length g0.2.1.2),(.slice g0.2.2.1 m0.2.2.length g0.2.2.2)]/\Vb w' (Fr 0 w' O') (.slice g0.1.1 m0.1.length g0.1.2) m0.1/\Vb w' (Fr 0 w' O') (.slice g0.2.1.1 m0.2.1.length g0.2.1.2) m0.2.1/\Vb w' (Fr 0 w' O') (.slice g0.2.2.1 m0.2.2.length g0.2.2.2) m0.2.2/\Rw 10 w' O' 3 (.slice f1.1 e2.length f1.2) e2/\Rw 3 w' O' 3 (.slice n0.1 d1.2.length n0.2) i4/\Vb w' (Fr 0 w' O') (.slice l7 p4.used.length m7) p4.used) ((a0.2.1.1,a0.2.1.2),(a0.2.2.1.1,a0.2.2.1.2),(a0.2.2.2.1,a0.2.2.2.2)) ⟨yB,hB,d4,c0,h0,j0,k0,c3,e0,w1⟩ ⟨rfl,rfl,rfl,rfl,rfl,rfl,rfl,rfl,rfl,trivial⟩ (λ _ _=>rfl) ?_ ?_
  ·
   rintro wK xK m0 g0 yK sE w4 ⟨zK,hB,d4,c0,e4,f4,g4,c3,e0,w1⟩ t0 q4 i8
   have rk498:=U9 w4 k5
   refine Am (Ah ?_)
   obtain ⟨aL,bL,tE,p7,q7,r7,rfl,cL⟩:=w1.elem' w4
   refine CZ (hA:=p7) (hj:=rfl) (hlt:=q7) rfl rfl (AQ (hc:=cat0 r7) rfl (Au rfl (o_z (Am ?_))))
   obtain ⟨s7,dL,eL,fL,gL,hL,iL,jL,kL,o3,uE,m2,n2,o2,p2,q2,r2,d3,e3,f3,t7⟩:=Ors.opn d4 2 4 5 6 (by decide)
   obtain ⟨aC,bC,rfl⟩:=n2.form
   obtain ⟨cC,dC,rfl⟩:=o2.form
   obtain ⟨eC,fC,rfl⟩:=p2.form
   obtain ⟨gC,hC,rfl⟩:=q2.form
   obtain ⟨lL,mL,rfl⟩:=r2.form
   obtain ⟨nL,oL,rfl⟩:=d3.form
   obtain ⟨pL,rfl⟩:=e3.mptr
   obtain ⟨qL,rL,rfl⟩:=f3.form
   refine Bl [(16,[7])] s7 ?_
   refine AH (fuel:=6) [] (AX (CR 0 12)) rfl (AJ rfl rfl (BG rfl rfl (AL rfl rfl (Dm (hl:=rfl) (hb:=λ w' ⟨O',hq⟩=>(FZ 0 4 ((m2.st hq (by decide)).1).cellsAt)) rfl rfl ?_))))
   replace c0:=c0.st o3
   refine Dm (hl:=rfl) (hb:=Gl c0) rfl rfl (AJ rfl rfl (BG rfl rfl (AL rfl rfl (AZ (hc:=Bn m2 4 rfl) rfl rfl (AJ rfl rfl ?_)))))
   obtain ⟨r4,iC,t0⟩:=bs t0
   obtain ⟨jC,kC⟩:=Br iC
   obtain ⟨sL,tL,vE,u7,v7,w7,x7,uL,vL,wL,rfl,y7,z7,a8⟩:=r2.elem kC
   obtain ⟨lC,mC,rfl⟩:=y7.form
   obtain ⟨nC,oC,rfl⟩:=z7.form
   obtain ⟨pC,qC,rfl⟩:=a8.form
   refine BT (hA:=u7) (hj:=jC) (hlt:=w7) rfl rfl rfl (Dm (hl:=rfl) (hb:=Hi v7 x7) rfl rfl (AC (AF (i:=12) rfl ?_)))
   obtain ⟨rC,sC,t0⟩:=bs t0
   replace e4:=e4.st o3
   replace f4:=f4.st o3
   replace g4:=g4.st o3
   refine Gw (O:=s7) (R:=λ w' F v=>T2 w' F v rC) (Lg Fr.lt (Vb.ofAgg (cs:=[(.slice aC x0.t.vars.length bC),(.slice cC x0.t.init.length dC),(.slice eC x0.t.goal.length fC),(.slice gC x0.t.ops.length hC)]) (x:=x0.t) rfl ⟨_,_,_,_,rfl,n2,o2,p2,q2⟩) (Vb.ofAgg (cs:=[(.slice g0.1.1 m0.1.length g0.1.2),(.slice g0.2.1.1 m0.2.1.length g0.2.1.2),(.slice g0.2.2.1 m0.2.2.length g0.2.2.2)]) (x:=(⟨m0.1,m0.2.1,m0.2.2⟩:Swp)) rfl ⟨_,_,_,rfl,e4,f4,g4⟩) (Vb.ofAgg (cs:=[(.slice lC r4.vars.length mC),(.slice nC r4.vals.length oC),(.slice pC r4.ops.length qC)]) (x:=r4) rfl ⟨_,_,_,rfl,y7,z7,a8⟩) sC) rfl rfl λ xL yL zL p3 tC=>?_
   obtain ⟨aM,bM,rfl,uC,vC⟩:=tC
   obtain ⟨wE,rfl,cM,dM,eM,rfl,b8,c8,d8⟩:=uC
   obtain ⟨wC,xC,rfl⟩:=b8.form
   obtain ⟨yC,zC,rfl⟩:=c8.form
   obtain ⟨aD,bD,rfl⟩:=d8.form
   obtain ⟨rfl,cD⟩:=vC.err
   have hZ:=lZ p3
   refine AV [(16,[7])] hZ ?_
   refine AH (fuel:=3) [] (AX [13,14]) rfl (AJ rfl rfl (IL rfl rfl rfl (AC ?_)))
   refine AH (fuel:=2) [7] [(15,true)] rfl (IL rfl rfl rfl (AC (AF (i:=16) rfl ?_)))
   replace c0:=c0.st p3
   refine AT c0 rfl rfl rfl (Bf) (allOne) λ fM s2 c0=>?_
   have hZ:=s2.lst [7] (λ _ h=>by cases h;decide)
   refine AV [] hZ ?_
   refine AH (fuel:=0) [] [(17,true)] rfl (Ei rfl rfl (AC (Ba (Am (Ah (At rfl (FS rfl (λ l5=>?_) λ l5=>?_)))))))
   ·
    replace t0:=ip t0 l5
    refine o_z (Aj rfl (Am (Ah (At rfl (Au rfl (Au rfl (o_z (AM ?_))))))))
    have a1:=p3.an s2
    replace m2:=m2.st a1
    replace n2:=n2.st a1
    replace o2:=o2.st a1
    replace p2:=p2.st a1
    replace q2:=q2.st a1
    replace r2:=r2.st a1
    replace d3:=d3.st a1
    replace e3:=e3.st a1
    replace f3:=f3.st a1
    obtain ⟨gM,dD,xE,yE,eD⟩:=Ors.shut (x:=x0) (l0:=2) (by decide) m2 n2 o2 p2 q2 r2 d3 e3 f3 t7
    obtain rfl:=sm t0
    obtain rfl:=q4 _ rfl
    obtain rfl:=sm (Eb f0)
    obtain rfl:=g3 _ rfl
    obtain rfl:=sm (Eb hm)
    replace hB:=(((hB.st o3).st p3).st s2).st dD
    obtain ⟨O',hS',hz,hl⟩:=hE.leave (λ q=>if q=2 then i0 else 0) rfl hB
    exact T4 rfl (Bc rfl) (Bc rfl) ⟨O',hS',_,_,(Ob.leave eD hz (hl 2 (by decide) (by decide)) y1.2),rfl,(Vb.mono (Vb.nil _ _) hz),(vErr cD)⟩
   replace t0:=im t0 l5
   refine o_z (Ae rfl (AN ?_))
   have b1:=p3.an s2
   replace m2:=m2.st b1
   replace n2:=n2.st b1
   replace o2:=o2.st b1
   replace p2:=p2.st b1
   replace q2:=q2.st b1
   replace r2:=r2.st b1
   replace d3:=d3.st b1
   replace e3:=e3.st b1
   replace f3:=f3.st b1
   obtain ⟨hM,h4,zE,aF,fD⟩:=Ors.shut (x:=x0) (l0:=2) (by decide) m2 n2 o2 p2 q2 r2 d3 e3 f3 t7
   obtain rfl:=sm t0
   have j3:=((o3.an p3).an s2).an h4
   exact show Exists _ from ⟨_,((wC,xC),(yC,zC),(aD,bD)),rfl,⟨rfl,rfl,rfl,rfl,rfl,rfl,rfl,rfl,rfl,trivial⟩,_,hB.st j3,fD,c0.st h4,(b8.st s2).st h4,(c8.st s2).st h4,(d8.st s2).st h4,c3.st j3,e0.st j3,w1.st j3⟩
  rintro iM jM ⟨kM,q3,rfl,s1,lM,hB,d4,c0,e4,f4,g4,c3,e0,w1⟩
  replace f0:=BF f0
  obtain rfl:=sm f0
  exact show Exists _ from ⟨_,((f1.1,f1.2),(q3.1.1,q3.1.2),(q3.2.1.1,q3.2.1.2),(q3.2.2.1,q3.2.2.2)),rfl,⟨(BC s1 _ _ rfl),(BC s1 _ _ rfl),(BC s1 _ _ rfl),(BC s1 _ _ rfl),(BC s1 _ _ rfl),(BC s1 _ _ rfl),trivial⟩,_,hB,d4,c0,e4,f4,g4,c3,e0⟩
 rintro mM nM ⟨oM,pM,rfl,e8,qM,hB,y2,c0,h0,j0,k0,e1,e0⟩
 replace hm:=BF hm
 refine Bg _ e8 ?_
 refine Am (Ah (At rfl (Au rfl (Au rfl (o_z (AM ?_))))))
 obtain ⟨rM,f8,e1⟩:=e1.freeze
 obtain rfl:=sm hm
 replace hB:=hB.st f8
 obtain ⟨O',hS',hz,hl⟩:=hE.leave (λ q=>if q=2 then i0 else 0) rfl hB
 replace y2:=y2.st f8
 exact T4 rfl (Bc rfl) (Bc rfl) ⟨O',hS',_,_,(Ob.leave y2 hz (hl 2 (by decide) (by decide)) y1.2),rfl,(Vb.mono e1 hz),(vErr (R0 0))⟩
noncomputable def DM (i:Tsk) (F:List Swp) (I:Int):Option (Rsl×Err) :=
  bnd (Dr i) λ o=>if o.n≠0 then (some ((⟨0,([]:List Int),0,0⟩:Rsl),(⟨o.n⟩:Err))) else (bnd (rng (ρ:=Rsl×Err) (λ (J:Nat) (D:Swp) (K:Unit)=>bnd (DH i D) λ E=>if E=true then some (.next ()) else some (.ret ((⟨0,([]:List Int),0,0⟩:Rsl),(⟨2⟩:Err)))) F 0 ()) λ m=>fin m λ (G:Unit)=>bnd (Gq i) λ d=>if d.2.n≠0 then (some ((⟨0,([]:List Int),0,0⟩:Rsl),(⟨d.2.n⟩:Err))) else (bnd (CD (⟨(⟨i.vars,i.init,i.goal,i.ops⟩:Tsk),F,([]:List ONd),(⟨[]⟩:MapP ByteArray Int),([]:List OEn),0⟩:Ors) i.init 0 (-1) (-1)) λ e=>if e.1.n≠0 then (some ((⟨0,([]:List Int),0,0⟩:Rsl),(⟨e.1.n⟩:Err))) else (bnd (lop (ρ:=Rsl×Err) (λ (a:Int×Ors)=>bnd (CH a.2.open_) λ p=>if p=0 then (some (.ret ((⟨2,([]:List Int),0,a.1⟩:Rsl),(⟨0⟩:Err)))) else (bnd (DL (⟨a.2.open_⟩:BxR 71 77 OEn)) λ b=>bnd (bnd (atI a.2.nodes b.1.x.node) λ q=>if q.fin=true then (some true) else (bnd (atI a.2.nodes b.1.x.node) λ r=>if r.cost < b.1.x.cost then (some true) else (some false)):Option Bool) λ s=>if s=true then (some (.next (a.1,(⟨(⟨a.2.t.vars,a.2.t.init,a.2.t.goal,a.2.t.ops⟩:Tsk),a.2.gens,a.2.nodes,a.2.tab,b.2.l,a.2.number⟩:Ors)))) else (bnd (atI ((⟨(⟨a.2.t.vars,a.2.t.init,a.2.t.goal,a.2.t.ops⟩:Tsk),a.2.gens,a.2.nodes,a.2.tab,b.2.l,a.2.number⟩:Ors).nodes) b.1.x.node) λ c=>bnd (Gb i.goal c.state) λ u=>if u=true then bnd (Dz (⟨(⟨a.2.t.vars,a.2.t.init,a.2.t.goal,a.2.t.ops⟩:Tsk),a.2.gens,a.2.nodes,a.2.tab,b.2.l,a.2.number⟩:Ors) b.1.x.node) λ f=>if f.2.n≠0 then (some (.ret ((⟨0,([]:List Int),0,0⟩:Rsl),(⟨f.2.n⟩:Err)))) else (some (.ret ((⟨1,f.1,c.cost,a.1⟩:Rsl),(⟨0⟩:Err)))) else if I<=a.1 then (some (.ret ((⟨3,([]:List Int),0,a.1⟩:Rsl),(⟨0⟩:Err)))) else (bnd (Q1 (a.1 + 1)) λ v=>bnd (atI ((⟨(⟨a.2.t.vars,a.2.t.init,a.2.t.goal,a.2.t.ops⟩:Tsk),a.2.gens,a.2.nodes,a.2.tab,b.2.l,a.2.number⟩:Ors).nodes) b.1.x.node) λ w=>bnd (Cc d.1 c.state) λ y=>bnd (rng (ρ:=Ctl (Int×Ors) (Rsl×Err)) (λ (H:Nat) (g:Suc) (z:Ors)=>bnd (atI i.ops g.op) λ A=>bnd (Q1 (c.cost + A.cost)) λ B=>bnd (CD z g.state B b.1.x.node g.op) λ h=>if h.1.n≠0 then (some (.ret (.ret ((⟨0,([]:List Int),0,0⟩:Rsl),(⟨h.1.n⟩:Err))))) else (some (.next h.2))) y 0 (⟨(⟨(⟨(⟨a.2.t.vars,a.2.t.init,a.2.t.goal,a.2.t.ops⟩:Tsk),a.2.gens,a.2.nodes,a.2.tab,b.2.l,a.2.number⟩:Ors).t.vars,(⟨(⟨a.2.t.vars,a.2.t.init,a.2.t.goal,a.2.t.ops⟩:Tsk),a.2.gens,a.2.nodes,a.2.tab,b.2.l,a.2.number⟩:Ors).t.init,(⟨(⟨a.2.t.vars,a.2.t.init,a.2.t.goal,a.2.t.ops⟩:Tsk),a.2.gens,a.2.nodes,a.2.tab,b.2.l,a.2.number⟩:Ors).t.goal,(⟨(⟨a.2.t.vars,a.2.t.init,a.2.t.goal,a.2.t.ops⟩:Tsk),a.2.gens,a.2.nodes,a.2.tab,b.2.l,a.2.number⟩:Ors).t.ops⟩:Tsk),(⟨(⟨a.2.t.vars,a.2.t.init,a.2.t.goal,a.2.t.ops⟩:Tsk),a.2.gens,a.2.nodes,a.2.tab,b.2.l,a.2.number⟩:Ors).gens,(((⟨(⟨a.2.t.vars,a.2.t.init,a.2.t.goal,a.2.t.ops⟩:Tsk),a.2.gens,a.2.nodes,a.2.tab,b.2.l,a.2.number⟩:Ors).nodes).set (b.1.x.node:Int).toNat ({ w with fin:=true }:ONd)),(⟨(⟨a.2.t.vars,a.2.t.init,a.2.t.goal,a.2.t.ops⟩:Tsk),a.2.gens,a.2.nodes,a.2.tab,b.2.l,a.2.number⟩:Ors).tab,(⟨(⟨a.2.t.vars,a.2.t.init,a.2.t.goal,a.2.t.ops⟩:Tsk),a.2.gens,a.2.nodes,a.2.tab,b.2.l,a.2.number⟩:Ors).open_,(⟨(⟨a.2.t.vars,a.2.t.init,a.2.t.goal,a.2.t.ops⟩:Tsk),a.2.gens,a.2.nodes,a.2.tab,b.2.l,a.2.number⟩:Ors).number⟩:Ors)) λ j=>fin j λ (C:Ors)=>some (.next (v,C)))))) (0,e.2)) λ k=>fin k λ (_:Int×Ors)=>none)))
theorem JM {w:World} {A:Nat->Prop} (hA:∀ k,A k->k < w.heap.size) {vx0:Value} {x0:Tsk} (l6:Vb w A vx0 x0) {vx1:Value} {x1:List Swp} (m6:Vb w A vx1 x1) {x2:Int} (rx2:P9 x2) {r:Rsl×Err} (hm:DM x0 x1 x2=some r) :
    Fn prog 8 [vx0,vx1,(.int .i64 x2)] w λ v w'=>Ext w w'/\T2 w' (upA A w w') v r:=by
 obtain ⟨O,hB,tK⟩:=enter hA
 obtain ⟨uK,rfl,v5,v6,v7,v8,rfl,h9,e7,f7,g7⟩:=id l6
 obtain ⟨n6,o6,rfl⟩:=h9.form
 obtain ⟨p6,q6,rfl⟩:=e7.form
 obtain ⟨r6,s6,rfl⟩:=f7.form
 obtain ⟨t6,u6,rfl⟩:=g7.form
 obtain ⟨iC,jC,rfl⟩:=m6.form
 refine AK func8 rfl ntmps8 ?_
 unfold DM at hm
 refine Am (Ah (Ft 2 O rfl λ o3 vK uD vD i0=>?_))
 refine BL 3 uD λ p3 wD kC lC d0=>?_
 refine Au rfl (o_z (Am (Am (Ah ?_))))
 replace i0:=i0.st lC
 refine BH (hl:=rfl) (hc:=(i0.1).cellsAt) rfl ?_
 obtain ⟨wK,xD,hm⟩:=bs hm
 replace hB:=(hB.st vD).st lC
 refine Du (O:=kC) (IR (λ _ h=>h) (Vb.mono (F:=Fr 0 wD kC) (l6.zs hA hB) Fr.lt) xD) rfl λ xK yK mC j4 yD=>?_
 obtain ⟨rfl,zD⟩:=yD.err
 refine Au rfl (o_z (Am (Ah (At rfl (FS rfl (λ h7=>?_) λ h7=>?_)))))
 ·
  replace hm:=ip hm h7
  refine o_z (Aj rfl (Am (Ah (DU rfl rfl ?_))))
  refine ad ?_
  replace d0:=d0.st j4
  refine AT d0 rfl rfl rfl (Bf) (allOne) λ aE bE d0=>?_
  refine Au rfl (o_z (AM ?_))
  obtain rfl:=sm hm
  replace hB:=(hB.st j4).st bE
  exact T4 rfl (Dc (cs:=[(.int .i64 0),(.slice none 0 0),(.int .i64 0),(.int .i64 0)]) rfl rfl d0.1.cellsAt) (Bc rfl) ⟨hB.ext,_,_,rfl,(Vb.mono (F:=Fr 0 aE mC) (Vb.ofAgg (cs:=[(.int .i64 0),(.slice none 0 0),(.int .i64 0),(.int .i64 0)]) (x:=(⟨0,([]:List Int),0,0⟩:Rsl)) rfl ⟨_,rfl,(Vb.nil _ _),(R0 0),(R0 0),(R0 0)⟩) hB.out),(vErr zD)⟩
 replace hm:=im hm h7
 refine o_z (Ae rfl (AN (Am (Am (Ah (At rfl (AU rfl ?_)))))))
 have i7:=Cv m6.len
 have zK:=rngNat i7
 refine At rfl (o_z ?_)
 obtain ⟨nC,j7,hm⟩:=bs hm
 replace hB:=hB.st j4
 replace i0:=i0.st j4
 replace d0:=d0.st j4
 refine EB (X:=Unit) (x1.length) j7 rfl i7 (λ oC pC=>[(1,(.slice iC x1.length jC)),(2,(.int .i64 x2)),(3,(.pointer (some ⟨o3,0,none⟩))),(6,(.pointer (some ⟨p3,0,none⟩))),(30,(.slice iC x1.length jC))]) (λ oC pC w'=>∃ O':Lab,Bs w A w' O'/\Lc 2 w' O' o3 26 [(.slice n6 x0.vars.length o6),(.slice p6 x0.init.length q6),(.slice r6 x0.goal.length s6),(.slice t6 x0.ops.length u6)]/\Lc 3 w' O' p3 36 [(.int .i64 0),(.slice none 0 0),(.int .i64 0),(.int .i64 0)]) () ⟨mC,hB,i0,d0⟩ ⟨rfl,rfl,rfl,rfl,rfl,rfl,rfl,trivial⟩ (λ _ _=>rfl) ?_ ?_
 ·
  rintro aL w6 oC pC bL cE k4 ⟨dE,hB,i0,d0⟩ o1 t3 k7
  have rk50:=U9 k4 i7
  refine Am (Ah ?_)
  obtain ⟨cL,dL,eE,l7,m7,n7,eL,fL,gL,rfl,x6,y6,z6⟩:=(m6.zs hA hB).elem' k4
  obtain ⟨fE,gE,rfl⟩:=x6.form
  obtain ⟨iE,jE,rfl⟩:=y6.form
  obtain ⟨kE,lE,rfl⟩:=z6.form
  refine CZ (hA:=l7) (hj:=rfl) (hlt:=m7) rfl rfl (BH (hl:=rfl) (hc:=n7) rfl ?_)
  refine BL 4 dE λ hL iL o7 a7 p7=>?_
  refine AT p7 rfl rfl rfl (Bf) (allOne) λ qC b7 p7=>?_
  refine o_z (Am (Ah ?_))
  replace i0:=(i0.st a7).st b7
  refine BH (hl:=rfl) (hc:=(i0.1).cellsAt) rfl (BH (hl:=rfl) (hc:=(p7.1).cellsAt) rfl ?_)
  obtain ⟨mE,nE,o1⟩:=bs o1
  have l2:=a7.an b7
  replace hB:=hB.st l2
  replace x6:=x6.st l2
  replace y6:=y6.st l2
  replace z6:=z6.st l2
  refine Du (O:=o7) (My (λ _ h=>h) (Vb.mono (F:=Fr 0 qC o7) (l6.zs hA hB) Fr.lt) (Vb.mono (F:=Fr 0 qC o7) (Vb.ofAgg (cs:=[(.slice fE w6.vars.length gE),(.slice iE w6.vals.length jE),(.slice kE w6.ops.length lE)]) (x:=w6) rfl ⟨_,_,_,rfl,x6,y6,z6⟩) Fr.lt) nE) rfl λ jL kL oE l4 pE=>?_
  obtain rfl:=pE.bool
  cases mE
  case false =>
   replace o1:=iF o1
   refine DB rfl (o_z (Aj rfl (Am (Ah (DU rfl rfl ?_)))))
   refine Pw rfl rfl ?_
   replace d0:=((d0.st a7).st b7).st l4
   refine AT d0 rfl rfl rfl (Bf) (allOne) λ qE rE d0=>?_
   refine Au rfl (o_z (AM ?_))
   obtain rfl:=sm o1
   obtain rfl:=t3 _ rfl
   obtain rfl:=sm (Eb hm)
   replace hB:=(hB.st l4).st rE
   exact T4 rfl (Dc (cs:=[(.int .i64 0),(.slice none 0 0),(.int .i64 0),(.int .i64 0)]) rfl rfl d0.1.cellsAt) (Bc rfl) ⟨hB.ext,_,_,rfl,(Vb.mono (F:=Fr 0 qE oE) (Vb.ofAgg (cs:=[(.int .i64 0),(.slice none 0 0),(.int .i64 0),(.int .i64 0)]) (x:=(⟨0,([]:List Int),0,0⟩:Rsl)) rfl ⟨_,rfl,(Vb.nil _ _),(R0 0),(R0 0),(R0 0)⟩) hB.out),(vErr (by decide))⟩
  replace o1:=iT o1
  refine DA rfl (o_z (Ae rfl (AN ?_)))
  obtain rfl:=sm o1
  exact show Exists _ from ⟨_,(),rfl,⟨rfl,rfl,rfl,rfl,rfl,rfl,rfl,trivial⟩,_,hB.st l4,i0.st l4,((d0.st a7).st b7).st l4⟩
 rintro lL mL ⟨sE,tE,rfl,q7,uE,hB,i0,d0⟩
 replace hm:=BF hm
 refine Bg _ q7 ?_
 refine Am (Ah (BH (hl:=rfl) (hc:=(i0.1).cellsAt) rfl ?_))
 obtain ⟨e3,r7,hm⟩:=bs hm
 refine Gw (O:=uE) (R:=λ w' F v=>T2 w' F v e3) (Ps Fr.lt (l6.zs hA hB) r7) rfl rfl λ vE wE m4 q2 s7=>?_
 obtain ⟨xE,yE,rfl,h0,t7⟩:=s7
 obtain ⟨r2,rfl,rC⟩:=h0.ptr
 obtain ⟨rfl,u7⟩:=t7.err
 refine At rfl (CK rfl rfl (CK rfl rfl (Au rfl (Au rfl (o_z (Am (Am (Ah (At rfl (FS rfl (λ u3=>?_) λ u3=>?_))))))))))
 ·
  replace hm:=ip hm u3
  refine o_z (Aj rfl (Am (Ah (DU rfl rfl ?_))))
  refine ad ?_
  replace d0:=d0.st q2
  refine AT d0 rfl rfl rfl (Bf) (allOne) λ w7 x7 d0=>?_
  refine Au rfl (o_z (AM ?_))
  obtain rfl:=sm hm
  replace hB:=(hB.st q2).st x7
  exact T4 rfl (Dc (cs:=[(.int .i64 0),(.slice none 0 0),(.int .i64 0),(.int .i64 0)]) rfl rfl d0.1.cellsAt) (Bc rfl) ⟨hB.ext,_,_,rfl,(Vb.mono (F:=Fr 0 w7 m4) (Vb.ofAgg (cs:=[(.int .i64 0),(.slice none 0 0),(.int .i64 0),(.int .i64 0)]) (x:=(⟨0,([]:List Int),0,0⟩:Rsl)) rfl ⟨_,rfl,(Vb.nil _ _),(R0 0),(R0 0),(R0 0)⟩) hB.out),(vErr u7)⟩
 replace hm:=im hm u3
 refine o_z (Ae rfl (AN (Am (Ah ?_))))
 replace i0:=i0.st q2
 refine BH (hl:=rfl) (hc:=(i0.1).cellsAt) rfl (At rfl ?_)
 refine WH (K:=ByteArray) (V:=Int) 5 (by decide) m4 rfl λ zE aF y7 v2 v3=>?_
 refine DU rfl rfl ?_
 refine Ft 6 y7 rfl λ b2 n4 o4 s2 z7=>?_
 refine Au rfl (o_z (Am (Am (Ah (At rfl (AO rfl ?_))))))
 replace i0:=(i0.st v2).st s2
 refine AQ (hc:=Blk.cell (i:=1) (i0.1) rfl) rfl ?_
 have a8:Rw 7 n4 o4 82 (.slice none 0 0) ([]:List ONd):=Rw.nil 7 (by decide)
 have b8:Rw 8 n4 o4 77 (.slice none 0 0) ([]:List OEn):=Rw.nil 8 (by decide)
 replace hB:=((hB.st q2).st v2).st s2
 replace v3:=v3.st s2
 obtain ⟨c8,w2,sC,tC,d8⟩:=Ors.shut (x:=(⟨(⟨x0.vars,x0.init,x0.goal,x0.ops⟩:Tsk),x1,([]:List ONd),(⟨[]⟩:MapP ByteArray Int),([]:List OEn),0⟩:Ors)) (l0:=6) (by decide) z7 (h9.zs hA hB) (e7.zs hA hB) (f7.zs hA hB) (g7.zs hA hB) (m6.zs hA hB) a8 v3 b8 (R0 0)
 obtain ⟨bF,e8,hm⟩:=bs hm
 replace hB:=hB.st w2
 refine Cg (O:=c8) (Ig d8 (e7.zs hA hB) (R0 0) (R0 (-1)) (R0 (-1)) e8) rfl λ cF dF p4 t2 f8=>?_
 obtain ⟨g8,h8⟩:=f8
 obtain ⟨rfl,i8⟩:=h8.err
 refine Au rfl (o_z (Am (Ah (At rfl (FS rfl (λ w3=>?_) λ w3=>?_)))))
 ·
  replace hm:=ip hm w3
  refine o_z (Aj rfl (Am (Ah (DU rfl rfl ?_))))
  refine ad ?_
  replace d0:=((((d0.st q2).st v2).st s2).st w2).st t2
  refine AT d0 rfl rfl rfl (Bf) (allOne) λ j8 k8 d0=>?_
  refine Au rfl (o_z (AM ?_))
  obtain rfl:=sm hm
  replace hB:=(hB.st t2).st k8
  exact T4 rfl (Dc (cs:=[(.int .i64 0),(.slice none 0 0),(.int .i64 0),(.int .i64 0)]) rfl rfl d0.1.cellsAt) (Bc rfl) ⟨hB.ext,_,_,rfl,(Vb.mono (F:=Fr 0 j8 p4) (Vb.ofAgg (cs:=[(.int .i64 0),(.slice none 0 0),(.int .i64 0),(.int .i64 0)]) (x:=(⟨0,([]:List Int),0,0⟩:Rsl)) rfl ⟨_,rfl,(Vb.nil _ _),(R0 0),(R0 0),(R0 0)⟩) hB.out),(vErr i8)⟩
 replace hm:=im hm w3
 refine o_z (Ae rfl (AN (Am (Ah (Au rfl (o_z ?_))))))
 obtain ⟨x3,q4,hm⟩:=bs hm
 refine Bi (aft x3 (λ (a0:Int×Ors) (f3:Unit)=>[]) (λ a0 f3 w'=>False)) ?_ ?_
 ·
  refine Bx ?_
  replace hB:=hB.st t2
  replace i0:=(i0.st w2).st t2
  replace d0:=((((d0.st q2).st v2).st s2).st w2).st t2
  replace h0:=(((h0.st v2).st s2).st w2).st t2
  refine Ex (σ:=Int×Ors) (X:=Unit) q4 (λ (a0:Int×Ors) (f3:Unit)=>[(2,(.int .i64 x2)),(3,(.pointer (some ⟨o3,0,none⟩))),(6,(.pointer (some ⟨p3,0,none⟩))),(11,(.pointer r2)),(13,(.pointer (some ⟨b2,0,none⟩))),(15,(.int .i64 a0.1))]) _ (λ a0 f3 w'=>∃ O':Lab,Bs w A w' O'/\Lc 2 w' O' o3 26 [(.slice n6 x0.vars.length o6),(.slice p6 x0.init.length q6),(.slice r6 x0.goal.length s6),(.slice t6 x0.ops.length u6)]/\Lc 3 w' O' p3 36 [(.int .i64 0),(.slice none 0 0),(.int .i64 0),(.int .i64 0)]/\Vb w' (Fr 0 w' O') (.pointer r2) e3.1/\Ob 6 w' O' (.pointer (some ⟨b2,0,none⟩)) a0.2/\P9 a0.1) _ () ⟨p4,hB,i0,d0,h0,g8,(R0 0)⟩ ⟨rfl,rfl,rfl,rfl,rfl,rfl,trivial⟩ ?_
  rintro a0 f3 eF uC ⟨fF,hB,i0,d0,h0,l8,g3⟩ b0 o0 c7
  refine Bx (Am (Am (Ah (At rfl (CV rfl ?_)))))
  obtain ⟨m8,gF,hF,jF,kF,lF,mF,nF,oF,u2,vC,h3,z0,a1,b1,c1,d1,p1,e1,y2,y3⟩:=Ors.opn l8 6 9 10 11 (by decide)
  obtain ⟨n8,o8,rfl⟩:=z0.form
  obtain ⟨p8,q8,rfl⟩:=a1.form
  obtain ⟨r8,s8,rfl⟩:=b1.form
  obtain ⟨t8,u8,rfl⟩:=c1.form
  obtain ⟨w8,x8,rfl⟩:=d1.form
  obtain ⟨y8,z8,rfl⟩:=p1.form
  obtain ⟨a9,rfl⟩:=e1.mptr
  obtain ⟨b9,c9,rfl⟩:=y2.form
  refine AO rfl (AQ (hc:=Blk.cell (i:=7) (h3.1) rfl) rfl ?_)
  obtain ⟨pF,d9,b0⟩:=bs b0
  refine Du (O:=m8) (Hl (λ _ h=>h) (y2).all d9) rfl λ qF rF e9 v0 f9=>?_
  obtain ⟨rfl,sF⟩:=f9.int
  refine FD rfl rfl (λ z3=>?_) λ z3=>?_
  ·
   replace b0:=ip b0 z3
   refine o_z (Aj rfl (Am (Ah (At rfl (DU rfl rfl ?_)))))
   replace d0:=(d0.st u2).st v0
   refine AT d0 rfl rfl rfl (Bf) (allOne) λ g9 i9 d0=>?_
   refine Au rfl (o_z (AM ?_))
   obtain rfl:=sm b0
   obtain rfl:=o0 _ rfl
   obtain rfl:=sm (Eb hm)
   replace hB:=((hB.st u2).st v0).st i9
   exact T4 rfl (Dc (cs:=[(.int .i64 2),(.slice none 0 0),(.int .i64 0),(.int .i64 a0.1)]) rfl rfl d0.1.cellsAt) (Bc rfl) ⟨hB.ext,_,_,rfl,(Vb.mono (F:=Fr 0 g9 e9) (Vb.ofAgg (cs:=[(.int .i64 2),(.slice none 0 0),(.int .i64 0),(.int .i64 a0.1)]) (x:=(⟨2,([]:List Int),0,a0.1⟩:Rsl)) rfl ⟨_,rfl,(Vb.nil _ _),(R0 2),(R0 0),g3⟩) hB.out),(vErr (R0 0))⟩
  replace b0:=im b0 z3
  refine o_z (Ae rfl (AN (Am (Ah (At rfl (CV rfl (AO rfl (Wq rfl rfl ?_))))))))
  replace h3:=h3.st v0
  replace y2:=y2.st v0
  obtain ⟨j9,q1,wC,xC,k9⟩:=BxC.shut (cx:=(⟨73,[(.slice n8 a0.2.t.vars.length o8),(.slice p8 a0.2.t.init.length q8),(.slice r8 a0.2.t.goal.length s8),(.slice t8 a0.2.t.ops.length u8),(.slice w8 a0.2.gens.length x8),(.slice y8 a0.2.nodes.length z8),(.map (some a9))],[(.int .i64 a0.2.number)]⟩:Cx)) (p:=b2) (c0:=.slice b9 a0.2.open_.length c9) (x:=(⟨a0.2.open_⟩:BxR 71 77 OEn)) (l0:=6) (l1:=11) (by decide) h3 y2
  obtain ⟨f0,l9,b0⟩:=bs b0
  refine Cg (O:=j9) (Kk k9 l9) rfl λ tF uF vF r1 m9=>?_
  obtain ⟨n9,o9⟩:=m9
  obtain ⟨wF,rfl,p9⟩:=o9.any
  obtain ⟨yC,rfl,rfl,xF,yF,r4⟩:=p9
  obtain ⟨q9,zF,s1,zC,c2,f1⟩:=BxC.opn n9 6 11 (by decide)
  obtain ⟨aG,bG,rfl⟩:=f1.form
  refine Ws rfl rfl (At rfl (CK rfl rfl (CK rfl rfl ?_)))
  refine BL 12 q9 λ i3 cG dG w0 e0=>?_
  refine AT e0 rfl rfl rfl (Bf) (allOne) λ r9 y0 e0=>?_
  refine Au rfl (o_z (Am (Am ?_)))
  obtain ⟨s9,g0,b0⟩:=bs b0
  refine Bi (λ l' w'=>∃ (t9:Unit) (O':Lab),Q2 l' [(2,(.int .i64 x2)),(3,(.pointer (some ⟨o3,0,none⟩))),(6,(.pointer (some ⟨p3,0,none⟩))),(11,(.pointer r2)),(13,(.pointer (some ⟨b2,0,none⟩))),(15,(.int .i64 a0.1)),(16,(.pointer (some ⟨i3,0,none⟩))),(108,(.bool s9))]/\Bs w A w' O'/\Lc 2 w' O' o3 26 [(.slice n6 x0.vars.length o6),(.slice p6 x0.init.length q6),(.slice r6 x0.goal.length s6),(.slice t6 x0.ops.length u6)]/\Lc 3 w' O' p3 36 [(.int .i64 0),(.slice none 0 0),(.int .i64 0),(.int .i64 0)]/\Vb w' (Fr 0 w' O') (.pointer r2) e3.1/\Ob 6 w' O' (.pointer (some ⟨b2,0,none⟩)) (⟨(⟨a0.2.t.vars,a0.2.t.init,a0.2.t.goal,a0.2.t.ops⟩:Tsk),a0.2.gens,a0.2.nodes,a0.2.tab,f0.2.l,a0.2.number⟩:Ors)/\Lc 12 w' O' i3 77 [(.int .i64 f0.1.x.cost),(.int .i64 f0.1.x.number),(.int .i64 f0.1.x.node)]) ?_ ?_
  ·
   refine Dd (·=r9) [(0,true),(1,true),(2,true),(3,true),(4,true),(5,true),(6,true),(7,true),(8,true),(9,true),(10,true),(11,true),(12,true),(13,true),(14,true),(15,true),(16,true),(17,true),(18,true),(19,true),(20,true),(21,true),(22,true),(23,true),(24,true),(25,true),(26,true)] rfl rfl ?_
   refine AJ rfl rfl (PL rfl rfl rfl (AJ rfl rfl (Az rfl (Aw rfl rfl (Ce rfl (Az rfl (Aw rfl rfl (Jt rfl (Az rfl (Aw rfl rfl (BM rfl (Az rfl (Aw rfl rfl ?_)))))))))))))
   replace c2:=(c2.st w0).st y0
   refine Bu (hc:=Blk.cell (i:=5) (c2.1) rfl) rfl (Az rfl (Aw rfl rfl (BM rfl (Az rfl (Aw rfl rfl (Bu (hc:=Blk.cell (i:=2) (e0.1) rfl) rfl (Az rfl (Aw rfl rfl ?_))))))))
   obtain ⟨u9,v9,g0⟩:=bs g0
   obtain ⟨w9,x9⟩:=Br v9
   replace p1:=(((((p1.st v0).st q1).st r1).st s1).st w0).st y0
   obtain ⟨eG,fG,aD,s4,t4,u4,gG,hG,rfl,y9,z9,iG,jG,kG⟩:=p1.elem x9
   obtain ⟨lG,mG,rfl⟩:=y9.form
   obtain ⟨nG,oG,rfl⟩:=z9.form
   refine Hx (hA:=s4) (hj:=w9) (hlt:=t4) rfl rfl (Az rfl (Aw rfl rfl (BM rfl (Az rfl (Aw rfl rfl (Bu (hc:=cat5 u4) rfl (CE rfl rfl rfl (AJ rfl rfl ?_))))))))
   rcases C8 u9.fin with z2|z2
   ·
    try rw [z2]
    replace g0:=ip g0 z2
    refine AW rfl rfl rfl (AW rfl rfl rfl (AW rfl rfl rfl (AW rfl rfl rfl (AW rfl rfl rfl (AW rfl rfl rfl (AW rfl rfl rfl (AW rfl rfl rfl (AW rfl rfl rfl (AW rfl rfl rfl (AW rfl rfl rfl (AW rfl rfl rfl (CL rfl rfl rfl (h_z ?_)))))))))))))
    have h1:=((((v0.an q1).an r1).an s1).an w0).an y0
    replace z0:=z0.st h1
    replace a1:=a1.st h1
    replace b1:=b1.st h1
    replace c1:=c1.st h1
    replace d1:=d1.st h1
    replace e1:=e1.st h1
    replace f1:=(f1.st w0).st y0
    obtain ⟨pG,v4,bD,cD,aA⟩:=Ors.shut (x:=(⟨(⟨a0.2.t.vars,a0.2.t.init,a0.2.t.goal,a0.2.t.ops⟩:Tsk),a0.2.gens,a0.2.nodes,a0.2.tab,f0.2.l,a0.2.number⟩:Ors)) (l0:=6) (by decide) c2 z0 a1 b1 c1 d1 p1 e1 f1 y3
    obtain rfl:=sm g0
    have m2:=((((((u2.an v0).an q1).an r1).an s1).an w0).an y0).an v4
    exact ⟨(),_,⟨rfl,rfl,rfl,rfl,rfl,rfl,rfl,rfl,trivial⟩,hB.st m2,i0.st m2,d0.st m2,h0.st m2,aA,e0.st v4⟩
   try rw [z2]
   replace g0:=im' g0 z2
   refine Az rfl (Aw rfl rfl (Ce rfl (Az rfl (Aw rfl rfl (Jt rfl (Az rfl (Aw rfl rfl (BM rfl (Az rfl (Aw rfl rfl (Bu (hc:=Blk.cell (i:=5) (c2.1) rfl) rfl (Az rfl (Aw rfl rfl (BM rfl ?_))))))))))))))
   refine Az rfl (Aw rfl rfl (Bu (hc:=Blk.cell (i:=2) (e0.1) rfl) rfl (Az rfl (Aw rfl rfl ?_))))
   obtain ⟨qG,bA,g0⟩:=bs g0
   obtain ⟨cA,dA⟩:=Br bA
   obtain ⟨rG,sG,dD,w4,x4,y4,tG,uG,rfl,eA,fA,vG,wG,xG⟩:=p1.elem dA
   obtain ⟨yG,zG,rfl⟩:=eA.form
   obtain ⟨aH,bH,rfl⟩:=fA.form
   refine Hx (hA:=w4) (hj:=cA) (hlt:=x4) rfl rfl (Az rfl (Aw rfl rfl (BM rfl (Az rfl (Aw rfl rfl (Bu (hc:=cat1 y4) rfl (Az rfl (Aw rfl rfl (BM rfl (Az rfl (Aw rfl rfl (Bu (hc:=Blk.cell (i:=0) (e0.1) rfl) rfl (Az rfl (Aw rfl rfl ?_))))))))))))))
   refine Bj (λ _ _=>Di rfl rfl) (λ a4=>?_) (λ a4=>?_)
   ·
    replace g0:=ip g0 a4
    refine CE rfl rfl rfl (h_z ?_)
    have i1:=((((v0.an q1).an r1).an s1).an w0).an y0
    replace z0:=z0.st i1
    replace a1:=a1.st i1
    replace b1:=b1.st i1
    replace c1:=c1.st i1
    replace d1:=d1.st i1
    replace e1:=e1.st i1
    replace f1:=(f1.st w0).st y0
    obtain ⟨cH,z4,eD,fD,gA⟩:=Ors.shut (x:=(⟨(⟨a0.2.t.vars,a0.2.t.init,a0.2.t.goal,a0.2.t.ops⟩:Tsk),a0.2.gens,a0.2.nodes,a0.2.tab,f0.2.l,a0.2.number⟩:Ors)) (l0:=6) (by decide) c2 z0 a1 b1 c1 d1 p1 e1 f1 y3
    obtain rfl:=sm g0
    have n2:=((((((u2.an v0).an q1).an r1).an s1).an w0).an y0).an z4
    exact ⟨(),_,⟨rfl,rfl,rfl,rfl,rfl,rfl,rfl,rfl,trivial⟩,hB.st n2,i0.st n2,d0.st n2,h0.st n2,gA,e0.st z4⟩
   replace g0:=im g0 a4
   refine CE rfl rfl rfl (h_z ?_)
   have j1:=((((v0.an q1).an r1).an s1).an w0).an y0
   replace z0:=z0.st j1
   replace a1:=a1.st j1
   replace b1:=b1.st j1
   replace c1:=c1.st j1
   replace d1:=d1.st j1
   replace e1:=e1.st j1
   replace f1:=(f1.st w0).st y0
   obtain ⟨dH,a5,gD,hD,iA⟩:=Ors.shut (x:=(⟨(⟨a0.2.t.vars,a0.2.t.init,a0.2.t.goal,a0.2.t.ops⟩:Tsk),a0.2.gens,a0.2.nodes,a0.2.tab,f0.2.l,a0.2.number⟩:Ors)) (l0:=6) (by decide) c2 z0 a1 b1 c1 d1 p1 e1 f1 y3
   obtain rfl:=sm g0
   have o2:=((((((u2.an v0).an q1).an r1).an s1).an w0).an y0).an a5
   exact ⟨(),_,⟨rfl,rfl,rfl,rfl,rfl,rfl,rfl,rfl,trivial⟩,hB.st o2,i0.st o2,d0.st o2,h0.st o2,iA,e0.st a5⟩
  have p2:=(((((u2.an v0).an q1).an r1).an s1).an w0).an y0
  replace hB:=hB.st p2
  replace i0:=i0.st p2
  replace d0:=d0.st p2
  replace h0:=h0.st p2
  rintro eH fH ⟨t9,gH,b5,hB,i0,d0,h0,c5,e0⟩
  refine Bg _ b5 ?_
  refine BP rfl (λ b4=>?_) (λ b4=>?_)
  ·
   replace b0:=ip b0 b4
   refine Cq ?_
   obtain rfl:=sm b0
   exact show Exists _ from ⟨_,(),rfl,⟨rfl,rfl,rfl,rfl,rfl,rfl,trivial⟩,_,hB,i0,d0,h0,c5,g3⟩
  replace b0:=im' b0 b4
  refine AN (Am ?_)
  obtain ⟨d5,hH,iH,jH,kH,lH,mH,nH,oH,t1,iD,g1,d2,e2,f2,g2,h2,r0,i2,j2,e5⟩:=Ors.opn c5 6 9 10 11 (by decide)
  obtain ⟨pH,qH,rfl⟩:=d2.form
  obtain ⟨rH,sH,rfl⟩:=e2.form
  obtain ⟨tH,uH,rfl⟩:=f2.form
  obtain ⟨vH,wH,rfl⟩:=g2.form
  obtain ⟨xH,yH,rfl⟩:=h2.form
  obtain ⟨zH,aI,rfl⟩:=r0.form
  obtain ⟨bI,rfl⟩:=i2.mptr
  obtain ⟨cI,dI,rfl⟩:=j2.form
  refine Bl [] d5 ?_
  refine AH (fuel:=2) [] (AX (CR 0 8)) rfl (AJ rfl rfl (BG rfl rfl (AL rfl rfl (AZ (hc:=Bn g1 5 rfl) rfl rfl (AL rfl rfl ?_)))))
  replace e0:=e0.st t1
  refine AZ (hc:=Bn e0 2 rfl) rfl rfl ?_
  obtain ⟨s0,jA,b0⟩:=bs b0
  obtain ⟨kA,lA⟩:=Br jA
  obtain ⟨eI,fI,jD,f5,g5,h5,i5,gI,hI,rfl,t0,k2,mA,iI,jI⟩:=r0.elemF lA
  obtain ⟨j5,k5,rfl⟩:=t0.form
  obtain ⟨l5,m5,rfl⟩:=k2.form
  refine BT (hA:=f5) (hj:=kA) (hlt:=h5) rfl rfl rfl (Dm (hl:=rfl) (hb:=Hi g5 i5) rfl rfl (AC (AF (i:=8) rfl ?_)))
  refine BL 13 d5 λ n5 kI o5 n0 k0=>?_
  have hZ:=lZ n0
  refine AV [] hZ (AF (i:=9) rfl ?_)
  refine AT k0 rfl rfl rfl (Bf) (allOne) λ nA p0 k0=>?_
  refine Bz (Ba (Am (Am (Ah (AO rfl ?_)))))
  replace i0:=((i0.st t1).st n0).st p0
  refine AQ (hc:=Blk.cell (i:=2) (i0.1) rfl) rfl (AO rfl (AQ (hc:=Blk.cell (i:=0) (k0.1) rfl) rfl ?_))
  obtain ⟨oA,pA,b0⟩:=bs b0
  replace hB:=((hB.st t1).st n0).st p0
  replace t0:=(t0.st n0).st p0
  refine Du (O:=o5) (Lb (λ _ h=>h) (Vb.mono (F:=Fr 0 nA o5) (f7.zs hA hB) Fr.lt) (vMo t0) pA) rfl λ lI mI c4 m0 qA=>?_
  obtain rfl:=qA.bool
  cases oA
  case false =>
   replace b0:=iF b0
   refine o_z (Ae rfl (AN (Am (Am (Ah (At rfl (At rfl (GH rfl rfl (λ d4=>?_) λ d4=>?_))))))))
   ·
    replace b0:=ip b0 d4
    refine o_z (Aj rfl (Am (Ah (At rfl (DU rfl rfl ?_)))))
    replace d0:=(((d0.st t1).st n0).st p0).st m0
    refine AT d0 rfl rfl rfl (Bf) (allOne) λ rA sA d0=>?_
    refine Au rfl (o_z (AM ?_))
    obtain rfl:=sm b0
    obtain rfl:=o0 _ rfl
    obtain rfl:=sm (Eb hm)
    replace hB:=(hB.st m0).st sA
    exact T4 rfl (Dc (cs:=[(.int .i64 3),(.slice none 0 0),(.int .i64 0),(.int .i64 a0.1)]) rfl rfl d0.1.cellsAt) (Bc rfl) ⟨hB.ext,_,_,rfl,(Vb.mono (F:=Fr 0 rA c4) (Vb.ofAgg (cs:=[(.int .i64 3),(.slice none 0 0),(.int .i64 0),(.int .i64 a0.1)]) (x:=(⟨3,([]:List Int),0,a0.1⟩:Rsl)) rfl ⟨_,rfl,(Vb.nil _ _),(R0 3),(R0 0),g3⟩) hB.out),(vErr (R0 0))⟩
   replace b0:=im b0 d4
   refine o_z (Ae rfl (AN (Am (Ah (At rfl ?_)))))
   obtain ⟨tA,p5,b0⟩:=bs b0
   have uA:=(BE p5)
   refine Fu (he:=p5) rfl rfl (Au rfl (o_z (Am ?_)))
   refine Bl [] c4 ?_
   refine AH (fuel:=1) [] (AX (CR 0 8)) rfl (AJ rfl rfl (BG rfl rfl (AL rfl rfl ?_)))
   replace g1:=((g1.st n0).st p0).st m0
   refine AZ (hc:=Bn g1 5 rfl) rfl rfl (AL rfl rfl ?_)
   replace e0:=((e0.st n0).st p0).st m0
   refine AZ (hc:=Bn e0 2 rfl) rfl rfl ?_
   obtain ⟨j3,vA,b0⟩:=bs b0
   obtain ⟨wA,q5⟩:=Br vA
   replace r0:=((r0.st n0).st p0).st m0
   obtain ⟨nI,oI,kD,q3,lD,r5,mD,pI,qI,rfl,xA,yA,rI,sI,tI⟩:=r0.elemF q5
   obtain ⟨uI,vI,rfl⟩:=xA.form
   obtain ⟨wI,xI,rfl⟩:=yA.form
   refine BT (hA:=q3) (hj:=wA) (hlt:=r5) rfl rfl rfl (AL rfl rfl (AC (AF (i:=8) rfl ?_)))
   refine Ox (a:=j3) (a':=({ j3 with fin:=true }:ONd)) (off:=5) r0 q3 q5 rfl rfl rfl (E9 rfl) (by first|exact allOne|simp [Value.cells,Value.oneCell',Mv]) (by rintro ce ⟨yI,zI,rfl,zA,aB,bB,cB,dB⟩;exact ⟨_,_,rfl,zA,aB,bB,cB,dB⟩) λ aJ u1 r0=>?_
   refine Bz (Ba (Am (Ah (At rfl (AO rfl ?_)))))
   replace k0:=(k0.st m0).st u1
   refine AQ (hc:=Blk.cell (i:=0) (k0.1) rfl) rfl ?_
   obtain ⟨k3,eB,b0⟩:=bs b0
   replace h0:=((((h0.st t1).st n0).st p0).st m0).st u1
   replace t0:=(t0.st m0).st u1
   refine WB (O:=c4) (HC Fr.lt h0 t0 eB) rfl rfl λ bJ cJ dJ m1 n1=>?_
   obtain ⟨s5,t5,rfl⟩:=n1.form
   refine AU rfl ?_
   have e4:=Cv n1.len
   have eJ:=rngNat e4
   refine At rfl (o_z ?_)
   have u0:=(((n0.an p0).an m0).an u1).an m1
   replace g1:=(g1.st u1).st m1
   replace d2:=d2.st u0
   replace e2:=e2.st u0
   replace f2:=f2.st u0
   replace g2:=g2.st u0
   replace h2:=h2.st u0
   replace r0:=r0.st m1
   replace i2:=i2.st u0
   replace j2:=j2.st u0
   obtain ⟨fB,v1,nD,oD,gB⟩:=Ors.shut (x:=(⟨(⟨(⟨(⟨a0.2.t.vars,a0.2.t.init,a0.2.t.goal,a0.2.t.ops⟩:Tsk),a0.2.gens,a0.2.nodes,a0.2.tab,f0.2.l,a0.2.number⟩:Ors).t.vars,(⟨(⟨a0.2.t.vars,a0.2.t.init,a0.2.t.goal,a0.2.t.ops⟩:Tsk),a0.2.gens,a0.2.nodes,a0.2.tab,f0.2.l,a0.2.number⟩:Ors).t.init,(⟨(⟨a0.2.t.vars,a0.2.t.init,a0.2.t.goal,a0.2.t.ops⟩:Tsk),a0.2.gens,a0.2.nodes,a0.2.tab,f0.2.l,a0.2.number⟩:Ors).t.goal,(⟨(⟨a0.2.t.vars,a0.2.t.init,a0.2.t.goal,a0.2.t.ops⟩:Tsk),a0.2.gens,a0.2.nodes,a0.2.tab,f0.2.l,a0.2.number⟩:Ors).t.ops⟩:Tsk),(⟨(⟨a0.2.t.vars,a0.2.t.init,a0.2.t.goal,a0.2.t.ops⟩:Tsk),a0.2.gens,a0.2.nodes,a0.2.tab,f0.2.l,a0.2.number⟩:Ors).gens,(((⟨(⟨a0.2.t.vars,a0.2.t.init,a0.2.t.goal,a0.2.t.ops⟩:Tsk),a0.2.gens,a0.2.nodes,a0.2.tab,f0.2.l,a0.2.number⟩:Ors).nodes).set (f0.1.x.node:Int).toNat ({ j3 with fin:=true }:ONd)),(⟨(⟨a0.2.t.vars,a0.2.t.init,a0.2.t.goal,a0.2.t.ops⟩:Tsk),a0.2.gens,a0.2.nodes,a0.2.tab,f0.2.l,a0.2.number⟩:Ors).tab,(⟨(⟨a0.2.t.vars,a0.2.t.init,a0.2.t.goal,a0.2.t.ops⟩:Tsk),a0.2.gens,a0.2.nodes,a0.2.tab,f0.2.l,a0.2.number⟩:Ors).open_,(⟨(⟨a0.2.t.vars,a0.2.t.init,a0.2.t.goal,a0.2.t.ops⟩:Tsk),a0.2.gens,a0.2.nodes,a0.2.tab,f0.2.l,a0.2.number⟩:Ors).number⟩:Ors)) (l0:=6) (by decide) (by have q:=g1;rw [<- ((by simp:(((⟨(⟨a0.2.t.vars,a0.2.t.init,a0.2.t.goal,a0.2.t.ops⟩:Tsk),a0.2.gens,a0.2.nodes,a0.2.tab,f0.2.l,a0.2.number⟩:Ors).nodes).set (f0.1.x.node:Int).toNat ({ j3 with fin:=true }:ONd)).length=((⟨(⟨a0.2.t.vars,a0.2.t.init,a0.2.t.goal,a0.2.t.ops⟩:Tsk),a0.2.gens,a0.2.nodes,a0.2.tab,f0.2.l,a0.2.number⟩:Ors).nodes).length).trans rfl)] at q;exact q) d2 e2 f2 g2 h2 r0.relen i2 j2 e5
   obtain ⟨iB,u5,b0⟩:=bs b0
   have r3:=((m0.an u1).an m1).an v1
   have w5:=u0.an v1
   replace hB:=hB.st r3
   replace i0:=i0.st r3
   replace d0:=((((((d0.st t1).st n0).st p0).st m0).st u1).st m1).st v1
   replace h0:=(h0.st m1).st v1
   replace e0:=((e0.st u1).st m1).st v1
   replace t0:=(t0.st m1).st v1
   replace k2:=k2.st w5
   replace k0:=(k0.st m1).st v1
   replace n1:=n1.st v1
   refine EB (X:=Unit) (k3.length) u5 rfl e4 (λ f4 x5=>[(2,(.int .i64 x2)),(3,(.pointer (some ⟨o3,0,none⟩))),(6,(.pointer (some ⟨p3,0,none⟩))),(11,(.pointer r2)),(13,(.pointer (some ⟨b2,0,none⟩))),(15,(.int .i64 tA)),(16,(.pointer (some ⟨i3,0,none⟩))),(18,(.pointer (some ⟨n5,0,none⟩))),(156,(.slice s5 k3.length t5))]) (λ f4 x5 w'=>∃ O':Lab,Bs w A w' O'/\Lc 2 w' O' o3 26 [(.slice n6 x0.vars.length o6),(.slice p6 x0.init.length q6),(.slice r6 x0.goal.length s6),(.slice t6 x0.ops.length u6)]/\Lc 3 w' O' p3 36 [(.int .i64 0),(.slice none 0 0),(.int .i64 0),(.int .i64 0)]/\Vb w' (Fr 0 w' O') (.pointer r2) e3.1/\Ob 6 w' O' (.pointer (some ⟨b2,0,none⟩)) f4/\Lc 12 w' O' i3 77 [(.int .i64 f0.1.x.cost),(.int .i64 f0.1.x.number),(.int .i64 f0.1.x.node)]/\Lc 13 w' O' n5 82 [(.slice j5 s0.state.length k5),(.int .i64 s0.cost),(.int .i64 s0.parent),(.int .i64 s0.op),(.slice l5 s0.used.length m5),(.bool s0.fin)]/\Vb w' (Fr 0 w' O') (.slice j5 s0.state.length k5) s0.state/\Vb w' (Fr 0 w' O') (.slice l5 s0.used.length m5) s0.used/\Vb w' (Fr 0 w' O') (.slice s5 k3.length t5) k3) () ⟨fB,hB,i0,d0,h0,gB,e0,k0,t0,k2,n1⟩ ⟨rfl,rfl,rfl,rfl,rfl,rfl,rfl,rfl,rfl,rfl,rfl,trivial⟩ (λ _ _=>rfl) ?_ ?_
   ·
    rintro fJ gJ f4 x5 hJ pD s3 ⟨jB,hB,i0,d0,h0,a3,e0,k0,t0,k2,n1⟩ j0 l3 d7
    have rk460:=U9 s3 e4
    refine Am (Ah ?_)
    obtain ⟨iJ,jJ,qD,y5,z5,a6,kJ,rfl,m3,kB⟩:=n1.elem' s3
    obtain ⟨lJ,mJ,rfl⟩:=m3.form
    refine CZ (hA:=y5) (hj:=rfl) (hlt:=z5) rfl rfl (BH (hl:=rfl) (hc:=a6) rfl ?_)
    refine BL 14 jB λ nJ oJ b6 w1 b3=>?_
    refine AT b3 rfl rfl rfl (Bf) (allOne) λ pJ y1 b3=>?_
    refine o_z (Am ?_)
    refine Bl [(17,[6])] b6 ?_
    refine AH (fuel:=2) [] (AX (CR 0 17)) rfl (AJ rfl rfl (AL rfl rfl (AZ (hc:=Bn b3 1 rfl) rfl rfl (AL rfl rfl ?_))))
    replace k0:=(k0.st w1).st y1
    refine AZ (hc:=Bn k0 1 rfl) rfl rfl (AL rfl rfl ?_)
    replace i0:=(i0.st w1).st y1
    refine AZ (hc:=Bn i0 3 rfl) rfl rfl (AL rfl rfl (AZ (hc:=Bn b3 0 rfl) rfl rfl ?_))
    obtain ⟨qJ,lB,j0⟩:=bs j0
    obtain ⟨mB,nB⟩:=Br lB
    replace hB:=(hB.st w1).st y1
    obtain ⟨rJ,sJ,rD,c6,d6,e6,f6,tJ,uJ,rfl,oB,pB,vJ,wJ⟩:=(g7.zs hA hB).elem nB
    obtain ⟨xJ,yJ,rfl⟩:=oB.form
    obtain ⟨zJ,aK,rfl⟩:=pB.form
    refine BT (hA:=c6) (hj:=mB) (hlt:=e6) rfl rfl rfl (AL rfl rfl (AZ (hc:=λ w' ⟨O',hq⟩=>cat1 (Dq (hq.agree (i:=0) (by decide)) d6 f6)) rfl rfl ?_))
    obtain ⟨bK,g6,j0⟩:=bs j0
    have qB:=(BE g6)
    refine LK (he:=g6) rfl rfl rfl rfl (AL rfl rfl ?_)
    replace e0:=(e0.st w1).st y1
    refine AZ (hc:=Bn e0 2 rfl) rfl rfl (AL rfl rfl (AZ (hc:=Bn b3 0 rfl) rfl rfl (AC (AF (i:=17) rfl ?_))))
    obtain ⟨cK,rB,j0⟩:=bs j0
    replace a3:=(a3.st w1).st y1
    replace m3:=(m3.st w1).st y1
    refine Cg (O:=b6) (Ig a3 m3 qB r4 kB rB) rfl λ dK eK sB z1 tB=>?_
    obtain ⟨uB,vB⟩:=tB
    obtain ⟨rfl,wB⟩:=vB.err
    have hZ:=z1.lst [6] (λ _ h=>by cases h;decide)
    refine AV [] hZ ?_
    refine AH (fuel:=0) [] [(18,true)] rfl (Ei rfl rfl (AC (Ba (Am (Ah (At rfl (FS rfl (λ g4=>?_) λ g4=>?_)))))))
    ·
     replace j0:=ip j0 g4
     refine o_z (Aj rfl (Am (Ah (DU rfl rfl ?_))))
     refine ad ?_
     replace d0:=((d0.st w1).st y1).st z1
     refine AT d0 rfl rfl rfl (Bf) (allOne) λ xB yB d0=>?_
     refine Au rfl (o_z (AM ?_))
     obtain rfl:=sm j0
     obtain rfl:=l3 _ rfl
     obtain rfl:=sm (Eb b0)
     obtain rfl:=o0 _ rfl
     obtain rfl:=sm (Eb hm)
     replace hB:=(hB.st z1).st yB
     exact T4 rfl (Dc (cs:=[(.int .i64 0),(.slice none 0 0),(.int .i64 0),(.int .i64 0)]) rfl rfl d0.1.cellsAt) (Bc rfl) ⟨hB.ext,_,_,rfl,(Vb.mono (F:=Fr 0 xB sB) (Vb.ofAgg (cs:=[(.int .i64 0),(.slice none 0 0),(.int .i64 0),(.int .i64 0)]) (x:=(⟨0,([]:List Int),0,0⟩:Rsl)) rfl ⟨_,rfl,(Vb.nil _ _),(R0 0),(R0 0),(R0 0)⟩) hB.out),(vErr wB)⟩
    replace j0:=im j0 g4
    refine o_z (Ae rfl (AN ?_))
    obtain rfl:=sm j0
    have a2:=(w1.an y1).an z1
    exact show Exists _ from ⟨_,(),rfl,⟨rfl,rfl,rfl,rfl,rfl,rfl,rfl,rfl,rfl,rfl,rfl,trivial⟩,_,hB.st z1,i0.st z1,d0.st a2,h0.st a2,uB,e0.st z1,k0.st z1,t0.st a2,k2.st a2,n1.st a2⟩
   rintro fK gK ⟨hK,iK,rfl,k1,jK,hB,i0,d0,h0,a3,e0,k0,t0,k2,n1⟩
   replace b0:=BF b0
   obtain rfl:=sm b0
   exact show Exists _ from ⟨_,(),rfl,⟨(BC k1 _ _ rfl),(BC k1 _ _ rfl),(BC k1 _ _ rfl),(BC k1 _ _ rfl),(BC k1 _ _ rfl),(BC k1 _ _ rfl),trivial⟩,_,hB,i0,d0,h0,a3,uA⟩
  replace b0:=iT b0
  refine o_z (Aj rfl (Am (Ah (At rfl (AO rfl ?_)))))
  replace e0:=((e0.st n0).st p0).st m0
  refine AQ (hc:=Blk.cell (i:=2) (e0.1) rfl) rfl ?_
  have q0:=(n0.an p0).an m0
  replace g1:=g1.st q0
  replace d2:=d2.st q0
  replace e2:=e2.st q0
  replace f2:=f2.st q0
  replace g2:=g2.st q0
  replace h2:=h2.st q0
  replace r0:=r0.st q0
  replace i2:=i2.st q0
  replace j2:=j2.st q0
  obtain ⟨zB,c3,sD,tD,aC⟩:=Ors.shut (x:=(⟨(⟨a0.2.t.vars,a0.2.t.init,a0.2.t.goal,a0.2.t.ops⟩:Tsk),a0.2.gens,a0.2.nodes,a0.2.tab,f0.2.l,a0.2.number⟩:Ors)) (l0:=6) (by decide) g1 d2 e2 f2 g2 h2 r0 i2 j2 e5
  obtain ⟨h4,bC,b0⟩:=bs b0
  refine Cg (O:=zB) (KP aC r4 bC) rfl λ kK lK h6 d3 cC=>?_
  obtain ⟨mK,nK,oK,rfl,n3,dC⟩:=cC
  obtain ⟨i6,j6,rfl⟩:=n3.form
  obtain ⟨rfl,eC⟩:=dC.err
  refine At rfl (CK rfl rfl (CK rfl rfl (Au rfl (Au rfl (o_z (Am (Am (Ah (At rfl (FS rfl (λ i4=>?_) λ i4=>?_))))))))))
  ·
   replace b0:=ip b0 i4
   refine o_z (Aj rfl (Am (Ah (DU rfl rfl ?_))))
   refine ad ?_
   replace d0:=(((((d0.st t1).st n0).st p0).st m0).st c3).st d3
   refine AT d0 rfl rfl rfl (Bf) (allOne) λ fC gC d0=>?_
   refine Au rfl (o_z (AM ?_))
   obtain rfl:=sm b0
   obtain rfl:=o0 _ rfl
   obtain rfl:=sm (Eb hm)
   replace hB:=(((hB.st m0).st c3).st d3).st gC
   exact T4 rfl (Dc (cs:=[(.int .i64 0),(.slice none 0 0),(.int .i64 0),(.int .i64 0)]) rfl rfl d0.1.cellsAt) (Bc rfl) ⟨hB.ext,_,_,rfl,(Vb.mono (F:=Fr 0 fC h6) (Vb.ofAgg (cs:=[(.int .i64 0),(.slice none 0 0),(.int .i64 0),(.int .i64 0)]) (x:=(⟨0,([]:List Int),0,0⟩:Rsl)) rfl ⟨_,rfl,(Vb.nil _ _),(R0 0),(R0 0),(R0 0)⟩) hB.out),(vErr eC)⟩
  replace b0:=im b0 i4
  refine o_z (Ae rfl (AN (Am (Ah (At rfl (AO rfl ?_))))))
  replace k0:=((k0.st m0).st c3).st d3
  refine AQ (hc:=Blk.cell (i:=1) (k0.1) rfl) rfl (At rfl (DU rfl rfl ?_))
  replace d0:=(((((d0.st t1).st n0).st p0).st m0).st c3).st d3
  refine AT d0 rfl rfl rfl (Bf) (allOne) λ hC k6 d0=>?_
  refine Au rfl (o_z (AM ?_))
  obtain rfl:=sm b0
  obtain rfl:=o0 _ rfl
  obtain rfl:=sm (Eb hm)
  replace hB:=(((hB.st m0).st c3).st d3).st k6
  replace n3:=n3.st k6
  exact T4 rfl (Dc (cs:=[(.int .i64 1),(.slice i6 h4.1.length j6),(.int .i64 s0.cost),(.int .i64 a0.1)]) rfl rfl d0.1.cellsAt) (Bc rfl) ⟨hB.ext,_,_,rfl,(Vb.mono (F:=Fr 0 hC h6) (Vb.ofAgg (cs:=[(.int .i64 1),(.slice i6 h4.1.length j6),(.int .i64 s0.cost),(.int .i64 a0.1)]) (x:=(⟨1,h4.1,s0.cost,a0.1⟩:Rsl)) rfl ⟨_,rfl,n3,(R0 1),mA,g3⟩) hB.out),(vErr (R0 0))⟩
 rintro pK qK ⟨rK,sK,_,_,hE⟩
 exact hE.elim
end
section
open Go Go.RowKit
attribute [local irreducible] ewp owp hwp hwq hws Ev Evg Fn Q4 R7 R2 Q9
section
attribute [local irreducible] Vb Lc Rw Ob
end
noncomputable def Hb (a:Tsk):Option Int :=
  bnd (Fm a) λ b=>bnd (Fe a.vars a.init) λ c=>bnd (atI b c) λ d=>some d
section
attribute [local irreducible] Vb Lc Rw Ob
theorem RA {w:World} {A:Nat->Prop} (hA:∀ k,A k->k < w.heap.size) {a:Value} {b:Tsk} (c:Vb w A a b) {r:Int} (hm:Hb b=some r) :
    Fn prog 10 [a] w λ v w'=>Ext w w'/\Vb w' (upA A w w') v r:=by
 obtain ⟨_,_,_⟩:=CW hA
 apply Cj c;intros
 refine AK func10 rfl ntmps10 ?_
 unfold Hb at hm
 refine Am (Ah (Dt 2 ?_));intros
 refine Au rfl (o_z (Am (Hj [] ?_)))
 refine AH (fuel:=5) [] (AX [0,2,3,4,5]) rfl (Kf rfl (AL rfl rfl ?_))
 refine Cp rfl (AL rfl rfl ?_)
 refine Cp rfl (AC (AF (i:=1) rfl ?_))
 refine q_S [] ?_;intros
 obtain ⟨d,b0,hm⟩:=bs hm
 refine Dn rfl (MC Fr.lt zV b0) ?_;intros
 refine Bv [] ?_
 refine AF (i:=6) rfl (q_S [] ?_);intros
 obtain ⟨e,c0,hm⟩:=bs hm
 refine DO rfl (Mi (λ _ g=>g) zA zA c0) ?_;intros
 refine Bv [] ?_
 refine AH (fuel:=0) [] (AX [7,8,9]) rfl ?_
 obtain ⟨f,g0,hm⟩:=bs hm
 refine Fb rfl ?_;intros
 refine EE rfl (Ei rfl rfl (AC (Ba (AM ?_))))
 obtain rfl:=sm hm
 exact Cl
end
noncomputable def En (f:Tsk) (a:Rsl) (c:Int):Option Bool :=
  if 1125899906842624<=c then (bnd (if a.verdict=2 then (if (a.plan.length:Int)=0 then (if a.cost=0 then (some true) else (some false)) else (some false)) else (some false):Option Bool) λ d=>some d) else (bnd (GZ f f.init a.plan) λ b=>bnd (if a.verdict=1 then (if b.2=true then (if b.1=c then (if a.cost=c then (some true) else (some false)) else (some false)) else (some false)) else (some false):Option Bool) λ e=>some e)
section
attribute [local irreducible] Vb Lc Rw Ob
theorem Pt {w:World} {A:Nat->Prop} (hA:∀ k,A k->k < w.heap.size) {c:Value} {o:Tsk} (q:Vb w A c o) {d:Value} {p:Rsl} (n0:Vb w A d p) {e:Int} (s:P9 e) {r:Bool} (hm:En o p e=some r) :
    Fn prog 9 [c,d,(.int .i64 e)] w λ v w'=>Ext w w'/\Vb w' (upA A w w') v r:=by
 obtain ⟨_,_,_⟩:=CW hA
 apply Cj q;intros
 apply Cj n0;intros
 refine AK func9 rfl ntmps9 ?_
 unfold En at hm
 refine Am (Ah (Dt 2 ?_));intros
 refine Dt 3 ?_;intros
 refine Au rfl (o_z (Am (Am (Ah (At rfl (GH rfl rfl (λ f=>?_) λ f=>?_))))))
 ·
  replace hm:=ip hm f
  refine o_z (Aj rfl (Am (DE (X:=Unit) hm [] [] [] [] (λ _ _ g _ t=>(6,.bool g) :: t) (λ _ _ _ _ t=>t) ?_ ?_)))
  ·
   intro g b
   refine Ah (AO rfl (CF (FD rfl rfl (λ h=>?_) λ h=>?_)))
   ·
    replace b:=ip b h
    refine At rfl (AB rfl rfl (AO rfl (AB rfl rfl (CF (AB rfl rfl (AU rfl (AB rfl rfl (FD rfl rfl (λ i=>?_) λ i=>?_))))))))
    ·
     replace b:=ip b i
     refine BJ rfl rfl (At rfl (AB rfl rfl (AO rfl (AB rfl rfl (CF (AB rfl rfl (FD rfl rfl (λ j=>?_) λ j=>?_)))))))
     ·
      replace b:=ip b j
      refine BJ rfl rfl (Au rfl (o_z ?_))
      obtain rfl:=sm b
      exact BA ()
     replace b:=im b j
     refine BJ rfl rfl (Au rfl (o_z ?_))
     obtain rfl:=sm b
     exact BA ()
    replace b:=im b i
    refine BJ rfl rfl (At rfl (AA rfl rfl (AA rfl rfl (AA rfl rfl (BK rfl rfl (Au rfl (o_z ?_)))))))
    obtain rfl:=sm b
    exact BA ()
   replace b:=im b h
   refine At rfl (AA rfl rfl (AA rfl rfl (AA rfl rfl (AA rfl rfl (BK rfl rfl (At rfl (AA rfl rfl (AA rfl rfl (AA rfl rfl (BK rfl rfl (Au rfl (o_z ?_))))))))))))
   obtain rfl:=sm b
   exact BA ()
  intro g _ _ _ _ hm;intros
  refine BY ?_
  refine AM ?_
  obtain rfl:=sm hm
  exact Cl
 replace hm:=im hm f
 refine o_z (Ae rfl (AN (Am (Ah (EY (AO rfl ?_))))))
 refine CF (AO rfl ?_)
 refine CF ?_
 obtain ⟨u,p0,hm⟩:=bs hm
 refine YX rfl (Ro (λ _ z=>z) zA zA zA p0) λ _ _ _ _ _ x y=>?_
 apply KZ x;intros
 apply KZ y;intros
 refine At rfl (CK rfl rfl (CK rfl rfl (Au rfl (Au rfl (o_z (Am (DE (X:=Unit) hm [] [] [] [] (λ _ _ l _ t=>(6,.bool l) :: t) (λ _ _ _ _ t=>t) ?_ ?_)))))))
 ·
  intro l a
  refine Ah (AO rfl (CF (FD rfl rfl (λ m=>?_) λ m=>?_)))
  ·
   replace a:=ip a m
   refine At rfl (AB rfl rfl (At rfl (BJ rfl rfl (At rfl ?_))))
   rcases C8 u.2 with c0|c0
   ·
    try simp only [c0]
    replace a:=ip a c0
    refine AB rfl rfl (At rfl (AB rfl rfl (At rfl (AB rfl rfl (FD rfl rfl (λ n=>?_) λ n=>?_)))))
    ·
     replace a:=ip a n
     refine BJ rfl rfl (At rfl (AB rfl rfl (AO rfl (AB rfl rfl (CF (AB rfl rfl (At rfl (AB rfl rfl (FD rfl rfl (λ l0=>?_) λ l0=>?_)))))))))
     ·
      replace a:=ip a l0
      refine BJ rfl rfl (Au rfl (o_z ?_))
      obtain rfl:=sm a
      exact BA ()
     replace a:=im a l0
     refine BJ rfl rfl (Au rfl (o_z ?_))
     obtain rfl:=sm a
     exact BA ()
    replace a:=im a n
    refine BJ rfl rfl (At rfl (AA rfl rfl (AA rfl rfl (AA rfl rfl (AA rfl rfl (BK rfl rfl (Au rfl (o_z ?_))))))))
    obtain rfl:=sm a
    exact BA ()
   try simp only [c0]
   replace a:=im' a c0
   refine AA rfl rfl (AA rfl rfl (AA rfl rfl (BK rfl rfl (At rfl (AA rfl rfl (AA rfl rfl (AA rfl rfl (AA rfl rfl (BK rfl rfl (Au rfl (o_z ?_)))))))))))
   obtain rfl:=sm a
   exact BA ()
  replace a:=im a m
  refine At rfl (AA rfl rfl (BK rfl rfl (At rfl (AA rfl rfl (AA rfl rfl (AA rfl rfl (BK rfl rfl (At rfl (AA rfl rfl (AA rfl rfl (AA rfl rfl (AA rfl rfl (BK rfl rfl (Au rfl ?_))))))))))))))
  refine o_z ?_
  obtain rfl:=sm a
  exact BA ()
 intro l _ _ _ _ hm;intros
 refine BY ?_
 refine AM ?_
 obtain rfl:=sm hm
 exact Cl
end
end
section
set_option linter.unusedVariables false
set_option linter.unusedSimpArgs false
open Go Go.RowKit
attribute [local irreducible] ewp owp hwp hwq hws Ev Evg Fn Q4 R7 R2 Q9
attribute [local irreducible] hwx U0
noncomputable def Fy  : Option Bool :=
  bnd (DM (⟨([2]:List Int),([0]:List Int),[(⟨0,1⟩:Fct)],[(⟨(⟨#[]⟩:ByteArray),3,([]:List Fct),[(⟨([]:List Fct),0,1⟩:Eff)]⟩:Opr)]⟩:Tsk) ([]:List Swp) 10) λ a=>bnd (if a.2.n=0 then (if a.1.verdict=1 then (if a.1.cost=3 then (bnd (Jy a.1.plan ([0]:List Int)) λ b=>if b=true then some true else some false) else (some false)) else (some false)) else (some false):Option Bool) λ c=>some c
section
attribute [local irreducible] Vb Lc Rw Ob
theorem KL {w:World} {A:Nat->Prop} (hA:∀ k,A k->k < w.heap.size)  {r:Bool} (hm:Fy  = some r) :
    Fn prog 6 [] w λ v w'=>Ext w w'/\Vb w' (upA A w w') v r:=by
 obtain ⟨_,_,_⟩:=CW hA
 refine AK func6 rfl ntmps6 ?_
 unfold Fy at hm
 refine Am (Ah (Au rfl (o_z (Am (Ah (Gx 2 (([2]:List Int):List Int) ?_))))));intros
 refine Gx 3 (([0]:List Int):List Int) ?_;intros
 refine DU rfl rfl ?_
 refine Gx 4 ([(⟨0,1⟩:Fct)]:List Fct) ?_;intros
 refine DU rfl rfl ?_
 refine Gx 5 ([(⟨([]:List Fct),0,1⟩:Eff)]:List Eff) ?_;intros
 refine DU rfl rfl ?_
 refine Fv 5 ?_;intros
 refine Gx 6 ([(⟨(⟨#[]⟩:ByteArray),3,([]:List Fct),[(⟨([]:List Fct),0,1⟩:Eff)]⟩:Opr)]:List Opr) ?_;intros
 refine DU rfl rfl ?_
 refine Ck 7 ?_;intros
 refine BN ?_;intros
 refine o_z (Am (Ah (EY ?_)))
 refine Fv 2 ?_;intros
 refine Fv 3 ?_;intros
 refine Fv 4 ?_;intros
 refine Fv 6 ?_;intros
 obtain ⟨h,f0,hm⟩:=bs hm
 refine UU rfl (JM Fr.lt zV zV zI f0) λ _ _ _ _ _ e f=>?_
 apply KZ e;intros
 apply KZ f;intros
 refine At rfl (CK rfl rfl (CK rfl rfl (Ck 8 ?_)));intros
 refine BN ?_;intros
 refine Au rfl (o_z (Am (DE (X:=Unit) hm [] [] [] [] (λ _ _ b _ t=>(0,.bool b) :: t) (λ _ _ _ _ t=>t) ?_ ?_)))
 ·
  intro b a
  refine Ah (At rfl (Wn rfl rfl (λ c0=>?_) λ c0=>?_))
  ·
   replace a:=ip a c0
   refine At rfl (AB rfl rfl (AO rfl (AB rfl rfl (CF (AB rfl rfl (FD rfl rfl (λ c=>?_) λ c=>?_))))))
   ·
    replace a:=ip a c
    refine BJ rfl rfl (At rfl (AB rfl rfl (AO rfl (AB rfl rfl (CF (AB rfl rfl (FD rfl rfl (λ d=>?_) λ d=>?_)))))))
    ·
     replace a:=ip a d
     refine BJ rfl rfl (At rfl (AB rfl rfl (AO rfl (AB rfl rfl (CF (AB rfl rfl ?_))))))
     refine Gx 9 (([0]:List Int):List Int) ?_;intros
     refine AB rfl rfl ?_
     obtain ⟨g,j0,a⟩:=bs a
     refine DO rfl (Rf (λ _ i=>i) zA zAr j0) ?_;intros
     cases g
     case false =>
      replace a:=iF a
      refine BJ rfl rfl (Au rfl (o_z ?_))
      obtain rfl:=sm a
      exact BA ()
     replace a:=iT a
     refine BJ rfl rfl (Au rfl (o_z ?_))
     obtain rfl:=sm a
     exact BA ()
    replace a:=im a d
    refine BJ rfl rfl (At rfl (AA rfl rfl (AA rfl rfl (AA rfl rfl (AA rfl rfl (BK rfl rfl (Au rfl (o_z ?_))))))))
    obtain rfl:=sm a
    exact BA ()
   replace a:=im a c
   refine BJ rfl rfl (At rfl (AA rfl rfl (AA rfl rfl (AA rfl rfl (BK rfl rfl (At rfl (AA rfl rfl (AA rfl rfl (AA rfl rfl (AA rfl rfl (BK rfl rfl (Au rfl (o_z ?_)))))))))))))
   obtain rfl:=sm a
   exact BA ()
  replace a:=im a c0
  refine At rfl (AA rfl rfl (AA rfl rfl (AA rfl rfl (BK rfl rfl (At rfl (AA rfl rfl (AA rfl rfl (AA rfl rfl (BK rfl rfl (At rfl (AA rfl rfl (AA rfl rfl (AA rfl rfl (AA rfl rfl ?_))))))))))))))
  refine BK rfl rfl (Au rfl (o_z ?_))
  obtain rfl:=sm a
  exact BA ()
 intro b _ _ _ _ hm;intros
 refine BY ?_
 refine AM ?_
 obtain rfl:=sm hm
 exact Cl
end
end
section
open Go Go.RowKit
attribute [local irreducible] ewp owp hwp hwq hws Ev Evg Fn Q4 R7 R2 Q9
attribute [local irreducible] hwx U0
noncomputable def Gd (n:List Int) (o:Int):Option Int :=
  bnd (R8 8 ([]:List Int) n) λ d=>bnd (R8 8 d [(n.length:Int)]) λ e=>bnd (rng (ρ:=Int) (λ (p:Nat) (f:Int) (g:Int)=>bnd (lop (ρ:=Ctl Int Int) (λ (a:Int×Int)=>bnd (if a.2<=f then (if a.1<=o then (some true) else (some false)) else (some false):Option Bool) λ h=>if h=true then (bnd (Q1 (a.1 * a.2)) λ i=>bnd (Q1 (a.2 + 1)) λ j=>some (.next (i,j))) else (some (.brk (a.1,a.2)))) (g,2)) λ b=>fin b λ (k:Int×Int)=>some (.next k.1)) e 0 1) λ c=>fin c λ (l:Int)=>bnd (Q1 (o + 1)) λ m=>some (min l m)
section
attribute [local irreducible] Vb Lc Rw Ob
theorem Oj {w:World} {A:Nat->Prop} (hA:∀ k,A k->k < w.heap.size) {c:Value} {l:List Int} (l0:Vb w A c l) {e:Int} (m:P9 e) {r:Int} (hm:Gd l e=some r) :
    Fn prog 5 [c,(.int .i64 e)] w λ v w'=>Ext w w'/\Vb w' (upA A w w') v r:=by
 obtain ⟨_,_,_⟩:=CW hA
 apply Cj l0;intros
 refine AK func5 rfl ntmps5 ?_
 unfold Gd at hm
 refine Am (Ah (Au rfl (o_z (Am (Ah (Au rfl (o_z (Am (Am (Ah (Gx 2 (([]:List Int):List Int) ?_)))))))))));intros
 refine ad ?_
 obtain ⟨n,m0,hm⟩:=bs hm
 refine NY m0 ?_;intros
 refine At rfl (AU rfl ?_)
 obtain ⟨o,n0,hm⟩:=bs hm
 refine PT n0 ?_;intros
 refine AU rfl (At rfl (o_z (DT (X:=Unit) hm [1,15] [] [] [] (λ _ _ d _ t=>(5,.int .i64 d) :: t) (λ _ _ d _ t=>fI d :: t) () ?_ ?_)))
 ·
  intro p q d _ _ _ _ f s _ u;intros
  refine Am (Ah (Ep ?_));intros
  refine EZ (Au rfl (o_z (Am (Ah (Au rfl (o_z ?_))))))
  refine SH (X:=Unit) f [1,7,15,16,17] [] [] [] (λ _ _ c0 _ t=>(5,.int .i64 c0.1) :: (8,.int .i64 c0.2) :: t) (λ _ _ c0 _ t=>fI c0.1 :: fI c0.2 :: t) [1,15,16,17] (λ _ _ c0 _ t=>(5,.int .i64 c0.1) :: t) () ?_ ?_
  ·
   intro c0 _ _ _ _ a x;intros
   refine Am (Am (DE (X:=Unit) a [1,5,7,8,15,16,17] [] [] [] (λ _ _ g _ t=>(28,.bool g) :: t) (λ _ _ _ _ t=>t) ?_ ?_))
   ·
    intro g b
    refine Ah (At rfl (At rfl (JY rfl rfl (λ h=>?_) λ h=>?_)))
    ·
     replace b:=ip b h
     refine At rfl (AB rfl rfl (At rfl (AB rfl rfl (At rfl (AB rfl rfl (JY rfl rfl (λ i=>?_) λ i=>?_))))))
     ·
      replace b:=ip b i
      refine BJ rfl rfl (o_z ?_)
      obtain rfl:=sm b
      exact BA ()
     replace b:=im b i
     refine BJ rfl rfl (o_z ?_)
     obtain rfl:=sm b
     exact BA ()
    replace b:=im b h
    refine At rfl (AA rfl rfl (AA rfl rfl (AA rfl rfl (BK rfl rfl (o_z ?_)))))
    obtain rfl:=sm b
    exact BA ()
   intro g _ _ _ _ a;intros
   refine BY ?_
   refine BP rfl (λ j=>?_) (λ j=>?_)
   ·
    replace a:=ip a j
    refine AN (Am (Bx (Ah (At rfl (At rfl ?_)))))
    obtain ⟨y,p0,a⟩:=bs a
    refine Nj (he:=p0) rfl rfl rfl (Au rfl (o_z (Ah (At rfl ?_))))
    obtain ⟨z,q0,a⟩:=bs a
    refine Fu (he:=q0) rfl rfl (Au rfl (o_z ?_))
    exact DF () a
   replace a:=im' a j
   refine Cq ?_
   exact UV () a
  intro z0 _ _ _ _ f;intros
  exact DF () f
 intro B _ _ _ _ hm;intros
 refine BY ?_
 refine Am (Ah (At rfl (At rfl ?_)))
 obtain ⟨C,r0,hm⟩:=bs hm
 refine Fu (he:=r0) rfl rfl (Sv rfl rfl rfl (Au rfl (o_z (AM ?_))))
 obtain rfl:=sm hm
 exact Cl
end
end
section
set_option linter.unusedVariables false
set_option linter.unusedSimpArgs false
open Go Go.RowKit
attribute [local irreducible] ewp owp hwp hwq hws Ev Evg Fn Q4 R7 R2 Q9
attribute [local irreducible] hwx U0
noncomputable def FJ (a:Tsk):Option Bool :=
  bnd (bnd (IQ a) λ g=>if g=true then bnd (Gd a.vars 300) λ h=>if 300 < h then (some true) else (bnd (Fy) λ i=>if i=true then some false else some true) else some true:Option Bool) λ j=>if j=true then (bnd (bnd (Fy) λ k=>if k=true then some true else some false:Option Bool) λ l=>some l) else (bnd (DR a 1048576) λ b=>if b.2.n≠0 then (some false) else (bnd (DM a b.1 1000) λ c=>bnd (if c.2.n=0 then (bnd (Hb a) λ d=>bnd (En a c.1 d) λ e=>if e=true then some true else some false) else (some false):Option Bool) λ f=>some f))
theorem Ln {w:World} {A:Nat->Prop} (hA:∀ k,A k->k < w.heap.size) {vx0:Value} {x0:Tsk} (m0:Vb w A vx0 x0) (hT:TabF w A) {r:Bool} (hm:FJ x0=some r) :
    Fn prog 3 [vx0] w λ v w'=>Ext w w'/\Vb w' (upA A w w') v r:=by
 obtain ⟨O,hB,u3⟩:=enter hA
 obtain ⟨w3,rfl,v3,v4,v5,v6,rfl,h7,x1,y1,z1⟩:=id m0
 obtain ⟨A8,c9,rfl⟩:=h7.form
 obtain ⟨a2,b2,rfl⟩:=x1.form
 obtain ⟨c2,d2,rfl⟩:=y1.form
 obtain ⟨e2,f2,rfl⟩:=z1.form
 refine AK func3 rfl ntmps3 ?_
 unfold FJ at hm
 refine Am (Ah (Ft 2 O rfl λ q1 g2 r1 s1 c0=>?_))
 refine Au rfl (o_z (Am (Am ?_)))
 obtain ⟨h2,b0,hm⟩:=bs hm
 refine Bi (λ l' w'=>∃ (i2:Unit) (O':Lab),Q2 l' [(1,(.pointer (some ⟨q1,0,none⟩))),(18,(.bool h2))]/\Bs w A w' O'/\Lc 2 w' O' q1 26 [(.slice A8 x0.vars.length c9),(.slice a2 x0.init.length b2),(.slice c2 x0.goal.length d2),(.slice e2 x0.ops.length f2)]) ?_ ?_
 ·
  refine Ah (BH (hl:=rfl) (hc:=(c0.1).cellsAt) rfl ?_)
  obtain ⟨j2,k2,b0⟩:=bs b0
  replace hB:=hB.st s1
  refine Du (O:=r1) (PV (λ _ h=>h) (Vb.mono (F:=Fr 0 g2 r1) (m0.zs hA hB) Fr.lt) k2) rfl λ x3 l2 t1 r0 m2=>?_
  obtain rfl:=m2.bool
  cases j2
  case false =>
   replace b0:=iF b0
   refine DB rfl (At rfl (AA rfl rfl (AA rfl rfl (AA rfl rfl (AA rfl rfl (BJ rfl rfl (At rfl (AA rfl rfl (AA rfl rfl (BJ rfl rfl (o_z ?_)))))))))))
   obtain rfl:=sm b0
   exact ⟨(),_,⟨rfl,rfl,trivial⟩,hB.st r0,c0.st r0⟩
  replace b0:=iT b0
  refine DA rfl (At rfl (AB rfl rfl (AO rfl (AB rfl rfl ?_))))
  replace c0:=c0.st r0
  refine AQ (hc:=Blk.cell (i:=0) (c0.1) rfl) rfl (AB rfl rfl ?_)
  obtain ⟨y3,n2,b0⟩:=bs b0
  replace hB:=hB.st r0
  refine Du (O:=t1) (Oj (λ _ h=>h) (Vb.mono (F:=Fr 0 l2 t1) (h7.zs hA hB) Fr.lt) (R0 300) n2) rfl λ z3 a4 o2 n0 p2=>?_
  obtain ⟨rfl,b4⟩:=p2.int
  refine AB rfl rfl (Er rfl rfl (λ v0=>?_) λ v0=>?_)
  ·
   replace b0:=ip b0 v0
   refine BK rfl rfl (At rfl (AA rfl rfl (AA rfl rfl (BJ rfl rfl (o_z ?_)))))
   obtain rfl:=sm b0
   exact ⟨(),_,⟨rfl,rfl,trivial⟩,hB.st n0,c0.st n0⟩
  replace b0:=im b0 v0
  refine BK rfl rfl (At rfl (AB rfl rfl ?_))
  obtain ⟨q2,r2,b0⟩:=bs b0
  refine Du (O:=o2) (KL (λ _ h=>h)  r2) rfl λ c4 d4 e4 s0 s2=>?_
  obtain rfl:=s2.bool
  cases q2
  case false =>
   replace b0:=iF b0
   refine AB rfl rfl (DB rfl (BK rfl rfl (o_z ?_)))
   obtain rfl:=sm b0
   exact ⟨(),_,⟨rfl,rfl,trivial⟩,(hB.st n0).st s0,(c0.st n0).st s0⟩
  replace b0:=iT b0
  refine AB rfl rfl (DA rfl (BK rfl rfl (o_z ?_)))
  obtain rfl:=sm b0
  exact ⟨(),_,⟨rfl,rfl,trivial⟩,(hB.st n0).st s0,(c0.st n0).st s0⟩
 replace hB:=hB.st s1
 rintro f4 g4 ⟨i2,u1,w0,hB,c0⟩
 refine Bg _ w0 ?_
 refine BP rfl (λ y0=>?_) (λ y0=>?_)
 ·
  replace hm:=ip hm y0
  refine Am ?_
  obtain ⟨t2,d0,hm⟩:=bs hm
  refine Bi (λ l' w'=>∃ (u2:Unit) (O':Lab),Q2 l' [(2,(.bool t2))]/\Bs w A w' O') ?_ ?_
  ·
   refine Ah ?_
   obtain ⟨v2,w2,d0⟩:=bs d0
   refine Du (O:=u1) (KL (λ _ h=>h)  w2) rfl λ h4 i4 j4 v1 x2=>?_
   obtain rfl:=x2.bool
   cases v2
   case false =>
    replace d0:=iF d0
    refine Au rfl (o_z ?_)
    obtain rfl:=sm d0
    exact ⟨(),_,⟨rfl,trivial⟩,hB.st v1⟩
   replace d0:=iT d0
   refine Au rfl (o_z ?_)
   obtain rfl:=sm d0
   exact ⟨(),_,⟨rfl,trivial⟩,hB.st v1⟩
  rintro k4 l4 ⟨u2,m4,z0,hB⟩
  refine Bg _ z0 ?_
  refine AM ?_
  obtain rfl:=sm hm
  exact T8 rfl (Bc rfl) ⟨hB.ext,vBool⟩
 replace hm:=im' hm y0
 refine AN (Am (Ah (BH (hl:=rfl) (hc:=(c0.1).cellsAt) rfl ?_)))
 obtain ⟨y2,z2,hm⟩:=bs hm
 refine Gw (O:=u1) (R:=λ w' F v=>T2 w' F v y2) (Ns Fr.lt (m0.zs hA hB) (R0 1048576) (TabF.bs hA hT hB) z2) rfl rfl λ n4 o4 a3 a1 b3=>?_
 obtain ⟨p4,q4,rfl,w1,c3⟩:=b3
 obtain ⟨r4,s4,rfl⟩:=w1.form
 obtain ⟨rfl,t4⟩:=c3.err
 refine At rfl (CK rfl rfl (CK rfl rfl (Au rfl (Au rfl (o_z (Am (Am (Ah (At rfl (FS rfl (λ b1=>?_) λ b1=>?_))))))))))
 ·
  replace hm:=ip hm b1
  refine o_z (Aj rfl (Am (Ah (Au rfl (o_z (AM ?_))))))
  obtain rfl:=sm hm
  replace hB:=hB.st a1
  exact T8 rfl (Bc rfl) ⟨hB.ext,vBool⟩
 replace hm:=im hm b1
 refine o_z (Ae rfl (AN (Am (Ah ?_))))
 replace c0:=c0.st a1
 refine BH (hl:=rfl) (hc:=(c0.1).cellsAt) rfl (At rfl ?_)
 obtain ⟨o0,d3,hm⟩:=bs hm
 replace hB:=hB.st a1
 refine Gw (O:=a3) (R:=λ w' F v=>T2 w' F v o0) (JM Fr.lt (m0.zs hA hB) w1 (R0 1000) d3) rfl rfl λ u4 w4 e3 t0 f3=>?_
 obtain ⟨x4,y4,rfl,g3,h3⟩:=f3
 obtain ⟨i3,rfl,z4,rfl,u0,c1,d1,e1⟩:=g3
 obtain ⟨f1,g1,rfl⟩:=u0.form
 obtain ⟨rfl,j3⟩:=h3.err
 refine At rfl (CK rfl rfl (CK rfl rfl (BL 3 e3 λ k3 l3 g0 e0 h0=>?_)))
 refine AT h0 rfl rfl rfl (Bf) (allOne) λ h1 f0 h0=>?_
 refine Au rfl (o_z (Am ?_))
 obtain ⟨i1,a0,hm⟩:=bs hm
 refine Bi (λ l' w'=>∃ (j1:Unit) (O':Lab),Q2 l' [(2,(.bool i1))]/\Bs w A w' O') ?_ ?_
 ·
  refine Bl [] g0 ?_
  refine AH (fuel:=4) [] (AX (CR 0 6)) rfl (AJ rfl rfl (Az rfl (Bj (λ _ _=>RJ rfl) (λ i0=>?_) (λ i0=>?_))))
  ·
   replace a0:=ip a0 i0
   refine AJ rfl rfl (Az rfl (Aw rfl rfl ?_))
   replace c0:=((c0.st t0).st e0).st f0
   refine Je (hl:=rfl) (hb:=Gl c0) rfl (Az rfl (Aw rfl rfl (Je (hl:=rfl) (hb:=Gl h0) rfl (Az rfl (Aw rfl rfl (Je (hl:=rfl) (hb:=Gl c0) rfl (AC (AF (i:=6) rfl (AB rfl rfl ?_)))))))))
   obtain ⟨m3,k1,a0⟩:=bs a0
   replace hB:=((hB.st t0).st e0).st f0
   refine Du (O:=g0) (RA (λ _ h=>h) (Vb.mono (F:=Fr 0 h1 g0) (m0.zs hA hB) Fr.lt) k1) rfl λ n3 p0 j0 k0 l1=>?_
   obtain ⟨rfl,m1⟩:=l1.int
   have hZ:=lZ k0
   refine AV [] hZ (AF (i:=7) rfl (AB rfl rfl ?_))
   obtain ⟨n1,o1,a0⟩:=bs a0
   replace hB:=hB.st k0
   replace u0:=((u0.st e0).st f0).st k0
   refine Du (O:=j0) (Pt (λ _ h=>h) (Vb.mono (F:=Fr 0 p0 j0) (m0.zs hA hB) Fr.lt) (Vb.mono (F:=Fr 0 p0 j0) (Vb.ofAgg (cs:=[(.int .i64 o0.1.verdict),(.slice f1 o0.1.plan.length g1),(.int .i64 o0.1.cost),(.int .i64 o0.1.expanded)]) (x:=o0.1) rfl ⟨_,rfl,u0,c1,d1,e1⟩) Fr.lt) m1 o1) rfl λ o3 p3 q3 l0 p1=>?_
   obtain rfl:=p1.bool
   have hZ:=lZ l0
   cases n1
   case false =>
    replace a0:=iF a0
    refine AV [] hZ ?_
    refine AH (fuel:=0) [] (AX [8,9]) rfl (CL rfl rfl rfl (Ei rfl rfl (AC (Ba ?_))))
    obtain rfl:=sm a0
    exact ⟨(),_,⟨rfl,trivial⟩,hB.st l0⟩
   replace a0:=iT a0
   refine AV [] hZ ?_
   refine AH (fuel:=0) [] (AX [8,9]) rfl (CL rfl rfl rfl (Ei rfl rfl (AC (Ba ?_))))
   obtain rfl:=sm a0
   exact ⟨(),_,⟨rfl,trivial⟩,hB.st l0⟩
  replace a0:=im a0 i0
  refine AJ rfl rfl (AW rfl rfl rfl (AW rfl rfl rfl (AW rfl rfl rfl (AC (AF (i:=6) rfl (AA rfl rfl ?_))))))
  refine AV [] (lZ (St.refl nT _ _)) (AF (i:=7) rfl (AA rfl rfl ?_))
  refine AV [] (lZ (St.refl nT _ _)) ?_
  refine AH (fuel:=0) [] (AX [8,9]) rfl (CE rfl rfl rfl (Ei rfl rfl (AC (Ba ?_))))
  obtain rfl:=sm a0
  exact ⟨(),_,⟨rfl,trivial⟩,((hB.st t0).st e0).st f0⟩
 replace hB:=((hB.st t0).st e0).st f0
 rintro r3 s3 ⟨j1,t3,q0,hB⟩
 refine Bg _ q0 ?_
 refine AM ?_
 obtain rfl:=sm hm
 exact T8 rfl (Bc rfl) ⟨hB.ext,vBool⟩
end
section
open Go Go.RowKit
def T5 (n:Nat):List Int:=(List.range n).map λ i:Nat=>(i:Int)
theorem Kn {n:Nat} {x:Int}:x∈T5 n↔0<=x/\x < n:=by
  unfold T5
  rw [N8]
  constructor
  . rintro ⟨i,hi,rfl⟩;have:=M4.1 hi;omega
  . rintro ⟨a,h2⟩;exact ⟨x.toNat,M4.2 (by omega),by omega⟩
theorem IB (n:Nat):(T5 n).length=n:=by simp [T5]
theorem Qm (n:Nat):(T5 n).Nodup:=by
  unfold T5
  rw [B5,J2]
  exact (B5.1 K8).imp λ a=>by omega
def PermR (l:List Int) (n:Nat):Prop:=l.Perm (T5 n)
theorem JN:∀ {l₁ l₂:List Int},l₁.Nodup->(∀ x∈l₁,x∈l₂)->l₂.length<=l₁.length->l₁.Perm l₂
  | [],l₂,_,_,hl=>by
    have:l₂=[]:=B0 (by simpa using hl)
    rw [this]
  | x :: l₁,l₂,hn,hs,hl=>by
    have a:=hs x H8
    have c:=List.perm_cons_erase a
    obtain ⟨d,h2⟩:=M3.1 hn
    refine (List.Perm.cons x (JN h2 (λ y b=>?_) ?_)).trans c.symm
    . have:y≠x:=λ e=>d (e ▸ b)
      exact (List.mem_erase_of_ne this).2 (hs y (F8 _ b))
    . rw [List.length_erase_of_mem a]
      simp at hl;omega
theorem PermR.len {l:List Int} {n:Nat} (a:PermR l n):l.length=n:=by rw [a.length_eq,IB]
theorem PermR.mem {l:List Int} {n:Nat} (b:PermR l n) {x:Int} (a:x∈l):0<=x/\x < n:=Kn.1 (b.mem_iff.1 a)
theorem PermR.nodup {l:List Int} {n:Nat} (a:PermR l n):l.Nodup:=a.symm.nodup (Qm n)
theorem IV {l:List Int} {n:Nat} (a:l.Nodup) (b:∀ x∈l,0<=x/\x < n) (d:l.length=n):PermR l n:=JN a (λ x c=>Kn.2 (b x c)) (by rw [IB];omega)
theorem JO {p q:Prop} (a:p↔q):some (bof p)=some (bof q):=by rw [Nb a]
theorem Fz {α:Type} {l:List α} {k:Nat} {x y:α} (a:l[k]?=some x):y∈l.take (k + 1)↔y∈l.take k\/y=x:=by
  rw [I6,a,K9];simp
theorem WX      {l:List Int} {n:Int} (hl:l.length≤1000000∨(l.length:Int)≠n):CB l n=some (bof ((l.length:Int)=n∧PermR l l.length)):=by
  unfold CB
  by_cases hn:(l.length:Int)=n
  case neg=>rw [if_pos hn,AY (λ E=>hn E.1)]
  have z:l.length<=1000000:=hl.resolve_right λ E=>E hn
  subst hn
  rw [if_neg (by simp),Ga (by omega) (by omega),Ar]
  rcases Og (ρ:=Bool) (f:=λ (_:Nat) (c:Int) (h:(List Bool))=>bnd (if c < 0 then (some true) else (if (l.length:Int)<=c then (some true) else (bnd (atI h c) λ p=>some p)):Option Bool) λ t=>if t=true then (some (.ret false)) else (bnd (atI h c) λ _=>some (.next (h.set (c).toNat true)))) (xs:=l) (s₀:=List.replicate l.length false)
    (λ k s=>s.length=l.length/\(∀ j:Nat,j < l.length->s[j]?=some (bof ((j:Int)∈l.take k)))/\(l.take k).Nodup/\∀ x∈l.take k,0<=x/\x < l.length) (λ r=>r=false/\¬ PermR l l.length)
    ⟨by simp, λ j hj=>by rw [D2,if_pos hj,List.take_zero,AY (List.not_mem_nil)],by simp,by simp⟩ (λ k x s g A=>by
      obtain ⟨B,i2,i3,i4⟩:=A
      by_cases v:x < 0
      . rw [if_pos v,Ar,BS]
        exact .inr ⟨_,rfl,rfl,λ m=>by have:=m.mem (F9 g);omega⟩
      . rw [if_neg v]
        by_cases w:(l.length:Int)<=x
        . rw [if_pos w,Ar,BS]
          exact .inr ⟨_,rfl,rfl,λ m=>by have:=m.mem (F9 g);omega⟩
        . rw [if_neg w]
          obtain ⟨j,rfl⟩:=D0 (by omega:0<=x)
          rw [Bd,i2 j (by omega),Ar,Ar]
          by_cases hm:(j:Int)∈l.take k
          . rw [Bk hm,BS]
            refine .inr ⟨_,rfl,rfl,λ m=>?_⟩
            have d:=m.nodup
            rw [<- E8 k l,I8] at d
            have hd:(j:Int)∈l.drop k:=F9 (i:=0) (by rw [H7,N3];exact g)
            exact d.2.2 _ hm _ hd rfl
          . rw [AY hm,CA,Ar]
            refine .inl ⟨_,rfl,by simpa using B,λ q C=>?_,?_,λ y u=>?_⟩
            . rw [show ((j:Int)).toNat=j from by omega,I5]
              by_cases o:j=q
              . subst o
                rw [if_pos rfl,if_pos (by omega),Bk ((Fz g).2 (.inr rfl))]
              . rw [if_neg o,i2 q C]
                refine JO ⟨λ E=>(Fz g).2 (.inl E),λ E=>((Fz g).1 E).resolve_right (by omega)⟩
            . rw [I6,g]
              refine I8.2 ⟨i3,by simp,λ a D b hb=>?_⟩
              have:b=(j:Int):=by simpa using hb
              rw [this];exact λ e=>hm (e ▸ D)
            . rcases (Fz g).1 u with u|rfl
              . exact i4 y u
              . omega) with ⟨s,hr,_,_,d,hrg⟩|⟨r,hr,rfl,hno⟩
  . rw [hr,Ar,BB]
    rw [K4] at d hrg
    rw [Bk ⟨rfl,IV d hrg rfl⟩]
  . rw [hr,Ar,Ny,AY (λ E=>hno E.2)]
end
section
open Go Go.RowKit
theorem LQ {α:Type} {f:Nat->α->Unit->Option (Ctl Unit Bool)} {xs:List α} (P:Nat->Prop) (e:∀ k x,xs[k]?=some x->f k x ()=if bof (P k)=true then some (.next ()) else some (.ret false)) :
    (bnd (rng (ρ:=Bool) f xs 0 ()) λ r=>fin r λ _=>some true)=some (bof (∀ k,k < xs.length->P k)):=by
  rcases Og (f:=f) (xs:=xs) (s₀:=()) (λ k _=>∀ j,j < k->P j) (λ r=>r=false/\¬ ∀ k,k < xs.length->P k) (λ j hj=>by omega) (λ k x _ b c=>by
    rw [e k x b]
    by_cases a:P k
    . rw [Bk a,BS]
      exact .inl ⟨_,rfl,Dx c a⟩
    . rw [AY a,CA]
      exact .inr ⟨_,rfl,rfl,λ d=>a (d k (AD b))⟩) with ⟨_,hr,hc⟩|⟨r,hr,rfl,hno⟩
  . rw [hr,Ar,BB,Bk hc]
  . rw [hr,Ar,Ny,AY hno]
theorem Qn {l:List Int} {n:Nat} (hn:n<=1000000):CB l (n:Int)=some (bof (PermR l n)):=by
  rw [WX (by omega)]
  exact JO ⟨λ a=>by         have:l.length=n:=by omega
                            rw [<- this];exact a.2,λ a=>⟨by rw [a.len],by rw [a.len];exact a⟩⟩
def Q0 (t:Tsk) (x:Swp):Prop:=PermR x.vars t.vars.length/\x.vals.length=t.vars.length/\∀ (k:Nat),k < t.vars.length->∃ (n:Nat) (a:Int) (l:List Int),t.vars[k]?=some (n:Int)/\x.vars[k]?=some a/\x.vals[k]?=some l/\atI t.vars a=some (n:Int)/\PermR l n
theorem Vq {t:Tsk} {x:Swp} (g:TaskOk t):Fk t x=some (bof (Q0 t x)):=by
  obtain ⟨hl,_,hv,_⟩:=g
  unfold Fk
  rw [Qn (by omega),Ar]
  by_cases c:PermR x.vars t.vars.length
  case neg=>rw [AY c,CA,Ar,BS,AY (λ s=>c s.1)]
  rw [Bk c,BS]
  by_cases o:x.vals.length=t.vars.length
  case neg=>rw [if_pos (by omega),Ar,BS,AY (λ s=>o s.2.1)]
  rw [if_neg (by omega),Ar,CA]
  rw [LQ (λ k=>∃ (n:Nat) (a:Int) (l:List Int),t.vars[k]?=some (n:Int)/\x.vars[k]?=some a/\x.vals[k]?=some l/\atI t.vars a=some (n:Int)/\PermR l n) (λ k y d=>by
    have hk:=AD d
    obtain ⟨a,ha⟩:=AG (l:=x.vars) (k:=k) (by rw [c.len];omega)
    obtain ⟨l,hll⟩:=AG (l:=x.vals) (k:=k) (by omega)
    have q:=hv k y d
    obtain ⟨n,rfl⟩:=D0 (by omega:0<=y)
    obtain ⟨h,ha2⟩:=c.mem (F9 ha)
    obtain ⟨j,rfl⟩:=D0 h
    obtain ⟨m,hm⟩:=AG (l:=t.vars) (k:=j) (by omega)
    rw [ha,Ar,Bd,hm,Ar]
    by_cases b:m=(n:Int)
    . rw [if_neg (by simpa using b),hll,Ar,Qn (by omega),Ar]
      by_cases e:PermR l n
      . rw [Bk e,BS,Ar,CA,Bk ⟨n,_,l,d,rfl,rfl,by rw [Bd,hm,b],e⟩,BS]
      . rw [AY e,CA,Ar,BS,AY (λ ⟨f,a',l',q1,q2,q3,q4,q5⟩=>by
          have p:(n:Int)=f:=by rw [d] at q1;exact L1 q1
          have i:l=l':=L1 q3
          have r:n=f:=by omega
          subst i r;exact e q5),CA]
    . rw [if_pos b,Ar,BS,AY (λ ⟨f,a',l',q1,q2,q3,q4,q5⟩=>by
        have p:(n:Int)=f:=by rw [d] at q1;exact L1 q1
        have i:(j:Int)=a':=L1 q2
        rw [<- i,Bd,hm] at q4
        exact b (by rw [p];exact L1 q4)),CA])]
  exact JO ⟨λ s=>⟨c,o,s⟩,λ s=>s.2.2⟩
theorem Ia (a b:List Fct):BI a b=some (bof (a=b)):=by
  unfold BI
  by_cases hl:a.length=b.length
  case neg=>rw [if_pos (by omega),AY (λ e=>hl (by rw [e]))]
  rw [if_neg (by omega),LQ (λ k=>a[k]?=b[k]?) (λ k y c=>by
    obtain ⟨z,hz⟩:=AG (l:=b) (k:=k) (by have:=AD c;omega)
    rw [hz,Ar]
    by_cases e:y=z
    . rw [if_neg (by simp [e]),Bk (by rw [c,e]),BS]
    . rw [if_pos (λ d=>e (by cases y;cases z;simpa using d)),AY (by rw [c];simpa using e),CA])]
  refine JO ⟨λ e=>I3 λ k=>?_,λ e=>by rw [e];exact λ _ _=>rfl⟩
  by_cases hk:k < a.length
  . exact e k hk
  . rw [E6 (by omega),E6 (by omega)]
theorem Ab0 (a b:Eff):Et a b=some (bof (a=b)):=by
  unfold Et
  by_cases c:a.var=b.var
  case neg=>rw [if_neg c,Ar,AY (λ f=>c (by rw [f]))]
  by_cases d:a.val=b.val
  case neg=>rw [if_pos c,if_neg d,Ar,AY (λ f=>d (by rw [f]))]
  rw [if_pos c,if_pos d,Ia,Ar]
  by_cases e:a.cond=b.cond
  . rw [Bk e,BS,Ar,Bk (by cases a;cases b;simp_all)]
  . rw [AY e,CA,Ar,AY (λ f=>e (by rw [f]))]
theorem SP (a b:List Eff):Bb a b=some (bof (a=b)):=by
  unfold Bb
  by_cases hl:a.length=b.length
  case neg=>rw [if_pos (by omega),AY (λ d=>hl (by rw [d]))]
  rw [if_neg (by omega),LQ (λ k=>a[k]?=b[k]?) (λ k y c=>by
    obtain ⟨z,hz⟩:=AG (l:=b) (k:=k) (by have:=AD c;omega)
    rw [hz,Ar,Ab0,Ar]
    by_cases d:y=z
    . rw [Bk d,BS,Bk (by rw [c,d]),BS]
    . rw [AY d,CA,AY (by rw [c];simpa using d),CA])]
  refine JO ⟨λ d=>I3 λ k=>?_,λ d=>by rw [d];exact λ _ _=>rfl⟩
  by_cases hk:k < a.length
  . exact d k hk
  . rw [E6 (by omega),E6 (by omega)]
theorem Qp (p q:Opr):Do p q=some (bof (p.cost=q.cost/\p.pre=q.pre/\p.effs=q.effs)):=by
  unfold Do
  by_cases a:p.cost=q.cost
  case neg=>rw [if_neg a,Ar,AY (λ d=>a d.1)]
  rw [if_pos a,Ia,Ar]
  by_cases b:p.pre=q.pre
  case neg=>rw [AY b,CA,Ar,AY (λ d=>b d.2.1)]
  rw [Bk b,BS,SP,Ar]
  by_cases c:p.effs=q.effs
  . rw [Bk c,BS,Ar,Bk ⟨a,b,c⟩]
  . rw [AY c,CA,Ar,AY (λ d=>c d.2.2)]
def imF (x:Swp) (f:Fct):Fct:=⟨(x.vars[f.var.toNat]?).getD 0,(((x.vals[f.var.toNat]?).getD [])[f.val.toNat]?).getD 0⟩
def imL (x:Swp) (a:List Fct):List Fct:=Be (a.map (imF x))
def imE (x:Swp) (e:Eff):Eff:=⟨imL x e.cond,(imF x ⟨e.var,e.val⟩).var,(imF x ⟨e.var,e.val⟩).val⟩
def imO (x:Swp) (o:Opr):Opr:=⟨⟨#[]⟩,o.cost,imL x o.pre,o.effs.map (imE x)⟩
theorem Lo {t:Tsk} {x:Swp} {f:Fct} (b:Q0 t x) (hf:R1 t.vars f):∃ l,atI x.vars f.var=some (imF x f).var/\atI x.vals f.var=some l/\atI l f.val=some (imF x f).val/\0<=(imF x f).var/\0<=(imF x f).val:=by
  obtain ⟨c,h2,n,hn,h3⟩:=hf
  obtain ⟨g,fz⟩:=f
  simp only at c h2 hn h3 ⊢
  obtain ⟨j,rfl⟩:=D0 c
  obtain ⟨i,rfl⟩:=D0 h2
  rw [show ((j:Int)).toNat=j from by omega] at hn
  obtain ⟨m,a,l,q1,q2,q3,q4,q5⟩:=b.2.2 j (AD hn)
  have e:(m:Int)=n:=by rw [hn] at q1;exact (L1 q1).symm
  obtain ⟨z,hz⟩:=AG (l:=l) (k:=i) (by rw [q5.len];omega)
  have h:=b.1.mem (F9 q2)
  have d:=q5.mem (F9 hz)
  refine ⟨l,?_,?_,?_,?_,?_⟩<;>simp [imF,Bd,q2,q3,hz]<;>omega
end
section
open Go Go.RowKit
theorem Ea {vars:List Int} {f:List Fct} (c:Q7 vars f):(∀ x∈f,R1 vars x)/\f.Pairwise λ x y=>x.var < y.var:=by
  refine ⟨λ x b=>by obtain ⟨i,hi⟩:=G3 b;exact c.1 i x hi,?_⟩
  rw [C0]
  intro i j hi hj a
  exact Iw c j i _ _ a (C4 hi) (C4 hj)
theorem TS {a b:List Fct} (c:a.Perm b) (d:a.Pairwise λ x y=>x.var < y.var) (hb:b.Pairwise λ x y=>x.var < y.var):a=b :=
  List.Perm.eq_of_pairwise (λ x y _ _ e f=>by omega) d hb c
def VarsNe (f:List Fct):Prop:=f.Pairwise λ x y=>x.var≠y.var
theorem VarsNe.perm {a b:List Fct} (c:a.Perm b) (d:VarsNe a):VarsNe b:=(c.pairwise_iff (λ d e=>d e.symm)).1 d
theorem NA {a:List Fct} (d:VarsNe a):(Be a).Pairwise λ x y=>x.var < y.var:=by
  have b:=Rg a
  have c:VarsNe (Be a):=d.perm (Fd a).symm
  exact (b.and c).imp λ ⟨p,q⟩=>by omega
theorem WY {t:Tsk} {x:Swp} {f g:Fct} (a:Q0 t x) (hf:R1 t.vars f) (c:R1 t.vars g) (h:(imF x f).var=(imF x g).var):f.var=g.var:=by
  obtain ⟨_,hf1,_⟩:=Lo a hf
  obtain ⟨_,hg1,_⟩:=Lo a c
  obtain ⟨i,hi,hi'⟩:=HI hf1
  obtain ⟨j,hj,hj'⟩:=HI hg1
  rw [h,<- hj'] at hi'
  have d:i < x.vars.length:=by rw [hj'] at hi';exact AD hi'
  have e:=AD hj'
  rw [C4 d,C4 e] at hi'
  have b:=(List.getElem_inj a.1.nodup).1 (L1 hi')
  rw [hi,hj,b]
theorem Wy {t:Tsk} {x:Swp} {c:List Fct} (f:Q0 t x) (hf:Q7 t.vars c):VarsNe (c.map (imF x)):=by
  obtain ⟨d,h2⟩:=Ea hf
  unfold VarsNe
  rw [J2]
  refine List.Pairwise.imp_of_mem (λ {a b} g hb h=>?_) h2
  intro e
  have:=WY f (d a g) (d b hb) e
  omega
theorem Jn {t:Tsk} {b:List Fct} (a:TaskOk t) (hf:Q7 t.vars b):b.length<=64:=by have:=GV hf;have:=a.1;omega
theorem map_take {α β:Type} {f:α->β} {l:List α} {k:Nat} {x:α} (a:l[k]?=some x):(l.take (k + 1)).map f=(l.take k).map f ++ [f x]:=by
  rw [I6,a];simp
theorem Jo {t:Tsk} {x:Swp} {a:List Fct} (b:TaskOk t) (c:Q0 t x) (hf:Q7 t.vars a):CN x a=some (imL x a):=by
  have hl:=Jn b hf
  unfold CN
  rw [Fp (λ k=>(a.take k).map (imF x)) (by simp) (λ k f hk=>by
    obtain ⟨l,h1,h2,h3,_⟩:=Lo c (hf.1 k f hk)
    have:=AD hk
    rw [h1,Ar,h2,Ar,h3,Ar,Cu (by simp;omega) (by simp;omega),Ar,map_take hk]),Ar,BB,K4,if_pos (by simp;omega),Ar]
  rfl
theorem Qq {t:Tsk} {x:Swp} {o:Opr} (a:TaskOk t) (b:Q0 t x) (c:Aan t.vars o):DY x o=some (imO x o):=by
  obtain ⟨_,_,hl,_,hpre,heff⟩:=c
  unfold DY
  rw [Jo a b hpre,Ar,Ar,Fp (λ k=>(o.effs.take k).map (imE x)) (by simp) (λ k e hk=>by
    obtain ⟨d,h2⟩:=heff k e hk
    obtain ⟨l,g1,g2,g3,_⟩:=Lo b h2
    have:=AD hk
    rw [show e.var=(⟨e.var,e.val⟩:Fct).var from rfl,g1,Ar,g2,Ar,show e.val=(⟨e.var,e.val⟩:Fct).val from rfl,g3,Ar,Jo a b d,Ar,Cu (by simp;omega) (by simp;omega),Ar,map_take hk]
    rfl),Ar,BB,K4]
  rfl
def SymP (t:Tsk) (x:Swp):Prop:=Q0 t x/\PermR x.ops t.ops.length/\imL x t.goal=t.goal/\∀ k,k < t.ops.length->∃ (o p:Opr) (a:Int),t.ops[k]?=some o/\x.ops[k]?=some a/\atI t.ops a=some p/\o.cost=p.cost/\imL x o.pre=p.pre/\o.effs.map (imE x)=p.effs
theorem LR {t:Tsk} {x:Swp} (b:TaskOk t):EQ t x=some (bof (SymP t x)):=by
  unfold EQ
  rw [Vq b,Ar]
  by_cases c:Q0 t x
  case neg=>rw [AY c,CA,Ar,BS,AY (λ i=>c i.1)]
  have h:=b.2.1
  rw [Bk c,BS,Qn (by omega),Ar]
  by_cases d:PermR x.ops t.ops.length
  case neg=>rw [AY d,CA,Ar,BS,AY (λ i=>d i.2.1)]
  rw [Bk d,BS,Jo b c b.2.2.2.2.1,Ar,Ia,Ar]
  by_cases f:imL x t.goal=t.goal
  case neg=>rw [AY f,CA,Ar,BS,AY (λ i=>f i.2.2.1)]
  rw [Bk f,BS,Ar,CA,LQ (λ k=>∃ (o p:Opr) (a:Int),t.ops[k]?=some o/\x.ops[k]?=some a/\atI t.ops a=some p/\o.cost=p.cost/\imL x o.pre=p.pre/\o.effs.map (imE x)=p.effs) (λ k o hk=>by
    have:=AD hk
    obtain ⟨a,ha⟩:=AG (l:=x.ops) (k:=k) (by rw [d.len];omega)
    obtain ⟨g,ha2⟩:=d.mem (F9 ha)
    obtain ⟨j,rfl⟩:=D0 g
    obtain ⟨p,hp⟩:=AG (l:=t.ops) (k:=j) (by omega)
    rw [ha,Ar,Bd,hp,Ar,Qq b c (b.2.2.2.2.2 k o hk),Ar,Qp,Ar]
    have e:(∃ (o p:Opr) (a:Int),t.ops[k]?=some o/\some (j:Int)=some a/\atI t.ops a=some p/\o.cost=p.cost/\imL x o.pre=p.pre/\o.effs.map (imE x)=p.effs)↔((imO x o).cost=p.cost/\(imO x o).pre=p.pre/\(imO x o).effs=p.effs):=by
      constructor
      . rintro ⟨o',p',a',q1,q2,q3,q4⟩
        obtain rfl:o=o':=by rw [hk] at q1;exact L1 q1
        obtain rfl:=L1 q2
        rw [Bd,hp] at q3
        obtain rfl:=L1 q3
        exact q4
      . intro i
        exact ⟨o,p,j,hk,rfl,by rw [Bd,hp],i⟩
    rw [Nb e])]
  exact JO ⟨λ i=>⟨c,d,f,i⟩,λ i=>i.2.2.2⟩
theorem Vr {t:Tsk} {x:Swp}:DH t x=some (bof (TaskOk t/\SymP t x)):=by
  unfold DH Dr
  rw [Ar]
  by_cases a:TaskOk t
  case neg=>rw [if_neg (λ c=>a (EO.1 c)),Ar,AY (λ c=>a c.1)]
  rw [if_pos (EO.2 a),LR a,Ar]
  by_cases c:SymP t x
  . rw [Bk c,BS,Ar,Bk ⟨a,c⟩]
  . rw [AY c,CA,Ar,AY (λ b=>c b.2)]
end
section
open Go Go.RowKit
theorem AbM {t:Tsk} {x:Swp} (a:TaskOk t):By t [x]=some ⟨if bof (SymP t x)=true then 0 else 2⟩:=by
  unfold By Dr
  rw [Ar,if_neg (by rw [EO.2 a];simp)]
  by_cases e:SymP t x
  . rw [Vk (λ k y d=>by
      obtain rfl:y=x:=by simpa using F9 d
      rw [LR a,Ar,Bk e,BS]),Ar,BB,Bk e,BS]
  . have:rng (ρ:=Err) (λ (_:Nat) (b:Swp) (_:Unit)=>bnd (EQ t b) λ c=>if c=true then some (.next ()) else some (.ret (⟨2⟩:Err))) [x] 0 ()=some (.ret ⟨2⟩):=by
      simp only [rng]
      rw [LR a,Ar,AY e,CA]
    rw [this,Ar,Ny,AY e,CA]
def ImS (x:Swp) (s r:List Int):Prop:=r.length=s.length/\∀ (k:Nat) v,s[k]?=some v->∃ (a:Nat) (l:List Int) (z:Int),x.vars[k]?=some (a:Int)/\x.vals[k]?=some l/\atI l v=some z/\r[a]?=some z
theorem Qr {t:Tsk} {x:Swp} {s:List Int} (i:TaskOk t) (m:Q0 t x) (hs:StateOk t.vars s):∃ r,DG x s=some r/\ImS x s r:=by
  obtain ⟨D,hsv⟩:=hs
  have hl:=i.1
  unfold DG
  rw [Ga (by omega) (by omega),Ar]
  obtain ⟨r,o,h2,h3⟩:=Dw (ρ:=List Int) (f:=λ (c:Nat) (p:Int) (d:(List Int))=>bnd (x.vars[c]?) λ g=>bnd (x.vals[c]?) λ q=>bnd (atI q p) λ w=>bnd (atI d g) λ _=>some (.next (d.set (g).toNat w))) (xs:=s) (s₀:=List.replicate s.length 0)
    (λ k r=>r.length=s.length/\∀ (j:Nat) v,j < k->s[j]?=some v->∃ (a:Nat) (l:List Int) (z:Int),x.vars[j]?=some (a:Int)/\x.vals[j]?=some l/\atI l v=some z/\r[a]?=some z) ⟨by simp,λ j v hj=>by omega⟩ (λ k v r hk E=>by
    obtain ⟨F,i2⟩:=E
    have hlt:=AD hk
    obtain ⟨n,a,l,q1,q2,q3,q4,q5⟩:=m.2.2 k (by omega)
    obtain ⟨A,ha2⟩:=m.1.mem (F9 q2)
    obtain ⟨a,rfl⟩:=D0 A
    obtain ⟨o,h2⟩:=hsv k v n hk q1
    obtain ⟨u,rfl⟩:=D0 o
    obtain ⟨z,hz⟩:=AG (l:=l) (k:=u) (by rw [q5.len];omega)
    obtain ⟨y,hy⟩:=AG (l:=r) (k:=a) (by omega)
    rw [q2,Ar,q3,Ar,Bd,hz,Ar,Bd,hy,Ar]
    refine ⟨_,rfl,by simpa using F,λ j G hj b=>?_⟩
    rw [show ((a:Int)).toNat=a from by omega]
    by_cases h:j=k
    . subst h
      rw [hk] at b
      obtain rfl:=L1 b
      exact ⟨a,l,z,q2,q3,by rw [Bd,hz],by rw [D9 (by omega)]⟩
    . obtain ⟨a',l',z',g1,g2,g3,g4⟩:=i2 j G (by omega) b
      refine ⟨a',l',z',g1,g2,g3,?_⟩
      rw [G2 (λ e=>h ?_),g4]
      have B:=AD g1
      have C:=AD q2
      rw [e] at q2
      have:=g1.trans q2.symm
      rw [C4 B,C4 C] at this
      exact (List.getElem_inj m.1.nodup).1 (L1 this))
  exact ⟨r,by rw [o,Ar,BB],h2,λ k v hk=>h3 k v (AD hk) hk⟩
end
section
open Go Go.RowKit
abbrev Pn:=Nat×Nat
def fc (p:Pn):Fct:=⟨(p.1:Int),(p.2:Int)⟩
theorem JP {p q:Pn} (i:fc p=fc q):p=q:=by
  obtain ⟨a,b⟩:=p
  obtain ⟨c,d⟩:=q
  unfold fc at i
  injection i with e f
  have g:a=c:=by have:(a:Int)=c:=e;omega
  have h:b=d:=by have:(b:Int)=d:=f;omega
  rw [g,h]
def szT (t:Tsk) (v:Nat):Nat:=((t.vars[v]?).getD 0).toNat
def T7 {α:Type} (t:Tsk) (g:Nat->α):List α:=(List.range t.vars.length).map g
def T9 {α:Type} (t:Tsk) (g:Nat->Nat->α):List (List α):=T7 t λ v=>(List.range (szT t v)).map (g v)
def InP (t:Tsk) (p:Pn):Prop:=p.1 < t.vars.length/\p.2 < szT t p.1
def allP (t:Tsk):List Pn:=(List.range t.vars.length).flatMap λ v=>(List.range (szT t v)).map λ a=>(v,a)
theorem Cd {t:Tsk} {p:Pn}:p∈allP t↔InP t p:=by
  unfold allP InP
  rw [K2]
  constructor
  . rintro ⟨v,hv,hp⟩
    obtain ⟨a,ha,rfl⟩:=N8.1 hp
    exact ⟨M4.1 hv,M4.1 ha⟩
  . rintro ⟨b,h2⟩
    exact ⟨p.1,M4.2 b,N8.2 ⟨p.2,M4.2 h2,rfl⟩⟩
theorem NB {α β:Type} {f:α->List β}:∀ {l:List α},l.Nodup->(∀ a∈l,(f a).Nodup)->(∀ a∈l,∀ b∈l,a≠b->∀ x,x∈f a->x ∉ f b)->(l.flatMap f).Nodup
  | [],_,_,_=>by simp
  | a :: l,h1,h2,h3=>by
    rw [I7,I8]
    obtain ⟨d,n2⟩:=M3.1 h1
    refine ⟨h2 a H8,NB n2 (λ b hb=>h2 b (F8 _ hb)) λ b hb c hc=>h3 b (F8 _ hb) c (F8 _ hc),λ x g y h e=>?_⟩
    subst e
    obtain ⟨b,hb,hxb⟩:=K2.1 h
    exact h3 a H8 b (F8 _ hb) (λ e=>d (e ▸ hb)) x g hxb
theorem Hp {α β:Type} {f:α->β} {l:List α} (g:l.Nodup) (hf:∀ a∈l,∀ b∈l,f a=f b->a=b):(l.map f).Nodup:=by
  rw [B5,J2]
  exact (B5.1 g).imp_of_mem λ d hb c e=>c (hf _ d _ hb e)
theorem GM (t:Tsk):(allP t).Nodup:=by
  refine NB K8 (λ v _=>Hp K8 λ a _ b _ e=>by injection e) λ a _ b _ c x d f=>?_
  obtain ⟨_,_,rfl⟩:=N8.1 d
  obtain ⟨_,_,e⟩:=N8.1 f
  injection e with e _
  exact c e.symm
section
variable {α : Type} {t : Tsk}
theorem Ib {n k:Nat} (g:Nat->α) (a:k < n):atI ((List.range n).map g) (k:Int)=some (g k):=by
  rw [Bd,I4,H0 a];rfl
theorem TT {n k:Nat} (g:Nat->α) (y:α):((List.range n).map g).set k y=(List.range n).map λ i=>if i=k then y else g i:=by
  apply I3
  intro i
  rw [I5,I4,I4]
  by_cases hi:i < n
  . rw [H0 hi]
    by_cases b:k=i
    . subst b;simp [hi]
    . simp [b,P8 b]
  . have a:(List.range n)[i]?=none:=E6 (by simp;omega)
    rw [a]
    by_cases b:k=i
    . subst b;simp [hi]
    . simp [b]
theorem GN (g:Nat->α) {v:Nat} (a:v < t.vars.length):atI (T7 t g) (v:Int)=some (g v):=Ib g a
theorem Fq (g:Nat->Nat->α) {v:Nat} (a:v < t.vars.length):atI (T9 t g) (v:Int)=some ((List.range (szT t v)).map (g v)):=Ib (λ v=>(List.range (szT t v)).map (g v)) a
theorem IW (g:Nat->α) (v:Nat) (y:α):(T7 t g).set v y=T7 t λ i=>if i=v then y else g i:=TT g y
theorem ED {g a:Nat->α} (b:∀ v,v < t.vars.length->g v=a v):T7 t g=T7 t a:=H1 λ v hv=>b v (M4.1 hv)
theorem Hc {g b:Nat->Nat->α} (d:∀ v a,v < t.vars.length->a < szT t v->g v a=b v a):T9 t g=T9 t b :=
  ED λ v hv=>H1 λ a c=>d v a hv (M4.1 c)
theorem Ih (g:Nat->Nat->α) (v a:Nat) (y:α):(T9 t g).set v (((List.range (szT t v)).map (g v)).set a y)=T9 t λ b a'=>if b=v/\a'=a then y else g b a':=by
  unfold T9
  rw [TT,IW]
  refine ED λ b _=>?_
  by_cases c:b=v
  . subst c
    rw [if_pos rfl]
    exact H1 λ a' _=>by simp
  . rw [if_neg c]
    exact H1 λ a' _=>by simp [c]
end
abbrev Zs:=List (Pn×Pn)
def Vf (zs:Zs) (v:Nat):Int:=match zs.find? (λ z=>z.1.1 == v) with|some z=>(z.2.1:Int)|none=>-1
def Wf (zs:Zs) (v a:Nat):Int:=match zs.find? (λ z=>z.1 == (v,a)) with|some z=>(z.2.2:Int)|none=>-1
def Tf (zs:Zs) (v a:Nat):Bool:=zs.any λ z=>z.2 == (v,a)
def Uf (zs:Zs) (v:Nat):Bool:=zs.any λ z=>z.2.1 == v
def swF (t:Tsk) (zs:Zs):Swp:=⟨T7 t (Vf zs),T9 t (Wf zs),[]⟩
def mkF (t:Tsk) (sg:Nat->Nat->ByteArray) (zs:Zs) (s M:Int) (fl:Bool):Fnd:=⟨t,(allP t).map fc,T9 t sg,swF t zs,T9 t (Tf zs),T7 t (Uf zs),s,M,fl⟩
theorem NC (zs:Zs) (x y:Pn) (v:Nat):Vf (zs ++ [(x,y)]) v=if v=x.1/\Vf zs v < 0 then (y.1:Int) else Vf zs v:=by
  unfold Vf
  rw [List.find?_append]
  cases a:zs.find? (λ z=>z.1.1 == v) with
  | some z=>simp;omega
  | none =>
    by_cases hv:x.1=v
    . simp [hv]
    . have:¬ v=x.1:=λ e=>hv e.symm
      simp [hv,this]
theorem TU {zs:Zs} {x y:Pn} (d:∀ z∈zs,z.1≠x) (v a:Nat):Wf (zs ++ [(x,y)]) v a=if v=x.1/\a=x.2 then (y.2:Int) else Wf zs v a:=by
  unfold Wf
  rw [List.find?_append]
  obtain ⟨b,x2⟩:=x
  cases j:zs.find? (λ z=>z.1 == (v,a)) with
  | some z =>
    have f:=M1 j
    have c:=d z (C3 j)
    have g:z.1=(v,a):=by simpa using f
    have:¬ (v=b/\a=x2):=λ e=>c (by rw [g,e.1,e.2])
    simp [this]
  | none =>
    by_cases hv:v=b/\a=x2
    . obtain ⟨rfl,rfl⟩:=hv
      simp
    . have:¬ ((b,x2):Pn)=(v,a):=λ e=>hv (by injection e with h i;exact ⟨h.symm,i.symm⟩)
      have c:¬ (b=v/\x2=a):=λ e=>hv ⟨e.1.symm,e.2.symm⟩
      simp [hv,c]
theorem TV (zs:Zs) (x y:Pn) (v a:Nat):Tf (zs ++ [(x,y)]) v a=if v=y.1/\a=y.2 then true else Tf zs v a:=by
  unfold Tf
  rw [List.any_append]
  obtain ⟨b,y2⟩:=y
  by_cases c:v=b/\a=y2
  . obtain ⟨rfl,rfl⟩:=c;simp
  . have:¬ (b=v/\y2=a):=λ e=>c ⟨e.1.symm,e.2.symm⟩
    simp [c,this]
theorem ND (zs:Zs) (x y:Pn) (v:Nat):Uf (zs ++ [(x,y)]) v=if v=y.1 then true else Uf zs v:=by
  unfold Uf
  rw [List.any_append]
  by_cases a:v=y.1
  . simp [a]
  . have:¬ y.1=v:=λ e=>a e.symm
    simp [a,this]
structure Nw (zs:Zs) (x y:Pn):Prop where
  dom:∀ z∈zs,z.1≠x
  img:∀ z∈zs,z.2≠y
  var:∀ z∈zs,z.1.1=x.1↔z.2.1=y.1
theorem JQ {zs:Zs} {v:Nat}:Vf zs v < 0↔∀ z∈zs,z.1.1≠v:=by
  unfold Vf
  cases c:zs.find? (λ z=>z.1.1 == v) with
  | some z =>
    have a:=M1 c
    refine ⟨λ c=>absurd c (by simp),λ b=>absurd (by simpa using a) (b z (C3 c))⟩
  | none =>
    refine ⟨λ _ z hz=>?_,λ _=>by simp⟩
    have:=H9.1 c z hz
    simpa using this
theorem JR {zs:Zs} {v:Nat} (b:¬ Vf zs v < 0):∃ z∈zs,z.1.1=v/\Vf zs v=(z.2.1:Int):=by
  unfold Vf at *
  cases a:zs.find? (λ z=>z.1.1 == v) with
  | some z=>exact ⟨z,C3 a,by simpa using M1 a,rfl⟩
  | none=>rw [a] at b;exact absurd (by simp) b
theorem Vs {zs:Zs} {v:Nat}:Uf zs v=false↔∀ z∈zs,z.2.1≠v:=by
  unfold Uf;simp
theorem SQ {zs:Zs} {p:Pn}:Tf zs p.1 p.2=false↔∀ z∈zs,z.2≠p:=by
  obtain ⟨a,p2⟩:=p
  unfold Tf;simp [not_and]
section
variable {t : Tsk} {sg : Nat → Nat → ByteArray} {zs : Zs} {x y : Pn} {s M : Int} {fl : Bool}
theorem OP (d:InP t x) (e:InP t y) (o:Nw zs x y):CG (mkF t sg zs s M fl) (fc x) (fc y)=some (decide (Vf zs x.1 < 0),mkF t sg (zs ++ [(x,y)]) s M fl):=by
  unfold CG
  simp only [mkF,swF,fc]
  rw [Fq _ d.1,Ar,Ib _ d.2,Ar,Fq _ e.1,Ar,Ib _ e.2,Ar,GN _ d.1,Ar]
  have h:((x.1:Nat):Int).toNat=x.1:=by omega
  have j:((x.2:Nat):Int).toNat=x.2:=by omega
  have k:((y.1:Nat):Int).toNat=y.1:=by omega
  have l:((y.2:Nat):Int).toNat=y.2:=by omega
  rw [h,j,k,l,Ih,Ih]
  have m:T9 t (λ c a'=>if c=x.1/\a'=x.2 then (y.2:Int) else Wf zs c a')=T9 t (Wf (zs ++ [(x,y)])):=Hc λ v a _ _=>(TU o.dom v a).symm
  have n:T9 t (λ c a'=>if c=y.1/\a'=y.2 then true else Tf zs c a')=T9 t (Tf (zs ++ [(x,y)])):=Hc λ v a _ _=>(TV zs x y v a).symm
  rw [m,n]
  by_cases hv:Vf zs x.1 < 0
  . rw [if_neg (by omega),Ar,GN _ e.1,Ar,IW,IW]
    have f:T7 t (λ i=>if i=x.1 then (y.1:Int) else Vf zs i)=T7 t (Vf (zs ++ [(x,y)])):=ED λ v _=>by
      rw [NC]
      by_cases b:v=x.1
      . subst b;simp [hv]
      . simp [b]
    have g:T7 t (λ i=>if i=y.1 then true else Uf zs i)=T7 t (Uf (zs ++ [(x,y)])):=ED λ v _=>(ND zs x y v).symm
    rw [f,g,decide_eq_true hv]
  . rw [if_pos (by omega),decide_eq_false hv]
    have f:T7 t (Vf (zs ++ [(x,y)]))=T7 t (Vf zs):=ED λ v _=>by
      rw [NC]
      by_cases b:v=x.1
      . subst b;simp [hv]
      . simp [b]
    have g:T7 t (Uf (zs ++ [(x,y)]))=T7 t (Uf zs):=ED λ v _=>by
      rw [ND]
      by_cases b:v=y.1
      . obtain ⟨z,hz,hz1,_⟩:=JR hv
        rw [if_pos b,b]
        have:=(o.var z hz).1 hz1
        unfold Uf
        exact (K1.2 ⟨z,hz,by simp [this]⟩).symm
      . rw [if_neg b]
    rw [f,g]
theorem Ol (f:InP t x) (g:InP t y) (q:Nw zs x y) {b:Bool} (hb:b=decide (Vf zs x.1 < 0)):BU (mkF t sg (zs ++ [(x,y)]) s M fl) (fc x) (fc y) b=some (mkF t sg zs s M fl):=by
  unfold BU
  simp only [mkF,swF,fc]
  rw [Fq _ f.1,Ar,Ib _ f.2,Ar,Fq _ g.1,Ar,Ib _ g.2,Ar]
  have k:((x.1:Nat):Int).toNat=x.1:=by omega
  have l:((x.2:Nat):Int).toNat=x.2:=by omega
  have m:((y.1:Nat):Int).toNat=y.1:=by omega
  have n:((y.2:Nat):Int).toNat=y.2:=by omega
  rw [k,l,m,n,Ih,Ih]
  have o:T9 t (λ d a'=>if d=x.1/\a'=x.2 then (-1:Int) else Wf (zs ++ [(x,y)]) d a')=T9 t (Wf zs):=Hc λ v a _ _=>by
    rw [TU q.dom]
    by_cases c:v=x.1/\a=x.2
    . obtain ⟨rfl,rfl⟩:=c
      rw [if_pos ⟨rfl,rfl⟩]
      unfold Wf
      rw [H9.2 λ z hz=>by simpa using q.dom z hz]
    . rw [if_neg c,if_neg c]
  have p:T9 t (λ d a'=>if d=y.1/\a'=y.2 then false else Tf (zs ++ [(x,y)]) d a')=T9 t (Tf zs):=Hc λ v a _ _=>by
    rw [TV]
    by_cases c:v=y.1/\a=y.2
    . obtain ⟨rfl,rfl⟩:=c
      rw [if_pos ⟨rfl,rfl⟩]
      exact (SQ.2 q.img).symm
    . rw [if_neg c,if_neg c]
  rw [o,p]
  by_cases hv:Vf zs x.1 < 0
  . rw [hb,decide_eq_true hv,BS,GN _ f.1,Ar,GN _ g.1,Ar,IW,IW]
    have h:T7 t (λ i=>if i=x.1 then (-1:Int) else Vf (zs ++ [(x,y)]) i)=T7 t (Vf zs):=ED λ v _=>by
      rw [NC]
      by_cases c:v=x.1
      . subst c
        rw [if_pos rfl]
        unfold Vf
        rw [H9.2 λ z hz=>by simpa using JQ.1 hv z hz]
      . simp [c]
    have j:T7 t (λ i=>if i=y.1 then false else Uf (zs ++ [(x,y)]) i)=T7 t (Uf zs):=ED λ v _=>by
      rw [ND]
      by_cases c:v=y.1
      . subst c
        rw [if_pos rfl]
        exact (Vs.2 λ z hz e=>JQ.1 hv z hz ((q.var z hz).2 e)).symm
      . rw [if_neg c,if_neg c]
    rw [h,j]
  . rw [hb,decide_eq_false hv,CA]
    have h:T7 t (Vf (zs ++ [(x,y)]))=T7 t (Vf zs):=ED λ v _=>by
      rw [NC]
      by_cases c:v=x.1
      . subst c;simp [hv]
      . simp [c]
    have j:T7 t (Uf (zs ++ [(x,y)]))=T7 t (Uf zs):=ED λ v _=>by
      rw [ND]
      by_cases c:v=y.1
      . obtain ⟨z,hz,hz1,_⟩:=JR hv
        rw [if_pos c,c]
        have:=(q.var z hz).1 hz1
        unfold Uf
        exact (K1.2 ⟨z,hz,by simp [this]⟩).symm
      . rw [if_neg c]
    rw [h,j]
def fitB (t:Tsk) (sg:Nat->Nat->ByteArray) (zs:Zs) (x y:Pn):Bool :=
  if Tf zs y.1 y.2=true\/sg x.1 x.2≠sg y.1 y.2 then false
  else if 0<=Vf zs x.1 then decide (Vf zs x.1=y.1) else !Uf zs y.1 && decide (szT t x.1=szT t y.1)
theorem Ge {v:Nat} (a:TaskOk t) (b:v < t.vars.length):t.vars[v]?=some (szT t v:Int):=by
  obtain ⟨n,hn⟩:=AG b
  have:=a.2.2.1 v n hn
  unfold szT
  rw [hn]
  simp
  omega
theorem RW (b:TaskOk t) (c:InP t x) (a:InP t y):CC (mkF t sg zs s M fl) (fc x) (fc y)=some (fitB t sg zs x y):=by
  unfold CC
  simp only [mkF,swF,fc]
  have d:atI t.vars (x.1:Int)=some (szT t x.1:Int):=by rw [Bd,Ge b c.1]
  have e:atI t.vars (y.1:Int)=some (szT t y.1:Int):=by rw [Bd,Ge b a.1]
  rw [Fq _ a.1,Ar,Ib _ a.2,Ar,Fq _ c.1,Ar,Ib _ c.2,Ar,Fq _ a.1,Ar,Ib _ a.2,Ar,GN _ c.1,Ar,GN _ a.1,Ar,d,Ar,e,Ar]
  unfold fitB
  cases f:Tf zs y.1 y.2 with
  | true=>simp [Ar]
  | false =>
    by_cases hs:sg x.1 x.2=sg y.1 y.2
    . by_cases hv:0<=Vf zs x.1
      . by_cases he:Vf zs x.1=(y.1:Int)<;>simp [hs,hv,he,Ar]
      . cases g:Uf zs y.1 with
        | true=>simp [hs,hv,Ar]
        | false =>
          by_cases hz:szT t x.1=szT t y.1
          . simp [hs,hv,hz,Ar]
          . have:¬ ((szT t x.1:Int)=(szT t y.1:Int)):=by omega
            simp [hs,hv,hz,this,Ar]
    . simp [hs,Ar]
theorem WZ (h:fitB t sg zs x y=true) (hd:∀ z∈zs,z.1≠x) (hv:∀ z∈zs,∀ a∈zs,z.1.1=a.1.1↔z.2.1=a.2.1):Nw zs x y:=by
  unfold fitB at h
  split at h
  . cases h
  . rename_i h1
    have d:Tf zs y.1 y.2=false:=by simpa using λ e=>h1 (.inl e)
    refine ⟨hd,SQ.1 d,λ z hz=>?_⟩
    split at h
    . rename_i h2
      obtain ⟨a,hz',e1,e2⟩:=JR (by omega:¬ Vf zs x.1 < 0)
      have c:Vf zs x.1=(y.1:Int):=by simpa using h
      have b:a.2.1=y.1:=by omega
      rw [<- e1,<- b]
      exact hv z hz a hz'
    . rename_i h2
      have c:Uf zs y.1=false:=by
        cases f:Uf zs y.1 with
        | true=>rw [f] at h;simp at h
        | false=>rfl
      have b:=JQ.1 (by omega:Vf zs x.1 < 0) z hz
      have g:=Vs.1 c z hz
      exact ⟨λ e=>absurd e b,λ e=>absurd e g⟩
end
end
section
open Go Go.RowKit
structure Gz (t:Tsk) (zs:Zs):Prop where
  dom:zs.map (·.1)=(allP t).take zs.length
  len:zs.length<=(allP t).length
  img:∀ z∈zs,InP t z.2
  inj:(zs.map (·.2)).Nodup
  var:∀ z∈zs,∀ z'∈zs,z.1.1=z'.1.1↔z.2.1=z'.2.1
  siz:∀ z∈zs,szT t z.1.1=szT t z.2.1
theorem Gz.nil (t:Tsk):Gz t []:=⟨by simp,by simp,by simp,by simp,by simp,by simp⟩
theorem Gz.fresh {t:Tsk} {zs:Zs} {x:Pn} (f:Gz t zs) (b:(allP t)[zs.length]?=some x):∀ z∈zs,z.1≠x:=λ z hz e=>by
  have c:z.1∈(allP t).take zs.length:=f.dom ▸ N8.2 ⟨z,hz,rfl⟩
  have a:=GM t
  rw [<- E8 zs.length (allP t),I8] at a
  have d:x∈(allP t).drop zs.length:=F9 (i:=0) (by rw [H7,N3];exact b)
  exact a.2.2 _ c _ d e
theorem Gz.snoc {t:Tsk} {zs:Zs} {x y:Pn} (h:Gz t zs) (c:(allP t)[zs.length]?=some x) (f:InP t y) (hn:Nw zs x y) (hs:szT t x.1=szT t y.1):Gz t (zs ++ [(x,y)]):=by
  have hlt:=AD c
  refine ⟨?_,by simp;omega,?_,?_,?_,?_⟩
  . rw [L9,h.dom,H2,F2,I6,c];rfl
  . intro z hz
    rcases K9.1 hz with hz|hz
    . exact h.img z hz
    . simp at hz;subst hz;exact f
  . rw [L9,I8]
    refine ⟨h.inj,by simp,λ a g b hb e=>?_⟩
    obtain ⟨z,hz,rfl⟩:=N8.1 g
    simp at hb
    exact hn.img z hz (e.trans hb)
  . intro z hz d hz'
    rcases K9.1 hz with hz|hz<;>rcases K9.1 hz' with hz'|hz'
    . exact h.var z hz d hz'
    . simp at hz';subst hz';exact hn.var z hz
    . simp at hz;subst hz
      have:=hn.var d hz'
      exact ⟨λ e=>((this.1 e.symm)).symm,λ e=>(this.2 e.symm).symm⟩
    . simp at hz hz';subst hz;subst hz';exact ⟨λ _=>rfl,λ _=>rfl⟩
  . intro z hz
    rcases K9.1 hz with hz|hz
    . exact h.siz z hz
    . simp at hz;subst hz;exact hs
theorem Vt {t:Tsk} {sg:Nat->Nat->ByteArray} {zs:Zs} {x y:Pn} (d:fitB t sg zs x y=true) (hz:Gz t zs):szT t x.1=szT t y.1:=by
  unfold fitB at d
  split at d
  . cases d
  . split at d
    . obtain ⟨a,hz',e1,e2⟩:=JR (by omega:¬ Vf zs x.1 < 0)
      have c:Vf zs x.1=(y.1:Int):=by simpa using d
      have b:a.2.1=y.1:=by omega
      rw [<- e1,<- b]
      exact hz.siz a hz'
    . simp at d;exact d.2
theorem Gz.fit {t:Tsk} {sg:Nat->Nat->ByteArray} {zs:Zs} {x y:Pn} (c:Gz t zs) (a:(allP t)[zs.length]?=some x) (b:InP t y) (hf:fitB t sg zs x y=true):Nw zs x y/\Gz t (zs ++ [(x,y)]):=by
  have hn:=WZ hf (c.fresh a) c.var
  exact ⟨hn,c.snoc a b hn (Vt hf c)⟩
abbrev Rs:=Option Swp×Nat×Bool
def noX:Swp:=⟨[],[],[]⟩
def goL (M:Nat) (fit:Pn->Bool) (sub:Pn->Nat->Rs):List Pn->Nat->Rs
  | [],s=>(none,s,false)
  | y :: r,s=>if fit y=true then (if M<=s then (none,s,true) else if (sub y (s + 1)).1.isSome=true\/(sub y (s + 1)).2.2=true then sub y (s + 1) else goL M fit sub r (sub y (s + 1)).2.1) else goL M fit sub r s
section
variable (t : Tsk) (sg : Nat → Nat → ByteArray) (leaf : Zs → Option Swp) (M : Nat)
def xAt (zs:Zs):Pn:=((allP t)[zs.length]?).getD (0,0)
def ext:Nat->Zs->Nat->Rs
  | 0,zs,s=>(leaf zs,s,false)
  | d + 1,zs,s=>goL M (fitB t sg zs (xAt t zs)) (λ y s=>ext d (zs ++ [(xAt t zs,y)]) s) (allP t) s
def stp (d:Nat) (zs:Zs) (y:Pn) (s:Nat):Rs:=if M<=s then (none,s,true) else ext t sg leaf M d (zs ++ [(xAt t zs,y)]) (s + 1)
end
section
variable {t : Tsk} {sg : Nat → Nat → ByteArray} {leaf : Zs → Option Swp} {M : Nat}
def ZU (t:Tsk) (sg:Nat->Nat->ByteArray) (M:Nat) (zs:Zs) (r:Rs):Swp×Bool×Fnd:=(r.1.getD noX,r.1.isSome,mkF t sg zs (r.2.1:Int) (M:Int) r.2.2)
def ZL (t:Tsk) (sg:Nat->Nat->ByteArray) (leaf:Zs->Option Swp):Prop:=∀ (a:MeT) (zs:Zs) (s M:Nat),Gz t zs->zs.length=(allP t).length->FI a (mkF t sg zs (s:Int) (M:Int) false) (zs.length:Int)=some (ZU t sg M zs (leaf zs,s,false))
theorem JS {zs:Zs} {s M:Int} {fl:Bool} {k:Nat} {x:Pn} (a:(allP t)[k]?=some x):atI (mkF t sg zs s M fl).list (k:Int)=some (fc x):=by
  show atI ((allP t).map fc) (k:Int)=_
  rw [Bd,I4,a];rfl
theorem Gf {zs:Zs} (a:zs.length < (allP t).length):(allP t)[zs.length]?=some (xAt t zs):=by
  unfold xAt
  rw [C4 a];rfl
theorem Qs {zs:Zs} (a:zs.length < (allP t).length):InP t (xAt t zs):=Cd.1 (F9 (Gf a))
theorem RX (i:M<=1048576) (hn:(allP t).length<=4096) {d c:Nat} (g:∀ (zs:Zs) (s:Nat),Gz t zs->zs.length + d=(allP t).length->FI (mxE c) (mkF t sg zs (s:Int) (M:Int) false) (zs.length:Int)=some (ZU t sg M zs (ext t sg leaf M d zs s)))
    {zs:Zs} {y:Pn} {s:Nat} (hz:Gz t zs) (hl:zs.length + (d + 1)=(allP t).length) (e:InP t y) (hf:fitB t sg zs (xAt t zs) y=true) :
    GK (mxE (c + 1)) (mkF t sg zs (s:Int) (M:Int) false) (zs.length:Int) (fc y)=some (ZU t sg M zs (stp t sg leaf M d zs y s)):=by
  have hlt:zs.length < (allP t).length:=by omega
  obtain ⟨a,hg⟩:=hz.fit (Gf hlt) e hf
  unfold GK stp
  by_cases hs:M<=s
  . rw [if_pos (show (mkF t sg zs (s:Int) (M:Int) false).most<=(mkF t sg zs (s:Int) (M:Int) false).steps from by show (M:Int)<=(s:Int);omega),if_pos hs]
    rfl
  . rw [if_neg (show ¬ (mkF t sg zs (s:Int) (M:Int) false).most<=(mkF t sg zs (s:Int) (M:Int) false).steps from by show ¬ (M:Int)<=(s:Int);omega),if_neg hs]
    have h:Q1 ((mkF t sg zs (s:Int) (M:Int) false).steps + 1)=some (((s + 1:Nat)):Int):=by
      show Q1 ((s:Int) + 1)=_
      rw [BZ (by unfold P9;omega)];rfl
    rw [h,Ar,JS (Gf hlt),Ar]
    have f:=OP (t:=t) (sg:=sg) (s:=((s + 1:Nat):Int)) (M:=(M:Int)) (fl:=false) (Qs hlt) e a
    unfold mkF at f
    simp only [mkF]
    simp only [swF] at f ⊢
    rw [f,Ar]
    rw [BZ (by unfold P9;omega),Ar]
    have b:=g (zs ++ [(xAt t zs,y)]) (s + 1) hg (by simp;omega)
    rw [show ((zs ++ [(xAt t zs,y)]).length:Int)=(zs.length:Int) + 1 from by simp] at b
    unfold mkF at b
    simp only [swF] at b
    show (bnd (FI (mxE c) _ _) _)=_
    rw [b,Ar]
    generalize ext t sg leaf M d (zs ++ [(xAt t zs,y)]) (s + 1)=r
    unfold ZU
    simp only []
    rw [JS (Gf hlt),Ar,Ol (Qs hlt) e a rfl,Ar]
noncomputable def AaP (h:MeT) (g:Int):Nat->Fct->Fnd->Option (Ctl Fnd (Swp×Bool×Fnd)):=λ (_:Nat) (c:Fct) (b:Fnd)=>bnd (atI b.list g) λ e=>bnd (CC b e c) λ f=>if f=true then bnd (GK h b g c) λ a=>bnd (if a.2.1=true then (some (true,true)) else (some (false,a.2.2.full)):Option (Bool×Bool)) λ d=>if d.2=true then (some (.ret (a.1,d.1,a.2.2))) else (some (.next a.2.2)) else some (.next b)
def Abn (t:Tsk) (sg:Nat->Nat->ByteArray) (M:Nat) (zs:Zs) (r:Rs):Fin Fnd (Swp×Bool×Fnd):=if r.1.isSome=true\/r.2.2=true then .ret (ZU t sg M zs r) else .done (mkF t sg zs (r.2.1:Int) (M:Int) false)
theorem Qt (c:TaskOk t) {d:MeT} {zs:Zs} (hlt:zs.length < (allP t).length) {sub:Pn→Nat→Rs} (e:∀ (y:Pn) (s:Nat),InP t y→fitB t sg zs (xAt t zs) y=true→GK d (mkF t sg zs (s:Int) (M:Int) false) (zs.length:Int) (fc y)=some (ZU t sg M zs (if M≤s then (none,s,true) else sub y (s + 1)))) :
    ∀ (l:List Pn) (k s:Nat),(∀ y∈l,InP t y)->rng (AaP d (zs.length:Int)) (l.map fc) k (mkF t sg zs (s:Int) (M:Int) false)=some (Abn t sg M zs (goL M (fitB t sg zs (xAt t zs)) sub l s))
  | [],k,s,_=>rfl
  | y :: l, k,s,hl=>by
    have i:=hl y H8
    have j:=Qt c hlt e l (k + 1)
    rw [M7]
    unfold rng goL
    have m:AaP d (zs.length:Int) k (fc y) (mkF t sg zs (s:Int) (M:Int) false)=(if fitB t sg zs (xAt t zs) y=true then bnd (GK d (mkF t sg zs (s:Int) (M:Int) false) (zs.length:Int) (fc y)) λ a=>bnd (if a.2.1=true then (some (true,true)) else (some (false,a.2.2.full)):Option (Bool×Bool)) λ b=>if b.2=true then (some (.ret (a.1,b.1,a.2.2))) else (some (.next a.2.2)) else some (.next (mkF t sg zs (s:Int) (M:Int) false))):=by
      unfold AaP
      rw [JS (Gf hlt),Ar,RW c (Qs hlt) i,Ar]
    rw [m]
    by_cases hf:fitB t sg zs (xAt t zs) y=true
    . rw [if_pos hf,if_pos hf,e y s i hf,Ar]
      by_cases f:M<=s
      . rw [if_pos f,if_pos f]
        rfl
      . rw [if_neg f,if_neg f]
        rcases hr:sub y (s + 1) with ⟨o,g,fl⟩
        cases o with
        | some w=>rfl
        | none =>
          cases fl with
          | true=>rfl
          | false =>
            show rng (AaP d (zs.length:Int)) (l.map fc) (k + 1) (mkF t sg zs (g:Int) (M:Int) false)=some (Abn t sg M zs (goL M (fitB t sg zs (xAt t zs)) sub l g))
            exact j g λ q h=>hl q (F8 _ h)
    . rw [if_neg hf,if_neg hf]
      exact j s λ q h=>hl q (F8 _ h)
theorem TW (a:TaskOk t) (g:ZL t sg leaf) (i:M<=1048576) (hn:(allP t).length<=4096):∀ (d b:Nat),d<=b->∀ (zs:Zs) (s:Nat),Gz t zs->zs.length + d=(allP t).length->FI (mxE b) (mkF t sg zs (s:Int) (M:Int) false) (zs.length:Int)=some (ZU t sg M zs (ext t sg leaf M d zs s))
  | 0,b,_,zs,s,hz,hl=>g _ zs s M hz (by omega)
  | d + 1,0,h,_,_,_,_=>absurd h (by omega)
  | d + 1,b + 1,h,zs,s,hz,hl=>by
    have hlt:zs.length < (allP t).length:=by omega
    have j:=TW a g i hn d b (by omega)
    unfold FI ext
    have e:(mkF t sg zs (s:Int) (M:Int) false).list.length=(allP t).length:=L7 ..
    rw [if_neg (by rw [e];omega)]
    have c:=Qt (sub:=λ y s=>ext t sg leaf M d (zs ++ [(xAt t zs,y)]) s) a hlt (λ y s f hf=>RX i hn j hz (by omega) f hf) (allP t) 0 s λ y f=>Cd.1 f
    unfold AaP at c
    show bnd (rng _ ((allP t).map fc) 0 (mkF t sg zs (s:Int) (M:Int) false)) _=_
    rw [c,Ar]
    generalize goL M (fitB t sg zs (xAt t zs)) (λ y s=>ext t sg leaf M d (zs ++ [(xAt t zs,y)]) s) (allP t) s=r
    obtain ⟨o,s',fl⟩:=r
    unfold Abn
    cases o with
    | some w=>rfl
    | none=>cases fl<;>rfl
theorem Xa (a:TaskOk t) (e:ZL t sg leaf) (c:M<=1048576) (hn:(allP t).length<=4096) {d:Nat} {zs:Zs} {y:Pn} {s:Nat} (hz:Gz t zs) (hl:zs.length + (d + 1)=(allP t).length) (f:InP t y) (hf:fitB t sg zs (xAt t zs) y=true) :
    Dv (mkF t sg zs (s:Int) (M:Int) false) (zs.length:Int) (fc y)=some (ZU t sg M zs (stp t sg leaf M d zs y s)):=by
  have b:(mkF t sg zs (s:Int) (M:Int) false).list.length=(allP t).length:=L7 ..
  unfold Dv
  rw [b]
  exact RX c hn (λ zs s hz hl=>TW a e c hn d _ (by omega) zs s hz hl) hz hl f hf
end
end
section
section
variable {α σ ρ β : Type}
theorem LT {f:σ->Option (Ctl σ ρ)} (I:σ->Prop) (B:σ->Prop) (R:ρ->Prop) (μ:σ->Nat) (e:∀ s,I s->(∃ a,f s=some (.next a)/\I a/\μ a < μ s)\/(∃ a,f s=some (.brk a)/\B a)\/∃ r,f s=some (.ret r)/\R r) :
    ∀ s,I s->(∃ a,lop f s=some (.done a)/\B a)\/∃ r,lop f s=some (.ret r)/\R r:=by
  have b:∀ (n:Nat) s,I s->μ s < n->(∃ a,lop f s=some (.done a)/\B a)\/∃ r,lop f s=some (.ret r)/\R r:=by
    intro n
    induction n with
    | zero=>intro s _ hn;omega
    | succ n d =>
      intro s c hn
      rw [Dj]
      rcases e s c with ⟨a,h1,h2,h3⟩|⟨a,h1,h2⟩|⟨r,h1,h2⟩
      . rw [h1];exact d a h2 (by omega)
      . rw [h1];exact .inl ⟨a,rfl,h2⟩
      . rw [h1];exact .inr ⟨r,rfl,h2⟩
  exact λ s c=>b (μ s + 1) s c (by omega)
theorem NE {f:σ->Option (Ctl σ ρ)} {s₀:σ} {k:Fin σ ρ->Option β} {P:β->Prop} (I:σ->Prop) (B:σ->Prop) (R:ρ->Prop) (μ:σ->Nat) (b:I s₀)
    (c:∀ s,I s->(∃ a,f s=some (.next a)/\I a/\μ a < μ s)\/(∃ a,f s=some (.brk a)/\B a)\/∃ r,f s=some (.ret r)/\R r)
    (hb:∀ s,B s->∃ r,k (.done s)=some r/\P r) (hr:∀ q,R q->∃ r,k (.ret q)=some r/\P r):∃ r,bnd (lop f s₀) k=some r/\P r:=by
  rcases LT I B R μ c s₀ b with ⟨s,h1,h2⟩|⟨q,h1,h2⟩
  . rw [h1,Ar];exact hb s h2
  . rw [h1,Ar];exact hr q h2
theorem RY {f:σ->Option (Ctl σ ρ)} {s₀:σ} {k:Fin σ ρ->Option β} {r:Option β} (I:σ->Prop) (B:σ->Prop) (μ:σ->Nat) (b:I s₀)
    (d:∀ s,I s->(∃ a,f s=some (.next a)/\I a/\μ a < μ s)\/(∃ a,f s=some (.brk a)/\B a)) (hb:∀ s,B s->k (.done s)=r):bnd (lop f s₀) k=r:=by
  rcases LT I B (λ _=>False) μ (λ s c=>(d s c).imp id .inl) s₀ b with ⟨s,h1,h2⟩|⟨q,_,h2⟩
  . rw [h1,Ar];exact hb s h2
  . exact h2.elim
theorem TX {f:Nat→α→σ→Option (Ctl σ ρ)} {xs:List α} {s₀:σ} {k:Fin σ ρ→Option β} {P:β→Prop} (I:Nat→σ→Prop) (R:ρ→Prop) (e:I 0 s₀)
    (l:∀ i x s,xs[i]?=some x->I i s->(∃ a,f i x s=some (.next a)/\I (i + 1) a)\/∃ q,f i x s=some (.ret q)/\R q)
    (hb:∀ s,I xs.length s->∃ r,k (.done s)=some r/\P r) (hr:∀ q,R q->∃ r,k (.ret q)=some r/\P r):∃ r,bnd (rng f xs 0 s₀) k=some r/\P r:=by
  have b:∀ (ys:List α) (j:Nat) (s:σ),(∀ i,ys[i]?=xs[j + i]?)->j + ys.length=xs.length->I j s->∃ r,bnd (rng f ys j s) k=some r/\P r:=by
    intro ys
    induction ys with
    | nil=>intro j s _ hl c;exact hb s (by simp at hl;rw [<- hl];exact c)
    | cons y ys g =>
      intro j s d hl c
      have h:xs[j]?=some y:=by have:=d 0;simpa using this.symm
      simp only [rng]
      rcases l j y s h c with ⟨a,h1,h2⟩|⟨q,h1,h2⟩
      . rw [h1]
        exact g (j + 1) a (λ i=>by have:=d (i + 1);rw [show j + 1 + i=j + (i + 1) from by omega,<- this];simp) (by simp at hl;omega) h2
      . rw [h1,Ar];exact hr q h2
  exact b xs 0 s₀ (λ i=>by rw [N4]) (by omega) e
theorem Xb {f:Nat->α->σ->Option (Ctl σ ρ)} {xs:List α} {s₀:σ} {k:Fin σ ρ->Option β} {r:Option β} (I:Nat->σ->Prop) (b:I 0 s₀)
    (c:∀ i x s,xs[i]?=some x->I i s->∃ a,f i x s=some (.next a)/\I (i + 1) a) (hb:∀ s,I xs.length s->k (.done s)=r):bnd (rng f xs 0 s₀) k=r:=by
  obtain ⟨s,h1,h2⟩:=Dw I b c
  rw [h1,Ar]
  exact hb s h2
end
end
section
open Go Go.RowKit
def imQ (g:Swp) (p:Pn):Pn:=((imF g (fc p)).var.toNat,(imF g (fc p)).val.toNat)
theorem InP.ok {t:Tsk} {p:Pn} (a:TaskOk t) (b:InP t p):R1 t.vars (fc p):=by
  refine ⟨by simp [fc],by simp [fc],(szT t p.1:Int),?_,?_⟩
  . show t.vars[((p.1:Nat):Int).toNat]?=_
    rw [show ((p.1:Nat):Int).toNat=p.1 from by omega]
    exact Ge a b.1
  . have:=b.2
    show ((p.2:Nat):Int) < _
    omega
theorem Qu {t:Tsk} {g:Swp} {p:Pn} (a:TaskOk t) (d:Q0 t g) (e:InP t p):∃ l,atI g.vars (p.1:Int)=some ((imQ g p).1:Int)/\atI g.vals (p.1:Int)=some l/\atI l (p.2:Int)=some ((imQ g p).2:Int)/\imF g (fc p)=fc (imQ g p):=by
  obtain ⟨l,h1,h2,h3,h4,h5⟩:=Lo d (e.ok a)
  have b:((imQ g p).1:Int)=(imF g (fc p)).var:=by unfold imQ;simp;omega
  have c:((imQ g p).2:Int)=(imF g (fc p)).val:=by unfold imQ;simp;omega
  refine ⟨l,by rw [b];exact h1,h2,by rw [c];exact h3,?_⟩
  unfold fc at *
  rw [b,c]
theorem Gg {t:Tsk} {g:Swp} {p:Pn} (b:TaskOk t) (e:Q0 t g) (j:InP t p):∃ l:List Int,g.vars[p.1]?=some ((imQ g p).1:Int)/\g.vals[p.1]?=some l/\l[p.2]?=some ((imQ g p).2:Int)/\PermR l (szT t p.1)/\szT t (imQ g p).1=szT t p.1/\(imQ g p).1 < t.vars.length:=by
  obtain ⟨l,h1,h2,h3,_⟩:=Qu b e j
  rw [Bd] at h1 h2 h3
  obtain ⟨n,a,l',f,c,d,h,q5⟩:=e.2.2 p.1 j.1
  rw [h1] at c
  rw [h2] at d
  injection c with c
  injection d with d
  subst c;subst d
  have hn:=Ge b j.1
  rw [hn] at f
  injection f with f
  have hlt:(imQ g p).1 < t.vars.length:=by
    have:=e.1.mem (F9 h1)
    omega
  have hm:=Ge b hlt
  rw [Bd,hm] at h
  injection h with h
  have i:szT t p.1=n:=by omega
  exact ⟨l,h1,h2,h3,by rw [i];exact q5,by omega,hlt⟩
theorem Gr {t:Tsk} {g:Swp} {p:Pn} (a:TaskOk t) (b:Q0 t g) (c:InP t p):InP t (imQ g p):=by
  obtain ⟨l,_,_,h3,h4,h5,h6⟩:=Gg a b c
  refine ⟨h6,?_⟩
  have:=h4.mem (F9 h3)
  rw [h5]
  omega
theorem LU {t:Tsk} {g:Swp} {p q:Pn} (c:TaskOk t) (d:Q0 t g) (j:InP t p) (h:InP t q):p.1=q.1↔(imQ g p).1=(imQ g q).1:=by
  obtain ⟨l,b,_⟩:=Gg c d j
  obtain ⟨i,a,_⟩:=Gg c d h
  constructor
  . intro e
    rw [e,a] at b
    injection b with b
    omega
  . intro e
    have hn:=d.1.nodup
    rw [B5,C0] at hn
    have l1:=AD b
    have f:=AD a
    rw [C4 l1] at b
    rw [C4 f] at a
    injection b with b
    injection a with a
    rcases J0 p.1 q.1 with hlt|heq|hgt
    . exact absurd (by rw [b,a,e]) (hn p.1 q.1 l1 f hlt)
    . exact heq
    . exact absurd (by rw [b,a,e]) (hn q.1 p.1 f l1 hgt)
theorem LV {t:Tsk} {g:Swp} {p q:Pn} (h:TaskOk t) (k:Q0 t g) (s:InP t p) (n:InP t q) (e:imQ g p=imQ g q):p=q:=by
  have hv:=(LU h k s n).2 (by rw [e])
  obtain ⟨l,_,j,i,h4,_⟩:=Gg h k s
  obtain ⟨r,_,h2',f,_⟩:=Gg h k n
  rw [hv,h2'] at j
  injection j with j
  subst j
  have hn:=h4.nodup
  rw [B5,C0] at hn
  have l1:=AD i
  have m:=AD f
  rw [C4 l1] at i
  rw [C4 m] at f
  injection i with i
  injection f with f
  have o:p.2=q.2:=by
    rcases J0 p.2 q.2 with hlt|heq|hgt
    . exact absurd (by rw [i,f,e]) (hn p.2 q.2 l1 m hlt)
    . exact heq
    . exact absurd (by rw [i,f,e]) (hn q.2 p.2 m l1 hgt)
  obtain ⟨a,b⟩:=p
  obtain ⟨c,d⟩:=q
  simp at hv o
  rw [hv,o]
inductive Reach (gens:List Swp) (x:Pn):Pn->Prop
  | one:Reach gens x x
  | step {y:Pn} {g:Swp}:Reach gens x y->g∈gens->Reach gens x (imQ g y)
section
variable {V : Type}
theorem Jp (z:V):∀ (l:List (Fct×V)) (k a:Fct) (v:V),fget z (fput l k v) a=if k=a then v else fget z l a
  | [],k,a,v=>by simp [fput,fget]
  | p :: r,k,a,v=>by
    by_cases d:p.1=k
    . subst d
      by_cases b:p.1=a<;>simp [fput,fget,b]
    . have c:=Jp z r k a v
      by_cases b:p.1=a
      . have:¬ k=a:=λ e=>d (b.trans e.symm)
        rw [fput,if_neg d,fget,if_pos b,fget,if_pos b,if_neg this]
      . simp [fput,fget,d,b,c]
end
theorem Y2 {α:Type}:∀ {l₁ l₂:List α},l₁.Nodup->(∀ x∈l₁,x∈l₂)->l₁.length<=l₂.length
  | [],_,_,_=>P4 _
  | x :: l₁,l₂,hn,hs=>by
    obtain ⟨d,h2⟩:=M3.1 hn
    obtain ⟨a,b,rfl⟩:=List.append_of_mem (hs x H8)
    have:=Y2 (l₂:=a ++ b) h2 λ y c=>by
      have h3:=hs y (F8 _ c)
      rw [K9,M8] at h3
      rcases h3 with h3|h3|h3
      . exact K9.2 (.inl h3)
      . exact absurd (h3 ▸ c) d
      . exact K9.2 (.inr h3)
    simp at this ⊢
    omega
structure OrS (t:Tsk) (gens:List Swp) (x:Pn) (l:List Fct) (m:MapF Bool) (ps:List Pn):Prop where
  list:l=ps.map fc
  nodup:ps.Nodup
  inp:∀ p∈ps,InP t p
  self:x∈ps
  map:∀ p,fget false m.l (fc p)=true↔p∈ps
  rch:∀ p∈ps,Reach gens x p
theorem OrS.len {t:Tsk} {a:List Swp} {x:Pn} {l:List Fct} {m:MapF Bool} {ps:List Pn} (c:OrS t a x l m ps):ps.length<=(allP t).length:=Y2 c.nodup λ p b=>Cd.2 (c.inp p b)
theorem Xc      {t:Tsk} (hok:TaskOk t) {gens:List Swp} (hg:∀ g∈gens,Q0 t g) {x:Pn} (hx:InP t x) (hn:(allP t).length≤4096):∃ r,Ez gens (fc x)=some r∧∀ p,fget false r.l (fc p)=true↔Reach gens x p:=by
  unfold Ez
  refine NE (I:=λ s=>∃ (ps:List Pn) (i:Nat),OrS t gens x s.1 s.2.2 ps/\s.2.1=(i:Int)/\i<=ps.length/\∀ (j:Nat) p,j < i->ps[j]?=some p->∀ g∈gens,imQ g p∈ps) (B:=λ s=>∃ ps,OrS t gens x s.1 s.2.2 ps/\∀ p∈ps,∀ g∈gens,imQ g p∈ps) (R:=λ _=>False) (μ:=λ s=>(allP t).length + 1 - s.2.1.toNat) ?_ ?_ ?_ ?_
  . refine ⟨[x],0,⟨rfl,by simp,by simpa using hx,by simp,λ p=>?_,by simpa using Reach.one⟩,rfl,by omega,λ j p hj=>by omega⟩
    show fget false (fput [] (fc x) true) (fc p)=true↔_
    rw [Jp]
    by_cases h:fc x=fc p
    . rw [if_pos h,JP h];simp
    . rw [if_neg h]
      have:¬ p=x:=λ e=>h (by rw [e])
      simp [fget,this]
  . rintro ⟨l,iI,m⟩ ⟨ps,i,h,e,hi,hcl⟩
    simp only at e h ⊢
    subst e
    have hpl:=h.len
    by_cases hlt:(i:Int) < (l.length:Int)
    . rw [if_pos hlt]
      left
      have hll:l.length=ps.length:=by rw [h.list,L7]
      obtain ⟨p,hp⟩:=AG (l:=ps) (k:=i) (by omega)
      have hpin:=h.inp p (F9 hp)
      obtain ⟨s', h1,h2⟩:=Dw (ρ:=Ctl ((List Fct)×Int×(MapF Bool)) (MapF Bool)) (f:=λ (_:Nat) (a61:Swp) (s58:(List Fct)×(MapF Bool))=>bnd (atI s58.1 (i:Int)) λ a103=>bnd (atI a61.vars a103.var) λ a116=>bnd (atI s58.1 (i:Int)) λ a128=>bnd (atI a61.vals a128.var) λ a141=>bnd (atI s58.1 (i:Int)) λ a156=>bnd (atI a141 a156.val) λ a169=>if (!(fget false s58.2.l (⟨a116,a169⟩:Fct)))=true then (bnd (R8 16 s58.1 [(⟨a116,a169⟩:Fct)]) λ u196=>some (.next (u196,(⟨fput s58.2.l (⟨a116,a169⟩:Fct) true⟩:MapF Bool)))) else (some (.next (s58.1,s58.2)))) (xs:=gens) (s₀:=(l,m))
        (λ k s=>∃ qs,OrS t gens x s.1 s.2 (ps ++ qs)/\∀ (j:Nat) g,j < k->gens[j]?=some g->imQ g p∈ps ++ qs) ⟨[],by simpa using h,λ j g hj=>by omega⟩ (λ k g s hgk ⟨qs,hs,hc⟩=>by
          have hgm:=F9 hgk
          have hpq:(ps ++ qs)[i]?=some p:=by rw [B8 (AD hp)];exact hp
          have hat:atI s.1 (i:Int)=some (fc p):=by rw [hs.list,Bd,I4,hpq];rfl
          obtain ⟨l',q1,q2,q3,q4⟩:=Qu hok (hg g hgm) hpin
          rw [hat,Ar,show atI g.vars (fc p).var=_ from q1,Ar,Ar,show atI g.vals (fc p).var=_ from q2,Ar,Ar,show atI l' (fc p).val=_ from q3,Ar]
          have hfe:(⟨((imQ g p).1:Int),((imQ g p).2:Int)⟩:Fct)=fc (imQ g p):=rfl
          rw [hfe]
          cases hb:fget false s.2.l (fc (imQ g p)) with
          | true =>
            refine ⟨_,rfl,qs,hs,λ j g' hj hg'=>?_⟩
            by_cases hjk:j=k
            . subst hjk
              rw [hgk] at hg'
              injection hg' with hg'
              rw [<- hg']
              exact (hs.map _).1 hb
            . exact hc j g' (by omega) hg'
          | false =>
            have hnot:imQ g p ∉ ps ++ qs:=λ e=>by rw [(hs.map _).2 e] at hb;cases hb
            have hlen:=hs.len
            have hl1:s.1.length=(ps ++ qs).length:=by rw [hs.list,L7]
            rw [Cu (by simp;omega) (by simp;omega),Ar]
            refine ⟨_,rfl,qs ++ [imQ g p],?_,λ j g' hj hg'=>?_⟩
            . rw [<- I1]
              refine ⟨by rw [hs.list];simp,?_,?_,K9.2 (.inl hs.self),λ q=>?_,?_⟩
              . rw [I8]
                exact ⟨hs.nodup,by simp,λ a ha b hb e=>hnot (by simp at hb;rw [<- hb,<- e];exact ha)⟩
              . intro q hq
                rcases K9.1 hq with hq|hq
                . exact hs.inp q hq
                . simp at hq;subst hq;exact Gr hok (hg g hgm) hpin
              . show fget false (fput s.2.l (fc (imQ g p)) true) (fc q)=true↔_
                rw [Jp]
                by_cases hq:fc (imQ g p)=fc q
                . rw [if_pos hq,JP hq];simp
                . rw [if_neg hq,hs.map,K9]
                  have:¬ q=imQ g p:=λ e=>hq (by rw [e])
                  simp [this]
              . intro q hq
                rcases K9.1 hq with hq|hq
                . exact hs.rch q hq
                . simp at hq;subst hq
                  exact .step (hs.rch p (F9 hpq)) hgm
            . rw [<- I1]
              by_cases hjk:j=k
              . subst hjk
                rw [hgk] at hg'
                injection hg' with hg'
                rw [<- hg']
                simp
              . exact K9.2 (.inl (hc j g' (by omega) hg')))
      rw [h1,Ar,BB,BZ (by unfold P9;omega),Ar]
      obtain ⟨qs,hs,hc⟩:=h2
      refine ⟨_,rfl,⟨ps ++ qs,i + 1,hs,rfl,by rw [H2];omega,λ j q hj hq g hgm=>?_⟩,?_⟩
      . by_cases hji:j=i
        . subst hji
          rw [B8 (AD hp),hp] at hq
          injection hq with hq
          subst hq
          obtain ⟨z,hz⟩:=G3 hgm
          exact hc z g (AD hz) hz
        . rw [B8 (by omega)] at hq
          exact K9.2 (.inl (hcl j q (by omega) hq g hgm))
      . simp only [I9]
        have:((i:Int) + 1).toNat=i + 1:=by omega
        rw [this]
        omega
    . rw [if_neg hlt]
      have hll:l.length=ps.length:=by rw [h.list,L7]
      refine .inr (.inl ⟨_,rfl,ps,h,λ p hp g hgm=>?_⟩)
      obtain ⟨j,hj⟩:=G3 hp
      exact hcl j p (by have:=AD hj;omega) hj g hgm
  . rintro ⟨l,iI,m⟩ ⟨ps,h,hcl⟩
    rw [BB]
    refine ⟨_,rfl,λ p=>⟨λ hp=>h.rch p ((h.map p).1 hp),λ hr=>(h.map p).2 ?_⟩⟩
    induction hr with
    | one=>exact h.self
    | step _ hgm ih=>exact hcl _ ih _ hgm
  . exact λ _ h=>h.elim
end
section
open Go Go.RowKit
def idz (t:Tsk) (k:Nat):Zs:=((allP t).take k).map λ x=>(x,x)
theorem Hq {t:Tsk} {k:Nat} (a:k<=(allP t).length):(idz t k).length=k:=by unfold idz;simp;omega
theorem MF {t:Tsk} {k:Nat} {x:Pn} (a:(allP t)[k]?=some x):idz t (k + 1)=idz t k ++ [(x,x)]:=by
  unfold idz
  rw [I6,a,L9];rfl
theorem JT {t:Tsk} {k:Nat} {z:Pn×Pn} (a:z∈idz t k):z.1=z.2/\z.1∈(allP t).take k:=by
  obtain ⟨x,hx,rfl⟩:=N8.1 a
  exact ⟨rfl,hx⟩
theorem LW {t:Tsk}:∀ {k:Nat},k<=(allP t).length->Gz t (idz t k)
  | 0,_=>Gz.nil t
  | k + 1,h=>by
    have hlt:k < (allP t).length:=by omega
    have a:=C4 hlt
    have b:=LW (t:=t) (k:=k) (by omega)
    have hl:=Hq (t:=t) (k:=k) (by omega)
    rw [MF a]
    refine b.snoc (by rw [hl];exact a) (Cd.1 (F9 a)) ⟨b.fresh (by rw [hl];exact a),λ z hz e=>?_,λ z hz=>?_⟩ rfl
    . have:=(JT hz).1
      exact b.fresh (by rw [hl];exact a) z hz (this.trans e)
    . rw [(JT hz).1]
theorem SR {t:Tsk} {k:Nat} {x:Pn} (a:(allP t)[k]?=some x):Nw (idz t k) x x:=by
  have hlt:=AD a
  have b:=LW (t:=t) (k:=k) (by omega)
  have hl:=Hq (t:=t) (k:=k) (by omega)
  refine ⟨b.fresh (by rw [hl];exact a),λ z hz e=>?_,λ z hz=>?_⟩
  . exact b.fresh (by rw [hl];exact a) z hz ((JT hz).1.trans e)
  . rw [(JT hz).1]
theorem Vu (t:Tsk):(allP t).Pairwise λ p q=>p.1 < q.1\/p.1=q.1/\p.2 < q.2:=by
  unfold allP
  rw [List.pairwise_flatMap]
  refine ⟨λ v _=>?_,?_⟩
  . rw [J2]
    exact List.pairwise_lt_range.imp λ e=>.inr ⟨rfl,e⟩
  . refine List.pairwise_lt_range.imp λ {a b} e p c q d=>?_
    obtain ⟨_,_,rfl⟩:=N8.1 c
    obtain ⟨_,_,rfl⟩:=N8.1 d
    exact .inl e
theorem TY {t:Tsk} {k:Nat} {x:Pn} (l:(allP t)[k]?=some x):Vf (idz t k) x.1 < 0↔x.2=0:=by
  have hlt:=AD l
  have d:(allP t)[k]=x:=by rw [C4 hlt] at l;injection l
  have c:=C0.1 (Vu t)
  rw [JQ]
  constructor
  . intro h
    refine B9 λ o=>?_
    have g:=Cd.1 (F9 l)
    have m:(x.1,x.2 - 1)∈allP t:=Cd.2 ⟨g.1,by have:=g.2;show x.2 - 1 < szT t x.1;omega⟩
    obtain ⟨j,hj⟩:=G3 m
    have a:=AD hj
    have b:(allP t)[j]=(x.1,x.2 - 1):=by rw [C4 a] at hj;injection hj
    have f:j < k:=by
      rcases J0 j k with h|h|h
      . exact h
      . subst h
        rw [d] at b
        have:=congrArg Prod.snd b
        simp at this
        omega
      . have:=c k j hlt a h
        rw [d,b] at this
        have n:¬ (x.1 < x.1\/x.1=x.1/\x.2 < x.2 - 1):=by omega
        exact absurd this n
    exact h ((x.1,x.2 - 1),(x.1,x.2 - 1)) (N8.2 ⟨_,F9 (i:=j) (by rw [H4,if_pos f];exact hj),rfl⟩) rfl
  . intro h z hz e
    obtain ⟨_,hm⟩:=JT hz
    obtain ⟨j,hj⟩:=G3 hm
    rw [H4] at hj
    split at hj
    . rename_i f
      have a:=AD hj
      have b:(allP t)[j]=z.1:=by rw [C4 a] at hj;injection hj
      have:=c j k a hlt f
      rw [d,b] at this
      omega
    . cases hj
section
variable (t : Tsk) (sg : Nat → Nat → ByteArray) (leaf : Zs → Option Swp) (M : Nat)
def Abu (g:List Swp):Option Swp->List Swp
  | some w=>g ++ [w]
  | none=>g
noncomputable def levL (i:Nat) (x:Pn):List Pn->List Swp->Nat->List Swp×Nat×Bool
  | [],g,s=>(g,s,false)
  | y :: r,g,s=>if fitB t sg (idz t i) x y=true∧bof (Reach g x y)=false then
      (if (stp t sg leaf M ((allP t).length - i - 1) (idz t i) y s).2.2=true then (Abu g (stp t sg leaf M ((allP t).length - i - 1) (idz t i) y s).1,(stp t sg leaf M ((allP t).length - i - 1) (idz t i) y s).2.1,true)
        else levL i x r (Abu g (stp t sg leaf M ((allP t).length - i - 1) (idz t i) y s).1) (stp t sg leaf M ((allP t).length - i - 1) (idz t i) y s).2.1)
    else levL i x r g s
noncomputable def V8:Nat->List Swp->Nat->List Swp×Nat×Bool
  | 0,g,s=>(g,s,false)
  | i + 1,g,s=>if (levL t sg leaf M i (((allP t)[i]?).getD (0,0)) (allP t) g s).2.2=true then ([],(levL t sg leaf M i (((allP t)[i]?).getD (0,0)) (allP t) g s).2.1,true)
    else V8 i (levL t sg leaf M i (((allP t)[i]?).getD (0,0)) (allP t) g s).1 (levL t sg leaf M i (((allP t)[i]?).getD (0,0)) (allP t) g s).2.1
end
section
variable {t : Tsk} {sg : Nat → Nat → ByteArray} {leaf : Zs → Option Swp} {M : Nat}
theorem MG {fit:Pn→Bool} {sub:Pn→Nat→Rs} (a:∀ y s,s≤(sub y s).2.1):∀ (l:List Pn) (s:Nat),s≤(goL M fit sub l s).2.1
  | [],s=>P1 _
  | y :: l,s=>by
    unfold goL
    split
    . split
      . exact P1 _
      . have:=a y (s + 1)
        split
        . omega
        . have:=MG (fit:=fit) a l (sub y (s + 1)).2.1
          omega
    . exact MG a l s
theorem Qv:∀ (d:Nat) (zs:Zs) (s:Nat),s<=(ext t sg leaf M d zs s).2.1
  | 0,_,_=>P1 _
  | d + 1,zs,s=>MG (λ y s=>Qv d _ s) _ s
theorem MH {fit:Pn→Bool} {sub:Pn→Nat→Rs} {w:Swp}:∀ (l:List Pn) (s:Nat),(goL M fit sub l s).1=some w→∃ y∈l,fit y=true∧∃ a,(sub y a).1=some w
  | [],_,b=>by cases b
  | y :: l,s,b=>by
    unfold goL at b
    split at b
    . rename_i hf
      split at b
      . cases b
      . split at b
        . exact ⟨y,H8,hf,_,b⟩
        . obtain ⟨z,h1,h2⟩:=MH l _ b
          exact ⟨z,F8 _ h1,h2⟩
    . obtain ⟨z,h1,h2⟩:=MH l _ b
      exact ⟨z,F8 _ h1,h2⟩
theorem Qw {w:Swp}:∀ (d:Nat) (zs:Zs) (s:Nat),Gz t zs->zs.length + d=(allP t).length->(ext t sg leaf M d zs s).1=some w->∃ ys,Gz t (zs ++ ys)/\(zs ++ ys).length=(allP t).length/\leaf (zs ++ ys)=some w
  | 0,zs,s,hz,hl,h=>⟨[],by simpa using hz,by simpa using hl,by rw [L4];exact h⟩
  | d + 1,zs,s,hz,hl,h=>by
    have hlt:zs.length < (allP t).length:=by omega
    obtain ⟨y,hy,hf,s',h1⟩:=MH _ _ h
    obtain ⟨_,hg⟩:=hz.fit (Gf hlt) (Cd.1 hy) hf
    obtain ⟨ys,h2,h3,h4⟩:=Qw d (zs ++ [(xAt t zs,y)]) s' hg (by simp;omega) h1
    rw [I1] at h2 h3 h4
    exact ⟨_,h2,h3,h4⟩
theorem Qx {w:Swp} {i:Nat} {y:Pn} {s:Nat} (hi:i < (allP t).length) (a:InP t y) (hf:fitB t sg (idz t i) (xAt t (idz t i)) y=true) (b:(stp t sg leaf M ((allP t).length - i - 1) (idz t i) y s).1=some w):∃ ys,Gz t (idz t i ++ (xAt t (idz t i),y) :: ys)/\(idz t i ++ (xAt t (idz t i),y) :: ys).length=(allP t).length/\leaf (idz t i ++ (xAt t (idz t i),y) :: ys)=some w:=by
  have hl:=Hq (t:=t) (k:=i) (by omega)
  unfold stp at b
  split at b
  . cases b
  . obtain ⟨_,hg⟩:=(LW (t:=t) (k:=i) (by omega)).fit (Gf (by omega)) a hf
    obtain ⟨ys,h2,h3,h4⟩:=Qw _ _ _ hg (by simp [hl];omega) b
    rw [I1] at h2 h3 h4
    exact ⟨ys,h2,h3,h4⟩
theorem Ii {i:Nat} (hi:i < (allP t).length):(allP t)[i]?=some (xAt t (idz t i)):=by
  have:=Gf (t:=t) (zs:=idz t i) (by rw [Hq (by omega)];exact hi)
  rwa [Hq (by omega)] at this
def Aao (t:Tsk) (leaf:Zs->Option Swp):Prop:=∀ zs w,Gz t zs->zs.length=(allP t).length->leaf zs=some w->Q0 t w
noncomputable def Aa3 (k:Int):Nat->Fct->(List Swp)×Fnd->Option (Ctl ((List Swp)×Fnd) ((List Swp)×Fnd)):=λ (_:Nat) (c:Fct) (a:(List Swp)×Fnd)=>bnd (bnd (atI a.2.list k) λ e=>bnd (CC a.2 e c) λ f=>if f=true then bnd (atI a.2.list k) λ g=>bnd (Ez a.1 g) λ h=>some (fget false h.l c) else some true:Option Bool) λ i=>if i=true then (some (.next (a.1,a.2))) else (bnd (Dv a.2 k c) λ b=>bnd (if b.2.1=true then (bnd (R8 72 a.1 [b.1]) λ j=>some j) else (some a.1):Option (List Swp)) λ d=>if b.2.2.full=true then (some (.brk (d,b.2.2))) else (some (.next (d,b.2.2))))
theorem IX (c:TaskOk t) (n:ZL t sg leaf) (p:Aao t leaf) (u:M≤1048576) (hn:(allP t).length≤4096) {i:Nat} (hi:i < (allP t).length) :
    ∀ (l:List Pn) (k:Nat) (g:List Swp) (s:Nat),(∀ y∈l,InP t y)->(∀ w∈g,Q0 t w)->g.length<=s ->
      (∀ w∈(levL t sg leaf M i (xAt t (idz t i)) l g s).1,Q0 t w)/\(levL t sg leaf M i (xAt t (idz t i)) l g s).1.length<=(levL t sg leaf M i (xAt t (idz t i)) l g s).2.1 /\
      rng (Aa3 (i:Int)) (l.map fc) k (g,mkF t sg (idz t i) (s:Int) (M:Int) false)=some (.done ((levL t sg leaf M i (xAt t (idz t i)) l g s).1,mkF t sg (idz t i) ((levL t sg leaf M i (xAt t (idz t i)) l g s).2.1:Int) (M:Int) (levL t sg leaf M i (xAt t (idz t i)) l g s).2.2))
  | [],k,g,s,_,hg,hs=>⟨hg,hs,rfl⟩
  | y :: l, k,g,s,hl,hg,hs=>by
    have B:=hl y H8
    have f:∀ q∈l,InP t q:=λ q I=>hl q (F8 _ I)
    have G:=Ii hi
    have j:InP t (xAt t (idz t i)):=Cd.1 (F9 G)
    have C:=Hq (t:=t) (k:=i) (by omega)
    have hz:=LW (t:=t) (k:=i) (by omega)
    obtain ⟨r,ho,hr⟩:=Xc c hg j hn
    have D:fget false r.l (fc y)=bof (Reach g (xAt t (idz t i)) y):=by
      by_cases h:Reach g (xAt t (idz t i)) y
      . rw [Bk h];exact (hr y).2 h
      . rw [AY h]
        cases hb:fget false r.l (fc y) with
        | true=>exact absurd ((hr y).1 hb) h
        | false=>rfl
    have J:Aa3 (i:Int) k (fc y) (g,mkF t sg (idz t i) (s:Int) (M:Int) false)=bnd (if fitB t sg (idz t i) (xAt t (idz t i)) y=true then some (bof (Reach g (xAt t (idz t i)) y)) else some true:Option Bool) λ v=>if v=true then (some (.next (g,mkF t sg (idz t i) (s:Int) (M:Int) false))) else (bnd (Dv (mkF t sg (idz t i) (s:Int) (M:Int) false) (i:Int) (fc y)) λ b=>bnd (if b.2.1=true then (bnd (R8 72 g [b.1]) λ x=>some x) else (some g):Option (List Swp)) λ m=>if b.2.2.full=true then (some (.brk (m,b.2.2))) else (some (.next (m,b.2.2)))):=by
      unfold Aa3
      simp only []
      rw [JS G,Ar,RW c j B,Ar,Ar,ho,Ar,D]
    rw [M7]
    unfold rng levL
    rw [J]
    by_cases hf:fitB t sg (idz t i) (xAt t (idz t i)) y=true
    . rw [if_pos hf,Ar]
      by_cases H:Reach g (xAt t (idz t i)) y
      . rw [Bk H,BS,if_neg (λ h=>by simp at h)]
        exact IX c n p u hn hi l (k + 1) g s f hg hs
      . rw [AY H,CA,if_pos ⟨hf,rfl⟩]
        have z:=Xa (d:=(allP t).length - i - 1) c n u hn hz (by omega) B (s:=s) hf
        rw [C] at z
        rw [z,Ar]
        have e:=λ w=>Qx (w:=w) (s:=s) (leaf:=leaf) (M:=M) (sg:=sg) hi B hf
        have a:s<=(stp t sg leaf M ((allP t).length - i - 1) (idz t i) y s).2.1/\((stp t sg leaf M ((allP t).length - i - 1) (idz t i) y s).1.isSome=true->s + 1<=(stp t sg leaf M ((allP t).length - i - 1) (idz t i) y s).2.1/\s < M):=by
          unfold stp
          split
          . exact ⟨P1 _,λ h=>by cases h⟩
          . have:=Qv (t:=t) (sg:=sg) (leaf:=leaf) (M:=M) ((allP t).length - i - 1) (idz t i ++ [(xAt t (idz t i),y)]) (s + 1)
            exact ⟨by omega,λ _=>⟨this,by omega⟩⟩
        generalize stp t sg leaf M ((allP t).length - i - 1) (idz t i) y s=q at e a ⊢
        obtain ⟨o,s',fl⟩:=q
        cases o with
        | none =>
          cases fl with
          | true=>exact ⟨hg,by have K:s<=s':=a.1;show g.length<=s';omega,rfl⟩
          | false=>exact IX c n p u hn hi l (k + 1) g s' f hg (by have K:s<=s':=a.1;omega)
        | some w =>
          obtain ⟨L,h2⟩:=a.2 rfl
          have N:s + 1<=s':=L
          obtain ⟨ys,hz1,hz2,hz3⟩:=e w rfl
          have A:∀ w'∈g ++ [w],Q0 t w':=λ w' E=>by
            rcases K9.1 E with h|h
            . exact hg w' h
            . simp at h;subst h;exact p _ _ hz1 hz2 hz3
          have F:R8 72 g [w]=some (g ++ [w]):=Cu (by simp;omega) (by simp;omega)
          have O:(ZU t sg M (idz t i) (some w,s',fl)).1=w:=rfl
          rw [if_pos (show (ZU t sg M (idz t i) (some w,s',fl)).2.1=true from rfl),O,F,Ar,Ar]
          cases fl with
          | true=>exact ⟨A,by show (g ++ [w]).length<=s';simp;omega,rfl⟩
          | false=>exact IX c n p u hn hi l (k + 1) (g ++ [w]) s' f A (by simp;omega)
    . rw [if_neg hf,Ar,BS,if_neg (λ h=>hf h.1)]
      exact IX c n p u hn hi l (k + 1) g s f hg hs
theorem Vv {zs:Zs} {s M:Int} {fl:Bool} {k:Nat} {x:Pn} (a:(allP t)[k]?=some x):(mkF t sg zs s M fl).list[k]?=some (fc x):=by
  show ((allP t).map fc)[k]?=_
  rw [I4,a];rfl
theorem ST {i:Nat} (hi:i<=(allP t).length) {s M:Int} {ρ:Type}:ZA (ρ:=ρ) (λ (g:Nat) (c:Fnd)=>bnd (c.list[g]?) λ d=>bnd (c.list[g]?) λ e=>bnd (CG c d e) λ f=>some (.next f.2)) i (mkF t sg [] s M false)=some (.done (mkF t sg (idz t i) s M false)):=by
  refine Ll (λ k=>mkF t sg (idz t k) s M false) rfl λ k hk=>?_
  have b:=C4 (show k < (allP t).length by omega)
  have a:InP t (allP t)[k]:=Cd.1 (F9 b)
  rw [Vv b,Ar,Ar,OP a a (SR b),Ar,MF b]
theorem Qy {s M:Int} {fl:Bool} {ρ:Type}:∀ (i:Nat),i<=(allP t).length->i<=4096->lop (ρ:=ρ) (λ (b:Int×Fnd)=>if 0<=b.1 then (bnd (bnd (atI b.2.list b.1) λ a=>if a.val=0 then (bnd (BU b.2 a a true) λ c=>some c) else (bnd (BU b.2 a a false) λ d=>some d):Option Fnd) λ g=>bnd (Q1 (b.1 - 1)) λ h=>some (.next (h,g))) else (some (.brk (b.1,b.2)))) ((i:Int) - 1,mkF t sg (idz t i) s M fl)=some (.done (-1,mkF t sg [] s M fl))
  | 0,_,_=>by
    rw [Dj]
    rfl
  | i + 1,hi,hb=>by
    have l:=Qy (s:=s) (M:=M) (fl:=fl) (ρ:=ρ) i (by omega) (by omega)
    have f:=C4 (show i < (allP t).length by omega)
    have e:InP t (allP t)[i]:=Cd.1 (F9 f)
    rw [Dj]
    have m:(((i + 1:Nat):Int) - 1)=(i:Int):=by omega
    simp only [m]
    have n:(bnd (atI (mkF t sg (idz t (i + 1)) s M fl).list (i:Int)) λ a=>if a.val=0 then (bnd (BU (mkF t sg (idz t (i + 1)) s M fl) a a true) λ c=>some c) else (bnd (BU (mkF t sg (idz t (i + 1)) s M fl) a a false) λ d=>some d):Option Fnd)=some (mkF t sg (idz t i) s M fl):=by
      rw [JS f,Ar,MF f]
      have j:=TY f
      by_cases k:((allP t)[i]).2=0
      . rw [if_pos (show (fc (allP t)[i]).val=0 by show ((((allP t)[i]).2:Nat):Int)=0;omega),Ol e e (SR f) (by rw [decide_eq_true (j.2 k)]),Ar]
      . rw [if_neg (show ¬ (fc (allP t)[i]).val=0 by show ¬ ((((allP t)[i]).2:Nat):Int)=0;omega),Ol e e (SR f) (by rw [decide_eq_false (λ o=>k (j.1 o))]),Ar]
    rw [n,Ar,if_pos (by omega),BZ (by unfold P9;omega),Ar]
    exact l
theorem Vw (a:TaskOk t) (b:ZL t sg leaf) (c:Aao t leaf) (d:M<=1048576) (hn:(allP t).length<=4096) {i:Nat} (hi:i < (allP t).length) {g:List Swp} {s:Nat} (e:∀ w∈g,Q0 t w) (hs:g.length<=s) :
    (∀ w∈(levL t sg leaf M i (xAt t (idz t i)) (allP t) g s).1,Q0 t w)/\(levL t sg leaf M i (xAt t (idz t i)) (allP t) g s).1.length<=(levL t sg leaf M i (xAt t (idz t i)) (allP t) g s).2.1 /\
    Dl (mkF t sg [] (s:Int) (M:Int) false) (i:Int) g=some ((levL t sg leaf M i (xAt t (idz t i)) (allP t) g s).1,mkF t sg [] ((levL t sg leaf M i (xAt t (idz t i)) (allP t) g s).2.1:Int) (M:Int) (levL t sg leaf M i (xAt t (idz t i)) (allP t) g s).2.2):=by
  obtain ⟨f,h2,h3⟩:=IX a b c d hn hi (allP t) 0 g s (λ y h=>Cd.1 h) e hs
  refine ⟨f,h2,?_⟩
  unfold Dl
  rw [NU,Ar,ST (by omega),Ar,BB]
  unfold Aa3 at h3
  show bnd (rng _ ((allP t).map fc) 0 (g,mkF t sg (idz t i) (s:Int) (M:Int) false)) _=_
  rw [h3,Ar,BB,BZ (by unfold P9;omega),Ar,Qy i (by omega) (by omega),Ar,BB]
theorem OQ (d:TaskOk t) (k:ZL t sg leaf) (l:Aao t leaf) (m:M<=1048576) (hn:(allP t).length<=4096):∀ (i:Nat),i<=(allP t).length->∀ (g:List Swp) (s:Nat),(∀ w∈g,Q0 t w)->g.length<=s ->
    (bnd (lop (ρ:=(List Swp)×Err) (λ (a:(List Swp)×Int×Fnd)=>if 0<=a.2.1 then (bnd (Dl a.2.2 a.2.1 a.1) λ b=>if b.2.full=true then (some (.ret (([]:List Swp),(⟨10⟩:Err)))) else (bnd (Q1 (a.2.1 - 1)) λ e=>some (.next (b.1,e,b.2)))) else (some (.brk (a.1,a.2.1,a.2.2)))) (g,(i:Int) - 1,mkF t sg [] (s:Int) (M:Int) false)) λ c=>fin c λ (f:(List Swp)×Int×Fnd)=>some (f.1,(⟨0⟩:Err)))=some ((V8 t sg leaf M i g s).1,⟨if (V8 t sg leaf M i g s).2.2=true then 10 else 0⟩)
  | 0,_,g,s,_,_=>by
    rw [Dj]
    rfl
  | i + 1,hi,g,s,hg,hs=>by
    have h:i < (allP t).length:=by omega
    obtain ⟨n,h2,h3⟩:=Vw (M:=M) d k l m hn h hg hs
    have j:((allP t)[i]?).getD (0,0)=xAt t (idz t i):=by rw [Ii h];rfl
    rw [Dj]
    have o:(((i + 1:Nat):Int) - 1)=(i:Int):=by omega
    simp only [o]
    rw [if_pos (by omega),h3,Ar]
    unfold V8
    rw [j]
    cases p:(levL t sg leaf M i (xAt t (idz t i)) (allP t) g s).2.2 with
    | true=>rfl
    | false =>
      have q:=OQ d k l m hn i (by omega) _ _ n h2
      rw [if_neg (show ¬ (mkF t sg [] ((levL t sg leaf M i (xAt t (idz t i)) (allP t) g s).2.1:Int) (M:Int) false).full=true by simp [mkF]),BZ (by unfold P9;omega),Ar,if_neg (by simp)]
      exact q
theorem SU {t:Tsk} (a:TaskOk t):By t []=some ⟨0⟩:=by
  unfold By Dr
  rw [Ar,if_neg (by rw [EO.2 a];simp)]
  rfl
theorem Xd (b:TaskOk t) (e:ZL t sg leaf) (f:Aao t leaf) (hn:(allP t).length<=4096) {a:Int} {M:Nat} (g:max 0 (min a 1048576)=(M:Int)) (c:Dp t (M:Int)=some (some (mkF t sg [] 0 (M:Int) false))) :
    DR t a=some ((V8 t sg leaf M (allP t).length [] 0).1,⟨if (V8 t sg leaf M (allP t).length [] 0).2.2=true then 10 else 0⟩):=by
  unfold DR
  rw [SU b,Ar,if_neg (by simp),g,c,Ar,Ar]
  have d:(mkF t sg [] 0 (M:Int) false).list.length=(allP t).length:=L7 ..
  rw [d,BZ (by unfold P9;omega),Ar]
  have:=OQ (M:=M) (leaf:=leaf) (sg:=sg) b e f (by omega) hn (allP t).length (P1 _) [] 0 (by simp) (by simp)
  exact this
end
end
section
open Go Go.RowKit
section
variable {t : Tsk} {zs : Zs}
theorem SV (c:Gz t zs) {z:Pn×Pn} (hz:z∈zs):Vf zs z.1.1=(z.2.1:Int):=by
  have a:¬ Vf zs z.1.1 < 0:=λ e=>JQ.1 e z hz rfl
  obtain ⟨b,hz',e1,e2⟩:=JR a
  rw [e2,(c.var b hz' z hz).1 e1]
theorem Gz.uniq (f:Gz t zs) {z a:Pn×Pn} (hz:z∈zs) (b:a∈zs) (e:z.1=a.1):z=a:=by
  have hn:(zs.map (·.1)).Nodup:=by
    rw [f.dom]
    have:=GM t
    rw [<- E8 zs.length (allP t),I8] at this
    exact this.1
  rw [B5,J2,C0] at hn
  obtain ⟨i,hi⟩:=G3 hz
  obtain ⟨j,hj⟩:=G3 b
  have c:=AD hi
  have d:=AD hj
  rw [C4 c] at hi
  rw [C4 d] at hj
  injection hi with hi
  injection hj with hj
  rcases J0 i j with h1|h1|h1
  . exact absurd (by rw [hi,hj,e]) (hn i j c d h1)
  . subst h1;rw [<- hi,<- hj]
  . exact absurd (by rw [hi,hj,e]) (hn j i d c h1)
theorem Gz.uniq2 (f:Gz t zs) {z a:Pn×Pn} (hz:z∈zs) (b:a∈zs) (e:z.2=a.2):z=a:=by
  have hn:=f.inj
  rw [B5,J2,C0] at hn
  obtain ⟨i,hi⟩:=G3 hz
  obtain ⟨j,hj⟩:=G3 b
  have c:=AD hi
  have d:=AD hj
  rw [C4 c] at hi
  rw [C4 d] at hj
  injection hi with hi
  injection hj with hj
  rcases J0 i j with h1|h1|h1
  . exact absurd (by rw [hi,hj,e]) (hn i j c d h1)
  . subst h1;rw [<- hi,<- hj]
  . exact absurd (by rw [hi,hj,e]) (hn j i d c h1)
theorem NF (c:Gz t zs) {z:Pn×Pn} (hz:z∈zs):Wf zs z.1.1 z.1.2=(z.2.2:Int):=by
  unfold Wf
  cases a:zs.find? (λ q=>q.1 == (z.1.1,z.1.2)) with
  | some q =>
    have b:q.1=z.1:=by simpa using M1 a
    rw [c.uniq (C3 a) hz b]
  | none =>
    have:=H9.1 a z hz
    simp at this
theorem Gz.full (c:Gz t zs) (hl:zs.length=(allP t).length) {p:Pn} (a:InP t p):∃ q,(p,q)∈zs:=by
  have b:p∈zs.map (·.1):=by rw [c.dom,hl,K4];exact Cd.2 a
  obtain ⟨z,hz,e⟩:=N8.1 b
  exact ⟨z.2,by rw [<- e];exact hz⟩
theorem Gz.inp (b:Gz t zs) {z:Pn×Pn} (hz:z∈zs):InP t z.1:=by
  have a:z.1∈zs.map (·.1):=N8.2 ⟨z,hz,rfl⟩
  rw [b.dom] at a
  exact Cd.1 (G6 a)
theorem HN {v:Nat} (a:TaskOk t) (c:v < t.vars.length):0 < szT t v/\szT t v<=64:=by
  have b:=a.2.2.1 v _ (Ge a c)
  omega
theorem Kp (c:TaskOk t) (B:Gz t zs) (hl:zs.length=(allP t).length):Q0 t (swF t zs):=by
  have hv:∀ v,v < t.vars.length->∃ z∈zs,z.1.1=v/\Vf zs v=(z.2.1:Int):=λ v hv=>by
    obtain ⟨q,hq⟩:=B.full hl (p:=(v,0)) ⟨hv,(HN c hv).1⟩
    exact ⟨_,hq,rfl,SV B hq⟩
  refine ⟨IV ?_ ?_ ?_,?_,λ k hk=>?_⟩
  . refine Hp K8 λ a g b hb e=>?_
    obtain ⟨z,hz,f,d⟩:=hv a (M4.1 g)
    obtain ⟨w,hz',e1',e2'⟩:=hv b (M4.1 hb)
    rw [<- f,<- e1']
    exact (B.var z hz w hz').2 (by rw [d,e2'] at e;omega)
  . intro x j
    obtain ⟨v,hv1,rfl⟩:=N8.1 j
    obtain ⟨z,hz,f,d⟩:=hv v (M4.1 hv1)
    have:=(B.img z hz).1
    rw [d]
    omega
  . show (T7 t (Vf zs)).length=_
    simp [T7]
  . show (T9 t (Wf zs)).length=_
    simp [T9,T7]
  . obtain ⟨z,hz,f,d⟩:=hv k hk
    have l:=B.img z hz
    refine ⟨szT t k,Vf zs k,(List.range (szT t k)).map (Wf zs k),Ge c hk,?_,?_,?_,IV ?_ ?_ ?_⟩
    . have:=GN (t:=t) (Vf zs) hk
      rwa [Bd] at this
    . have:=Fq (t:=t) (Wf zs) hk
      rwa [Bd] at this
    . rw [d,Bd,Ge c l.1,<- B.siz z hz,f]
    . refine Hp K8 λ a g b hb e=>?_
      obtain ⟨q,hq⟩:=B.full hl (p:=(k,a)) ⟨hk,M4.1 g⟩
      obtain ⟨m,hq'⟩:=B.full hl (p:=(k,b)) ⟨hk,M4.1 hb⟩
      have h:=NF B hq
      have n:=NF B hq'
      have i:=(B.var _ hq _ hq').1 rfl
      simp only at h n i
      rw [h,n] at e
      have:q=m:=by
        obtain ⟨y,o⟩:=q
        obtain ⟨A,r⟩:=m
        have f:y=A:=i
        have d:o=r:=by have:(o:Int)=(r:Int):=e;omega
        rw [f,d]
      have:=B.uniq2 hq hq' this
      injection this with this _
      injection this
    . intro x j
      obtain ⟨a,g,rfl⟩:=N8.1 j
      obtain ⟨q,hq⟩:=B.full hl (p:=(k,a)) ⟨hk,M4.1 g⟩
      have h:=NF B hq
      have s:=(B.img _ hq).2
      have u:=B.siz _ hq
      simp only at h s u
      rw [h]
      rw [<- u] at s
      omega
    . simp
theorem Xe (b:TaskOk t) (j:Gz t zs) (hl:zs.length=(allP t).length) {z:Pn×Pn} (hz:z∈zs):imQ (swF t zs) z.1=z.2:=by
  obtain ⟨l,h1,h2,c,_⟩:=Gg b (Kp b j hl) (j.inp hz)
  have a:=j.inp hz
  have f:=GN (t:=t) (Vf zs) a.1
  have g:=Fq (t:=t) (Wf zs) a.1
  rw [Bd] at f g
  have d:(swF t zs).vars[z.1.1]?=some (Vf zs z.1.1):=f
  have e:(swF t zs).vals[z.1.1]?=some ((List.range (szT t z.1.1)).map (Wf zs z.1.1)):=g
  rw [h1] at d
  rw [h2] at e
  injection d with d
  injection e with e
  subst e
  rw [I4,H0 a.2] at c
  injection c with c
  rw [SV j hz] at d
  rw [NF j hz] at c
  have h:(imQ (swF t zs) z.1).1=z.2.1:=by omega
  have i:(imQ (swF t zs) z.1).2=z.2.2:=by omega
  exact Prod.ext h i
end
def Mt (x:Swp) (o p:Opr):Prop:=o.cost=p.cost/\imL x o.pre=p.pre/\o.effs.map (imE x)=p.effs
noncomputable def W6 (x:Swp) (o:Opr):List Opr->List Bool->Nat->Option Nat
  | p :: ps,b :: bs,k=>if b=false/\bof (Mt x o p)=true then some k else W6 x o ps bs (k + 1)
  | _,_,_=>none
noncomputable def Z6 (x:Swp) (b:List Opr):List Opr->List Bool->List Int->Option (List Int)
  | [],_,a=>some a
  | o :: os,tk,a=>match W6 x o b tk 0 with
    | none=>none
    | some k=>Z6 x b os (tk.set k true) (a ++ [(k:Int)])
noncomputable def Aaj (t:Tsk) (x:Swp):Option (List Int):=Z6 x t.ops t.ops (List.replicate t.ops.length false) []
theorem RZ {x:Swp} {o:Opr}:∀ (ps:List Opr) (bs:List Bool) (k j:Nat),W6 x o ps bs k=some j->k<=j/\j < k + bs.length/\j < k + ps.length
  | [],bs,k,j,a=>by simp [W6] at a
  | p :: ps,[],k,j,a=>by simp [W6] at a
  | p :: ps,b :: bs,k,j,a=>by
    unfold W6 at a
    split at a
    . injection a with a;subst a;simp
    . have:=RZ ps bs (k + 1) j a
      simp
      omega
theorem Qz {x:Swp} {o:Opr} {q:Opr} {ρ:Type} (h:∀ p,Do q p=some (bof (Mt x o p))):∀ (ps:List Opr) (a:List Bool) (k:Nat),a.length=k + ps.length →
    rng (ρ:=ρ) (λ (b:Nat) (c:Opr) (d:Int)=>bnd (bnd (a[b]?) λ e=>if (!e)=true then (bnd (Do q c) λ f=>if f=true then some true else some false) else (some false):Option Bool) λ g=>if g=true then (some (.brk (b:Int))) else (some (.next d))) ps k (-1)=some (.done (match W6 x o ps (a.drop k) k with|some j=>(j:Int)|none=>-1))
  | [],a,k,hl=>by
    have:a.drop k=[]:=E3 (by simp at hl;omega)
    rw [this]
    rfl
  | p :: ps,a,k,hl=>by
    have hk:k < a.length:=by simp at hl;omega
    have i:=Qz (ρ:=ρ) h ps a (k + 1) (by simp at hl;omega)
    rw [B7 hk]
    unfold rng W6
    rw [C4 hk,Ar,h p]
    cases hb:a[k] with
    | true=>exact i
    | false =>
      by_cases hm:Mt x o p
      . rw [Bk hm]
        simp [Ar]
      . rw [AY hm]
        exact i
section
variable {t : Tsk}
theorem QA (r:TaskOk t) {f:Fnd} (hf:f.t=t) (K:Q0 t f.x):Dk f=some (match Aaj t f.x with|some l=>(l,true)|none=>([],false)):=by
  have L:=r.2.1
  unfold Dk
  rw [hf,Ga (by omega) (by omega),Ar]
  have v:∀ (os:List Opr) (k:Nat) (d:List Bool) (c:List Int),d.length=t.ops.length->c.length + os.length<=t.ops.length->(∀ o∈os,Aan t.vars o) ->
      (bnd (rng (ρ:=(List Int)×Bool) (λ (M:Nat) (F:Opr) (g:(List Int)×(List Bool))=>bnd (DY f.x F) λ a=>bnd (some (a.pre,a.effs):Option ((List Fct)×(List Eff))) λ m=>bnd (rng (ρ:=Ctl ((List Int)×(List Bool)) ((List Int)×Bool)) (λ (n:Nat) (w:Opr) (y:Int)=>bnd (bnd (g.2[n]?) λ z=>if (!z)=true then (bnd (Do (⟨a.name,a.cost,m.1,m.2⟩:Opr) w) λ A=>if A=true then some true else some false) else (some false):Option Bool) λ B=>if B=true then (some (.brk (n:Int))) else (some (.next y))) t.ops 0 (-1)) λ h=>fin h λ (b:Int)=>if b < 0 then (some (.ret (([]:List Int),false))) else (bnd (atI g.2 b) λ J=>bnd (R8 8 g.1 [b]) λ C=>some (.next (C,(g.2.set (b:Int).toNat true))))) os k (c,d)) λ s=>fin s λ (D:(List Int)×(List Bool))=>some (D.1,true))
        = some (match Z6 f.x t.ops os d c with|some l=>(l,true)|none=>([],false)):=by
    intro os
    induction os with
    | nil=>intro k d c _ _ _;rfl
    | cons o os N =>
      intro k d c G e E
      have H:=E o H8
      have u:=Qz (ρ:=Ctl ((List Int)×(List Bool)) ((List Int)×Bool)) (x:=f.x) (o:=o) (q:=(⟨(imO f.x o).name,(imO f.x o).cost,(imO f.x o).pre,(imO f.x o).effs⟩:Opr)) (λ p=>by rw [Qp];rfl) t.ops d 0 (by omega)
      unfold rng Z6
      rw [Qq r K H,Ar,Ar]
      simp only []
      rw [u,Ar,BB,List.drop_zero]
      cases hj:W6 f.x o t.ops d 0 with
      | none =>
        simp only []
        rw [if_pos (by decide),Ar]
        rfl
      | some j =>
        simp only []
        have O:=RZ t.ops d 0 j hj
        have I:atI d (j:Int)=some d[j]:=by rw [Bd,C4 (by omega)]
        rw [if_neg (by omega),I,Ar,Cu (by simp at e ⊢;omega) (by simp at e ⊢;omega),Ar]
        have P:((j:Nat):Int).toNat=j:=by omega
        simp only [P]
        exact N (k + 1) (d.set j true) (c ++ [(j:Int)]) (by simpa using G) (by simp at e ⊢;omega) (λ q Q=>E q (F8 _ Q))
  exact v t.ops 0 (List.replicate t.ops.length false) [] (by simp) (by simp) (λ o H=>by
    obtain ⟨i,hi⟩:=G3 H
    exact r.2.2.2.2.2 i o hi)
theorem TZ {f:Fnd} {l:List Int} (d:f.x.vars.length<=1000000) (e:f.x.vals.length<=1000000) (b:∀ r∈f.x.vals,r.length<=1000000):DI f l=some (⟨f.x.vars,f.x.vals,l⟩:Swp):=by
  unfold DI
  rw [show BW f.x.vars=some f.x.vars from if_pos ⟨by omega,by omega⟩,Ar]
  rw [Fp (s₀:=([]:List (List Int))) (λ k=>f.x.vals.take k) rfl λ k x a=>?_,Ar,BB,K4]
  have hk:=AD a
  have c:=b x (F9 a)
  rw [show BW x=some x from if_pos ⟨by omega,by omega⟩,Ar,Cu (by simp;omega) (by simp;omega),Ar,I6,a]
  rfl
noncomputable def S7 (t:Tsk) (zs:Zs):Option Swp:=match Aaj t (swF t zs) with
  | some l=>if bof (imL (swF t zs) t.goal=t.goal)=true then some ⟨(swF t zs).vars,(swF t zs).vals,l⟩ else none
  | none=>none
theorem Vx (a:TaskOk t) (sg:Nat→Nat→ByteArray):ZL t sg (S7 t):=λ i zs s M hz hl=>by
  have b:=Kp a hz hl
  have d:(mkF t sg zs (s:Int) (M:Int) false).list.length=(allP t).length:=L7 ..
  unfold FI
  rw [if_pos (by rw [d,hl]),QA a (f:=mkF t sg zs (s:Int) (M:Int) false) rfl b,Ar]
  have c:(mkF t sg zs (s:Int) (M:Int) false).x=swF t zs:=rfl
  rw [c]
  unfold S7
  cases g:Aaj t (swF t zs) with
  | none=>rfl
  | some l =>
    have h:CN (swF t zs) t.goal=some (imL (swF t zs) t.goal):=Jo a b a.2.2.2.2.1
    have e:CN (swF t zs) (mkF t sg zs (s:Int) (M:Int) false).t.goal=some (imL (swF t zs) t.goal):=h
    simp only [Bool.not_true,I0,if_false]
    rw [e,Ar,show (mkF t sg zs (s:Int) (M:Int) false).t.goal=t.goal from rfl,Ia,Ar]
    by_cases j:imL (swF t zs) t.goal=t.goal
    . have hv:=a.1
      have hc:=TZ (f:=mkF t sg zs (s:Int) (M:Int) false) (l:=l) (by rw [c,b.1.len];omega) (by rw [c,b.2.1];omega) (λ r hr=>by
        rw [c] at hr
        obtain ⟨v,hv,rfl⟩:=N8.1 hr
        have:=(HN a (M4.1 hv)).2
        simp
        omega)
      rw [Bk j,BS,Ar,if_neg (by simp),hc,Ar]
      rfl
    . rw [AY j,CA,Ar,BS]
      rfl
theorem SW (a:TaskOk t):Aao t (S7 t):=λ zs w hz hl c=>by
  have b:=Kp a hz hl
  unfold S7 at c
  split at c
  . split at c
    . injection c with c
      rw [<- c]
      exact b
    . cases c
  . cases c
end
end
section
open Go Go.RowKit
theorem Sa {α:Type} (n:Nat) (z:α):List.replicate n z=(List.range n).map λ _=>z:=by
  apply I3
  intro i
  rw [D2,I4]
  by_cases a:i < n
  . rw [if_pos a,H0 a];rfl
  . rw [if_neg a,E6 (by simp;omega)];rfl
theorem Xf:((List.range 65).all λ n=>decide (BitVec.ofNat 64 ((BitVec.ofInt 64 (1:Int)).toNat * (BitVec.ofInt 64 (n:Int)).toNat / 18446744073709551616)=BitVec.ofNat 64 0) && decide ((BitVec.ofNat 64 ((BitVec.ofInt 64 (1:Int)).toNat * (BitVec.ofInt 64 (n:Int)).toNat % 18446744073709551616)).toInt=(n:Int)) && decide ((BitVec.ofNat 64 ((BitVec.ofInt 64 (1:Int)).toNat * (BitVec.ofInt 64 (n:Int)).toNat % 18446744073709551616)).toNat=n))=true:=by decide +kernel
theorem Vy {a:Int} {n k:Nat} (f:0 < k) (g:k < n) (h:n<=64):Aaz (List.replicate k a ++ List.replicate (n - k) 0) (k:Int)=some (List.replicate (k + min k (n - k)) a ++ List.replicate (n - (k + min k (n - k))) 0,((min k (n - k):Nat):Int)):=by
  unfold Aaz
  have b:(List.replicate k a ++ List.replicate (n - k) (0:Int)).length=n:=by simp;omega
  rw [if_pos ⟨by omega,by rw [b];omega,by rw [b];omega⟩,b]
  have c:((k:Nat):Int).toNat=k:=by omega
  rw [c]
  have d:(List.replicate k a ++ List.replicate (n - k) (0:Int)).take k=List.replicate k a:=by rw [List.take_append_of_le_length (by simp),D4 (by simp)]
  rw [d,List.take_replicate]
  have e:min (n - k) k=min k (n - k):=Nat.min_comm _ _
  rw [e,F0]
  congr 2
  rw [List.drop_append,F0,E3 (by simp),L3,List.drop_replicate,<- I1,List.replicate_append_replicate]
  congr 2
  omega
theorem Ua {a:Int} {n:Nat} (j:0 < n) (l:n<=64):DJ [a] (n:Int)=some (List.replicate n a):=by
  unfold DJ Hz
  have b:=J8.1 Xf n (M4.2 (by omega))
  simp only [J7,decide_eq_true_eq] at b
  obtain ⟨⟨c,q2⟩,q3⟩:=b
  rw [if_neg (by omega),Ar]
  have d:([a]:List Int).length=1:=rfl
  simp only [d]
  have e:((1:Nat):Int)=1:=rfl
  simp only [e,c,q2,q3]
  have f:¬ ((0:U64).toNat:Int) < ((BitVec.ofNat 64 0).toNat:Int):=by decide
  have g:¬ ((9223372036854775807:U64).toNat:Int) < ((n:Nat):Int):=by
    have:((9223372036854775807:U64).toNat)=9223372036854775807:=by decide
    rw [this]
    omega
  rw [if_neg f,if_neg g,Ar,if_neg (by simp),Ga (by omega) (by omega),Ar]
  unfold ckN
  rw [if_pos ⟨by simp;omega,by simp,by simp;omega⟩,Ar]
  have h:(cpn (List.replicate n (0:Int)) [a]:Int)=1:=by unfold cpn;simp;omega
  have i:AaB (List.replicate n (0:Int)) [a]=List.replicate 1 a ++ List.replicate (n - 1) 0:=by
    unfold AaB
    rw [F0,D4 (by simp;omega),List.drop_replicate]
    rfl
  rw [h,i]
  refine RY (I:=λ s=>∃ k:Nat,0 < k/\k<=n/\s=(List.replicate k a ++ List.replicate (n - k) 0,(k:Int))) (B:=λ s=>s.1=List.replicate n a) (μ:=λ s=>n - s.2.toNat) ⟨1,by omega,by omega,rfl⟩ ?_ ?_
  . rintro s ⟨k,k0,k1,rfl⟩
    simp only [F0]
    by_cases hk:k < n
    . left
      rw [if_pos (by omega),Vy k0 hk l,Ar,BZ (by unfold P9;omega),Ar]
      exact ⟨_,rfl,⟨k + min k (n - k),by omega,by omega,by simp⟩,by simp;omega⟩
    . right
      rw [if_neg (by omega)]
      have:k=n:=by omega
      subst this
      exact ⟨_,rfl,by simp⟩
  . rintro s hs
    rw [BB,hs]
def allK (t:Tsk) (k:Nat):List Pn:=(List.range k).flatMap λ v=>(List.range (szT t v)).map λ a=>(v,a)
theorem Lp (t:Tsk) (k:Nat):allK t (k + 1)=allK t k ++ (List.range (szT t k)).map λ a=>(k,a):=by
  unfold allK
  rw [M0,List.flatMap_append]
  simp
theorem MI {t:Tsk} (a:TaskOk t):∀ k,k<=t.vars.length->(allK t k).length<=64 * k
  | 0,_=>by simp [allK]
  | k + 1,h=>by
    have:=MI a k (by omega)
    have b:=(HN a (show k < t.vars.length by omega)).2
    rw [Lp,H2,L7,J1]
    omega
theorem Vz {t:Tsk} (a:TaskOk t):(allP t).length<=4096:=by
  have:=MI a t.vars.length (P1 _)
  have b:=a.1
  have:(allP t).length<=64 * t.vars.length:=this
  omega
def adS (sg:Nat->Nat->ByteArray) (x:Pn) (b:ByteArray):Nat->Nat->ByteArray:=λ v a=>if v=x.1/\a=x.2 then sg v a ++ (b ++ (⟨#[59]⟩:ByteArray)) else sg v a
theorem Xg {t:Tsk} {sg:Nat->Nat->ByteArray} {s M:Int} {fl:Bool} {x:Pn} {b:ByteArray} (d:InP t x) (j:(sg x.1 x.2).size + b.size<=1000000000000):Ca (mkF t sg [] s M fl) (fc x) b=some (mkF t (adS sg x b) [] s M fl):=by
  unfold Ca
  have c:(⟨#[59]⟩:ByteArray).size=1:=rfl
  have f:R9 b (⟨#[59]⟩:ByteArray)=some (b ++ (⟨#[59]⟩:ByteArray)):=if_pos (by rw [c];omega)
  have g:R9 (sg x.1 x.2) (b ++ (⟨#[59]⟩:ByteArray))=some (sg x.1 x.2 ++ (b ++ (⟨#[59]⟩:ByteArray))):=if_pos (by rw [F3,c];omega)
  simp only [mkF,fc]
  rw [Fq _ d.1,Ar,Ib _ d.2,Ar,f,Ar,g,Ar,Ar]
  have h:((x.1:Nat):Int).toNat=x.1:=by omega
  have i:((x.2:Nat):Int).toNat=x.2:=by omega
  rw [h,i,Ih]
  have:T9 t (λ e a'=>if e=x.1/\a'=x.2 then sg x.1 x.2 ++ (b ++ (⟨#[59]⟩:ByteArray)) else sg e a')=T9 t (adS sg x b):=Hc λ v a _ _=>by
    unfold adS
    by_cases j:v=x.1/\a=x.2
    . rw [if_pos j,if_pos j,j.1,j.2]
    . rw [if_neg j,if_neg j]
  rw [this]
def pf (f:Fct):Pn:=(f.var.toNat,f.val.toNat)
theorem Kq {t:Tsk} (c:TaskOk t) {f:Fct} (e:R1 t.vars f):InP t (pf f)/\f=fc (pf f):=by
  obtain ⟨d,h2,y,h3,h4⟩:=e
  have hlt:=AD h3
  have hs:=Ge c hlt
  rw [h3] at hs
  injection hs with hs
  refine ⟨⟨hlt,?_⟩,?_⟩
  . show f.val.toNat < szT t f.var.toNat
    omega
  . obtain ⟨a,b⟩:=f
    unfold fc pf
    simp only at d h2 ⊢
    congr 1<;>omega
def X7 (sg:Nat->Nat->ByteArray) (l:List Pn) (rl:Fct->ByteArray):Nat->Nat->ByteArray:=λ v a=>if (v,a)∈l then sg v a ++ (rl (fc (v,a)) ++ (⟨#[59]⟩:ByteArray)) else sg v a
theorem Kr {t:Tsk} {s M:Int} {fl:Bool} {ρ:Type} {rl:Fct→ByteArray} {R B:Nat} (g:∀ x,(rl x).size≤R) (hb:B + R≤1000000000000):∀ (l:List Pn) (k:Nat) (sg:Nat→Nat→ByteArray),l.Nodup→(∀ x∈l,InP t x)→(∀ x∈l,(sg x.1 x.2).size≤B) →
    rng (ρ:=ρ) (λ (_:Nat) (a:Fct) (s:Fnd)=>bnd (Ca s a (rl a)) λ q=>some (.next q)) (l.map fc) k (mkF t sg [] s M fl)=some (.done (mkF t (X7 sg l rl) [] s M fl))
  | [],k,sg,_,_,_=>by
    have:X7 sg [] rl=sg:=by funext v a;simp [X7]
    rw [this];rfl
  | x :: l,k,sg,hn,hl,hB=>by
    have i:=hl x H8
    have j:=hB x H8
    have hr:=g (fc x)
    obtain ⟨h,n2⟩:=M3.1 hn
    have m:=Kr (t:=t) (s:=s) (M:=M) (fl:=fl) (ρ:=ρ) g hb l (k + 1) (adS sg x (rl (fc x))) n2 (λ q d=>hl q (F8 _ d)) (λ q d=>by
      unfold adS
      rw [if_neg (λ e=>h (by have:q=x:=Prod.ext e.1 e.2;rw [<- this];exact d))]
      exact hB q (F8 _ d))
    have he:X7 (adS sg x (rl (fc x))) l rl=X7 sg (x :: l) rl:=by
      funext v a
      unfold X7 adS
      by_cases c:v=x.1/\a=x.2
      . have b:(v,a)=x:=Prod.ext c.1 c.2
        rw [b,if_neg h,if_pos H8]
        rw [if_pos c]
      . have b:¬ (v,a)=x:=λ e=>c ⟨congrArg Prod.fst e,congrArg Prod.snd e⟩
        rw [if_neg c]
        by_cases f:(v,a)∈l
        . rw [if_pos f,if_pos (F8 _ f)]
        . rw [if_neg f,if_neg (λ n=>(M8.1 n).elim b f)]
    rw [M7]
    unfold rng
    rw [Xg i (by omega),Ar,<- he]
    exact m
def AaI:ByteArray:=⟨#[103,111,97,108]⟩
def sg0 (t:Tsk):Nat->Nat->ByteArray:=X7 (λ _ _=>⟨#[]⟩) (t.goal.map pf) λ _=>AaI
theorem Yt {t:Tsk} (c:TaskOk t) {M:Int} {f:Fnd} (hr:CT (mkF t (sg0 t) [] 0 M false)=some f):Dp t M=some (some f):=by
  have hv:=c.1
  unfold Dp
  rw [Ga (by omega) (by omega),Ar]
  rw [Fp (s₀:=(([]:List Fct),([]:List (List ByteArray)),([]:List Int),([]:List (List Int)),([]:List (List Bool)))) (λ k=>((allK t k).map fc,(List.range k).map (λ v=>(List.range (szT t v)).map λ _=>(⟨#[]⟩:ByteArray)),(List.range k).map (λ _=>(-1:Int)),(List.range k).map (λ v=>(List.range (szT t v)).map λ _=>(-1:Int)),(List.range k).map (λ v=>(List.range (szT t v)).map λ _=>false))) rfl (λ k a hk=>?_),Ar,BB]
  . have p:List.replicate t.vars.length false=T7 t (Uf []):=Sa _ _
    have q:(⟨(⟨t.vars,t.init,t.goal,t.ops⟩:Tsk),(allK t t.vars.length).map fc,(List.range t.vars.length).map (λ v=>(List.range (szT t v)).map λ _=>(⟨#[]⟩:ByteArray)),(⟨(List.range t.vars.length).map (λ _=>(-1:Int)),(List.range t.vars.length).map (λ v=>(List.range (szT t v)).map λ _=>(-1:Int)),([]:List Int)⟩:Swp),(List.range t.vars.length).map (λ v=>(List.range (szT t v)).map λ _=>false),List.replicate t.vars.length false,0,M,false⟩:Fnd)=mkF t (λ _ _=>⟨#[]⟩) [] 0 M false:=by
      rw [p];rfl
    rw [q]
    have r:=Jn c c.2.2.2.2.1
    have i:∀ x∈t.goal.map pf,InP t x:=λ x u=>by
      obtain ⟨g,l,rfl⟩:=N8.1 u
      exact (Kq c ((Ea c.2.2.2.2.1).1 g l)).1
    have m:(t.goal.map pf).Nodup:=Hp ((Ea c.2.2.2.2.1).2.imp λ {a b} (A:a.var < b.var) (e:a=b)=>by rw [e] at A;omega) λ a w b hb e=>by
      rw [(Kq c ((Ea c.2.2.2.2.1).1 a w)).2,(Kq c ((Ea c.2.2.2.2.1).1 b hb)).2,e]
    have n:=Kr (t:=t) (s:=0) (M:=M) (fl:=false) (ρ:=Option Fnd) (rl:=λ _=>AaI) (R:=4) (B:=0) (λ _=>P1 _) (by omega) (t.goal.map pf) 0 (λ _ _=>⟨#[]⟩) m i (λ _ _=>P1 _)
    have o:(t.goal.map pf).map fc=t.goal:=by
      rw [N9]
      refine (H1 λ g l=>?_).trans (P6 _)
      exact ((Kq c ((Ea c.2.2.2.2.1).1 g l)).2).symm
    rw [o] at n
    unfold AaI at n
    rw [n,Ar,BB]
    show bnd (CT (mkF t (sg0 t) [] 0 M false)) _=_
    rw [hr,Ar]
  . have h:=AD hk
    have d:=Ge c h
    rw [hk] at d
    injection d with d
    subst d
    obtain ⟨y,p2⟩:=HN c h
    have z:=MI c k (by omega)
    simp only []
    rw [Ga (by omega) (by omega),Ar,Cu (by simp;omega) (by simp;omega),Ar,Ga (by omega) (by omega),Ar,Cu (by simp;omega) (by simp;omega),Ar,Ar,Cu (by simp;omega) (by simp;omega),Ar,Ua y p2,Ar,Cu (by simp;omega) (by simp;omega),Ar,Ar,NU,Ar]
    rw [Ll (s₀:=(allK t k).map fc) (λ j=>(allK t k ++ (List.range j).map λ a=>(k,a)).map fc) (by simp) (λ j hj=>?_),Ar,BB]
    . simp only [Lp,M0,L9,Sa,M7,List.map_nil]
    . rw [Cu (by simp;omega) (by simp;omega),Ar]
      simp only [M0,L9,I1,M7,List.map_nil]
      rfl
end
section
open Go Go.RowKit
theorem MJ (a b:Int):∃ c,CM a b=some c:=by
  unfold CM EJ
  by_cases e:a < b
  . exact ⟨-1,by simp [bnd,e]⟩
  . by_cases d:b < a
    . exact ⟨1,by simp [bnd,e,d]⟩
    . exact ⟨0,by simp [bnd,e,d]⟩
theorem Xh:∀ (l:List Int),∃ c,GA l=some c:=λ l=>by
  unfold GA
  have d:∀ (l:List Int) (k:Nat),∃ r,rng (ρ:=Int) (λ (_:Nat) (b:Int) (_:Unit)=>if b≠0 then (some (.ret b)) else (some (.next ()))) l k ()=some r:=by
    intro l
    induction l with
    | nil=>exact λ k=>⟨_,rfl⟩
    | cons a l e =>
      intro k
      unfold rng
      by_cases f:a≠0
      . rw [if_pos f];exact ⟨_,rfl⟩
      . rw [if_neg f];exact e (k + 1)
  obtain ⟨r,f⟩:=d l 0
  rw [f,Ar]
  cases r<;>exact ⟨_,rfl⟩
theorem Xi (a b:Opr):∃ c,CU a b=some c:=by
  unfold CU
  obtain ⟨d,h1⟩:=MJ a.cost b.cost
  obtain ⟨e,h2⟩:=MJ (a.pre.length:Int) (b.pre.length:Int)
  obtain ⟨f,h3⟩:=MJ (a.effs.length:Int) (b.effs.length:Int)
  obtain ⟨g,h4⟩:=Xh [d,e,f]
  rw [h1,Ar,h2,Ar,h3,Ar,h4,Ar]
  exact ⟨_,rfl⟩
theorem Ub {l:List Opr} {j:Nat} {a b:Opr} (h:0 < j) (c:l[j]?=some a) (hb:l[j - 1]?=some b):((l.set j b).set (j - 1) a).Perm l:=by
  have d:=AD c
  have e:=AD hb
  have f:l[j]=a:=by rw [C4 d] at c;injection c
  have g:l[j - 1]=b:=by rw [C4 e] at hb;injection hb
  have:=List.set_set_perm d e
  rwa [f,g] at this
theorem VB {l:List Opr} (hl:l.length≤1000):∃ r,AR l 0 (l.length:Int)=some r∧r.Perm l:=by
  unfold AR
  rw [BZ (by decide),Ar]
  refine NE (I:=λ s=>∃ i:Nat,1<=i/\s.2=(i:Int)/\s.1.Perm l) (B:=λ s=>s.1.Perm l) (R:=λ _=>False) (μ:=λ s=>l.length + 1 - s.2.toNat) ⟨1,by omega,rfl,.refl _⟩ ?_ (λ s hs=>⟨_,rfl,hs⟩) (λ _ H=>H.elim)
  rintro ⟨m,ii⟩ ⟨i,hi,e,hp⟩
  simp only at e hp ⊢
  subst e
  have C:m.length=l.length:=hp.length_eq
  by_cases hlt:(i:Int) < (l.length:Int)
  . left
    rw [if_pos hlt]
    rcases LT (ρ:=Ctl ((List Opr)×Int) (List Opr)) (f:=λ (d:(List Opr)×Int)=>bnd (if (0:Int) < d.2 then (bnd (atI d.1 d.2) λ v=>bnd (Q1 (d.2 - 1)) λ w=>bnd (atI d.1 w) λ x=>bnd (CU v x) λ n=>if n < 0 then (some true) else (some false)) else (some false):Option Bool) λ y=>if y=true then (bnd (Q1 (d.2 - 1)) λ o=>bnd (atI d.1 o) λ g=>bnd (atI d.1 d.2) λ p=>bnd (atI d.1 d.2) λ _=>bnd (Q1 (d.2 - 1)) λ h=>bnd (atI (d.1.set (d.2:Int).toNat g) h) λ _=>bnd (Q1 (d.2 - 1)) λ t=>some (.next (((d.1.set (d.2:Int).toNat g).set (h:Int).toNat p),t))) else (some (.brk (d.1,d.2))))
      (λ s=>∃ j:Nat,j < l.length/\s.2=(j:Int)/\s.1.Perm l) (λ s=>s.1.Perm l) (λ _=>False) (λ s=>s.2.toNat) (λ s hs=>by
        obtain ⟨q,jj⟩:=s
        obtain ⟨j,hj,e,hq⟩:=hs
        simp only at e hq ⊢
        subst e
        have D:q.length=l.length:=hq.length_eq
        by_cases z:(0:Int) < (j:Int)
        . obtain ⟨a,ha⟩:=AG (l:=q) (k:=j) (by omega)
          obtain ⟨b,hb⟩:=AG (l:=q) (k:=j - 1) (by omega)
          obtain ⟨c,hc⟩:=Xi a b
          have hA:atI q (j:Int)=some a:=by rw [Bd,ha]
          have A:atI q ((j:Int) - 1)=some b:=by rw [show (j:Int) - 1=((j - 1:Nat):Int) from by omega,Bd,hb]
          have E:Q1 ((j:Int) - 1)=some ((j:Int) - 1):=BZ (by unfold P9;omega)
          rw [if_pos z,hA,Ar,E,Ar,A,Ar,hc,Ar]
          by_cases u:c < 0
          . left
            have F:atI (q.set j b) ((j:Int) - 1)=some b:=by
              rw [show (j:Int) - 1=((j - 1:Nat):Int) from by omega,Bd,I5,if_neg (by omega),hb]
            rw [if_pos u,Ar,BS,Ar,A,Ar,Ar,Ar,Ar,show ((j:Nat):Int).toNat=j from by omega,F,Ar,Ar]
            refine ⟨_,rfl,⟨j - 1,by omega,by omega,?_⟩,?_⟩
            . have:=(Ub (by omega) ha hb).trans hq
              rwa [show ((j:Int) - 1).toNat=j - 1 from by omega]
            . show ((j:Int) - 1).toNat < ((j:Int)).toNat
              omega
          . right;left
            rw [if_neg u,Ar,CA]
            exact ⟨_,rfl,hq⟩
        . right;left
          rw [if_neg z,Ar,CA]
          exact ⟨_,rfl,hq⟩) (m,(i:Int)) ⟨i,by omega,rfl,hp⟩ with ⟨G,h1,h2⟩|⟨_,_,H⟩
    . rw [h1,Ar,BB,BZ (by unfold P9;omega),Ar]
      refine ⟨_,rfl,⟨i + 1,by omega,rfl,h2⟩,?_⟩
      show l.length + 1 - ((i:Int) + 1).toNat < l.length + 1 - ((i:Int)).toNat
      omega
    . exact H.elim
  . right;left
    rw [if_neg hlt]
    exact ⟨_,rfl,hp⟩
theorem Xj {l:List Opr}:AR l 20 20=some l:=by
  unfold AR
  rw [show Q1 ((20:Int) + 1)=some 21 from by decide,Ar,Dj,if_neg (show ¬ (21:Int) < 20 by decide)]
  rfl
theorem RB {l:List Opr} (hl:l.length<=20):∃ r,Bo l=some r/\r.Perm l:=by
  unfold Bo BO
  obtain ⟨r,a,h2⟩:=VB (l:=l) (by omega)
  by_cases b:l.length=20
  . rw [b] at a ⊢
    have a:AR l 0 20=some r:=a
    rw [Dj,if_pos (show (20:Int)<=((20:Nat):Int) by decide)]
    simp only []
    rw [a,Ar,show Q1 ((20:Int) + 20)=some 40 from by decide,Ar]
    simp only []
    rw [Dj,if_neg (show ¬ (40:Int)<=((20:Nat):Int) by decide)]
    simp only []
    rw [Ar,BB]
    simp only []
    rw [show ((20:Nat):Int)=20 from rfl,Xj,Ar,Dj,if_neg (show ¬ (20:Int) < 20 by decide)]
    simp only []
    rw [Ar,BB,Ar]
    exact ⟨_,rfl,h2⟩
  . rw [Dj,if_neg (show ¬ (20:Int)<=(l.length:Int) by omega)]
    simp only []
    rw [Ar,BB,a,Ar,Dj,if_neg (show ¬ (20:Int) < (l.length:Int) by omega)]
    simp only []
    rw [Ar,BB,Ar]
    exact ⟨_,rfl,h2⟩
end
section
open Go Go.RowKit
section
variable {M M' : Nat}
theorem Om (c:M≤M') {fit:Pn→Bool} {sub a:Pn→Nat→Rs} (d:∀ y s,(sub y s).2.2=true∨sub y s=a y s):∀ (l:List Pn) (s:Nat),(goL M fit sub l s).2.2=true∨goL M fit sub l s=goL M' fit a l s
  | [],_=>.inr rfl
  | y :: l,s=>by
    unfold goL
    by_cases hf:fit y=true
    . rw [if_pos hf,if_pos hf]
      by_cases hs:M<=s
      . rw [if_pos hs];exact .inl rfl
      . rw [if_neg hs,if_neg (show ¬ M'<=s by omega)]
        rcases d y (s + 1) with e|e
        . rw [if_pos (.inr e)];exact .inl e
        . rw [<- e]
          by_cases b:(sub y (s + 1)).1.isSome=true\/(sub y (s + 1)).2.2=true
          . rw [if_pos b,if_pos b];exact .inr rfl
          . rw [if_neg b,if_neg b];exact Om c d l _
    . rw [if_neg hf,if_neg hf];exact Om c d l _
variable {t : Tsk} {sg : Nat → Nat → ByteArray} {leaf : Zs → Option Swp}
theorem Sd (a:M<=M'):∀ (d:Nat) (zs:Zs) (s:Nat),(ext t sg leaf M d zs s).2.2=true\/ext t sg leaf M d zs s=ext t sg leaf M' d zs s
  | 0,_,_=>.inr rfl
  | d + 1,zs,s=>by
    unfold ext
    exact Om a (λ y s=>Sd a d _ s) _ s
theorem Xk (a:M<=M') {d:Nat} {zs:Zs} {y:Pn} {s:Nat}:(stp t sg leaf M d zs y s).2.2=true\/stp t sg leaf M d zs y s=stp t sg leaf M' d zs y s:=by
  unfold stp
  by_cases hs:M<=s
  . rw [if_pos hs];exact .inl rfl
  . rw [if_neg hs,if_neg (show ¬ M'<=s by omega)]
    exact Sd a d _ _
theorem MK (a:M≤M') {i:Nat} {x:Pn}:∀ (l:List Pn) (g:List Swp) (s:Nat),(levL t sg leaf M i x l g s).2.2=true∨levL t sg leaf M i x l g s=levL t sg leaf M' i x l g s
  | [],_,_=>.inr rfl
  | y :: l,g,s=>by
    unfold levL
    by_cases hf:fitB t sg (idz t i) x y=true/\bof (Reach g x y)=false
    . rw [if_pos hf,if_pos hf]
      rcases Xk (t:=t) (sg:=sg) (leaf:=leaf) a (d:=(allP t).length - i - 1) (zs:=idz t i) (y:=y) (s:=s) with e|e
      . rw [if_pos e];exact .inl rfl
      . rw [<- e]
        by_cases b:(stp t sg leaf M ((allP t).length - i - 1) (idz t i) y s).2.2=true
        . rw [if_pos b];exact .inl rfl
        . rw [if_neg b,if_neg b];exact MK a l _ _
    . rw [if_neg hf,if_neg hf];exact MK a l _ _
theorem QB (b:M<=M'):∀ (i:Nat) (g:List Swp) (s:Nat),((V8 t sg leaf M i g s).2.2=true/\(V8 t sg leaf M i g s).1=[])\/V8 t sg leaf M i g s=V8 t sg leaf M' i g s
  | 0,_,_=>.inr rfl
  | i + 1,g,s=>by
    unfold V8
    rcases MK (t:=t) (sg:=sg) (leaf:=leaf) b (i:=i) (x:=((allP t)[i]?).getD (0,0)) (allP t) g s with e|e
    . rw [if_pos e];exact .inl ⟨rfl,rfl⟩
    . rw [<- e]
      by_cases a:(levL t sg leaf M i (((allP t)[i]?).getD (0,0)) (allP t) g s).2.2=true
      . rw [if_pos a];exact .inl ⟨rfl,rfl⟩
      . rw [if_neg a,if_neg a];exact QB b i _ _
def U5:Nat->Nat
  | 0=>0
  | r + 1=>(r + 1) * (1 + U5 r)
def V7 (fit:Pn->Bool) (l:List Pn):Nat:=(l.filter fit).length
theorem Lq {fit:Pn→Bool} {sub:Pn→Nat→Rs} {T:Nat} {P:Pn→Prop} (d:∀ y s,P y→fit y=true→s + T≤M→(sub y s).2.1≤s + T∧(sub y s).2.2=false):∀ (l:List Pn) (s:Nat),(∀ y∈l,P y)→s + V7 fit l * (1 + T)≤M→(goL M fit sub l s).2.1≤s + V7 fit l * (1 + T)∧(goL M fit sub l s).2.2=false
  | [],s,_,_=>⟨by show s<=_;omega,rfl⟩
  | y :: l,s,hP,hs=>by
    have a:∀ q∈l,P q:=λ q b=>hP q (F8 _ b)
    unfold goL
    by_cases hf:fit y=true
    . have hn:V7 fit (y :: l)=V7 fit l + 1:=by unfold V7;rw [List.filter_cons_of_pos hf];rfl
      rw [hn,Nat.succ_mul] at hs ⊢
      obtain ⟨c,h2⟩:=d y (s + 1) (hP y H8) hf (by omega)
      rw [if_pos hf,if_neg (by omega)]
      by_cases b:(sub y (s + 1)).1.isSome=true\/(sub y (s + 1)).2.2=true
      . rw [if_pos b];exact ⟨by omega,h2⟩
      . rw [if_neg b]
        have:=Lq d l (sub y (s + 1)).2.1 a (by omega)
        exact ⟨by omega,this.2⟩
    . have hn:V7 fit (y :: l)=V7 fit l:=by unfold V7;rw [List.filter_cons_of_neg hf]
      rw [hn] at hs ⊢
      rw [if_neg hf]
      exact Lq d l s a hs
theorem Uc {zs:Zs} {x y:Pn} (a:fitB t sg zs x y=true):y ∉ zs.map (·.2):=by
  unfold fitB at a
  split at a
  . cases a
  . rename_i h1
    intro hm
    obtain ⟨z,hz,e⟩:=N8.1 hm
    exact SQ.1 (by simpa using λ e=>h1 (.inl e)) z hz e
theorem Se {zs:Zs} {x:Pn} (d:Gz t zs):V7 (fitB t sg zs x) (allP t) + zs.length≤(allP t).length:=by
  have:((allP t).filter (fitB t sg zs x) ++ zs.map (·.2)).length<=(allP t).length:=Y2 (I8.2 ⟨(GM t).filter _,d.inj,λ a c b hb e=>by
    subst e
    exact Uc (L6.1 c).2 hb⟩) λ p hp=>by
      rcases K9.1 hp with hp|hp
      . exact (L6.1 hp).1
      . obtain ⟨z,hz,rfl⟩:=N8.1 hp
        exact Cd.2 (d.img z hz)
  rw [H2,L7] at this
  exact this
theorem OS:∀ (d:Nat) (zs:Zs) (s:Nat),Gz t zs->zs.length + d=(allP t).length->s + U5 d<=M->(ext t sg leaf M d zs s).2.1<=s + U5 d/\(ext t sg leaf M d zs s).2.2=false
  | 0,_,s,_,_,_=>⟨by show s<=_;omega,rfl⟩
  | d + 1,zs,s,hz,hl,hs=>by
    have hlt:zs.length < (allP t).length:=by omega
    have hn:=Se (sg:=sg) (x:=xAt t zs) hz
    have b:V7 (fitB t sg zs (xAt t zs)) (allP t) * (1 + U5 d)<=U5 (d + 1):=F7 _ (by omega)
    unfold ext
    have:=Lq (M:=M) (P:=InP t) (fit:=fitB t sg zs (xAt t zs)) (sub:=λ y s=>ext t sg leaf M d (zs ++ [(xAt t zs,y)]) s) (T:=U5 d) (λ y s a hf hs=>OS d _ s (hz.fit (Gf hlt) a hf).2 (by simp;omega) hs) (allP t) s (λ y a=>Cd.1 a) (by omega)
    exact ⟨by omega,this.2⟩
theorem Ud {i:Nat} {y:Pn} {s:Nat} (hi:i < (allP t).length) (a:InP t y) (hf:fitB t sg (idz t i) (xAt t (idz t i)) y=true) (hs:s + 1 + U5 ((allP t).length - i - 1)<=M):(stp t sg leaf M ((allP t).length - i - 1) (idz t i) y s).2.1<=s + 1 + U5 ((allP t).length - i - 1)/\(stp t sg leaf M ((allP t).length - i - 1) (idz t i) y s).2.2=false:=by
  have hl:=Hq (t:=t) (k:=i) (by omega)
  unfold stp
  rw [if_neg (by omega)]
  have hz:=LW (t:=t) (k:=i) (by omega)
  exact OS _ _ _ (hz.fit (Gf (by omega)) a hf).2 (by simp [hl];omega) hs
theorem IC {i:Nat} (hi:i < (allP t).length):∀ (l:List Pn) (g:List Swp) (s:Nat),(∀ y∈l,InP t y)→s + V7 (fitB t sg (idz t i) (xAt t (idz t i))) l * (1 + U5 ((allP t).length - i - 1))≤M→(levL t sg leaf M i (xAt t (idz t i)) l g s).2.1≤s + V7 (fitB t sg (idz t i) (xAt t (idz t i))) l * (1 + U5 ((allP t).length - i - 1))∧(levL t sg leaf M i (xAt t (idz t i)) l g s).2.2=false
  | [],g,s,_,_=>⟨by show s<=_;omega,rfl⟩
  | y :: l,g,s,hP,hs=>by
    have a:∀ q∈l,InP t q:=λ q c=>hP q (F8 _ c)
    unfold levL
    by_cases hf:fitB t sg (idz t i) (xAt t (idz t i)) y=true
    . have hn:V7 (fitB t sg (idz t i) (xAt t (idz t i))) (y :: l)=V7 (fitB t sg (idz t i) (xAt t (idz t i))) l + 1:=by unfold V7;rw [List.filter_cons_of_pos hf];rfl
      rw [hn,Nat.succ_mul] at hs ⊢
      by_cases b:bof (Reach g (xAt t (idz t i)) y)=false
      . rw [if_pos ⟨hf,b⟩]
        obtain ⟨d,h2⟩:=Ud (leaf:=leaf) (M:=M) hi (hP y H8) hf (s:=s) (by omega)
        rw [if_neg (by rw [h2];simp)]
        have:=IC hi l (Abu g (stp t sg leaf M ((allP t).length - i - 1) (idz t i) y s).1) (stp t sg leaf M ((allP t).length - i - 1) (idz t i) y s).2.1 a (by omega)
        exact ⟨by omega,this.2⟩
      . rw [if_neg (λ e=>b e.2)]
        have:=IC hi l g s a (by omega)
        exact ⟨by omega,this.2⟩
    . have hn:V7 (fitB t sg (idz t i) (xAt t (idz t i))) (y :: l)=V7 (fitB t sg (idz t i) (xAt t (idz t i))) l:=by unfold V7;rw [List.filter_cons_of_neg hf]
      rw [hn] at hs ⊢
      rw [if_neg (λ e=>hf e.1)]
      exact IC hi l g s a hs
def Z0 (n:Nat):Nat->Nat
  | 0=>0
  | i + 1=>U5 (n - i) + Z0 n i
theorem NG:∀ (i:Nat) (g:List Swp) (s:Nat),i<=(allP t).length->s + Z0 (allP t).length i<=M->(V8 t sg leaf M i g s).2.2=false
  | 0,_,_,_,_=>rfl
  | i + 1,g,s,hi,hs=>by
    have a:i < (allP t).length:=by omega
    have b:((allP t)[i]?).getD (0,0)=xAt t (idz t i):=by rw [Ii a];rfl
    have hn:=Se (sg:=sg) (x:=xAt t (idz t i)) (LW (t:=t) (k:=i) (by omega))
    rw [Hq (by omega)] at hn
    have c:U5 ((allP t).length - i)=((allP t).length - i) * (1 + U5 ((allP t).length - i - 1)):=by
      have:(allP t).length - i=((allP t).length - i - 1) + 1:=by omega
      rw [this];rfl
    have d:V7 (fitB t sg (idz t i) (xAt t (idz t i))) (allP t) * (1 + U5 ((allP t).length - i - 1))<=U5 ((allP t).length - i):=by
      rw [c]
      exact F7 _ (by omega)
    have f:Z0 (allP t).length (i + 1)=U5 ((allP t).length - i) + Z0 (allP t).length i:=rfl
    unfold V8
    rw [b]
    obtain ⟨h,h2⟩:=IC (sg:=sg) (leaf:=leaf) (M:=M) a (allP t) g s (λ y e=>Cd.1 e) (by omega)
    rw [if_neg (by rw [h2];simp)]
    exact NG i _ _ (by omega) (by omega)
end
end
section
open Go Go.RowKit
theorem HO {l:List Int} {n:Nat} (c:PermR l n) {k:Nat} (hk:k < n):∃ a:Nat,l[k]?=some (a:Int)/\a < n:=by
  obtain ⟨z,hz⟩:=AG (l:=l) (k:=k) (by rw [c.len];exact hk)
  obtain ⟨b,h2⟩:=c.mem (F9 hz)
  obtain ⟨a,rfl⟩:=D0 b
  exact ⟨a,hz,by omega⟩
theorem FK {l:List Int} {n:Nat} (c:PermR l n) {a:Nat} (b:a < n):∃ k:Nat,k < n/\l[k]?=some (a:Int):=by
  have:(a:Int)∈l:=c.mem_iff.2 (Kn.2 ⟨by omega,by omega⟩)
  obtain ⟨k,hk⟩:=G3 this
  exact ⟨k,by rw [<- c.len];exact AD hk,hk⟩
theorem HP {l:List Int} {n:Nat} (d:PermR l n) {i j:Nat} {a:Int} (hi:l[i]?=some a) (hj:l[j]?=some a):i=j:=by
  have b:=AD hi
  have c:=AD hj
  have:=hi.trans hj.symm
  rw [C4 b,C4 c] at this
  exact (List.getElem_inj d.nodup).1 (L1 this)
theorem Lr {l:List Int} {n:Nat} (hl:l.length=n) (b:∀ (k:Nat) (a:Int),l[k]?=some a->0<=a/\a < n) (c:∀ (i j:Nat) (a:Int),l[i]?=some a->l[j]?=some a->i=j):PermR l n:=by
  refine IV ?_ (λ x d=>?_) hl
  . rw [B5,C0]
    intro i j hi hj f e
    have:=c i j l[i] (C4 hi) (by rw [C4 hj,e])
    omega
  . obtain ⟨k,hk⟩:=G3 d
    exact b k x hk
theorem FL {n k:Nat} (a:k < n):(T5 n)[k]?=some (k:Int):=by
  unfold T5
  rw [I4,H0 a];rfl
theorem JC (n:Nat):PermR (T5 n) n:=M5 _
theorem OU {l:List Int} {n:Nat} (hl:l.length=n) (a:∀ k,k < n->l[k]?=some (k:Int)):l=T5 n:=I3 λ k=>by
  by_cases hk:k < n
  . rw [a k hk,FL hk]
  . rw [E6 (by omega),E6 (by rw [IB];omega)]
theorem On {n:Nat} (g:n<=1000000):Ej (n:Int)=some (T5 n):=by
  unfold Ej
  rw [Ga (by omega) (by omega),Ar,F0]
  obtain ⟨s,h1,h2,h3⟩:=Vm (ρ:=List Int) (f:=λ (a:Nat) (b:(List Int))=>bnd (b[a]?) λ _=>some (.next (b.set a (a:Int)))) (N:=n) (s₀:=List.replicate n 0) (λ k s=>s.length=n/\∀ j,j < k->s[j]?=some (j:Int)) ⟨by simp,λ j hj=>by omega⟩ (λ k s hk c=>by
    obtain ⟨d,i2⟩:=c
    obtain ⟨z,hz⟩:=AG (l:=s) (k:=k) (by omega)
    rw [hz,Ar]
    refine ⟨_,rfl,by simpa using d,λ j hj=>?_⟩
    rw [I5]
    by_cases e:k=j
    . rw [if_pos e,if_pos (by omega),e]
    . rw [if_neg e];exact i2 j (by omega))
  rw [h1,Ar,BB,OU h2 h3]
def U2 (a b:List Int):List Int:=a.map λ k=>(b[k.toNat]?).getD 0
theorem FM {a b:List Int} {n:Nat} (e:PermR a n) (hb:b.length=n) {k i:Nat} {z:Int} (c:a[k]?=some (i:Int)) (d:b[i]?=some z):(U2 a b)[k]?=some z:=by
  unfold U2
  rw [I4,c]
  simp [d]
theorem ML {a b:List Int} {n:Nat} (g:PermR a n) (hb:b.length=n) (hn:n<=1000000):DX a b=some (U2 a b):=by
  unfold DX
  have hl:=g.len
  rw [Ga (by omega) (by omega),Ar]
  obtain ⟨s,h1,h2,h3⟩:=Dw (ρ:=List Int) (f:=λ (c:Nat) (h:Int) (d:(List Int))=>bnd (atI b h) λ m=>bnd (d[c]?) λ _=>some (.next (d.set c m))) (xs:=a) (s₀:=List.replicate a.length 0) (λ k s=>s.length=a.length/\∀ j,j < k->s[j]?=(U2 a b)[j]?) ⟨by simp,λ j hj=>by omega⟩ (λ k y s hk o=>by
    obtain ⟨p,i2⟩:=o
    have hlt:=AD hk
    obtain ⟨i,hi,hin⟩:=HO g (k:=k) (by omega)
    obtain rfl:y=(i:Int):=by rw [hi] at hk;exact (L1 hk).symm
    obtain ⟨z,hz⟩:=AG (l:=b) (k:=i) (by omega)
    obtain ⟨u,hu⟩:=AG (l:=s) (k:=k) (by omega)
    rw [Bd,hz,Ar,hu,Ar]
    refine ⟨_,rfl,by simpa using p,λ j hj=>?_⟩
    rw [I5]
    by_cases e:k=j
    . subst e;rw [if_pos rfl,if_pos (by omega),FM g hb hi hz]
    . rw [if_neg e];exact i2 j (by omega))
  rw [h1,Ar,BB]
  refine congrArg some (I3 λ k=>?_)
  by_cases hk:k < a.length
  . exact h3 k hk
  . rw [E6 (by omega),E6 (by simp [U2];omega)]
theorem Ks {a b:List Int} {n:Nat} (d:PermR a n) (hb:PermR b n):PermR (U2 a b) n:=by
  have hl:(U2 a b).length=n:=by simp [U2,d.len]
  have c:∀ (k:Nat) (z:Int),(U2 a b)[k]?=some z->∃ i:Nat,a[k]?=some (i:Int)/\b[i]?=some z:=λ k z hz=>by
    obtain ⟨i,hi,hin⟩:=HO d (k:=k) (by rw [<- hl];exact AD hz)
    obtain ⟨y,hy,_⟩:=HO hb hin
    rw [FM d hb.len hi hy] at hz
    exact ⟨i,hi,hy.trans hz⟩
  refine Lr hl (λ k z hz=>?_) (λ k j z e f=>?_)
  . obtain ⟨i,hi,hz⟩:=c k z hz
    exact hb.mem (F9 hz)
  . obtain ⟨i,hi,hz⟩:=c k z e
    obtain ⟨g,hi',hz'⟩:=c j z f
    have:=HP hb hz hz'
    subst this
    exact HP d hi hi'
noncomputable def W2 (l:List Int):List Int:=(Dh l).getD []
theorem Gt {l:List Int} {n:Nat} (d:PermR l n) (hn:n≤1000000):Dh l=some (W2 l)∧(W2 l).length=n∧∀ i k:Nat,l[i]?=some (k:Int)→(W2 l)[k]?=some (i:Int):=by
  have hl:=d.len
  have:∃ s,Dh l=some s/\s.length=n/\∀ i k:Nat,l[i]?=some (k:Int)->s[k]?=some (i:Int):=by
    unfold Dh
    rw [Ga (by omega) (by omega),Ar]
    obtain ⟨s,h1,h2,h3⟩:=Dw (ρ:=List Int) (f:=λ (g:Nat) (b:Int) (c:(List Int))=>bnd (atI c b) λ _=>some (.next (c.set (b).toNat (g:Int)))) (xs:=l) (s₀:=List.replicate l.length 0) (λ k s=>s.length=n/\∀ i j:Nat,i < k->l[i]?=some (j:Int)->s[j]?=some (i:Int)) ⟨by simpa using hl,λ i j hi=>by omega⟩ (λ k y s hk m=>by
      obtain ⟨o,i2⟩:=m
      have hlt:=AD hk
      obtain ⟨j,hj,hjn⟩:=HO d (k:=k) (by omega)
      obtain rfl:y=(j:Int):=by rw [hj] at hk;exact (L1 hk).symm
      obtain ⟨u,hu⟩:=AG (l:=s) (k:=j) (by omega)
      rw [Bd,hu,Ar]
      refine ⟨_,rfl,by simpa using o,λ i h hi a=>?_⟩
      rw [show ((j:Int)).toNat=j from by omega,I5]
      by_cases e:j=h
      . subst e
        rw [if_pos rfl,if_pos (by omega),HP d a hk]
      . rw [if_neg e]
        refine i2 i h ?_ a
        have:i≠k:=λ p=>e (by subst p;rw [a] at hk;have:=L1 hk;omega)
        omega)
    exact ⟨s,by rw [h1,Ar,BB],h2,λ i k p=>h3 i k (AD p) p⟩
  obtain ⟨s,h1,h2,h3⟩:=this
  have e:W2 l=s:=by unfold W2;rw [h1];rfl
  rw [e];exact ⟨h1,h2,h3⟩
theorem Ls {l:List Int} {n:Nat} (c:PermR l n) (hn:n<=1000000):PermR (W2 l) n:=by
  obtain ⟨_,h2,h3⟩:=Gt c hn
  have b:∀ (k:Nat) (z:Int),(W2 l)[k]?=some z->∃ i:Nat,z=(i:Int)/\i < n/\l[i]?=some (k:Int):=λ k z hz=>by
    obtain ⟨i,hin,hi⟩:=FK c (a:=k) (by rw [<- h2];exact AD hz)
    have:=h3 i k hi
    rw [hz] at this
    exact ⟨i,L1 this,hin,hi⟩
  refine Lr h2 (λ k z hz=>?_) (λ k j z d f=>?_)
  . obtain ⟨i,rfl,hi,_⟩:=b k z hz;omega
  . obtain ⟨i,rfl,_,hi⟩:=b k z d
    obtain ⟨g,e,_,hi'⟩:=b j _ f
    obtain rfl:i=g:=by omega
    rw [hi] at hi'
    have:=L1 hi'
    omega
theorem Kt {l:List Int} {n:Nat} (b:PermR l n) (hn:n<=1000000):U2 l (W2 l)=T5 n:=by
  obtain ⟨_,h2,h3⟩:=Gt b hn
  refine OU (by simp [U2,b.len]) λ k hk=>?_
  obtain ⟨a,ha,_⟩:=HO b hk
  exact FM b h2 ha (h3 k a ha)
theorem Lt {x:Swp} {v u a z:Nat} {l:List Int} (b:x.vars[v]?=some (a:Int)) (c:x.vals[v]?=some l) (d:l[u]?=some (z:Int)):imF x ⟨v,u⟩=⟨a,z⟩:=by simp [imF,b,c,d]
theorem FN {t:Tsk} {x:Swp} {f:Fct} (b:TaskOk t) (d:Q0 t x) (hf:R1 t.vars f):∃ (v u n a z:Nat) (l:List Int),f=⟨v,u⟩/\v < t.vars.length/\t.vars[v]?=some (n:Int)/\n<=64/\u < n/\x.vars[v]?=some (a:Int)/\x.vals[v]?=some l/\PermR l n/\l[u]?=some (z:Int)/\z < n/\a < t.vars.length/\t.vars[a]?=some (n:Int)/\imF x f=⟨a,z⟩:=by
  obtain ⟨h,fu⟩:=f
  obtain ⟨g,h2,n,hn,h3⟩:=hf
  simp only at g h2 hn h3
  obtain ⟨v,rfl⟩:=D0 g
  obtain ⟨u,rfl⟩:=D0 h2
  rw [show ((v:Int)).toNat=v from by omega] at hn
  have hlt:=AD hn
  obtain ⟨m,a,l,q1,q2,q3,q4,q5⟩:=d.2.2 v hlt
  have e:(m:Int)=n:=by rw [hn] at q1;exact (L1 q1).symm
  subst e
  obtain ⟨c,ha2⟩:=d.1.mem (F9 q2)
  obtain ⟨a,rfl⟩:=D0 c
  obtain ⟨z,hz,hzn⟩:=HO q5 (k:=u) (by omega)
  have hm:=b.2.2.1 v m hn
  rw [Bd] at q4
  exact ⟨v,u,m,a,z,l,rfl,hlt,hn,by omega,by omega,q2,q3,q5,hz,hzn,by omega,q4,Lt q2 q3 hz⟩
theorem Ue {t:Tsk} {x:Swp} {f:Fct} (b:TaskOk t) (c:Q0 t x) (hf:R1 t.vars f):R1 t.vars (imF x f):=by
  obtain ⟨v,u,n,a,z,l,rfl,_,_,_,_,_,_,_,_,hz,ha,hta,e⟩:=FN b c hf
  rw [e]
  exact ⟨by simp,by simp,n,by simpa using hta,by simpa using hz⟩
theorem QC {t:Tsk} {x:Swp} {c:List Fct} (d:TaskOk t) (e:Q0 t x) (hf:Q7 t.vars c):(∀ f∈imL x c,R1 t.vars f)/\(imL x c).Pairwise λ a b=>a.var < b.var:=by
  refine ⟨λ f h=>?_,NA (Wy e hf)⟩
  have h:=(Fd _).mem_iff.1 h
  obtain ⟨g,hg,rfl⟩:=N8.1 h
  exact Ue d e ((Ea hf).1 g hg)
theorem Ug {t:Tsk} {x:Swp} {c d:List Fct} (e:Q0 t x) (hf:Q7 t.vars c) (f:d.Pairwise λ a b=>a.var < b.var) (g:d.Perm (c.map (imF x))):imL x c=d :=
  TS ((Fd _).trans g.symm) (NA (Wy e hf)) f
theorem Ku {t:Tsk} {x y z:Swp} {a:List Fct} (b:TaskOk t) (h:Q0 t x) (g:Q0 t y) (hz:Q0 t z) (hf:Q7 t.vars a) (c:Q7 t.vars (imL x a)) (i:∀ f,R1 t.vars f->imF z f=imF y (imF x f)):imL z a=imL y (imL x a):=by
  refine Ug hz hf (QC b g c).2 ?_
  refine (Fd _).trans ?_
  have e:a.map (imF z)=(a.map (imF x)).map (imF y):=by
    rw [N9]
    exact H1 λ f d=>i f ((Ea hf).1 f d)
  rw [e]
  exact (Fd _).map _
theorem SX {vars:List Int} {f:List Fct} (b:∀ x∈f,R1 vars x) (c:f.Pairwise λ x y=>x.var < y.var):Q7 vars f:=by
  refine ⟨λ i x a=>b x (F9 a),λ i x y a d=>?_⟩
  obtain ⟨hi,rfl⟩:=B6.1 a
  obtain ⟨hj,rfl⟩:=B6.1 d
  exact C0.1 c i (i + 1) hi hj (J9 i)
theorem Jq {t:Tsk} {x:Swp} {b:List Fct} (a:TaskOk t) (c:Q0 t x) (hf:Q7 t.vars b):Q7 t.vars (imL x b):=SX (QC a c hf).1 (QC a c hf).2
theorem IY {t:Tsk} {x:Swp} {a:List Fct} (c:Q0 t x) (hf:Q7 t.vars a) (d:∀ f,R1 t.vars f->imF x f=f):imL x a=a:=by
  refine Ug c hf (Ea hf).2 ?_
  have:a.map (imF x)=a.map id:=H1 λ f b=>d f ((Ea hf).1 f b)
  rw [this,P6]
theorem MM {t:Tsk} {x y z:Swp} {e:Eff} (a:TaskOk t) (b:Q0 t x) (c:Q0 t y) (hz:Q0 t z) (he:Y4 t.vars e) (h:∀ f,R1 t.vars f->imF z f=imF y (imF x f)):imE z e=imE y (imE x e):=by
  have d:=Ku a b c hz he.1 (Jq a b he.1) h
  have g:=h ⟨e.var,e.val⟩ he.2
  show (⟨imL z e.cond,(imF z ⟨e.var,e.val⟩).var,(imF z ⟨e.var,e.val⟩).val⟩:Eff)=⟨imL y (imL x e.cond),(imF y (imF x ⟨e.var,e.val⟩)).var,(imF y (imF x ⟨e.var,e.val⟩)).val⟩
  rw [d,g]
theorem MN {t:Tsk} {x:Swp} {e:Eff} (a:Q0 t x) (he:Y4 t.vars e) (b:∀ f,R1 t.vars f->imF x f=f):imE x e=e:=by
  show (⟨imL x e.cond,(imF x ⟨e.var,e.val⟩).var,(imF x ⟨e.var,e.val⟩).val⟩:Eff)=e
  rw [IY a he.1 b,b _ he.2]
theorem HQ {vars:List Int} {o:Opr} (a:Aan vars o):∀ e∈o.effs,Y4 vars e:=λ e he=>by
  obtain ⟨j,hj⟩:=G3 he
  exact a.2.2.2.2.2 j e hj
def idX (t:Tsk):Swp:=⟨T5 t.vars.length,t.vars.map λ n=>T5 n.toNat,T5 t.ops.length⟩
theorem EA {t:Tsk} (a:TaskOk t):Q0 t (idX t):=by
  refine ⟨JC _,by simp [idX],λ k hk=>?_⟩
  obtain ⟨n,hn⟩:=AG (l:=t.vars) (k:=k) hk
  have:=a.2.2.1 k n hn
  obtain ⟨m,rfl⟩:=D0 (by omega:0<=n)
  exact ⟨m,k,T5 m,hn,FL hk,by simp [idX,hn],by rw [Bd,hn],JC _⟩
theorem FA {t:Tsk} (b:TaskOk t) {f:Fct} (hf:R1 t.vars f):imF (idX t) f=f:=by
  obtain ⟨v,u,n,a,z,l,rfl,h1,h2,_,hu,h3,h4,_,h5,_,_,_,e⟩:=FN b (EA b) hf
  have c:(idX t).vars[v]?=some (v:Int):=FL h1
  have d:(idX t).vals[v]?=some (T5 n):=by simp [idX,h2]
  exact Lt c d (FL hu)
theorem QD {t:Tsk} (a:TaskOk t):SymP t (idX t):=by
  refine ⟨EA a,JC _,IY (EA a) a.2.2.2.2.1 λ f=>FA a,λ k hk=>?_⟩
  obtain ⟨o,ho⟩:=AG (l:=t.ops) (k:=k) hk
  have b:=a.2.2.2.2.2 k o ho
  refine ⟨o,o,k,ho,FL hk,by rw [Bd,ho],rfl,IY (EA a) b.2.2.2.2.1 λ f=>FA a,?_⟩
  have:o.effs.map (imE (idX t))=o.effs.map id:=H1 λ e he=>MN (EA a) (HQ b e he) λ f=>FA a
  rw [this,P6]
theorem AbD {t:Tsk} (a:TaskOk t):By t []=some ⟨0⟩:=by
  unfold By Dr
  rw [Ar,if_neg (by rw [EO.2 a];simp)]
  rfl
theorem AbG {t:Tsk} {x y:Swp} (a:TaskOk t):By t [x,y]=some ⟨if bof (SymP t x/\SymP t y)=true then 0 else 2⟩:=by
  unfold By Dr
  rw [Ar,if_neg (by rw [EO.2 a];simp)]
  simp only [rng]
  rw [LR a,LR a,Ar,Ar]
  by_cases b:SymP t x
  . rw [Bk b,BS]
    by_cases c:SymP t y
    . rw [Bk c,BS,Bk (p:=SymP t x/\SymP t y) ⟨b,c⟩];rfl
    . rw [AY c,CA,AY (p:=SymP t x/\SymP t y) (λ d=>c d.2)];rfl
  . rw [AY b,CA,AY (p:=SymP t x/\SymP t y) (λ d=>b d.1)];rfl
def T0 (x y:Swp):Swp:=⟨U2 x.vars y.vars,x.vals.mapIdx λ v l=>U2 l ((y.vals[((x.vars[v]?).getD 0).toNat]?).getD []),U2 x.ops y.ops⟩
theorem Ij {x y:Swp} {v a:Nat} {l m:List Int} (b:x.vars[v]?=some (a:Int)) (c:x.vals[v]?=some l) (d:y.vals[a]?=some m):(T0 x y).vals[v]?=some (U2 l m):=by
  simp [T0,List.getElem?_mapIdx,b,c,d]
theorem OV {t:Tsk} {x y:Swp} (c:Q0 t x) (d:Q0 t y):Q0 t (T0 x y):=by
  refine ⟨Ks c.1 d.1,by simp [T0,c.2.1],λ k hk=>?_⟩
  obtain ⟨n,a,l,q1,q2,q3,q4,q5⟩:=c.2.2 k hk
  obtain ⟨f,ha2⟩:=c.1.mem (F9 q2)
  obtain ⟨a,rfl⟩:=D0 f
  obtain ⟨g,b,m,p1,p2,p3,p4,p5⟩:=d.2.2 a (by omega)
  rw [Bd] at q4
  have e:n=g:=by rw [q4] at p1;have:=L1 p1;omega
  subst e
  exact ⟨n,b,U2 l m,q1,FM c.1 d.1.len q2 p2,Ij q2 q3 p3,p4,Ks q5 p5⟩
theorem OW {t:Tsk} {x y:Swp} (b:TaskOk t) (d:Q0 t x) (g:Q0 t y) {f:Fct} (hf:R1 t.vars f):imF (T0 x y) f=imF y (imF x f):=by
  obtain ⟨v,u,n,a,z,l,rfl,h1,h2,h3,hu,h4,h5,h6,h7,h8,h9,h10,e⟩:=FN b d hf
  have c:=Ue b d hf
  rw [e] at c ⊢
  obtain ⟨h,u',n',a',z',l',e',g1,g2,g3,gu,g4,g5,g6,g7,g8,g9,g10,e2⟩:=FN b g c
  have i:h=a:=by have:=congrArg Fct.var e';simp at this;omega
  have j:u'=z:=by have:=congrArg Fct.val e';simp at this;omega
  subst i j
  rw [e2]
  have hn:n'=n:=by rw [g2] at h10;have:=L1 h10;omega
  subst hn
  exact Lt (FM d.1 g.1.len h4 g4) (Ij h4 h5 g5) (FM h6 g6.len h7 g7)
theorem EH {t:Tsk} {x:Swp} (c:SymP t x) {k:Nat} (hk:k < t.ops.length):∃ (o p:Opr) (a:Nat),t.ops[k]?=some o/\x.ops[k]?=some (a:Int)/\a < t.ops.length/\t.ops[a]?=some p/\o.cost=p.cost/\imL x o.pre=p.pre/\o.effs.map (imE x)=p.effs:=by
  obtain ⟨o,p,a,h1,h2,h3,h4⟩:=c.2.2.2 k hk
  obtain ⟨b,ha2⟩:=c.2.1.mem (F9 h2)
  obtain ⟨a,rfl⟩:=D0 b
  rw [Bd] at h3
  exact ⟨o,p,a,h1,h2,by omega,h3,h4⟩
theorem Kv {t:Tsk} {x y:Swp} (c:TaskOk t) (d:SymP t x) (g:SymP t y):SymP t (T0 x y):=by
  have hz:=OV d.1 g.1
  have hc:∀ f,R1 t.vars f->imF (T0 x y) f=imF y (imF x f):=λ f=>OW c d.1 g.1
  have j:∀ i,Q7 t.vars i->imL (T0 x y) i=imL y (imL x i):=λ i hf=>Ku c d.1 g.1 hz hf (Jq c d.1 hf) hc
  refine ⟨hz,Ks d.2.1 g.2.1,by rw [j _ c.2.2.2.2.1,d.2.2.1,g.2.2.1],λ k hk=>?_⟩
  obtain ⟨o,p,a,h1,h2,ha,h3,h4,h5,h6⟩:=EH d hk
  obtain ⟨l,q,b,g1,g2,hb,g3,g4,g5,g6⟩:=EH g ha
  obtain rfl:p=l:=by rw [g1] at h3;exact (L1 h3).symm
  have h:=c.2.2.2.2.2 k o h1
  refine ⟨o,q,b,h1,FM d.2.1 g.2.1.len h2 g2,by rw [Bd,g3],h4.trans g4,by rw [j _ h.2.2.2.2.1,h5,g5],?_⟩
  have:o.effs.map (imE (T0 x y))=o.effs.map (imE y ∘ imE x):=H1 λ e he=>MM c d.1 g.1 hz (HQ h e he) hc
  rw [this,<- N9,h6,g6]
noncomputable def V9 (x:Swp):Swp:=⟨W2 x.vars,(List.range x.vals.length).map λ w=>W2 ((x.vals[(((W2 x.vars)[w]?).getD 0).toNat]?).getD []),W2 x.ops⟩
theorem Kw {t:Tsk} {x:Swp} (b:TaskOk t) (c:Q0 t x) {v a:Nat} {l:List Int} (d:x.vars[v]?=some (a:Int)) (e:x.vals[v]?=some l):(V9 x).vals[a]?=some (W2 l):=by
  obtain ⟨_,h4,h5⟩:=Gt c.1 (by have:=b.1;omega)
  have:=c.1.mem (F9 d)
  have f:=h5 v a d
  show ((List.range x.vals.length).map _)[a]?=_
  rw [I4,H0 (by rw [c.2.1];omega)]
  simp [f,e]
theorem MO {t:Tsk} {x:Swp} (b:TaskOk t) (c:Q0 t x):Q0 t (V9 x):=by
  have hl:t.vars.length<=1000000:=by have:=b.1;omega
  refine ⟨Ls c.1 hl,by simp [V9,c.2.1],λ k hk=>?_⟩
  obtain ⟨v,hv,hvk⟩:=FK c.1 hk
  obtain ⟨n,a,l,q1,q2,q3,q4,q5⟩:=c.2.2 v hv
  obtain rfl:a=(k:Int):=by rw [hvk] at q2;exact (L1 q2).symm
  rw [Bd] at q4
  have hn:=b.2.2.1 v n q1
  obtain ⟨_,h4,h5⟩:=Gt c.1 hl
  exact ⟨n,v,W2 l,q4,h5 v k hvk,Kw b c hvk q3,by rw [Bd,q1],Ls q5 (by omega)⟩
theorem QE {t:Tsk} {x:Swp} (b:TaskOk t) (c:Q0 t x) {f:Fct} (hf:R1 t.vars f):imF (V9 x) (imF x f)=f:=by
  obtain ⟨v,u,n,a,z,l,rfl,h1,h2,h3,hu,h4,h5,h6,h7,h8,h9,h10,e⟩:=FN b c hf
  rw [e]
  have hl:t.vars.length<=1000000:=by have:=b.1;omega
  exact Lt ((Gt c.1 hl).2.2 v a h4) (Kw b c h4 h5) ((Gt h6 (by omega)).2.2 u z h7)
theorem QF {t:Tsk} {x:Swp} (a:TaskOk t) (b:Q0 t x) {c:List Fct} (hf:Q7 t.vars c):imL (V9 x) (imL x c)=c:=by
  rw [<- Ku a b (MO a b) (EA a) hf (Jq a b hf) (λ f hf=>by rw [QE a b hf,FA a hf])]
  exact IY (EA a) hf λ f=>FA a
theorem Xl {t:Tsk} {x:Swp} (a:TaskOk t) (b:Q0 t x) {e:Eff} (he:Y4 t.vars e):imE (V9 x) (imE x e)=e:=by
  rw [<- MM a b (MO a b) (EA a) he (λ f hf=>by rw [QE a b hf,FA a hf])]
  exact MN (EA a) he λ f=>FA a
theorem Oo {t:Tsk} {x:Swp} (b:TaskOk t) (c:SymP t x):SymP t (V9 x):=by
  have hl:t.ops.length<=1000000:=by have:=b.2.1;omega
  refine ⟨MO b c.1,Ls c.2.1 hl,?_,λ k hk=>?_⟩
  . have:=QF b c.1 b.2.2.2.2.1
    rwa [c.2.2.1] at this
  . obtain ⟨j,hj,hjk⟩:=FK c.2.1 hk
    obtain ⟨o,p,a,h1,h2,ha,h3,h4,h5,h6⟩:=EH c hj
    obtain rfl:a=k:=by rw [hjk] at h2;have:=L1 h2;omega
    have d:=b.2.2.2.2.2 j o h1
    refine ⟨p,o,j,h3,(Gt c.2.1 hl).2.2 j a hjk,by rw [Bd,h1],h4.symm,by rw [<- h5,QF b c.1 d.2.2.2.2.1],?_⟩
    rw [<- h6,N9]
    have:o.effs.map (imE (V9 x) ∘ imE x)=o.effs.map id:=H1 λ e he=>Xl b c.1 (HQ d e he)
    rw [this,P6]
theorem VC {t:Tsk} {x:Swp} (b:TaskOk t) (c:SymP t x):T0 x (V9 x)=idX t:=by
  have hl:t.vars.length<=1000000:=by have:=b.1;omega
  have d:t.ops.length<=1000000:=by have:=b.2.1;omega
  have f:(T0 x (V9 x)).vars=(idX t).vars:=Kt c.1.1 hl
  have g:(T0 x (V9 x)).ops=(idX t).ops:=Kt c.2.1 d
  have h:(T0 x (V9 x)).vals=(idX t).vals:=I3 λ k=>by
    by_cases hk:k < t.vars.length
    . obtain ⟨n,a,l,q1,q2,q3,q4,q5⟩:=c.1.2.2 k hk
      obtain ⟨e,ha2⟩:=c.1.1.mem (F9 q2)
      obtain ⟨a,rfl⟩:=D0 e
      have hn:=b.2.2.1 k n q1
      rw [Ij q2 q3 (Kw b c.1 q2 q3),Kt q5 (by omega)]
      simp [idX,q1]
    . rw [E6 (by simp [T0,c.1.2.1];omega),E6 (by simp [idX];omega)]
  cases j:T0 x (V9 x)
  rw [j] at f g h
  cases i:idX t
  rw [i] at f g h
  simp_all
theorem QG {t:Tsk} {x:Swp} {s r r':List Int} (d:Q0 t x) (hs:s.length=t.vars.length) (g:ImS x s r) (c:ImS x s r'):r=r':=I3 λ a=>by
  by_cases e:a < t.vars.length
  . obtain ⟨v,hv,hva⟩:=FK d.1 e
    obtain ⟨u,hu⟩:=AG (l:=s) (k:=v) (by omega)
    obtain ⟨b,l,z,q1,q2,q3,q4⟩:=g.2 v u hu
    obtain ⟨f,l',z',p1,p2,p3,p4⟩:=c.2 v u hu
    obtain rfl:b=a:=by rw [hva] at q1;have:=L1 q1;omega
    obtain rfl:f=b:=by rw [hva] at p1;have:=L1 p1;omega
    obtain rfl:l=l':=by rw [q2] at p2;exact L1 p2
    rw [q4,p4];rw [q3] at p3;exact p3
  . rw [E6 (by rw [g.1];omega),E6 (by rw [c.1];omega)]
theorem Uh {t:Tsk} {x:Swp} {s r:List Int} (c:Q0 t x) (hs:StateOk t.vars s) (d:ImS x s r):StateOk t.vars r:=by
  refine ⟨d.1.trans hs.1,λ a z n hz hn=>?_⟩
  obtain ⟨v,hv,hva⟩:=FK c.1 (AD hn)
  obtain ⟨u,hu⟩:=AG (l:=s) (k:=v) (by rw [hs.1];exact hv)
  obtain ⟨b,l,z',q1,q2,q3,q4⟩:=d.2 v u hu
  obtain rfl:b=a:=by rw [hva] at q1;have:=L1 q1;omega
  obtain ⟨m,b',l',p1,p2,p3,p4,p5⟩:=c.2.2 v hv
  obtain rfl:b'=(b:Int):=by rw [hva] at p2;exact (L1 p2).symm
  obtain rfl:l=l':=by rw [q2] at p3;exact L1 p3
  rw [Bd,hn] at p4
  rw [q4] at hz
  obtain rfl:=L1 hz
  obtain ⟨j,_,hj⟩:=HI q3
  have:=p5.mem (F9 hj)
  have:=L1 p4
  omega
theorem MP {t:Tsk} {x y:Swp} {s a b:List Int} (f:Q0 t x) (o:Q0 t y) (hs:StateOk t.vars s) (p:ImS x s a) (hb:ImS y a b):ImS (T0 x y) s b:=by
  refine ⟨hb.1.trans p.1,λ k v hk=>?_⟩
  obtain ⟨i,l,z,q1,q2,q3,q4⟩:=p.2 k v hk
  obtain ⟨j,m,z',p1,p2,p3,p4⟩:=hb.2 i z q4
  obtain ⟨c,rfl,hc⟩:=HI q3
  obtain ⟨d,rfl,hd⟩:=HI p3
  have g:k < t.vars.length:=by rw [<- hs.1];exact AD hk
  obtain ⟨n,a',l',u1,u2,u3,u4,u5⟩:=f.2.2 k g
  obtain rfl:l=l':=by rw [q2] at u3;exact L1 u3
  obtain rfl:a'=(i:Int):=by rw [q1] at u2;exact (L1 u2).symm
  have h:i < t.vars.length:=by have:=f.1.mem (F9 q1);omega
  obtain ⟨q,b',m',w1,w2,w3,w4,w5⟩:=o.2.2 i h
  obtain rfl:m=m':=by rw [p2] at w3;exact L1 w3
  rw [Bd] at u4
  have e:n=q:=by rw [u4] at w1;have:=L1 w1;omega
  subst e
  exact ⟨j,U2 l m,z',FM f.1 o.1.len q1 p1,Ij q1 q2 p2,by rw [Bd,FM u5 w5.len hc hd],p4⟩
theorem QH {t:Tsk} {s:List Int} (b:TaskOk t) (hs:StateOk t.vars s):ImS (idX t) s s:=by
  refine ⟨rfl,λ k v hk=>?_⟩
  have a:k < t.vars.length:=by rw [<- hs.1];exact AD hk
  obtain ⟨n,hn⟩:=AG (l:=t.vars) (k:=k) a
  obtain ⟨c,h2⟩:=hs.2 k v n hk hn
  obtain ⟨v,rfl⟩:=D0 c
  obtain ⟨n,rfl⟩:=D0 (by omega:0<=n)
  exact ⟨k,T5 n,v,FL a,by simp [idX,hn],by rw [Bd,FL (by omega)],hk⟩
end
section
open Go Go.RowKit
theorem Kx {p:Prop} (a:bof p=true):p:=B9 λ hn=>by rw [AY hn] at a;cases a
abbrev Ky:=Int×List Fct×List Eff
def kyO (x:Swp) (o:Opr):Ky:=(o.cost,imL x o.pre,o.effs.map (imE x))
def kyP (p:Opr):Ky:=(p.cost,p.pre,p.effs)
theorem QI {x:Swp} {o p:Opr}:Mt x o p↔kyO x o=kyP p:=by
  unfold Mt kyO kyP
  constructor
  . rintro ⟨a,b,c⟩;rw [a,b,c]
  . intro d
    injection d with a d
    injection d with b c
    exact ⟨a,b,c⟩
theorem Lu {x:Swp} {o:Opr}:∀ (ps:List Opr) (bs:List Bool) (k j:Nat),W6 x o ps bs k=some j→∃ i,j=k + i∧(∃ p,ps[i]?=some p∧Mt x o p)∧bs[i]?=some false∧∀ (a:Nat) (c:Opr),a < i→ps[a]?=some c→bs[a]?=some false→¬ Mt x o c
  | [],bs,k,j,g=>by simp [W6] at g
  | p :: ps,[],k,j,g=>by simp [W6] at g
  | p :: ps,b :: bs,k,j,g=>by
    unfold W6 at g
    split at g
    . rename_i h1
      injection g with g
      exact ⟨0,by omega,⟨p,rfl,Kx h1.2⟩,by rw [h1.1];rfl,λ a c hi=>absurd hi (by omega)⟩
    . rename_i h1
      obtain ⟨i,h2,⟨q,h3,h4⟩,h5,h6⟩:=Lu ps bs (k + 1) j g
      refine ⟨i + 1,by omega,⟨q,h3,h4⟩,h5,λ a c hi f hb=>?_⟩
      cases a with
      | zero =>
        intro hm
        have d:p=c:=by simpa using f
        have e:b=false:=by simpa using hb
        subst d
        exact h1 ⟨e,Bk hm⟩
      | succ a=>exact h6 a c (by omega) f hb
theorem OX {x:Swp} {o:Opr}:∀ (ps:List Opr) (bs:List Bool) (k:Nat),ps.length=bs.length→W6 x o ps bs k=none→∀ (i:Nat) (p:Opr),ps[i]?=some p→bs[i]?=some false→¬ Mt x o p
  | [],bs,k,_,_=>λ i p e=>by simp at e
  | p :: ps,[],k,hl,_=>by simp at hl
  | p :: ps,b :: bs,k,hl,g=>by
    unfold W6 at g
    split at g
    . cases g
    . rename_i h1
      have f:=OX ps bs (k + 1) (by simpa using hl) g
      intro i q d hb hm
      cases i with
      | zero =>
        have a:p=q:=by simpa using d
        have c:b=false:=by simpa using hb
        subst a
        exact h1 ⟨c,Bk hm⟩
      | succ i=>exact f i q d hb hm
structure OpI (t:Tsk) (x:Swp) (tk:List Bool) (acc:List Int):Prop where
  len:tk.length=t.ops.length
  tak:∀ k:Nat,k < t.ops.length->(tk[k]?=some true↔(k:Int)∈acc)
  nod:acc.Nodup
  mat:∀ (j:Nat) (a:Int),acc[j]?=some a->∃ (o p:Opr) (k:Nat),a=(k:Int)/\t.ops[j]?=some o/\t.ops[k]?=some p/\Mt x o p
theorem OpI.nil (t:Tsk) (x:Swp):OpI t x (List.replicate t.ops.length false) []:=⟨by simp,λ k hk=>by simp [hk],by simp,λ j a b=>by simp at b⟩
theorem OpI.snoc {t:Tsk} {x:Swp} {g:List Bool} {c:List Int} (m:OpI t x g c) {o:Opr} (l:t.ops[c.length]?=some o) {k:Nat} {p:Opr} (i:t.ops[k]?=some p) (hb:g[k]?=some false) (hm:Mt x o p):OpI t x (g.set k true) (c ++ [(k:Int)]):=by
  have hk:=AD i
  have f:(k:Int) ∉ c:=λ e=>by rw [(m.tak k hk).2 e] at hb;simp at hb
  refine ⟨by rw [L5,m.len],λ j hj=>?_,?_,λ j a d=>?_⟩
  . rw [I5,K9]
    by_cases e:k=j
    . subst e
      have:=m.len
      simp [show k < g.length by omega]
    . rw [if_neg e,m.tak j hj]
      have:¬ (j:Int)=(k:Int):=by omega
      simp [this]
  . rw [I8]
    exact ⟨m.nod,by simp,λ a d b hb e=>f (by simp at hb;rw [<- hb,<- e];exact d)⟩
  . by_cases hj:j < c.length
    . rw [B8 hj] at d
      exact m.mat j a d
    . have h:j=c.length:=by have:=AD d;simp at this;omega
      subst h
      rw [B4 (P1 _),Nat.sub_self] at d
      have:(k:Int)=a:=by simpa using d
      exact ⟨o,p,k,this.symm,l,i,hm⟩
theorem NH {t:Tsk} {x:Swp}:∀ (os:List Opr) (b:List Bool) (a l:List Int),OpI t x b a→os=t.ops.drop a.length→a.length + os.length=t.ops.length→Z6 x t.ops os b a=some l→∃ c,OpI t x c l∧l.length=t.ops.length
  | [],b,a,l,hi,_,hl,f=>by
    unfold Z6 at f
    injection f with f
    subst f
    exact ⟨b,hi,by simpa using hl⟩
  | o :: os,b,a,l,hi,hd,hl,f=>by
    unfold Z6 at f
    cases hf:W6 x o t.ops b 0 with
    | none=>rw [hf] at f;cases f
    | some j =>
      rw [hf] at f
      simp only at f
      obtain ⟨i,e,⟨p,hp,hm⟩,hb,_⟩:=Lu _ _ _ _ hf
      have e:j=i:=by omega
      subst e
      have d:t.ops[a.length]?=some o:=by
        have:(t.ops.drop a.length)[0]?=some o:=by rw [<- hd];rfl
        rwa [H7,N3] at this
      refine NH os _ _ l (hi.snoc d hp hb hm) ?_ ?_ f
      . have:t.ops.drop (a.length + 1)=(o :: os).drop 1:=by rw [hd,List.drop_drop]
        rw [H2,F2,this];rfl
      . simp at hl ⊢;omega
theorem OY {t:Tsk} {x:Swp} {π:Nat→Nat} (h:∀ i j,i < t.ops.length→j < t.ops.length→π i=π j→i=j) (hm:∀ (i:Nat) (o:Opr),t.ops[i]?=some o→∃ p,t.ops[π i]?=some p∧Mt x o p) :
    ∀ (os:List Opr) (f:List Bool) (d:List Int),OpI t x f d->os=t.ops.drop d.length->d.length + os.length=t.ops.length->∃ l,Z6 x t.ops os f d=some l
  | [],f,d,_,_,_=>⟨d,rfl⟩
  | o :: os,f,d,hi,hd,hl=>by
    have u:t.ops[d.length]?=some o:=by
      have:(t.ops.drop d.length)[0]?=some o:=by rw [<- hd];rfl
      rwa [H7,N3] at this
    unfold Z6
    cases hf:W6 x o t.ops f 0 with
    | some j =>
      obtain ⟨i,e,⟨p,hp,hmt⟩,hb,_⟩:=Lu _ _ _ _ hf
      have e:j=i:=by omega
      subst e
      refine OY h hm os _ _ (hi.snoc u hp hb hmt) ?_ ?_
      . have:t.ops.drop (d.length + 1)=(o :: os).drop 1:=by rw [hd,List.drop_drop]
        rw [H2,F2,this];rfl
      . simp at hl ⊢;omega
    | none =>
      exfalso
      have v:=OX t.ops f 0 hi.len.symm hf
      have hlt:=AD u
      let w:Nat->Bool:=λ i=>bof (∃ q,t.ops[i]?=some q/\kyO x q=kyO x o)
      let y:Nat->Bool:=λ i=>bof (∃ q,t.ops[i]?=some q/\kyP q=kyO x o)
      let A:=(List.range t.ops.length).filter w
      let r:=(List.range d.length).filter w
      let B:=(List.range t.ops.length).filter y
      have D:A.length<=B.length:=by
        have:=Y2 (l₁:=A.map π) (l₂:=B) (Hp (K8.filter _) λ a m b hb e=>h a b (M4.1 (L6.1 m).1) (M4.1 (L6.1 hb).1) e) λ b hb=>by
          obtain ⟨a,m,rfl⟩:=N8.1 hb
          obtain ⟨z,ha2⟩:=L6.1 m
          obtain ⟨q,hq,hqe⟩:=Kx ha2
          obtain ⟨p,hp,hpm⟩:=hm a q hq
          refine L6.2 ⟨M4.2 (AD hp),Bk ⟨p,hp,?_⟩⟩
          rw [<- QI.1 hpm,hqe]
        rwa [L7] at this
      have E:B.length<=r.length:=by
        have:=Y2 (l₁:=B) (l₂:=r.map λ j=>((d[j]?).getD 0).toNat) (K8.filter _) λ b hb=>by
          obtain ⟨g,hb2⟩:=L6.1 hb
          obtain ⟨q,hq,hqe⟩:=Kx hb2
          have n:=M4.1 g
          obtain ⟨c,hc⟩:=AG (l:=f) (k:=b) (by rw [hi.len];exact n)
          cases c with
          | false=>exact absurd (QI.2 hqe.symm) (v b q hq hc)
          | true =>
            obtain ⟨j,hj⟩:=G3 ((hi.tak b n).1 hc)
            obtain ⟨o',p',k,e1,e2,s,e4⟩:=hi.mat j _ hj
            have C:k=b:=by omega
            subst C
            rw [hq] at s
            injection s with s
            subst s
            refine N8.2 ⟨j,L6.2 ⟨M4.2 (AD hj),Bk ⟨o',e2,?_⟩⟩,by rw [hj];simp⟩
            rw [QI.1 e4,hqe]
        rwa [L7] at this
      have F  : r.length + 1≤A.length:=by
        have:=Y2 (l₁:=r ++ [d.length]) (l₂:=A) (I8.2 ⟨K8.filter _,by simp,λ a m b hb e=>by
          simp at hb
          have:=M4.1 (L6.1 m).1
          omega⟩) λ b hb=>by
            rcases K9.1 hb with hb|hb
            . obtain ⟨g,hb2⟩:=L6.1 hb
              have:=M4.1 g
              exact L6.2 ⟨M4.2 (by omega),hb2⟩
            . simp at hb
              subst hb
              exact L6.2 ⟨M4.2 hlt,Bk ⟨o,u,rfl⟩⟩
        simpa using this
      omega
end
section
open Go Go.RowKit
def X3 (l:List Int):List Int:=(List.range l.length).map λ k:Nat=>((l.idxOf (k:Int):Nat):Int)
theorem Ui:∀ {l:List Int},l.Nodup->∀ {i:Nat} {x:Int},l[i]?=some x->l.idxOf x=i
  | [],_,i,x,h=>by simp at h
  | y :: l,hn,0,x,h=>by
    have:y=x:=by simpa using h
    rw [this,List.idxOf_cons_self]
  | y :: l,hn,i + 1,x,h=>by
    obtain ⟨c,h2⟩:=M3.1 hn
    have b:l[i]?=some x:=by simpa using h
    have a:¬ y=x:=λ e=>c (e ▸ F9 b)
    rw [List.idxOf_cons,Ui h2 b,show (y == x)=false from by simpa using a]
    rfl
theorem IF {l:List Int} {n:Nat} (a:PermR l n) (_:n<=1000000):True/\(X3 l).length=n/\∀ i k:Nat,l[i]?=some (k:Int)->(X3 l)[k]?=some (i:Int):=by
  refine ⟨trivial,by simp [X3,a.len],λ i k b=>?_⟩
  have:=a.mem (F9 b)
  unfold X3
  rw [I4,H0 (by rw [a.len];omega)]
  show some ((l.idxOf (k:Int):Nat):Int)=_
  rw [Ui a.nodup b]
theorem Lv {l:List Int} {n:Nat} (c:PermR l n) (hn:n<=1000000):PermR (X3 l) n:=by
  obtain ⟨_,h2,h3⟩:=IF c hn
  have b:∀ (k:Nat) (z:Int),(X3 l)[k]?=some z->∃ i:Nat,z=(i:Int)/\i < n/\l[i]?=some (k:Int):=λ k z hz=>by
    obtain ⟨i,hin,hi⟩:=FK c (a:=k) (by rw [<- h2];exact AD hz)
    have:=h3 i k hi
    rw [hz] at this
    exact ⟨i,L1 this,hin,hi⟩
  refine Lr h2 (λ k z hz=>?_) (λ k j z d f=>?_)
  . obtain ⟨i,rfl,hi,_⟩:=b k z hz;omega
  . obtain ⟨i,rfl,_,hi⟩:=b k z d
    obtain ⟨g,e,_,hi'⟩:=b j _ f
    obtain rfl:i=g:=by omega
    rw [hi] at hi'
    have:=L1 hi'
    omega
def Y0 (x:Swp):Swp:=⟨X3 x.vars,(List.range x.vals.length).map λ w=>X3 ((x.vals[(((X3 x.vars)[w]?).getD 0).toNat]?).getD []),X3 x.ops⟩
theorem OZ {t:Tsk} {x:Swp} (b:TaskOk t) (c:Q0 t x) {v a:Nat} {l:List Int} (d:x.vars[v]?=some (a:Int)) (e:x.vals[v]?=some l):(Y0 x).vals[a]?=some (X3 l):=by
  obtain ⟨_,h4,h5⟩:=IF c.1 (by have:=b.1;omega)
  have:=c.1.mem (F9 d)
  have f:=h5 v a d
  show ((List.range x.vals.length).map _)[a]?=_
  rw [I4,H0 (by rw [c.2.1];omega)]
  simp [f,e]
theorem GD {t:Tsk} {x:Swp} (b:TaskOk t) (c:Q0 t x):Q0 t (Y0 x):=by
  have hl:t.vars.length<=1000000:=by have:=b.1;omega
  refine ⟨Lv c.1 hl,by simp [Y0,c.2.1],λ k hk=>?_⟩
  obtain ⟨v,hv,hvk⟩:=FK c.1 hk
  obtain ⟨n,a,l,q1,q2,q3,q4,q5⟩:=c.2.2 v hv
  obtain rfl:a=(k:Int):=by rw [hvk] at q2;exact (L1 q2).symm
  rw [Bd] at q4
  have hn:=b.2.2.1 v n q1
  obtain ⟨_,h4,h5⟩:=IF c.1 hl
  exact ⟨n,v,X3 l,q4,h5 v k hvk,OZ b c hvk q3,by rw [Bd,q1],Lv q5 (by omega)⟩
theorem Lw {t:Tsk} {x:Swp} (b:TaskOk t) (c:Q0 t x) {f:Fct} (hf:R1 t.vars f):imF (Y0 x) (imF x f)=f:=by
  obtain ⟨v,u,n,a,z,l,rfl,h1,h2,h3,hu,h4,h5,h6,h7,h8,h9,h10,e⟩:=FN b c hf
  rw [e]
  have hl:t.vars.length<=1000000:=by have:=b.1;omega
  exact Lt ((IF c.1 hl).2.2 v a h4) (OZ b c h4 h5) ((IF h6 (by omega)).2.2 u z h7)
theorem Pa {t:Tsk} {x:Swp} (a:TaskOk t) (b:Q0 t x) {c:List Fct} (hf:Q7 t.vars c):imL (Y0 x) (imL x c)=c:=by
  rw [<- Ku a b (GD a b) (EA a) hf (Jq a b hf) (λ f hf=>by rw [Lw a b hf,FA a hf])]
  exact IY (EA a) hf λ f=>FA a
theorem VD {t:Tsk} {x:Swp} (a:TaskOk t) (b:Q0 t x) {e:Eff} (he:Y4 t.vars e):imE (Y0 x) (imE x e)=e:=by
  rw [<- MM a b (GD a b) (EA a) he (λ f hf=>by rw [Lw a b hf,FA a hf])]
  exact MN (EA a) he λ f=>FA a
theorem VE {t:Tsk} {x:Swp} (b:TaskOk t) (c:SymP t x):SymP t (Y0 x):=by
  have hl:t.ops.length<=1000000:=by have:=b.2.1;omega
  refine ⟨GD b c.1,Lv c.2.1 hl,?_,λ k hk=>?_⟩
  . have:=Pa b c.1 b.2.2.2.2.1
    rwa [c.2.2.1] at this
  . obtain ⟨j,hj,hjk⟩:=FK c.2.1 hk
    obtain ⟨o,p,a,h1,h2,ha,h3,h4,h5,h6⟩:=EH c hj
    obtain rfl:a=k:=by rw [hjk] at h2;have:=L1 h2;omega
    have d:=b.2.2.2.2.2 j o h1
    refine ⟨p,o,j,h3,(IF c.2.1 hl).2.2 j a hjk,by rw [Bd,h1],h4.symm,by rw [<- h5,Pa b c.1 d.2.2.2.2.1],?_⟩
    rw [<- h6,N9]
    have:o.effs.map (imE (Y0 x) ∘ imE x)=o.effs.map id:=H1 λ e he=>VD b c.1 (HQ d e he)
    rw [this,P6]
end
section
open Go Go.RowKit
def SymF (t:Tsk) (w:Swp):Prop:=∃ ops,SymP t ⟨w.vars,w.vals,ops⟩
def ZK (t:Tsk) (sg:Nat->Nat->ByteArray) (w:Swp):Prop:=∀ p,InP t p->sg (imQ w p).1 (imQ w p).2=sg p.1 p.2
def T6 (t:Tsk) (w:Swp) (k:Nat):Zs:=((allP t).take k).map λ p=>(p,imQ w p)
def Fix (t:Tsk) (k:Nat) (w:Swp):Prop:=∀ p∈(allP t).take k,imQ w p=p
section
variable {t : Tsk} {w : Swp}
theorem SymF.perm (a:SymF t w):Q0 t w:=a.elim λ _ a=>a.1
theorem SymP.f (a:SymP t w):SymF t w:=⟨w.ops,a⟩
theorem QJ {k:Nat} (a:k<=(allP t).length):(T6 t w k).length=k:=by unfold T6;simp;omega
theorem Pb {k:Nat} {x:Pn} (a:(allP t)[k]?=some x):T6 t w (k + 1)=T6 t w k ++ [(x,imQ w x)]:=by
  unfold T6
  rw [I6,a,L9];rfl
theorem Gn {k:Nat} {z:Pn×Pn} (a:z∈T6 t w k):z.2=imQ w z.1/\z.1∈(allP t).take k:=by
  obtain ⟨x,hx,rfl⟩:=N8.1 a
  exact ⟨rfl,hx⟩
theorem JU {k:Nat} {p:Pn} (a:p∈(allP t).take k):InP t p:=Cd.1 (G6 a)
theorem HR {k:Nat} {z:Pn×Pn} (a:z∈T6 t w k):InP t z.1:=JU (Gn a).2
theorem Zj (c:TaskOk t) (f:Q0 t w) {k:Nat} (hk:k<=(allP t).length):Gz t (T6 t w k):=by
  have hl:=QJ (w:=w) hk
  refine ⟨?_,by omega,λ z hz=>?_,?_,λ z hz i d=>?_,λ z hz=>?_⟩
  . rw [hl]
    unfold T6
    rw [N9]
    exact (H1 λ a _=>rfl).trans (P6 _)
  . rw [(Gn hz).1]
    exact Gr c f (HR hz)
  . unfold T6
    rw [N9]
    refine Hp ?_ λ a g b hb e=>LV c f (JU g) (JU hb) e
    have:=GM t
    rw [<- E8 k (allP t),I8] at this
    exact this.1
  . rw [(Gn hz).1,(Gn d).1]
    exact LU c f (HR hz) (HR d)
  . rw [(Gn hz).1]
    obtain ⟨_,_,_,_,_,h,_⟩:=Gg c f (HR hz)
    exact h.symm
theorem QK {k:Nat} (b:Fix t k w):T6 t w k=idz t k:=H1 λ p a=>by rw [b p a]
theorem VF {k:Nat} {x:Pn} (b:(allP t)[k]?=some x):x ∉ (allP t).take k:=λ c=>by
  have a:=GM t
  rw [<- E8 k (allP t),I8] at a
  exact a.2.2 _ c _ (F9 (i:=0) (by rw [H7,N3];exact b)) rfl
theorem Uj {sg:Nat->Nat->ByteArray} (b:TaskOk t) (c:Q0 t w) (hs:ZK t sg w) {k:Nat} {x:Pn} (d:(allP t)[k]?=some x):fitB t sg (T6 t w k) x (imQ w x)=true:=by
  have a:InP t x:=Cd.1 (F9 d)
  have f:Tf (T6 t w k) (imQ w x).1 (imQ w x).2=false:=SQ.2 λ z hz e=>by
    rw [(Gn hz).1] at e
    have:=LV b c (HR hz) a e
    exact VF d (this ▸ (Gn hz).2)
  unfold fitB
  rw [if_neg (by rw [f,hs x a];simp)]
  by_cases hv:0<=Vf (T6 t w k) x.1
  . rw [if_pos hv]
    obtain ⟨z,hz,e1,e2⟩:=JR (by omega:¬ Vf (T6 t w k) x.1 < 0)
    rw [e2,(Gn hz).1,(LU b c (HR hz) a).1 e1]
    simp
  . rw [if_neg hv]
    have g:Uf (T6 t w k) (imQ w x).1=false:=Vs.2 λ z hz e=>by
      rw [(Gn hz).1] at e
      exact JQ.1 (by omega) z hz ((LU b c (HR hz) a).2 e)
    obtain ⟨_,_,_,_,_,h,_⟩:=Gg b c a
    rw [g,h]
    simp
end
section
variable {t : Tsk} {sg : Nat → Nat → ByteArray} {leaf : Zs → Option Swp} {M : Nat} {w : Swp}
theorem MQ {fit:Pn→Bool} {sub:Pn→Nat→Rs}:∀ (l:List Pn) (s:Nat),(goL M fit sub l s).1=none→(goL M fit sub l s).2.2=false→∀ y∈l,fit y=true→∃ c,(sub y c).1=none∧(sub y c).2.2=false
  | [],_,_,_,y,b,_=>by simp at b
  | y :: l, s,h1,a,z,hz,hf=>by
    unfold goL at h1 a
    by_cases b:fit y=true
    . rw [if_pos b] at h1 a
      by_cases d:M<=s
      . rw [if_pos d] at a;cases a
      . rw [if_neg d] at h1 a
        by_cases hq:(sub y (s + 1)).1.isSome=true\/(sub y (s + 1)).2.2=true
        . rw [if_pos hq] at h1 a
          rcases hq with hq|hq
          . rw [h1] at hq;cases hq
          . rw [a] at hq;cases hq
        . rw [if_neg hq] at h1 a
          rcases M8.1 hz with e|hz
          . subst e
            refine ⟨s + 1,?_,?_⟩
            . cases f:(sub z (s + 1)).1 with
              | none=>rfl
              | some v=>exact absurd (.inl (by rw [f];rfl)) hq
            . cases f:(sub z (s + 1)).2.2 with
              | false=>rfl
              | true=>exact absurd (.inr f) hq
          . exact MQ l _ h1 a z hz hf
    . rw [if_neg b] at h1 a
      rcases M8.1 hz with e|hz
      . subst e;exact absurd hf b
      . exact MQ l _ h1 a z hz hf
theorem QL (a:TaskOk t) (b:Q0 t w) (hs:ZK t sg w):∀ (d k s:Nat),k + d=(allP t).length->(ext t sg leaf M d (T6 t w k) s).1=none->(ext t sg leaf M d (T6 t w k) s).2.2=false->leaf (T6 t w (allP t).length)=none
  | 0,k,s,hk,h1,_=>by
    have:k=(allP t).length:=by omega
    subst this
    exact h1
  | d + 1,k,s,hk,h1,h2=>by
    have hl:=QJ (t:=t) (w:=w) (k:=k) (by omega)
    have c:(allP t)[k]?=some (xAt t (T6 t w k)):=by
      have:=Gf (t:=t) (zs:=T6 t w k) (by omega)
      rwa [hl] at this
    have e:InP t (xAt t (T6 t w k)):=Cd.1 (F9 c)
    obtain ⟨f,h3,h4⟩:=MQ _ _ h1 h2 (imQ w (xAt t (T6 t w k))) (Cd.2 (Gr a b e)) (Uj a b hs c)
    rw [<- Pb c] at h3 h4
    exact QL a b hs d (k + 1) f (by omega) h3 h4
end
section
variable {t : Tsk} {w : Swp}
theorem Yu (b:TaskOk t) (d:Q0 t w):swF t (T6 t w (allP t).length)=⟨w.vars,w.vals,[]⟩:=by
  have hz:=Zj b d (P1 (allP t).length)
  have hm:∀ p,InP t p->(p,imQ w p)∈T6 t w (allP t).length:=λ p k=>N8.2 ⟨p,by rw [K4];exact Cd.2 k,rfl⟩
  have h:T7 t (Vf (T6 t w (allP t).length))=w.vars:=I3 λ v=>by
    by_cases hv:v < t.vars.length
    . have:=GN (t:=t) (Vf (T6 t w (allP t).length)) hv
      rw [Bd] at this
      have c:InP t (v,0):=⟨hv,(HN b hv).1⟩
      obtain ⟨l,q1,_⟩:=Gg b d c
      rw [this,q1,SV hz (hm _ c)]
    . rw [E6 (by simp [T7];omega),E6 (by rw [d.1.len];omega)]
  have i:T9 t (Wf (T6 t w (allP t).length))=w.vals:=I3 λ v=>by
    by_cases hv:v < t.vars.length
    . have:=Fq (t:=t) (Wf (T6 t w (allP t).length)) hv
      rw [Bd] at this
      have c:InP t (v,0):=⟨hv,(HN b hv).1⟩
      obtain ⟨l,_,q2,_,q4,_⟩:=Gg b d c
      rw [this,q2]
      congr 1
      refine I3 λ a=>?_
      by_cases g:a < szT t v
      . have e:InP t (v,a):=⟨hv,g⟩
        obtain ⟨j,_,f,r3,_⟩:=Gg b d e
        rw [q2] at f
        injection f with f
        subst f
        rw [I4,H0 g,r3]
        show some (Wf (T6 t w (allP t).length) v a)=_
        rw [NF hz (hm _ e)]
      . rw [E6 (by simp;omega),E6 (by rw [q4.len];show szT t v<=a;omega)]
    . rw [E6 (by simp [T9,T7];omega),E6 (by rw [d.2.1];omega)]
  unfold swF
  rw [h,i]
theorem RC (b:TaskOk t) {zs:Zs} (hz:Gz t zs) (hl:zs.length=(allP t).length) (h:S7 t zs=some w):SymP t w∧Aaj t ⟨w.vars,w.vals,[]⟩=some w.ops∧∀ z∈zs,imQ w z.1=z.2:=by
  have f:=Kp b hz hl
  unfold S7 at h
  split at h
  . rename_i l hop
    split at h
    . rename_i hg
      injection h with h
      subst h
      obtain ⟨g,hi,hlen⟩:=NH t.ops _ [] l (OpI.nil t (swF t zs)) rfl (by simp) hop
      refine ⟨⟨f,IV hi.nod (λ a c=>?_) hlen,Kx hg,λ k hk=>?_⟩,hop,λ z d=>Xe b hz hl d⟩
      . obtain ⟨j,hj⟩:=G3 c
        obtain ⟨o,p,k,e,_,h3,_⟩:=hi.mat j a hj
        have:=AD h3
        omega
      . obtain ⟨a,c⟩:=AG (l:=l) (k:=k) (by omega)
        obtain ⟨o,p,k',e,h2,h3,h4⟩:=hi.mat k a c
        exact ⟨o,p,a,h2,c,by rw [e,Bd,h3],h4⟩
    . cases h
  . cases h
theorem SY (g:TaskOk t) (n:SymF t w):S7 t (T6 t w (allP t).length)≠none:=by
  obtain ⟨ops,hs⟩:=n
  have h:=Yu g (w:=w) hs.1
  unfold S7
  rw [h]
  have m:imL ⟨w.vars,w.vals,[]⟩ t.goal=t.goal:=hs.2.2.1
  obtain ⟨l,hl⟩:=OY (t:=t) (x:=⟨w.vars,w.vals,[]⟩) (π:=λ i=>((ops[i]?).getD 0).toNat) (λ i j hi hj e=>by
    obtain ⟨_,_,a,_,d,ha,_⟩:=EH hs hi
    obtain ⟨_,_,b,_,c,hb,_⟩:=EH hs hj
    have d:ops[i]?=some (a:Int):=d
    have c:ops[j]?=some (b:Int):=c
    simp only [d,c,J3,I9] at e
    subst e
    exact HP hs.2.1 d c) (λ i o k=>by
    obtain ⟨o',p,a,f,d,ha,h3,h4⟩:=EH hs (AD k)
    have d:ops[i]?=some (a:Int):=d
    rw [k] at f
    injection f with f
    subst f
    exact ⟨p,by simp only [d,J3,I9];exact h3,h4⟩) t.ops _ [] (OpI.nil t _) rfl (by simp)
  have:Aaj t ⟨w.vars,w.vals,[]⟩=some l:=hl
  rw [this]
  simp only []
  rw [if_pos (Bk m)]
  exact λ n=>nomatch n
end
inductive Wd (g:List Swp):(Pn->Pn)->Prop
  | one:Wd g id
  | step {π:Pn->Pn} {a:Swp}:Wd g π->a∈g->Wd g λ p=>imQ a (π p)
section
variable {t : Tsk} {g g' : List Swp}
theorem Wd.mono (e:∀ a∈g,a∈g') {π:Pn->Pn} (b:Wd g π):Wd g' π:=by
  induction b with
  | one=>exact .one
  | step _ c d=>exact .step d (e _ c)
theorem Wd.comp {π ρ:Pn->Pn} (d:Wd g π) (a:Wd g ρ):Wd g λ p=>π (ρ p):=by
  induction d with
  | one=>exact a
  | step _ b c=>exact .step c b
theorem VG {x y:Pn} (c:Reach g x y):∃ π,Wd g π/\π x=y:=by
  induction c with
  | one=>exact ⟨id,.one,rfl⟩
  | step _ a b =>
    obtain ⟨π,h1,h2⟩:=b
    exact ⟨_,.step h1 a,by rw [h2]⟩
theorem Reach.mono (d:∀ a∈g,a∈g') {x y:Pn} (hr:Reach g x y):Reach g' x y:=by
  induction hr with
  | one=>exact .one
  | step _ b c=>exact .step c (d _ b)
theorem Hd {w:Swp} {p:Pn} (a:TaskOk t) (b:Q0 t w) (c:InP t p):imF w (fc p)=fc (imQ w p):=by
  obtain ⟨_,_,_,_,c⟩:=Qu a b c
  exact c
theorem Yv {p:Pn} (a:TaskOk t) (b:InP t p):imQ (idX t) p=p:=JP (by rw [<- Hd a (EA a) b,FA a (b.ok a)])
theorem QM {x y:Swp} {p:Pn} (a:TaskOk t) (b:Q0 t x) (c:Q0 t y) (d:InP t p):imQ (T0 x y) p=imQ y (imQ x p):=JP (by
  rw [<- Hd a (OV b c) d,OW a b c (d.ok a),Hd a b d,Hd a c (Gr a b d)])
theorem Sf {x:Swp} {p:Pn} (a:TaskOk t) (b:Q0 t x) (c:InP t p):imQ (Y0 x) (imQ x p)=p:=JP (by
  rw [<- Hd a (GD a b) (Gr a b c),<- Hd a b c,Lw a b (c.ok a)])
theorem Wd.sym (b:TaskOk t) (d:∀ a∈g,SymP t a) {π:Pn->Pn} (h:Wd g π):∃ i,SymP t i/\∀ p,InP t p->imQ i p=π p:=by
  induction h with
  | one=>exact ⟨idX t,QD b,λ p c=>Yv b c⟩
  | @step π a _ e f =>
    obtain ⟨i,h1,h2⟩:=f
    exact ⟨T0 i a,Kv b h1 (d a e),λ p c=>by rw [QM b h1.1 (d a e).1 c,h2 p c]⟩
theorem Wd.fix {k:Nat} (c:∀ a∈g,Fix t k a) {π:Pn->Pn} (f:Wd g π):∀ p∈(allP t).take k,π p=p:=by
  induction f with
  | one=>exact λ p _=>rfl
  | @step π a _ d e=>exact λ p b=>by show imQ a (π p)=p;rw [e p b];exact c a d p b
end
end
section
open Go Go.RowKit
abbrev Nt:=ByteArray×Fct
noncomputable def cntF (ns:List Nt) (a:ByteArray) (f:Fct):Nat:=ns.countP λ n=>bof (n=(a,f))
theorem Sg (ns:List Nt) (a:ByteArray) (f:Fct):cntF ns a f<=ns.length:=List.countP_le_length
theorem Pc (ns:List Nt) (n:Nt) (a:ByteArray) (f:Fct):cntF (ns ++ [n]) a f=cntF ns a f + if n=(a,f) then 1 else 0:=by
  unfold cntF
  rw [List.countP_append,List.countP_cons,List.countP_nil]
  by_cases b:n=(a,f)
  . rw [if_pos b,Bk b];rfl
  . rw [if_neg b,AY b];rfl
abbrev Cs:=List (ByteArray×List (Fct×Int))
theorem FO:∀ (m:Cs) (k a:ByteArray) (v:List (Fct×Int)),R5 (R3 m k v) a=if k=a then some v else R5 m a
  | [],k,a,v=>by simp [R3,R5]
  | p :: r,k,a,v=>by
    by_cases d:p.1=k
    . subst d
      by_cases b:p.1=a<;>simp [R3,R5,b]
    . have c:=FO r k a v
      by_cases b:p.1=a
      . have:¬ k=a:=λ e=>d (b.trans e.symm)
        rw [R3,if_neg d,R5,if_pos b,R5,if_pos b,if_neg this]
      . rw [R3,if_neg d,R5,if_neg b,R5,if_neg b,c]
theorem Uk (m:Cs) (a:ByteArray):mhas m a=(R5 m a).isSome:=by
  rcases Ix m a with ⟨_,h1,h2⟩|⟨_,_,_,_,_,h1,h2⟩<;>rw [h1,h2]<;>rfl
structure NI (ns:List Nt) (m:Cs) (names:List ByteArray):Prop where
  get:∀ a v,R5 m a=some v->∀ f,fget 0 v f=(cntF ns a f:Int)
  non:∀ a,R5 m a=none->∀ f,cntF ns a f=0
  nam:∀ a∈names,R5 m a≠none
  len:names.length<=ns.length
theorem NI.nil:NI [] [] []:=⟨λ a v b=>by simp [R5] at b,λ _ _ _=>rfl,by simp,by simp⟩
theorem Xm {ns:List Nt} {m:Cs} {h:List ByteArray} (t:NI ns m h) (hl:ns.length≤1000000) (a:ByteArray) (f:Fct):∃ j c,AP a f ⟨⟨m⟩⟩ ⟨h⟩=some (⟨⟨j⟩⟩,⟨c⟩)∧NI (ns ++ [(a,f)]) j c:=by
  unfold AP
  have k:∀ (i:Cs) (d:List ByteArray) (v:List (Fct×Int)),R5 i a=some v->(∀ b v,R5 i b=some v->∀ f,fget 0 v f=(cntF ns b f:Int))->(∀ b,R5 i b=none->∀ f,cntF ns b f=0)->(∀ b∈d,R5 i b≠none)->d.length<=ns.length + 1 ->
      ∃ j c,(bnd (R5 i a) λ l=>bnd (Q1 ((fget 0 l f) + 1)) λ o=>some ((⟨(⟨R3 i a (fput l f o)⟩:MapM)⟩:BxM),(⟨d⟩:BxR 96 9 ByteArray)))=some (⟨⟨j⟩⟩,⟨c⟩)/\NI (ns ++ [(a,f)]) j c:=by
    intro i d v hv p hn hm q
    have hc:=Sg ns a f
    have n:=p a v hv f
    rw [hv,Ar,BZ (by unfold P9;rw [n];omega),Ar]
    refine ⟨_,_,rfl,⟨λ b u hb g=>?_,λ b hb g=>?_,λ b hb=>?_,by simpa using q⟩⟩
    . rw [FO] at hb
      rw [Pc]
      by_cases e:a=b
      . subst e
        rw [if_pos rfl] at hb
        injection hb with hb
        subst hb
        rw [Jp]
        by_cases r:f=g
        . subst r
          rw [if_pos rfl,if_pos rfl,n];rfl
        . rw [if_neg r,if_neg (λ e=>r (congrArg Prod.snd e)),p a v hv g];rfl
      . rw [if_neg e] at hb
        rw [if_neg (λ t=>e (congrArg Prod.fst t)),p b u hb g];rfl
    . rw [FO] at hb
      by_cases e:a=b
      . rw [if_pos e] at hb;cases hb
      . rw [if_neg e] at hb
        rw [Pc,if_neg (λ t=>e (congrArg Prod.fst t)),hn b hb g]
    . rw [FO]
      by_cases e:a=b
      . rw [if_pos e];exact λ t=>nomatch t
      . rw [if_neg e];exact hm b hb
  cases hv:R5 m a with
  | some v =>
    have s:mhas m a=true:=by rw [Uk,hv];rfl
    simp only [s]
    rw [if_neg (by decide),Ar]
    exact k m h v hv t.get t.non t.nam (by have:=t.len;omega)
  | none =>
    have s:mhas m a=false:=by rw [Uk,hv];rfl
    have:=t.len
    simp only [s]
    rw [if_pos (by decide),Cu (by simp;omega) (by simp;omega),Ar,Ar]
    refine k (R3 m a []) (h ++ [a]) [] (by rw [FO,if_pos rfl]) (λ b v hb g=>?_) (λ b hb g=>?_) (λ b hb=>?_) (by simp;omega)
    . rw [FO] at hb
      by_cases e:a=b
      . subst e
        rw [if_pos rfl] at hb
        injection hb with hb
        subst hb
        rw [t.non a hv g];rfl
      . rw [if_neg e] at hb;exact t.get b v hb g
    . rw [FO] at hb
      by_cases e:a=b
      . rw [if_pos e] at hb;cases hb
      . rw [if_neg e] at hb;exact t.non b hb g
    . rw [FO]
      by_cases e:a=b
      . rw [if_pos e];exact λ t=>nomatch t
      . rw [if_neg e]
        rcases K9.1 hb with hb|hb
        . exact t.nam b hb
        . simp at hb;exact absurd hb.symm e
abbrev NS:=BxM×(BxR 96 9 ByteArray)
def NIs (ns:List Nt) (s:NS):Prop:=NI ns s.1.l.l s.2.l
theorem QN {ns:List Nt} {s:NS} (d:NIs ns s) (hl:ns.length<=1000000) (a:ByteArray) (f:Fct):∃ b:NS,AP a f s.1 s.2=some b/\NIs (ns ++ [(a,f)]) b:=by
  obtain ⟨⟨⟨m⟩⟩,⟨names⟩⟩:=s
  obtain ⟨c,names',h1,h2⟩:=Xm d hl a f
  exact ⟨_,h1,h2⟩
def kd (o:Opr):ByteArray:=S5 o.cost ++ (⟨#[32]⟩:ByteArray) ++ S5 (o.pre.length:Int) ++ (⟨#[32]⟩:ByteArray) ++ S5 (o.effs.length:Int)
def Aav:ByteArray:=⟨#[32,112,114,101]⟩
def AbP:ByteArray:=⟨#[32,101,102,102,32]⟩
def Aas:ByteArray:=⟨#[32,119,104,101,110,32]⟩
def ZH (c:ByteArray) (k:Nat) (e:Eff):List Nt:=(c ++ AbP ++ S5 (k:Int),⟨e.var,e.val⟩) :: e.cond.map λ f=>(c ++ Aas ++ S5 (k:Int),f)
def notesE (c:ByteArray):List Eff->Nat->List Nt
  | [],_=>[]
  | e :: es,k=>ZH c k e ++ notesE c es (k + 1)
def notesO (o:Opr):List Nt:=o.pre.map (λ f=>(kd o ++ Aav,f)) ++ notesE (kd o) o.effs 0
theorem GO {a b:ByteArray} (c:a.size + b.size<=9223372036854775807):R9 a b=some (a ++ b):=if_pos c
theorem Mj (c:ByteArray) (e:Eff):∀ (l:List Eff) (j:Nat),notesE c (l ++ [e]) j=notesE c l j ++ ZH c (j + l.length) e
  | [],j=>by simp [notesE]
  | a :: l,j=>by
    rw [List.cons_append,notesE,Mj c e l (j + 1),notesE,I1]
    have:j + 1 + l.length=j + (a :: l).length:=by simp;omega
    rw [this]
theorem Ul (c:ByteArray) (k:Nat) (e:Eff):(ZH c k e).length=e.cond.length + 1:=by simp [ZH]
theorem ID (c:ByteArray):∀ (l:List Eff) (j:Nat),(∀ e∈l,e.cond.length<=64)->(notesE c l j).length<=65 * l.length
  | [],_,_=>P1 _
  | e :: l,j,h=>by
    have b:=h e H8
    have d:=ID c l (j + 1) λ q a=>h q (F8 _ a)
    rw [notesE,H2,Ul,J5]
    omega
def Aay (o:Opr):Prop:=o.pre.length<=64/\o.effs.length<=64/\(∀ e∈o.effs,e.cond.length<=64)/\P9 o.cost
theorem NJ {o:Opr} (b:Aay o):(notesO o).length<=4224:=by
  have:=ID (kd o) o.effs 0 b.2.2.1
  obtain ⟨a,h2,_⟩:=b
  unfold notesO
  rw [H2,L7]
  omega
theorem IZ {n:Nat} (a:n<=1000000):(S5 (n:Int)).size<=21:=Iy (by unfold P9;omega)
theorem Xn {o:Opr} (d:Aay o):(kd o).size<=65:=by
  have a:=Iy d.2.2.2
  have b:=IZ (n:=o.pre.length) (by have:=d.1;omega)
  have c:=IZ (n:=o.effs.length) (by have:=d.2.1;omega)
  have e:(⟨#[32]⟩:ByteArray).size=1:=rfl
  unfold kd
  simp only [F3,e]
  omega
theorem Um {ρ:Type} {c:ByteArray} {l:List Fct} {ns:List Nt} {s:NS} (hc:c.size<=1000) (hs:NIs ns s) (hl:ns.length + l.length<=1000000) :
    ∃ i,rng (ρ:=ρ) (λ (h:Nat) (d:Fct) (a:BxM×(BxR 96 9 ByteArray))=>bnd (R9 c (⟨#[32,112,114,101]⟩:ByteArray)) λ g=>bnd (AP g d a.1 a.2) λ b=>some (.next (b.1,b.2))) l 0 (s.1,s.2)=some (.done i)/\NIs (ns ++ l.map λ f=>(c ++ Aav,f)) i:=by
  obtain ⟨i,h1,h2⟩:=Dw (ρ:=ρ) (f:=λ (h:Nat) (d:Fct) (a:BxM×(BxR 96 9 ByteArray))=>bnd (R9 c (⟨#[32,112,114,101]⟩:ByteArray)) λ g=>bnd (AP g d a.1 a.2) λ b=>some (.next (b.1,b.2))) (xs:=l) (s₀:=(s.1,s.2)) (λ k s=>NIs (ns ++ (l.take k).map λ f=>(c ++ Aav,f)) s) (by simpa using hs) (λ k f s hf hs=>by
    have hk:=AD hf
    obtain ⟨j,q1,q2⟩:=QN hs (by simp;omega) (c ++ Aav) f
    have e:(⟨#[32,112,114,101]⟩:ByteArray).size=4:=rfl
    rw [GO (by rw [e];omega),Ar,show AP (c ++ (⟨#[32,112,114,101]⟩:ByteArray)) f s.1 s.2=_ from q1,Ar]
    exact ⟨_,rfl,by rw [map_take hf,<- I1];exact q2⟩)
  rw [K4] at h2
  exact ⟨i,h1,h2⟩
theorem SZ {ρ:Type} {c:ByteArray} {j:Nat} (hj:j<=1000000) {l:List Fct} {ns:List Nt} {s:NS} (hc:c.size<=1000) (hs:NIs ns s) (hl:ns.length + l.length<=1000000) :
    ∃ n,rng (ρ:=ρ) (λ (m:Nat) (d:Fct) (a:BxM×(BxR 96 9 ByteArray))=>bnd (R9 c (⟨#[32,119,104,101,110,32]⟩:ByteArray)) λ g=>bnd (Bq (j:Int)) λ h=>bnd (R9 g h) λ i=>bnd (AP i d a.1 a.2) λ b=>some (.next (b.1,b.2))) l 0 (s.1,s.2)=some (.done n)/\NIs (ns ++ l.map λ f=>(c ++ Aas ++ S5 (j:Int),f)) n:=by
  obtain ⟨n,h1,h2⟩:=Dw (ρ:=ρ) (f:=λ (m:Nat) (d:Fct) (a:BxM×(BxR 96 9 ByteArray))=>bnd (R9 c (⟨#[32,119,104,101,110,32]⟩:ByteArray)) λ g=>bnd (Bq (j:Int)) λ h=>bnd (R9 g h) λ i=>bnd (AP i d a.1 a.2) λ b=>some (.next (b.1,b.2))) (xs:=l) (s₀:=(s.1,s.2)) (λ k s=>NIs (ns ++ (l.take k).map λ f=>(c ++ Aas ++ S5 (j:Int),f)) s) (by simpa using hs) (λ k f s hf hs=>by
    have hk:=AD hf
    obtain ⟨o,q1,q2⟩:=QN hs (by simp;omega) (c ++ Aas ++ S5 (j:Int)) f
    have e:(⟨#[32,119,104,101,110,32]⟩:ByteArray).size=6:=rfl
    have hi:=IZ hj
    rw [GO (by rw [e];omega),Ar,show Bq (j:Int)=some (S5 (j:Int)) from rfl,Ar,GO (by rw [F3,e];omega),Ar,show AP (c ++ (⟨#[32,119,104,101,110,32]⟩:ByteArray) ++ S5 (j:Int)) f s.1 s.2=_ from q1,Ar]
    exact ⟨_,rfl,by rw [map_take hf,<- I1];exact q2⟩)
  rw [K4] at h2
  exact ⟨n,h1,h2⟩
theorem Ik {α:Type} {l:List α} {k:Nat} {x:α} (a:l[k]?=some x):l.take (k + 1)=l.take k ++ [x]:=by rw [I6,a];rfl
noncomputable def Z9 (r:List Opr):Nat->Opr->NS->Option (Ctl NS Fnd):=λ (s:Nat) (_:Opr) (g:BxM×(BxR 96 9 ByteArray))=>bnd (r[s]?) λ a=>bnd (Bq a.cost) λ t=>bnd (R9 t (⟨#[32]⟩:ByteArray)) λ u=>bnd (Bq (a.pre.length:Int)) λ v=>bnd (R9 u v) λ w=>bnd (R9 w (⟨#[32]⟩:ByteArray)) λ x=>bnd (Bq (a.effs.length:Int)) λ y=>bnd (R9 x y) λ b=>bnd (rng (ρ:=Ctl (BxM×(BxR 96 9 ByteArray)) Fnd) (λ (I:Nat) (z:Fct) (h:BxM×(BxR 96 9 ByteArray))=>bnd (R9 b (⟨#[32,112,114,101]⟩:ByteArray)) λ A=>bnd (AP A z h.1 h.2) λ i=>some (.next (i.1,i.2))) a.pre 0 (g.1,g.2)) λ d=>fin d λ (j:BxM×(BxR 96 9 ByteArray))=>bnd (rng (ρ:=Ctl (BxM×(BxR 96 9 ByteArray)) Fnd) (λ (k:Nat) (c:Eff) (l:BxM×(BxR 96 9 ByteArray))=>bnd (R9 b (⟨#[32,101,102,102,32]⟩:ByteArray)) λ B=>bnd (Bq (k:Int)) λ C=>bnd (R9 B C) λ D=>bnd (AP D (⟨c.var,c.val⟩:Fct) l.1 l.2) λ m=>bnd (rng (ρ:=Ctl (BxM×(BxR 96 9 ByteArray)) (Ctl (BxM×(BxR 96 9 ByteArray)) Fnd)) (λ (J:Nat) (E:Fct) (n:BxM×(BxR 96 9 ByteArray))=>bnd (R9 b (⟨#[32,119,104,101,110,32]⟩:ByteArray)) λ F=>bnd (Bq (k:Int)) λ G=>bnd (R9 F G) λ H=>bnd (AP H E n.1 n.2) λ o=>some (.next (o.1,o.2))) c.cond 0 (m.1,m.2)) λ e=>fin e λ (p:BxM×(BxR 96 9 ByteArray))=>some (.next (p.1,p.2))) a.effs 0 (j.1,j.2)) λ f=>fin f λ (q:BxM×(BxR 96 9 ByteArray))=>some (.next (q.1,q.2))
theorem VH {r:List Opr} {k:Nat} {o x:Opr} {ns:List Nt} {s:NS} (P:r[k]?=some o) (B:Aay o) (hs:NIs ns s) (hl:ns.length + 4224≤1000000):∃ K,Z9 r k x s=some (.next K)∧NIs (ns ++ notesO o) K:=by
  have Q:=Xn B
  have W:=Iy B.2.2.2
  have X:=IZ (n:=o.pre.length) (by have:=B.1;omega)
  have Y:=IZ (n:=o.effs.length) (by have:=B.2.1;omega)
  have e:(⟨#[32]⟩:ByteArray).size=1:=rfl
  have L:(⟨#[32,101,102,102,32]⟩:ByteArray).size=5:=rfl
  obtain ⟨F,p1,p2⟩:=Um (ρ:=Ctl NS Fnd) (c:=kd o) (l:=o.pre) (by omega) hs (by have:=B.1;omega)
  have R:=ID (kd o) o.effs 0 B.2.2.1
  obtain ⟨M,p3,p4⟩:=Dw (ρ:=Ctl NS Fnd) (f:=λ (d:Nat) (a:Eff) (g:BxM×(BxR 96 9 ByteArray))=>bnd (R9 (kd o) (⟨#[32,101,102,102,32]⟩:ByteArray)) λ t=>bnd (Bq (d:Int)) λ u=>bnd (R9 t u) λ v=>bnd (AP v (⟨a.var,a.val⟩:Fct) g.1 g.2) λ h=>bnd (rng (ρ:=Ctl (BxM×(BxR 96 9 ByteArray)) (Ctl (BxM×(BxR 96 9 ByteArray)) Fnd)) (λ (G:Nat) (w:Fct) (i:BxM×(BxR 96 9 ByteArray))=>bnd (R9 (kd o) (⟨#[32,119,104,101,110,32]⟩:ByteArray)) λ y=>bnd (Bq (d:Int)) λ z=>bnd (R9 y z) λ A=>bnd (AP A w i.1 i.2) λ m=>some (.next (m.1,m.2))) a.cond 0 (h.1,h.2)) λ b=>fin b λ (p:BxM×(BxR 96 9 ByteArray))=>some (.next (p.1,p.2))) (xs:=o.effs) (s₀:=(F.1,F.2))
    (λ k s=>NIs ((ns ++ o.pre.map λ f=>(kd o ++ Aav,f)) ++ notesE (kd o) (o.effs.take k) 0) s) (by simpa [notesE] using p2) (λ j E s hj hs=>by
      have S:=AD hj
      have N:=B.2.1
      have T:=B.1
      have J:=ID (kd o) (o.effs.take j) 0 λ q U=>B.2.2.1 q (G6 U)
      rw [K0] at J
      have V:=B.2.2.1 E (F9 hj)
      have hi:=IZ (n:=j) (by omega)
      obtain ⟨F,q1,q2⟩:=QN hs (by simp only [H2,L7];omega) (kd o ++ AbP ++ S5 (j:Int)) ⟨E.var,E.val⟩
      obtain ⟨M,q3,q4⟩:=SZ (ρ:=Ctl NS (Ctl NS Fnd)) (c:=kd o) (j:=j) (by omega) (l:=E.cond) (by omega) q2 (by simp only [H2,L7,F2];omega)
      rw [show Bq (j:Int)=some (S5 (j:Int)) from rfl] at q3
      rw [GO (by rw [L];omega),Ar,show Bq (j:Int)=some (S5 (j:Int)) from rfl,Ar,GO (by rw [F3,L];omega),Ar,show AP (kd o ++ (⟨#[32,101,102,102,32]⟩:ByteArray) ++ S5 (j:Int)) ⟨E.var,E.val⟩ s.1 s.2=_ from q1,Ar,q3,Ar,BB]
      refine ⟨_,rfl,?_⟩
      have:notesE (kd o) (o.effs.take (j + 1)) 0=notesE (kd o) (o.effs.take j) 0 ++ ZH (kd o) j E:=by
        rw [Ik hj,Mj,K0,N4,Nat.min_eq_left (by omega)]
      rw [this]
      simpa [ZH] using q4)
  rw [K4] at p4
  refine ⟨M,?_,by unfold notesO;rw [<- I1];exact p4⟩
  unfold Z9
  rw [P,Ar,show Bq o.cost=some (S5 o.cost) from rfl,Ar,GO (by rw [e];omega),Ar,show Bq (o.pre.length:Int)=some (S5 (o.pre.length:Int)) from rfl,Ar,GO (by rw [F3,e];omega),Ar,GO (by rw [F3,F3,e];omega),Ar,show Bq (o.effs.length:Int)=some (S5 (o.effs.length:Int)) from rfl,Ar,GO (by simp only [F3,e];omega),Ar]
  show bnd (rng (λ (O:Nat) (H:Fct) (C:BxM×(BxR 96 9 ByteArray))=>bnd (R9 (kd o) (⟨#[32,112,114,101]⟩:ByteArray)) λ I=>bnd (AP I H C.1 C.2) λ D=>some (.next (D.1,D.2))) o.pre 0 (s.1,s.2)) _=_
  rw [p1,Ar,BB]
  show bnd (rng (λ (d:Nat) (a:Eff) (g:BxM×(BxR 96 9 ByteArray))=>bnd (R9 (kd o) (⟨#[32,101,102,102,32]⟩:ByteArray)) λ t=>bnd (Bq (d:Int)) λ u=>bnd (R9 t u) λ v=>bnd (AP v (⟨a.var,a.val⟩:Fct) g.1 g.2) λ h=>bnd (rng (ρ:=Ctl (BxM×(BxR 96 9 ByteArray)) (Ctl (BxM×(BxR 96 9 ByteArray)) Fnd)) (λ (G:Nat) (w:Fct) (i:BxM×(BxR 96 9 ByteArray))=>bnd (R9 (kd o) (⟨#[32,119,104,101,110,32]⟩:ByteArray)) λ y=>bnd (Bq (d:Int)) λ z=>bnd (R9 y z) λ A=>bnd (AP A w i.1 i.2) λ m=>some (.next (m.1,m.2))) a.cond 0 (h.1,h.2)) λ b=>fin b λ (p:BxM×(BxR 96 9 ByteArray))=>some (.next (p.1,p.2))) o.effs 0 (F.1,F.2)) _=_
  rw [p3,Ar,BB]
theorem Un {a:List Opr} (d:∀ o∈a,Aay o) (hl:a.length<=20):∃ s:NS,rng (Z9 a) a 0 ((⟨(⟨[]⟩:MapM)⟩:BxM),(⟨([]:List ByteArray)⟩:BxR 96 9 ByteArray))=some (.done s)/\NIs (a.flatMap notesO) s:=by
  obtain ⟨s,h1,h2⟩:=Dw (f:=Z9 a) (xs:=a) (s₀:=((⟨(⟨[]⟩:MapM)⟩:BxM),(⟨([]:List ByteArray)⟩:BxR 96 9 ByteArray))) (λ k s=>NIs ((a.take k).flatMap notesO) s/\((a.take k).flatMap notesO).length<=4224 * k) ⟨NI.nil,by simp⟩ (λ k o s c ⟨hs,hn⟩=>by
    have hk:=AD c
    have b:=d o (F9 c)
    obtain ⟨e,q1,q2⟩:=VH (x:=o) c b hs (by omega)
    have g:=NJ b
    have:(a.take (k + 1)).flatMap notesO=(a.take k).flatMap notesO ++ notesO o:=by rw [Ik c,List.flatMap_append];simp
    rw [this]
    exact ⟨e,q1,q2,by rw [H2];omega⟩)
  rw [K4] at h2
  exact ⟨s,h1,h2.1⟩
end
section
open Go Go.RowKit
noncomputable def sgA (t:Tsk) (ns:List Nt):List ByteArray->(Nat->Nat->ByteArray)->Nat->Nat->ByteArray
  | [],sg=>sg
  | a :: l,sg=>sgA t ns l (X7 sg (allP t) λ f=>S5 (cntF ns a f:Int))
theorem QO (t:Tsk) (ns:List Nt) (a:ByteArray):∀ (l:List ByteArray) (sg:Nat->Nat->ByteArray),sgA t ns (l ++ [a]) sg=X7 (sgA t ns l sg) (allP t) λ f=>S5 (cntF ns a f:Int)
  | [],_=>rfl
  | b :: l,sg=>QO t ns a l _
theorem Pd {sg:Nat->Nat->ByteArray} {l:List Pn} {rl:Fct->ByteArray} {B R:Nat} (d:∀ v a,(sg v a).size<=B) (b:∀ f,(rl f).size<=R) (v a:Nat):(X7 sg l rl v a).size<=B + (R + 1):=by
  have:=d v a
  have c:=b (fc (v,a))
  have e:(⟨#[59]⟩:ByteArray).size=1:=rfl
  unfold X7
  split
  . rw [F3,F3,e];omega
  . omega
theorem QP {ns:List Nt} (b:ns.length<=1000000) (a:ByteArray) (f:Fct):(S5 (cntF ns a f:Int)).size<=21:=IZ (by have:=Sg ns a f;omega)
theorem QQ {t:Tsk} {ns:List Nt} (hn:ns.length<=1000000):∀ (l:List ByteArray) (sg:Nat->Nat->ByteArray) (B:Nat),(∀ v a,(sg v a).size<=B)->∀ v a,(sgA t ns l sg v a).size<=B + 22 * l.length
  | [],_,_,h=>h
  | b :: l,sg,B,h=>λ v a=>by
    have:=QQ (t:=t) hn l (X7 sg (allP t) λ f=>S5 (cntF ns b f:Int)) (B + 22) (Pd h (QP hn b)) v a
    rw [sgA,J5]
    omega
theorem QR {α β σ ρ:Type} {f:Nat->α->σ->Option (Ctl σ ρ)} {g:Nat->β->σ->Option (Ctl σ ρ)} (h:∀ k a b s,f k a s=g k b s):∀ {xs:List α} {ys:List β},xs.length=ys.length->∀ (k:Nat) (s:σ),rng f xs k s=rng g ys k s
  | [],[],_,_,_=>rfl
  | a :: xs,b :: ys,hl,k,s=>by
    unfold rng
    rw [h k a b s]
    cases e:g k b s with
    | none=>rfl
    | some c =>
      cases c with
      | next d=>exact QR h (by simpa using hl) (k + 1) d
      | brk d=>rfl
      | ret r=>rfl
  | [],_ :: _,hl,_,_=>by simp at hl
  | _ :: _,[],hl,_,_=>by simp at hl
theorem Uo {t:Tsk} (z:TaskOk t) (Q:t.ops.length≤20) {sg:Nat→Nat→ByteArray} (hs:∀ v a,(sg v a).size≤1000):∃ ns q,ns.Perm (t.ops.flatMap notesO)∧∀ s M fl,CT (mkF t sg [] s M fl)=some (mkF t (sgA t ns q sg) [] s M fl):=by
  obtain ⟨c,hk1,hk2⟩:=RB (l:=t.ops) Q
  have H:=hk2.length_eq
  have O:∀ o∈c,Aay o:=λ o hm=>by
    obtain ⟨i,hi⟩:=G3 (hk2.mem_iff.1 hm)
    have X:=z.2.2.2.2.2 i o hi
    exact ⟨Jn z X.2.2.2.2.1,X.2.2.1,λ e he=>Jn z (HQ X e he).1,by unfold P9;have:=X.1;have:=X.2.1;omega⟩
  obtain ⟨S,h1,h2⟩:=Un O (by omega)
  have I:((c.flatMap notesO)).length<=100000:=by
    have:∀ (l:List Opr),(∀ o∈l,Aay o)->(l.flatMap notesO).length<=4224 * l.length:=by
      intro l
      induction l with
      | nil=>intro _;simp
      | cons o l T =>
        intro hl
        have:=NJ (hl o H8)
        have:=T λ q P=>hl q (F8 _ P)
        rw [I7,H2,J5]
        omega
    have:=this c O
    omega
  generalize J:c.flatMap notesO=ns at h2 I
  obtain ⟨⟨⟨m⟩⟩,⟨names⟩⟩:=S
  have A:NI ns m names:=h2
  have U:=A.len
  refine ⟨ns,V2 names,by rw [<- J];exact hk2.flatMap_right _,λ s M fl=>?_⟩
  unfold CT
  have K:DD t.ops=some t.ops:=if_pos ⟨by omega,by omega⟩
  show bnd (DD t.ops) _=_
  rw [K,Ar,hk1,Ar]
  have P:(V2 names).length=names.length:=EG names
  have h:rng (Z9 c) t.ops 0 ((⟨(⟨[]⟩:MapM)⟩:BxM),(⟨([]:List ByteArray)⟩:BxR 96 9 ByteArray))=some (.done (⟨⟨m⟩⟩,⟨names⟩)):=by
    rw [<- h1]
    exact QR (f:=Z9 c) (g:=Z9 c) (xs:=t.ops) (ys:=c) (λ k a b s=>rfl) H.symm 0 _
  unfold Z9 at h
  rw [h,Ar,BB]
  show bnd (if names.length<=1000000 then some (V2 names) else none) _=_
  rw [if_pos (by omega),Ar]
  have w:=Fp (ρ:=Fnd) (f:=λ (D:Nat) (_:ByteArray) (y:Fnd)=>bnd ((V2 names)[D]?) λ E=>bnd (rng (ρ:=Ctl Fnd Fnd) (λ (_:Nat) (d:Fct) (j:Fnd)=>bnd (R5 m E) λ n=>bnd (Bq (fget 0 n d)) λ p=>bnd (Ca j d p) λ r=>some (.next r)) y.list 0 y) λ u=>fin u λ (F:Fnd)=>some (.next F)) (xs:=names) (s₀:=mkF t sg [] s M fl) (λ k=>mkF t (sgA t ns ((V2 names).take k) sg) [] s M fl) rfl (λ k x L=>by
    have hk:=AD L
    obtain ⟨C,ha⟩:=AG (l:=V2 names) (k:=k) (by omega)
    have G:C∈names:=(Ki names).mem_iff.1 (F9 ha)
    rw [ha,Ar]
    cases hv:R5 m C with
    | none=>exact absurd hv (A.nam C G)
    | some v =>
      have V:(λ (_:Nat) (d:Fct) (j:Fnd)=>bnd (some v) λ n=>bnd (Bq (fget 0 n d)) λ p=>bnd (Ca j d p) λ r=>some (Ctl.next (ρ:=Ctl Fnd Fnd) r))=λ (_:Nat) (a:Fct) (s:Fnd)=>bnd (Ca s a (S5 (cntF ns C a:Int))) λ q=>some (.next q):=by
        funext k b s'
        rw [Ar,A.get C v hv b]
        rfl
      have N:=QQ (t:=t) (ns:=ns) (by omega) ((V2 names).take k) sg 1000 hs
      have:=Kr (t:=t) (s:=s) (M:=M) (fl:=fl) (ρ:=Ctl Fnd Fnd) (rl:=λ f=>S5 (cntF ns C f:Int)) (R:=21) (B:=10000000) (QP (by omega) C) (by omega) (allP t) 0 (sgA t ns ((V2 names).take k) sg) (GM t) (λ x L=>Cd.1 L) (λ x _=>by
        have:=N x.1 x.2
        rw [K0] at this
        omega)
      rw [V]
      show bnd (rng _ ((allP t).map fc) 0 _) _=_
      rw [this,Ar,BB,Ik ha,QO])
  have W:(V2 names).take names.length=V2 names:=D4 (by omega)
  rw [W] at w
  rw [w,Ar,BB]
theorem Px (x:Swp) (l:List Fct):(imL x l).Perm (l.map (imF x)):=Fd _
def imN (x:Swp) (n:Nt):Nt:=(n.1,imF x n.2)
theorem VI (x:Swp) (c:ByteArray) (k:Nat) (e:Eff):(ZH c k (imE x e)).Perm ((ZH c k e).map (imN x)):=by
  unfold ZH
  rw [M7,N9]
  refine List.Perm.cons _ ?_
  have:=(Px x e.cond).map λ f=>((c ++ Aas ++ S5 (k:Int),f):Nt)
  rw [N9] at this
  exact this
theorem Pe (x:Swp) (c:ByteArray):∀ (l:List Eff) (k:Nat),(notesE c (l.map (imE x)) k).Perm ((notesE c l k).map (imN x))
  | [],_=>.refl _
  | e :: l,k=>by
    rw [M7,notesE,notesE,L9]
    exact (VI x c k e).append (Pe x c l (k + 1))
theorem Up {x:Swp} {o p:Opr} (b:Mt x o p):(notesO p).Perm ((notesO o).map (imN x)):=by
  obtain ⟨a,h2,h3⟩:=b
  have hl:p.pre.length=o.pre.length:=by rw [<- h2,(Px x o.pre).length_eq,L7]
  have hk:kd p=kd o:=by unfold kd;rw [<- a,hl,<- h3,L7]
  unfold notesO
  rw [hk,<- h3,L9,N9]
  refine List.Perm.append ?_ (Pe x (kd o) o.effs 0)
  have:=(Px x o.pre).map λ f=>((kd o ++ Aav,f):Nt)
  rw [N9,h2] at this
  exact this
theorem Sh {x:Swp}:∀ (l P:List Opr),l.length=P.length->(∀ (k:Nat) (o p:Opr),l[k]?=some o->P[k]?=some p->Mt x o p)->(P.flatMap notesO).Perm ((l.flatMap notesO).map (imN x))
  | [],[],_,_=>.refl _
  | o :: l,p :: P,hl,h=>by
    rw [I7,I7,L9]
    exact (Up (h 0 o p rfl rfl)).append (Sh l P (by simpa using hl) λ k o' a b c=>h (k + 1) o' a (by simpa using b) (by simpa using c))
  | [],_ :: _,hl,_=>by simp at hl
  | _ :: _,[],hl,_=>by simp at hl
def Aa4:Opr:=⟨⟨#[]⟩,0,[],[]⟩
theorem Uq {t:Tsk} {x:Swp} (f:SymP t x):(t.ops.flatMap notesO).Perm ((t.ops.flatMap notesO).map (imN x)):=by
  let P:=x.ops.map λ a=>(t.ops[a.toNat]?).getD Aa4
  have g:P.Perm t.ops:=by
    have:=f.2.1.map λ a=>(t.ops[a.toNat]?).getD Aa4
    have e:(T5 t.ops.length).map (λ a=>(t.ops[a.toNat]?).getD Aa4)=t.ops:=I3 λ k=>by
      by_cases hk:k < t.ops.length
      . rw [I4,FL hk]
        obtain ⟨o,b⟩:=AG hk
        simp [b]
      . rw [E6 (by rw [L7,IB];omega),E6 (by omega)]
    rwa [e] at this
  refine (g.flatMap_right notesO).symm.trans (Sh t.ops P (by rw [L7,f.2.1.len]) λ k o p b c=>?_)
  obtain ⟨o',p',a,d,q2,_,q3,q4⟩:=EH f (AD b)
  rw [b] at d
  injection d with d
  subst d
  have c:(x.ops.map λ a=>(t.ops[a.toNat]?).getD Aa4)[k]?=some p:=c
  rw [I4,q2] at c
  have:p'=p:=by simpa [q3] using c
  subst this
  exact q4
theorem Pf {vars:List Int} {c:ByteArray}:∀ (l:List Eff) (k:Nat),(∀ e∈l,Y4 vars e)→∀ n∈notesE c l k,R1 vars n.2
  | [],_,_,n,hn=>by simp [notesE] at hn
  | e :: l,k,h,n,hn=>by
    have he:=h e H8
    rw [notesE,K9] at hn
    rcases hn with hn|hn
    . rcases M8.1 hn with rfl|hn
      . exact he.2
      . obtain ⟨f,hf,rfl⟩:=N8.1 hn
        exact (Ea he.1).1 f hf
    . exact Pf l (k + 1) (λ q a=>h q (F8 _ a)) n hn
theorem VJ {t:Tsk} (a:TaskOk t):∀ n∈t.ops.flatMap notesO,R1 t.vars n.2:=λ n hn=>by
  obtain ⟨o,ho,hn⟩:=K2.1 hn
  obtain ⟨i,hi⟩:=G3 ho
  have b:=a.2.2.2.2.2 i o hi
  unfold notesO at hn
  rcases K9.1 hn with hn|hn
  . obtain ⟨f,hf,rfl⟩:=N8.1 hn
    exact (Ea b.2.2.2.2.1).1 f hf
  . exact Pf _ _ (HQ b) n hn
theorem Sj {t:Tsk} {x:Swp} (a:TaskOk t) (b:Q0 t x) {f g:Fct} (hf:R1 t.vars f) (h:R1 t.vars g) (e:imF x f=imF x g):f=g:=by
  obtain ⟨c,h2⟩:=Kq a hf
  obtain ⟨d,h4⟩:=Kq a h
  rw [h2,h4,Hd a b c,Hd a b d] at e
  rw [h2,h4,LV a b c d (JP e)]
theorem Xo {t:Tsk} {x:Swp} (b:TaskOk t) (g:SymP t x) {ns:List Nt} (c:ns.Perm (t.ops.flatMap notesO)) (a:ByteArray) {f:Fct} (hf:R1 t.vars f):cntF ns a (imF x f)=cntF ns a f:=by
  unfold cntF
  rw [c.countP_eq,c.countP_eq,(Uq g).countP_eq,List.countP_map]
  refine List.countP_congr λ n hn=>?_
  have d:=VJ b n hn
  have:imN x n=(a,imF x f)↔n=(a,f):=by
    constructor
    . intro e
      have h:n.1=a:=congrArg Prod.fst e
      have i:imF x n.2=imF x f:=congrArg Prod.snd e
      exact Prod.ext h (Sj b g.1 d hf i)
    . intro e;rw [e];rfl
  show bof (imN x n=(a,imF x f))=true↔_
  rw [Nb this]
theorem QS {t:Tsk} {w:Swp} {sg:Nat->Nat->ByteArray} {l:List Pn} {rl:Fct->ByteArray} (b:ZK t sg w) (hl:∀ p,InP t p->(imQ w p∈l↔p∈l)) (hr:∀ p,InP t p->rl (fc (imQ w p))=rl (fc p)):ZK t (X7 sg l rl) w:=λ p a=>by
  unfold X7
  by_cases hm:p∈l
  . rw [if_pos ((hl p a).2 hm),if_pos hm,b p a,hr p a]
  . rw [if_neg (λ e=>hm ((hl p a).1 e)),if_neg hm,b p a]
theorem Sk {t:Tsk} {x:Swp} (b:TaskOk t) (e:SymP t x) {ns:List Nt} (c:ns.Perm (t.ops.flatMap notesO)):∀ (l:List ByteArray) (sg:Nat->Nat->ByteArray),ZK t sg x->ZK t (sgA t ns l sg) x
  | [],_,h=>h
  | a :: l,sg,h=>Sk b e c l _ (QS h (λ p d=>⟨λ _=>Cd.2 d,λ _=>Cd.2 (Gr b e.1 d)⟩) λ p d=>by
    rw [<- Hd b e.1 d,Xo b e c a (d.ok b)])
theorem Xp {t:Tsk} {x:Swp} (a:TaskOk t) (f:SymP t x):ZK t (sg0 t) x:=by
  have d:=(Ea a.2.2.2.2.1).1
  have b:∀ p,InP t p->(p∈t.goal.map pf↔fc p∈t.goal):=λ p e=>by
    rw [N8]
    constructor
    . rintro ⟨g,c,rfl⟩
      rw [<- (Kq a (d g c)).2];exact c
    . intro h
      exact ⟨fc p,h,by unfold pf fc;simp⟩
  have c:=Px x t.goal
  rw [f.2.2.1] at c
  refine QS (λ _ _=>rfl) (λ p e=>?_) λ _ _=>rfl
  rw [b _ (Gr a f.1 e),b p e,<- Hd a f.1 e]
  constructor
  . intro h
    obtain ⟨g,hg1,hg2⟩:=N8.1 (c.mem_iff.1 h)
    rw [<- Sj a f.1 (d g hg1) (e.ok a) hg2]
    exact hg1
  . intro h
    exact c.mem_iff.2 (N8.2 ⟨_,h,rfl⟩)
theorem Acg {t:Tsk} (b:TaskOk t) (c:t.ops.length<=20):∃ sg,(∀ w,SymF t w->ZK t sg w)/\∀ M,Dp t M=some (some (mkF t sg [] 0 M false)):=by
  have hs:∀ v a,(sg0 t v a).size<=1000:=λ v a=>by
    have:=Pd (sg:=λ _ _=>⟨#[]⟩) (l:=t.goal.map pf) (rl:=λ _=>AaI) (B:=0) (R:=4) (λ _ _=>P1 _) (λ _=>P1 _) v a
    unfold sg0
    omega
  obtain ⟨ns,q,h2,h1⟩:=Uo b c (sg:=sg0 t) hs
  refine ⟨sgA t ns q (sg0 t),λ w ⟨ops,hw⟩=>Sk b hw h2 q _ (Xp b hw),λ M=>Yt b (h1 0 M false)⟩
end
end Go.Proofs.YtdlhmdckakbboaaGreatDoor

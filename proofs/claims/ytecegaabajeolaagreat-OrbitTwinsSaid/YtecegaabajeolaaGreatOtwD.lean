/- Own text: what the proof of orbitTwins_holds uses, part 4: rules, models and their proofs, plain laws. -/
import Derived.Test.YtecegaabajeolaaGreatOtwC
set_option linter.unusedVariables false
set_option linter.unusedSimpArgs false
namespace Go.Proofs.YtecegaabajeolaaGreat
open Go Go.RowKit
section
open Go Go.RowKit
attribute [local irreducible] ewp owp hwp hwq hws Ev Evg Fn retPost loud loudS Res1
attribute [local irreducible] hwx loudX
structure ONd where
  state:List Int
  cost:Int
  parent:Int
  op:Int
  used:List Int
  fin:Bool
instance:Rp ONd where
  isAgg:=true
  size:=6
  R w F cs x:=∃ v0 v1,cs=[v0,.int .i64 x.cost,.int .i64 x.parent,.int .i64 x.op,v1,.bool x.fin]∧Vb w F v0 x.state∧Vb w F v1 x.used∧inI64 x.cost∧inI64 x.parent∧inI64 x.op
  len:=by rintro w F cs x ⟨v0,v1,rfl,h0,h1,h2,h3,h4⟩;rfl
  one:=by rintro w F cs x ⟨v0,v1,rfl,h0,h1,h2,h3,h4⟩ u hu;simp at hu;rcases hu with rfl|rfl|rfl|rfl|rfl|rfl<;>first|rfl|exact Vb.one rfl (by assumption)
  agree:=by rintro w w' F cs x ⟨v0,v1,rfl,h0,h1,h2,h3,h4⟩ ha;exact ⟨v0,v1,rfl,h0.agree ha,h1.agree ha,h2,h3,h4⟩
  mono:=by rintro w F G cs x ⟨v0,v1,rfl,h0,h1,h2,h3,h4⟩ ha;exact ⟨v0,v1,rfl,h0.mono ha,h1.mono ha,h2,h3,h4⟩
structure Ors where
  t:Tsk
  gens:List Swp
  nodes:List ONd
  tab:MapP ByteArray Int
  open_ : List OEn
  number:Int
instance:Ow Ors where
  R w F M v x:=∃ (g:Nat) (L:Lab) (c0 c1 c2 c3 c4 c5 c6 c7:Value),v=.pointer (some ⟨g,0,none⟩)∧Blk w g 69 [c0,c1,c2,c3,c4,c5,c6,c7,.int .i64 x.number]∧M g∧L g=0∧Vb w F c0 x.t.vars∧Vb w F c1 x.t.init∧Vb w F c2 x.t.goal∧Vb w F c3 x.t.ops∧Vb w F c4 x.gens∧RwM w F (fun k=>M k∧L k=1) 78 c5 x.nodes∧Ow.R w F (fun k=>M k∧L k=2) c6 x.tab∧RwM w F (fun k=>M k∧L k=3) 73 c7 x.open_∧inI64 x.number
  agree:=by rintro w w' F M v x ⟨g,L,c0,c1,c2,c3,c4,c5,c6,c7,rfl,hb,hM,hL,h0,h1,h2,h3,h4,h5,h6,h7,h8⟩ a1 a2;exact ⟨g,L,c0,c1,c2,c3,c4,c5,c6,c7,rfl,hb.keep (a2 g hM),hM,hL,h0.agree a1,h1.agree a1,h2.agree a1,h3.agree a1,h4.agree a1,h5.agree a1 fun k hk=>a2 k hk.1,Ow.agree h6 a1 fun k hk=>a2 k hk.1,h7.agree a1 fun k hk=>a2 k hk.1,h8⟩
  mono:=by rintro w F M F' M' v x ⟨g,L,c0,c1,c2,c3,c4,c5,c6,c7,rfl,hb,hM,hL,h0,h1,h2,h3,h4,h5,h6,h7,h8⟩ a1 a2 a3;exact ⟨g,L,c0,c1,c2,c3,c4,c5,c6,c7,rfl,hb,a2 g hM,hL,h0.mono a1,h1.mono a1,h2.mono a1,h3.mono a1,h4.mono a1,h5.mono a1 (fun k hk=>⟨a2 k hk.1,hk.2⟩) fun k hf hm=>a3 k hf hm.1,Ow.mono h6 a1 (fun k hk=>⟨a2 k hk.1,hk.2⟩) fun k hf hm=>a3 k hf hm.1,h7.mono a1 (fun k hk=>⟨a2 k hk.1,hk.2⟩) fun k hf hm=>a3 k hf hm.1,h8⟩
theorem Ors.opn {i:Nat} {w:World} {O:Lab} {p:Nat} {x:Ors} (h:Ob i w O (.pointer (some ⟨p,0,none⟩)) x) (l0 l1 l2 l3:Nat) (hl:l0≠0∧l1≠0∧l2≠0∧l3≠0):∃ (O':Lab) (c0 c1 c2 c3 c4 c5 c6 c7:Value),St (eT i) w O w O'∧(∀ k,Fr i w O k→∃ q,q∈[l0,l1,l2,l3]∧Fr q w O' k)∧Lc l0 w O' p 69 [c0,c1,c2,c3,c4,c5,c6,c7,.int .i64 x.number]∧Vb w (Fr 0 w O') c0 x.t.vars∧Vb w (Fr 0 w O') c1 x.t.init∧Vb w (Fr 0 w O') c2 x.t.goal∧Vb w (Fr 0 w O') c3 x.t.ops∧Vb w (Fr 0 w O') c4 x.gens∧Rw l1 w O' 78 c5 x.nodes∧Ob l2 w O' c6 x.tab∧Rw l3 w O' 73 c7 x.open_∧inI64 x.number:=by
  obtain ⟨⟨g,L,c0,c1,c2,c3,c4,c5,c6,c7,hv,hb,hM,hL,h0,h1,h2,h3,h4,h5,h6,h7,h8⟩,hi⟩:=h
  obtain rfl:p=g:=by injection hv with hv;injection hv with hv;injection hv
  exact ⟨part O i L [l0,l1,l2,l3],c0,c1,c2,c3,c4,c5,c6,c7,Lu hi,Ks (by simp),⟨hb,(FF (j:=0) rfl p ⟨hM,hL⟩).2⟩,h0.mono (DV hi),h1.mono (DV hi),h2.mono (DV hi),h3.mono (DV hi),h4.mono (DV hi),h5.rw (DV hi) (FF (j:=1) rfl) hl.2.1,⟨Ow.mono h6 (DV hi) (FF (j:=2) rfl) (frNe0 hl.2.2.1),hl.2.2.1⟩,h7.rw (DV hi) (FF (j:=3) rfl) hl.2.2.2,h8⟩
theorem Ors.shut {w:World} {O:Lab} {p:Nat} {x:Ors} {l0 l1 l2 l3:Nat} {c0 c1 c2 c3 c4 c5 c6 c7:Value} (hd:¬ 0∈[l0,l1,l2,l3]∧[l0,l1,l2,l3].idxOf l0=0∧[l0,l1,l2,l3].idxOf l1=1∧[l0,l1,l2,l3].idxOf l2=2∧[l0,l1,l2,l3].idxOf l3=3) (hb:Lc l0 w O p 69 [c0,c1,c2,c3,c4,c5,c6,c7,.int .i64 x.number]) (h0:Vb w (Fr 0 w O) c0 x.t.vars) (h1:Vb w (Fr 0 w O) c1 x.t.init) (h2:Vb w (Fr 0 w O) c2 x.t.goal) (h3:Vb w (Fr 0 w O) c3 x.t.ops) (h4:Vb w (Fr 0 w O) c4 x.gens) (h5:Rw l1 w O 78 c5 x.nodes) (h6:Ob l2 w O c6 x.tab) (h7:Rw l3 w O 73 c7 x.open_) (h8:inI64 x.number):∃ O',St (·∈[l0,l1,l2,l3]) w O w O'∧(∀ k,Fr 0 w O k→Fr 0 w O' k)∧(∀ q,q∈[l0,l1,l2,l3]→∀ k,Fr q w O k→Fr l0 w O' k)∧Ob l0 w O' (.pointer (some ⟨p,0,none⟩)) x:=by
  have hb1:l0≠0:=fun e=>hd.1 (by simp [e])
  have hg:=EX (i:=l0) hd.2.1 (by simp) p ⟨hb.1.lt,hb.2⟩
  exact ⟨whole O l0 [l0,l1,l2,l3],Kt,CU hd.1,Jx,⟨p,fun k=>[l0,l1,l2,l3].idxOf (O k),c0,c1,c2,c3,c4,c5,c6,c7,rfl,hb.1,hg.1,hg.2,h0.mono (CU hd.1),h1.mono (CU hd.1),h2.mono (CU hd.1),h3.mono (CU hd.1),h4.mono (CU hd.1),h5.m (CU hd.1) (EX hd.2.2.1 (by simp)) (fun k a b=>frNe0 hb1 k a b.1),Ow.mono h6.1 (CU hd.1) (EX hd.2.2.2.1 (by simp)) (fun k a b=>frNe0 hb1 k a b.1),h7.m (CU hd.1) (EX hd.2.2.2.2 (by simp)) (fun k a b=>frNe0 hb1 k a b.1),h8⟩,hb1⟩
noncomputable def Ey (x0:List Int):Option ByteArray :=
  bnd (mkI 1 ((bw 0):Byt) (x0.length:Int)) fun u6=>bnd (rng (ρ:=ByteArray) (fun (k25:Nat) (a26:Int) (s23:(List Byt))=>bnd (s23[k25]?) fun a48=>some (.next (s23.set k25 (bw a26)))) x0 0 u6) fun res21=>fin res21 fun (s64:(List Byt))=>bnd (strI s64) fun n66=>some n66
theorem Ln {w:World} {A:Nat→Prop} (hA:∀ k,A k→k < w.heap.size) {vx0:Value} {x0:List Int} (a0:Vb w A vx0 x0) {r:ByteArray} (hm:Ey x0=some r) :
    Fn Tryz.prog 58 [vx0] w fun v w'=>Ext w w'∧Vb w' (upA A w w') v r:=by
 obtain ⟨O,hB,a1⟩:=enter hA
 replace a0:=a0.mono a1
 obtain ⟨A2,c3,rfl⟩:=a0.form
 refine AQ Tryz.func58 rfl Tryz.ntmps58 rfl ?_
 unfold Ey at hm
 refine Al (Aj (Ay rfl rfl (o_z ?_)))
 refine Al (Aj (Ar rfl rfl (Bj rfl rfl ?_)))
 have l5:x0.length≤9223372036854775807:=Nat.le_trans a0.len.2.1 a0.len.2.2
 have r4:inI64 (x0.length:Int):=rngNat l5
 obtain ⟨u6,e7,hm⟩:=bs hm
 obtain ⟨m8,e9,b1,c1,d1⟩:=CD e7
 refine Di 2 (by decide) O (z0:=((bw 0):Byt)) rfl rfl rfl rfl rfl e9 (vByte (x:=(bw 0))) b1 c1 rfl fun h0 k1 e1 j0 t0=>?_
 rw [← d1] at t0 ⊢
 refine Ay rfl rfl (o_z ?_)
 refine Al (Al (Aj (Ar rfl rfl (Bj rfl rfl ?_))))
 replace a0:=a0.st j0
 have k0:x0.length≤9223372036854775807:=Nat.le_trans a0.len.2.1 a0.len.2.2
 have l1:inI64 (x0.length:Int):=rngNat k0
 refine Ar rfl rfl (o_z ?_)
 obtain ⟨e0,l0,hm⟩:=bs hm
 refine AU (aft e0 (fun (d0:(List Byt)) (i0:Unit)=>[(3,(.slice (some ⟨h0,0,none⟩) u6.length m8))]) (fun d0 i0 w'=>∃ O':Lab,Bs w A w' O'∧Rw 2 w' O' 5 (.slice (some ⟨h0,0,none⟩) u6.length m8) d0)) ?_ ?_
 ·
  refine Bf ?_
  replace hB:=hB.st j0
  refine BS (σ:=(List Byt)) (X:=Unit) (x0.length) l0 rfl k0 (fun (d0:(List Byt)) (i0:Unit)=>[(3,(.slice (some ⟨h0,0,none⟩) u6.length m8)),(9,(.slice A2 x0.length c3))]) _ (fun d0 i0 w'=>∃ O':Lab,Bs w A w' O'∧Rw 2 w' O' 5 (.slice (some ⟨h0,0,none⟩) u6.length m8) d0∧Vb w' (Fr 0 w' O') (.slice A2 x0.length c3) x0) _ () ⟨e1,hB,t0,a0⟩ ⟨rfl,rfl,rfl,rfl,trivial⟩ (fun _ _=>⟨rfl,rfl⟩) (fun _ _=>⟨rfl,trivial⟩) (fun _ _ _ ⟨O',hB,b0,a0⟩=>⟨O',hB,b0⟩) ⟨rfl,rfl,rfl⟩ ⟨rfl,rfl⟩ ?_
  rintro f1 u0 d0 i0 m1 g1 f0 ⟨n1,hB,b0,a0⟩ c0 m0 n0
  have rk25:inI64 (f1:Int):=rngK f0 k0
  refine Al (Aj (Ar rfl rfl ?_))
  obtain ⟨o1,p1,h1,o0,p0,q0,rfl,q1⟩:=a0.elem' f0
  refine BB (hA:=o0) (hj:=rfl) (hlt:=p0) rfl rfl rfl ?_
  refine AP (hc:=cat0 q0) rfl rfl ?_
  refine Ay rfl rfl (Ay rfl rfl (o_z ?_))
  refine Aj (Ar rfl rfl (Ar rfl rfl (Ar rfl rfl (Qq rfl rfl ?_))))
  obtain ⟨r1,v0,c0⟩:=bs c0
  obtain ⟨s1,t1,i1,g0,r0,j1,rfl⟩:=b0.elem v0
  refine BB (hA:=g0) (hj:=rfl) (hlt:=r0) rfl rfl rfl ?_
  refine CM rfl b0 (a:=(bw u0)) (vByte (x:=(bw u0))) g0 rfl rfl (AL v0) fun u1 w0 b0=>?_
  refine o_z ?_
  obtain rfl:=sm c0
  exact show Exists _ from ⟨_,(),rfl,⟨rfl,rfl,rfl,rfl,trivial⟩,_,hB.st w0,b0,a0.st w0⟩
 replace hB:=hB.st j0
 rintro v1 w1 ⟨x1,y1,rfl,s0,z1,hB,b0⟩
 replace hm:=Bq hm
 refine Bc _ s0 ?_
 refine Al (Aj (Ar rfl rfl ?_))
 obtain ⟨a2,y0,hm⟩:=bs hm
 refine Qr (hv:=(b0).all) (he:=y0) rfl rfl ?_
 refine Ay rfl rfl (o_z ?_)
 refine AR ?_
 obtain rfl:=sm hm
 exact ret1v rfl (AO rfl) ⟨hB.ext,(vStr (Oz y0))⟩
noncomputable def BM (x0:Ors) (x1:List Int) (x2:Int) (x3:Int) (x4:Int):Option (Err×Ors) :=
  bnd (BK (⟨x0.t.vars,x0.t.init,x0.t.goal,x0.t.ops⟩:Tsk) x0.gens x1) fun q46=>if q46.2.2.n≠0 then (some ((⟨q46.2.2.n⟩:Err),x0)) else (bnd (Ey q46.1) fun q70=>bnd (if (mhas x0.tab.l q70)=true then (bnd (atI x0.nodes (mget 0 x0.tab.l q70)) fun a87=>if a87.cost≤x2 then (some (true,true)) else (some (true,false))) else (some (false,false)):Option (Bool×Bool)) fun y82=>if y82.2=true then (some ((⟨0⟩:Err),x0)) else (bnd (if y82.1=true then (bnd (atI x0.nodes (mget 0 x0.tab.l q70)) fun a182=>some ((mget 0 x0.tab.l q70),(⟨(⟨x0.t.vars,x0.t.init,x0.t.goal,x0.t.ops⟩:Tsk),x0.gens,(x0.nodes.set ((mget 0 x0.tab.l q70):Int).toNat (⟨q46.1,x2,x3,x4,q46.2.1,false⟩:ONd)),x0.tab,x0.open_,x0.number⟩:Ors))) else (bnd (appI 80 x0.nodes [(⟨q46.1,x2,x3,x4,q46.2.1,false⟩:ONd)]) fun u261=>some ((x0.nodes.length:Int),(⟨(⟨x0.t.vars,x0.t.init,x0.t.goal,x0.t.ops⟩:Tsk),x0.gens,u261,(⟨mput x0.tab.l q70 (x0.nodes.length:Int)⟩:MapP ByteArray Int),x0.open_,x0.number⟩:Ors))):Option (Int×Ors)) fun y137=>bnd (chkI (y137.2.number + 1)) fun n321=>bnd (Co (⟨y137.2.open_⟩:BxR 67 73 OEn) (⟨(⟨x2,n321,y137.1⟩:OEn)⟩:An 73 OEn)) fun q331=>some ((⟨0⟩:Err),(⟨(⟨y137.2.t.vars,y137.2.t.init,y137.2.t.goal,y137.2.t.ops⟩:Tsk),y137.2.gens,y137.2.nodes,y137.2.tab,q331.l,n321⟩:Ors))))
theorem Fj {w:World} {O:Lab} {p0 i0:Nat} {x0:Ors} (s2:Ob i0 w O (.pointer (some ⟨p0,0,none⟩)) x0) {vx1:Value} {x1:List Int} (r3:Vb w (Fr 0 w O) vx1 x1) {x2:Int} (rx2:inI64 x2) {x3:Int} (rx3:inI64 x3) {x4:Int} (rx4:inI64 x4) {r:Err×Ors} (hm:BM x0 x1 x2 x3 x4=some r) :
    Fn Tryz.prog 25 [(.pointer (some ⟨p0,0,none⟩)),vx1,(.int .i64 x2),(.int .i64 x3),(.int .i64 x4)] w fun v w'=>∃ O',St (eT i0) w O w' O'∧Ob i0 w' O' (.pointer (some ⟨p0,0,none⟩)) r.2∧Vb w' (Fr 0 w' O') v r.1:=by
 obtain ⟨O0,hE,y6,y7⟩:=ent1 (w:=w) (O:=O) s2.2
 have s2':=Ob.leave s2 y6 y7 (j:=2) (by decide)
 have hB:Bm w O0 w O0:=Bm.refl
 replace r3:=r3.mono y6
 obtain ⟨A6,c7,rfl⟩:=r3.form
 refine AQ Tryz.func25 rfl Tryz.ntmps25 rfl ?_
 unfold BM at hm
 refine Al (Aj (Ay rfl rfl (o_z ?_)))
 refine Al ?_
 obtain ⟨O8,fC,gC,hC,iC,jC,kC,lC,mC,S9,z7,k1,a1,b1,c1,d1,e1,m1,o1,g1,n4⟩:=Ors.opn s2' 2 3 4 5 (by decide)
 obtain ⟨a8,b8,rfl⟩:=a1.form
 obtain ⟨c8,d8,rfl⟩:=b1.form
 obtain ⟨e8,f8,rfl⟩:=c1.form
 obtain ⟨g8,h8,rfl⟩:=d1.form
 obtain ⟨nC,oC,rfl⟩:=e1.form
 obtain ⟨pC,qC,rfl⟩:=m1.form
 obtain ⟨rC,rfl⟩:=o1.mptr
 obtain ⟨sC,tC,rfl⟩:=g1.form
 refine Bw [] O8 ?_
 refine AD (fuel:=8) [] [(0,true),(1,true),(2,true),(3,true),(4,true),(5,true),(6,true),(7,true),(8,true)] (by kernel_rfl) rfl ?_
 refine AW rfl rfl rfl (Dd rfl rfl rfl (AJ rfl rfl rfl (Df (hl:=rfl) (hb:=fun w' ⟨O',hq⟩=>(ER 0 4 ((k1.st hq (by decide)).1).cellsAt)) rfl rfl rfl ?_)))
 refine AW rfl rfl rfl (Dd rfl rfl rfl (AJ rfl rfl rfl (Bb (hc:=fun w' ⟨O',hq⟩=>Blk.cell (i:=4) ((k1.st hq (by decide)).1) rfl) rfl rfl rfl ?_)))
 refine AW rfl rfl rfl (Au ?_)
 refine At (i:=9) (by kernel_rfl) rfl ?_
 obtain ⟨g0,i8,hm⟩:=bs hm
 replace r3:=r3.st S9
 refine Bt (O:=O8) (R:=fun w' F v=>T3 w' F v g0) (GF Fr.lt (Vb.ofAgg (cs:=[(.slice a8 x0.t.vars.length b8),(.slice c8 x0.t.init.length d8),(.slice e8 x0.t.goal.length f8),(.slice g8 x0.t.ops.length h8)]) (x:=(⟨x0.t.vars,x0.t.init,x0.t.goal,x0.t.ops⟩:Tsk)) rfl ⟨_,_,_,_,rfl,a1,b1,c1,d1⟩) e1 r3 i8) rfl rfl fun uC z6 a7 b0 j8=>?_
 obtain ⟨vC,wC,xC,rfl,f1,h1,k8⟩:=j8
 obtain ⟨s3,t3,rfl⟩:=f1.form
 obtain ⟨u3,v3,rfl⟩:=h1.form
 obtain ⟨rfl,l8⟩:=k8.err
 have hZ:=b0.lst [] (fun _ h=>h.elim)
 refine Az [] hZ (by kernel_rfl) ?_
 refine AD (fuel:=0) [] [(10,true),(11,true),(12,true),(13,true),(14,true),(15,true),(16,true)] (by kernel_rfl) rfl ?_
 refine AW rfl rfl rfl (GA rfl rfl rfl rfl (GA rfl rfl rfl rfl (GA rfl rfl rfl rfl (EC rfl rfl rfl (EC rfl rfl rfl (EC rfl rfl rfl (Au ?_)))))))
 refine AY (by kernel_rfl) ?_
 refine Al (Al (Aj (Ar rfl rfl (Ej rfl rfl (fun o4=>?_) fun o4=>?_))))
 ·
  replace hm:=ip hm o4
  refine o_z ?_
  refine Ah rfl (Al (Aj (Ar rfl rfl (Ay rfl rfl (o_z ?_)))))
  refine AR ?_
  replace k1:=k1.st b0
  replace a1:=a1.st b0
  replace b1:=b1.st b0
  replace c1:=c1.st b0
  replace d1:=d1.st b0
  replace e1:=e1.st b0
  replace m1:=m1.st b0
  replace o1:=o1.st b0
  replace g1:=g1.st b0
  obtain ⟨yC,m8,n8,o8,p8⟩:=Ors.shut (x:=x0) (l0:=2) (l1:=3) (l2:=4) (l3:=5) (by decide) k1 a1 b1 c1 d1 e1 m1 o1 g1 n4
  obtain rfl:=sm hm
  replace hB:=((hB.st S9).st b0).st m8
  obtain ⟨O',hS',hz,hl⟩:=hE.leave (fun q=>if q=2 then i0 else 0) rfl hB
  exact ret1v rfl (AO rfl) ⟨O',hS',(Ob.leave p8 hz (hl 2 (by decide) (by decide)) s2.2),(vErr l8)⟩
 replace hm:=im hm o4
 refine o_z ?_
 refine Ae rfl (AZ (Al (Aj (Ar rfl rfl ?_))))
 obtain ⟨p1,q8,hm⟩:=bs hm
 refine By (O:=a7) (A:=All z6) (R:=fun w' F v=>Vb w' F v p1) (Ln (fun _ h=>h) (Vb.mono (F:=Fr 0 z6 a7) f1 Fr.lt) q8) rfl rfl fun zC aD bD d0 r8=>?_
 obtain ⟨rfl,cD⟩:=r8.str
 refine Ay rfl rfl (o_z ?_)
 refine Al (Aj (Ar rfl rfl (Dc rfl rfl (AV rfl rfl ?_))))
 replace k1:=(k1.st b0).st d0
 refine AP (hc:=Blk.cell (i:=6) (k1.1) rfl) rfl rfl ?_
 refine Ar rfl rfl ?_
 replace o1:=(o1.st b0).st d0
 obtain ⟨dD,p4,s8⟩:=MapP.get o1 p1 (vInt (show inI64 0 from by decide))
 obtain ⟨rfl,t8⟩:=s8.int
 refine Qh p1 p4 rfl rfl rfl ?_
 refine Ar rfl rfl (Cy rfl rfl rfl (Cy rfl rfl rfl (Ay rfl rfl (Ay rfl rfl (o_z ?_)))))
 refine Al (Al ?_)
 obtain ⟨b7,f0,hm⟩:=bs hm
 refine AU (fun l' w'=>∃ (u8:Unit) (O':Lab),subs l' [(0,(.pointer (some ⟨p0,0,none⟩))),(2,(.int .i64 x2)),(3,(.int .i64 x3)),(4,(.int .i64 x4)),(11,(.slice s3 g0.1.length t3)),(12,(.slice u3 g0.2.1.length v3)),(14,(.string p1)),(15,(.int .i64 (mget 0 x0.tab.l p1))),(16,(.bool b7.1)),(58,(.bool b7.2))]∧Bm w O0 w' O'∧Ob 2 w' O' (.pointer (some ⟨p0,0,none⟩)) x0∧Vb w' (Fr 0 w' O') (.slice s3 g0.1.length t3) g0.1∧Vb w' (Fr 0 w' O') (.slice u3 g0.2.1.length v3) g0.2.1) ?_ ?_
 ·
  refine Aj (Ar rfl rfl (Ar rfl rfl ?_))
  rcases Bool.eq_false_or_eq_true (mhas x0.tab.l p1) with w3|w3
  ·
   try rw [w3]
   replace f0:=ip f0 w3
   refine AE rfl rfl (Ar rfl rfl (AE rfl rfl (Dc rfl rfl (AE rfl rfl (AV rfl rfl (AE rfl rfl (AP (hc:=Blk.cell (i:=5) (k1.1) rfl) rfl rfl ?_)))))))
   refine AE rfl rfl (Ar rfl rfl (AE rfl rfl ?_))
   obtain ⟨eD,v8,f0⟩:=bs f0
   obtain ⟨w8,x8⟩:=Ba v8
   replace m1:=(m1.st b0).st d0
   obtain ⟨fD,gD,y8,q4,r4,s4,hD,iD,rfl,t4,u4,z8,a9,b9⟩:=m1.elem x8
   obtain ⟨c9,d9,rfl⟩:=t4.form
   obtain ⟨e9,f9,rfl⟩:=u4.form
   refine BB (hA:=q4) (hj:=(Int.toNat_of_nonneg w8).symm) (hlt:=r4) rfl rfl rfl ?_
   refine AE rfl rfl (AV rfl rfl (AE rfl rfl (AP (hc:=cat1 s4) rfl rfl ?_)))
   refine AE rfl rfl (Ar rfl rfl (AE rfl rfl (NV rfl rfl rfl (fun t2=>?_) fun t2=>?_)))
   ·
    replace f0:=ip f0 t2
    refine BF rfl rfl rfl (o_z ?_)
    replace a1:=(a1.st b0).st d0
    replace b1:=(b1.st b0).st d0
    replace c1:=(c1.st b0).st d0
    replace d1:=(d1.st b0).st d0
    replace e1:=(e1.st b0).st d0
    replace g1:=(g1.st b0).st d0
    obtain ⟨g9,u2,d7,e7,v4⟩:=Ors.shut (x:=x0) (l0:=2) (l1:=3) (l2:=4) (l3:=5) (by decide) k1 a1 b1 c1 d1 e1 m1 o1 g1 n4
    obtain rfl:=sm f0
    exact ⟨(),_,⟨rfl,rfl,rfl,rfl,rfl,rfl,rfl,rfl,rfl,rfl,trivial⟩,(((hB.st S9).st b0).st d0).st u2,v4,(f1.st d0).st u2,(h1.st d0).st u2⟩
   replace f0:=im f0 t2
   refine BF rfl rfl rfl (o_z ?_)
   replace a1:=(a1.st b0).st d0
   replace b1:=(b1.st b0).st d0
   replace c1:=(c1.st b0).st d0
   replace d1:=(d1.st b0).st d0
   replace e1:=(e1.st b0).st d0
   replace g1:=(g1.st b0).st d0
   obtain ⟨h9,v2,f7,g7,w4⟩:=Ors.shut (x:=x0) (l0:=2) (l1:=3) (l2:=4) (l3:=5) (by decide) k1 a1 b1 c1 d1 e1 m1 o1 g1 n4
   obtain rfl:=sm f0
   exact ⟨(),_,⟨rfl,rfl,rfl,rfl,rfl,rfl,rfl,rfl,rfl,rfl,trivial⟩,(((hB.st S9).st b0).st d0).st v2,w4,(f1.st d0).st v2,(h1.st d0).st v2⟩
  try rw [w3]
  replace f0:=im' f0 w3
  refine AC rfl rfl rfl rfl (AC rfl rfl rfl rfl (AC rfl rfl rfl rfl (AC rfl rfl rfl rfl (AC rfl rfl rfl rfl (AC rfl rfl rfl rfl (AC rfl rfl rfl rfl (AC rfl rfl rfl rfl (AC rfl rfl rfl rfl (AC rfl rfl rfl rfl (BN rfl rfl rfl (o_z ?_)))))))))))
  replace a1:=(a1.st b0).st d0
  replace b1:=(b1.st b0).st d0
  replace c1:=(c1.st b0).st d0
  replace d1:=(d1.st b0).st d0
  replace e1:=(e1.st b0).st d0
  replace m1:=(m1.st b0).st d0
  replace g1:=(g1.st b0).st d0
  obtain ⟨i9,w2,h7,i7,y4⟩:=Ors.shut (x:=x0) (l0:=2) (l1:=3) (l2:=4) (l3:=5) (by decide) k1 a1 b1 c1 d1 e1 m1 o1 g1 n4
  obtain rfl:=sm f0
  exact ⟨(),_,⟨rfl,rfl,rfl,rfl,rfl,rfl,rfl,rfl,rfl,rfl,trivial⟩,(((hB.st S9).st b0).st d0).st w2,y4,(f1.st d0).st w2,(h1.st d0).st w2⟩
 replace hB:=((hB.st S9).st b0).st d0
 replace f1:=f1.st d0
 replace h1:=h1.st d0
 rintro j9 k9 ⟨u8,z4,y3,hB,y0,f1,h1⟩
 refine Bc _ y3 ?_
 refine CC rfl (fun y2=>?_) (fun y2=>?_)
 ·
  replace hm:=ip hm y2
  refine Al (Aj (Ay rfl rfl (o_z ?_)))
  refine AR ?_
  obtain rfl:=sm hm
  obtain ⟨O',hS',hz,hl⟩:=hE.leave (fun q=>if q=2 then i0 else 0) rfl hB
  exact ret1v rfl (AO rfl) ⟨O',hS',(Ob.leave y0 hz (hl 2 (by decide) (by decide)) s2.2),(vErr (show inI64 0 from by decide))⟩
 replace hm:=im' hm y2
 refine AZ (Al (Aj (Ar rfl rfl (Ar rfl rfl (Ar rfl rfl (Ar rfl rfl (Ar rfl rfl (CG rfl rfl rfl ?_))))))))
 refine Bk 6 z4 rfl fun a5 l9 b5 o0 m0=>?_
 refine AA m0 rfl rfl rfl (AG rfl) (allOne rfl) fun c5 q0 m0=>?_
 replace m0:Lc 6 c5 b5 a5 78 [(.slice s3 g0.1.length t3),(.int .i64 x2),(.int .i64 x3),(.int .i64 x4),(.slice u3 g0.2.1.length v3),(.bool false)]:=m0
 refine o_z ?_
 refine Al ?_
 obtain ⟨a0,e0,hm⟩:=bs hm
 refine AU (fun l' w'=>∃ (d5:Unit) (O':Lab),subs l' [(0,(.pointer (some ⟨p0,0,none⟩))),(2,(.int .i64 x2)),(15,(.int .i64 a0.1))]∧Bm w O0 w' O'∧Ob 2 w' O' (.pointer (some ⟨p0,0,none⟩)) a0.2∧inI64 a0.1) ?_ ?_
 ·
  refine Al (Aj (Ar rfl rfl (o_z ?_)))
  refine CC rfl (fun z2=>?_) (fun z2=>?_)
  ·
   replace e0:=ip e0 z2
   replace y0:=(y0.st o0).st q0
   obtain ⟨e5,m9,n9,o9,p9,q9,r9,s9,t9,q1,j7,r1,s1,t1,u1,v1,w1,n1,y1,z1,f5⟩:=Ors.opn y0 2 3 4 5 (by decide)
   obtain ⟨u9,v9,rfl⟩:=s1.form
   obtain ⟨w9,x9,rfl⟩:=t1.form
   obtain ⟨y9,z9,rfl⟩:=u1.form
   obtain ⟨aA,bA,rfl⟩:=v1.form
   obtain ⟨cA,dA,rfl⟩:=w1.form
   obtain ⟨eA,fA,rfl⟩:=n1.form
   obtain ⟨gA,rfl⟩:=y1.mptr
   obtain ⟨iA,jA,rfl⟩:=z1.form
   refine Bw [] e5 ?_
   refine AD (fuel:=1) [] [(0,true),(1,true),(2,true),(3,true),(4,true),(5,true),(6,true)] (by kernel_rfl) rfl ?_
   refine AW rfl rfl rfl (Dd rfl rfl rfl (AJ rfl rfl rfl (Bb (hc:=fun w' ⟨O',hq⟩=>Blk.cell (i:=5) ((r1.st hq (by decide)).1) rfl) rfl rfl rfl ?_)))
   refine AW rfl rfl rfl ?_
   replace m0:=m0.st q1
   refine Df (hl:=rfl) (hb:=fun w' ⟨O',hq⟩=>((m0.st hq (by decide)).1).cellsAt) rfl rfl rfl ?_
   obtain ⟨kA,g5,e0⟩:=bs e0
   obtain ⟨h5,z3⟩:=Ba g5
   obtain ⟨lA,mA,k7,r2,l7,a4,m7,nA,oA,rfl,i5,j5,pA,qA,rA⟩:=n1.elemF z3
   obtain ⟨sA,tA,rfl⟩:=i5.form
   obtain ⟨uA,vA,rfl⟩:=j5.form
   refine BC (hA:=r2) (hj:=(Int.toNat_of_nonneg h5).symm) (hlt:=a4) rfl rfl rfl rfl ?_
   refine Au ?_
   refine At (i:=7) (by kernel_rfl) rfl ?_
   replace f1:=((f1.st o0).st q0).st q1
   replace h1:=((h1.st o0).st q0).st q1
   refine CM rfl n1 (a:=(⟨g0.1,x2,x3,x4,g0.2.1,false⟩:ONd)) (Vb.ofAgg (cs:=[(.slice s3 g0.1.length t3),(.int .i64 x2),(.int .i64 x3),(.int .i64 x4),(.slice u3 g0.2.1.length v3),(.bool false)]) (x:=(⟨g0.1,x2,x3,x4,g0.2.1,false⟩:ONd)) rfl ⟨_,_,rfl,f1,h1,rx2,rx3,rx4⟩) r2 rfl rfl (AL z3) fun wA r0 n1=>?_
   refine Be (by kernel_rfl) ?_
   refine AY (by kernel_rfl) ?_
   replace r1:=r1.st r0
   replace s1:=s1.st r0
   replace t1:=t1.st r0
   replace u1:=u1.st r0
   replace v1:=v1.st r0
   replace w1:=w1.st r0
   replace y1:=y1.st r0
   replace z1:=z1.st r0
   obtain ⟨xA,k5,n7,o7,l5⟩:=Ors.shut (x:=(⟨(⟨x0.t.vars,x0.t.init,x0.t.goal,x0.t.ops⟩:Tsk),x0.gens,(x0.nodes.set ((mget 0 x0.tab.l p1):Int).toNat (⟨g0.1,x2,x3,x4,g0.2.1,false⟩:ONd)),x0.tab,x0.open_,x0.number⟩:Ors)) (l0:=2) (l1:=3) (l2:=4) (l3:=5) (by decide) (by have q:=r1;rw [← ((by simp:(x0.nodes.set ((mget 0 x0.tab.l p1):Int).toNat (⟨g0.1,x2,x3,x4,g0.2.1,false⟩:ONd)).length=x0.nodes.length).trans rfl)] at q;exact q) s1 t1 u1 v1 w1 n1.relen y1 z1 f5
   obtain rfl:=sm e0
   exact ⟨(),_,⟨rfl,rfl,rfl,trivial⟩,((((hB.st o0).st q0).st q1).st r0).st k5,l5,t8⟩
  replace e0:=im' e0 z2
  refine Al (Aj (Ar rfl rfl (Dc rfl rfl ?_)))
  replace y0:=(y0.st o0).st q0
  obtain ⟨b4,yA,zA,aB,bB,cB,dB,eB,fB,a2,p7,h0,b2,c2,d2,e2,f2,i1,c4,g2,m5⟩:=Ors.opn y0 2 3 4 5 (by decide)
  obtain ⟨n5,o5,rfl⟩:=b2.form
  obtain ⟨p5,q5,rfl⟩:=c2.form
  obtain ⟨r5,s5,rfl⟩:=d2.form
  obtain ⟨t5,u5,rfl⟩:=e2.form
  obtain ⟨v5,w5,rfl⟩:=f2.form
  obtain ⟨gB,iB,rfl⟩:=i1.form
  obtain ⟨x5,rfl⟩:=c4.mptr
  obtain ⟨y5,z5,rfl⟩:=g2.form
  refine AV rfl rfl (AP (hc:=Blk.cell (i:=5) (h0.1) rfl) rfl rfl ?_)
  refine Bj rfl rfl ?_
  have a6:x0.nodes.length≤9223372036854775807:=Nat.le_trans i1.len.2.1 i1.len.2.2
  have d4:inI64 (x0.nodes.length:Int):=rngNat a6
  refine Ay rfl rfl (o_z ?_)
  refine Al (Aj (Ar rfl rfl (Dc rfl rfl (AV rfl rfl (AP (hc:=Blk.cell (i:=6) (h0.1) rfl) rfl rfl ?_)))))
  refine Ar rfl rfl (Ar rfl rfl (PE (a:=p1) (b:=(x0.nodes.length:Int)) c4 (vInt d4) rfl rfl rfl fun jB j0 a3=>?_))
  refine o_z ?_
  refine Bw [(7,[3])] b4 ?_
  refine AD (fuel:=6) [] [(1,true),(2,true),(3,true),(4,true),(5,true)] (by kernel_rfl) rfl ?_
  refine AW rfl rfl rfl (Dd rfl rfl rfl (AJ rfl rfl rfl ?_))
  replace h0:=h0.st j0
  refine Bb (hc:=fun w' ⟨O',hq⟩=>Blk.cell (i:=5) ((h0.st hq (by decide)).1) rfl) rfl rfl rfl ?_
  replace m0:=(m0.st a2).st j0
  refine Df (hl:=rfl) (hb:=fun w' ⟨O',hq⟩=>((m0.st hq (by decide)).1).cellsAt) rfl rfl rfl ?_
  refine Au ?_
  refine AD (fuel:=5) [3] [(0,true)] (by kernel_rfl) rfl ?_
  refine AW rfl rfl rfl (Au ?_)
  refine At (i:=6) (by kernel_rfl) rfl ?_
  replace f1:=(((f1.st o0).st q0).st a2).st j0
  replace h1:=(((h1.st o0).st q0).st a2).st j0
  refine AM 7 (by decide) b4 (xs:=([(⟨g0.1,x2,x3,x4,g0.2.1,false⟩:ONd)]:List ONd)) rfl rfl rfl rfl ⟨(Vb.ofAgg (cs:=[(.slice s3 g0.1.length t3),(.int .i64 x2),(.int .i64 x3),(.int .i64 x4),(.slice u3 g0.2.1.length v3),(.bool false)]) (x:=(⟨g0.1,x2,x3,x4,g0.2.1,false⟩:ONd)) rfl ⟨_,_,rfl,f1,h1,rx2,rx3,rx4⟩),trivial⟩ (by decide) (by decide) rfl fun kB lB mB k0 b6=>?_
  have hZ:=k0.lst [] (fun _ h=>h.elim)
  refine Az [(7,[3])] hZ (by kernel_rfl) ?_
  refine At (i:=7) (by kernel_rfl) rfl ?_
  obtain ⟨e4,b3,e0⟩:=bs e0
  obtain ⟨b3,c6,d6⟩:=AB b3
  replace i1:=(i1.st j0).st k0
  refine AF rfl i1 (b6.rd) rfl rfl (by decide) c6 d6 rfl fun e6 f6 nB g6 n0 h2=>?_
  rw [← b3] at h2 ⊢
  have hZ:=n0.lst [3] (fun _ h=>by cases h;decide)
  refine Az [] hZ (by kernel_rfl) ?_
  refine AD (fuel:=1) [] [(8,true),(9,true)] (by kernel_rfl) rfl ?_
  refine Dd rfl rfl rfl (AJ rfl rfl rfl (Au ?_))
  refine At (i:=10) (by kernel_rfl) rfl ?_
  replace h0:=(h0.st k0).st n0
  refine AA h0 rfl rfl rfl (AG rfl) (allOne rfl) fun h6 s0 h0=>?_
  replace h0:Lc 2 h6 g6 p0 69 [(.slice n5 x0.t.vars.length o5),(.slice p5 x0.t.init.length q5),(.slice r5 x0.t.goal.length s5),(.slice t5 x0.t.ops.length u5),(.slice v5 x0.gens.length w5),(.slice e6 e4.length f6),(.map (some x5)),(.slice y5 x0.open_.length z5),(.int .i64 x0.number)]:=h0
  refine Be (by kernel_rfl) ?_
  refine AY (by kernel_rfl) ?_
  replace b2:=(((b2.st j0).st k0).st n0).st s0
  replace c2:=(((c2.st j0).st k0).st n0).st s0
  replace d2:=(((d2.st j0).st k0).st n0).st s0
  replace e2:=(((e2.st j0).st k0).st n0).st s0
  replace f2:=(((f2.st j0).st k0).st n0).st s0
  replace g2:=(((g2.st j0).st k0).st n0).st s0
  replace a3:=((a3.st k0).st n0).st s0
  replace h2:=h2.st s0
  obtain ⟨oB,i6,q7,r7,j6⟩:=Ors.shut (x:=(⟨(⟨x0.t.vars,x0.t.init,x0.t.goal,x0.t.ops⟩:Tsk),x0.gens,e4,(⟨mput x0.tab.l p1 (x0.nodes.length:Int)⟩:MapP ByteArray Int),x0.open_,x0.number⟩:Ors)) (l0:=2) (l1:=3) (l2:=4) (l3:=5) (by decide) h0 b2 c2 d2 e2 f2 h2 a3 g2 m5
  obtain rfl:=sm e0
  exact ⟨(),_,⟨rfl,rfl,rfl,trivial⟩,(((((((hB.st o0).st q0).st a2).st j0).st k0).st n0).st s0).st i6,j6,d4⟩
 replace hB:=(hB.st o0).st q0
 rintro pB qB ⟨d5,rB,f4,hB,k6,l6⟩
 refine Bc _ f4 ?_
 refine Al (Aj (Ar rfl rfl (Dc rfl rfl ?_)))
 obtain ⟨g4,sB,tB,uB,vB,wB,xB,yB,zB,m6,s7,z0,i2,j2,k2,m2,n2,o2,p2,q2,aC⟩:=Ors.opn k6 2 3 4 5 (by decide)
 obtain ⟨c3,d3,rfl⟩:=i2.form
 obtain ⟨e3,f3,rfl⟩:=j2.form
 obtain ⟨g3,h3,rfl⟩:=k2.form
 obtain ⟨i3,j3,rfl⟩:=m2.form
 obtain ⟨k3,m3,rfl⟩:=n2.form
 obtain ⟨n3,o3,rfl⟩:=o2.form
 obtain ⟨p3,rfl⟩:=p2.mptr
 obtain ⟨h4,i4,rfl⟩:=q2.form
 refine AV rfl rfl (AP (hc:=Blk.cell (i:=8) (z0.1) rfl) rfl rfl ?_)
 obtain ⟨j1,j4,hm⟩:=bs hm
 have k4:=(BI j4)
 refine Fz (he:=j4) rfl rfl rfl ?_
 refine Dc rfl rfl (AV rfl rfl (AA z0 rfl rfl rfl (AG rfl) (allOne rfl) fun n6 t0 z0=>?_))
 replace z0:Lc 2 n6 g4 p0 69 [(.slice c3 a0.2.t.vars.length d3),(.slice e3 a0.2.t.init.length f3),(.slice g3 a0.2.t.goal.length h3),(.slice i3 a0.2.t.ops.length j3),(.slice k3 a0.2.gens.length m3),(.slice n3 a0.2.nodes.length o3),(.map (some p3)),(.slice h4 a0.2.open_.length i4),(.int .i64 j1)]:=z0
 refine o_z ?_
 refine Al (Bw [] g4 ?_)
 refine AD (fuel:=1) [] [(0,true),(1,true),(2,true),(3,true),(4,true),(5,true),(6,true),(7,true),(8,true),(9,true),(10,true),(11,true)] (by kernel_rfl) rfl ?_
 refine AW rfl rfl rfl (Dd rfl rfl rfl (AJ rfl rfl rfl (Og rfl rfl rfl ?_)))
 refine AW rfl rfl rfl (AW rfl rfl rfl (Dd rfl rfl rfl (AJ rfl rfl rfl (Bb (hc:=fun w' ⟨O',hq⟩=>Blk.cell (i:=8) ((z0.st hq (by decide)).1) rfl) rfl rfl rfl ?_))))
 refine AW rfl rfl rfl (De rfl rfl rfl rfl ?_)
 refine Og rfl rfl rfl ?_
 refine Au ?_
 refine At (i:=12) (by kernel_rfl) rfl ?_
 replace q2:=q2.st t0
 obtain ⟨o6,u0,t7,u7,p6⟩:=BxC.shut (cx:=(⟨69,[(.slice c3 a0.2.t.vars.length d3),(.slice e3 a0.2.t.init.length f3),(.slice g3 a0.2.t.goal.length h3),(.slice i3 a0.2.t.ops.length j3),(.slice k3 a0.2.gens.length m3),(.slice n3 a0.2.nodes.length o3),(.map (some p3))],[(.int .i64 j1)]⟩:Cx)) (p:=p0) (c0:=.slice h4 a0.2.open_.length i4) (x:=(⟨a0.2.open_⟩:BxR 67 73 OEn)) (l0:=2) (l1:=5) (by decide) z0 q2
 obtain ⟨l4,q6,hm⟩:=bs hm
 refine EJ (O:=o6) (Gs p6 (vAny (Vb.ofAgg (cs:=[(.int .i64 x2),(.int .i64 j1),(.int .i64 a0.1)]) (x:=(⟨x2,j1,a0.1⟩:OEn)) rfl ⟨rfl,rx2,k4,l6⟩)) q6) rfl rfl fun bC r6 cC v0 s6=>?_
 obtain ⟨t6,dC,w0,v7,q3,m4⟩:=BxC.opn s6 2 5 (by decide)
 obtain ⟨u6,v6,rfl⟩:=m4.form
 replace q3:Lc 2 r6 t6 p0 69 [(.slice c3 a0.2.t.vars.length d3),(.slice e3 a0.2.t.init.length f3),(.slice g3 a0.2.t.goal.length h3),(.slice i3 a0.2.t.ops.length j3),(.slice k3 a0.2.gens.length m3),(.slice n3 a0.2.nodes.length o3),(.map (some p3)),(.slice u6 l4.l.length v6),(.int .i64 j1)]:=q3
 refine Be (by kernel_rfl) ?_
 refine AY (by kernel_rfl) ?_
 refine Al (Aj (Ay rfl rfl (o_z ?_)))
 refine AR ?_
 replace i2:=(((i2.st t0).st u0).st v0).st w0
 replace j2:=(((j2.st t0).st u0).st v0).st w0
 replace k2:=(((k2.st t0).st u0).st v0).st w0
 replace m2:=(((m2.st t0).st u0).st v0).st w0
 replace n2:=(((n2.st t0).st u0).st v0).st w0
 replace o2:=(((o2.st t0).st u0).st v0).st w0
 replace p2:=(((p2.st t0).st u0).st v0).st w0
 obtain ⟨eC,w6,w7,x7,x6⟩:=Ors.shut (x:=(⟨(⟨a0.2.t.vars,a0.2.t.init,a0.2.t.goal,a0.2.t.ops⟩:Tsk),a0.2.gens,a0.2.nodes,a0.2.tab,l4.l,j1⟩:Ors)) (l0:=2) (l1:=3) (l2:=4) (l3:=5) (by decide) q3 i2 j2 k2 m2 n2 o2 p2 m4 k4
 obtain rfl:=sm hm
 replace hB:=(((((hB.st m6).st t0).st u0).st v0).st w0).st w6
 obtain ⟨O',hS',hz,hl⟩:=hE.leave (fun q=>if q=2 then i0 else 0) rfl hB
 exact ret1v rfl (AO rfl) ⟨O',hS',(Ob.leave x6 hz (hl 2 (by decide) (by decide)) s2.2),(vErr (show inI64 0 from by decide))⟩
noncomputable def Cl (x0:Ors) (x1:Int):Option ((List Int)×Err) :=
  bnd (lop (ρ:=(List Int)×Err) (fun (s5:Int×(List Int))=>if 0≤s5.1 then (bnd (appI 8 s5.2 [s5.1]) fun u25=>bnd (atI x0.nodes s5.1) fun a75=>some (.next (a75.parent,u25))) else (some (.brk (s5.1,s5.2)))) (x1,([]:List Int))) fun res3=>fin res3 fun (s106:Int×(List Int))=>bnd (BX s106.2) fun q108=>bnd (Cw (⟨x0.t.vars,x0.t.init,x0.t.goal,x0.t.ops⟩:Tsk)) fun q154=>if q154.2.n≠0 then (some (([]:List Int),(⟨q154.2.n⟩:Err))) else (bnd (rng (ρ:=(List Int)×Err) (fun (k203:Nat) (a204:Int) (s201:(List Int)×(List Int)×(List (List Int))×(List Int))=>bnd (q108[k203]?) fun a224=>bnd (bnd (atI x0.nodes a224) fun a278=>if 0≤a278.op then (bnd (Cs (⟨x0.t.vars,x0.t.init,x0.t.goal,x0.t.ops⟩:Tsk) (⟨s201.2.1,s201.2.2.1,s201.2.2.2⟩:Swp)) fun q308=>bnd (some (q308.1.vars,q308.1.vals,q308.1.ops):Option ((List Int)×(List (List Int))×(List Int))) fun y310=>if q308.2.n≠0 then (some (.ret (.ret (([]:List Int),(⟨q308.2.n⟩:Err))))) else (bnd (atI y310.2.2 a278.op) fun a394=>bnd (appI 8 s201.1 [a394]) fun u406=>some (.done u406))) else (some (.done s201.1)):Option (Fin (List Int) (Ctl ((List Int)×(List Int)×(List (List Int))×(List Int)) ((List Int)×Err)))) fun y234=>fin y234 fun (s236:(List Int))=>bnd (atI x0.nodes a224) fun a465=>bnd (rng (ρ:=Ctl ((List Int)×(List Int)×(List (List Int))×(List Int)) ((List Int)×Err)) (fun (k498:Nat) (a499:Int) (s496:(List Int)×(List (List Int))×(List Int))=>bnd (atI x0.gens a499) fun a561=>bnd (BV (⟨x0.t.vars,x0.t.init,x0.t.goal,x0.t.ops⟩:Tsk) (⟨s496.1,s496.2.1,s496.2.2⟩:Swp) a561) fun q584=>if q584.2.n≠0 then (some (.ret (.ret (([]:List Int),(⟨q584.2.n⟩:Err))))) else (some (.next (q584.1.vars,q584.1.vals,q584.1.ops)))) a465.used 0 (s201.2.1,s201.2.2.1,s201.2.2.2)) fun res494=>fin res494 fun (s626:(List Int)×(List (List Int))×(List Int))=>some (.next (s236,s626.1,s626.2.1,s626.2.2))) s106.2 0 (([]:List Int),q154.1.vars,q154.1.vals,q154.1.ops)) fun res199=>fin res199 fun (s632:(List Int)×(List Int)×(List (List Int))×(List Int))=>some (s632.1,(⟨0⟩:Err)))
theorem Ha {w:World} {O:Lab} {p0 i0:Nat} {x0:Ors} (n2:Ob i0 w O (.pointer (some ⟨p0,0,none⟩)) x0) {x1:Int} (rx1:inI64 x1) {r:(List Int)×Err} (hm:Cl x0 x1=some r) :
    Fn Tryz.prog 29 [(.pointer (some ⟨p0,0,none⟩)),(.int .i64 x1)] w fun v w'=>∃ O',St (eT i0) w O w' O'∧∃ v0 v1:Value,Ob i0 w' O' (.pointer (some ⟨p0,0,none⟩)) x0∧v=.tuple #[v0,v1]∧Vb w' (Fr 0 w' O') v0 r.1∧Vb w' (Fr 0 w' O') v1 r.2:=by
 obtain ⟨O0,hE,oE,pE⟩:=ent1 (w:=w) (O:=O) n2.2
 have n2':=Ob.leave n2 oE pE (j:=2) (by decide)
 have hB:Bm w O0 w O0:=Bm.refl
 refine AQ Tryz.func29 rfl Tryz.ntmps29 rfl ?_
 unfold Cl at hm
 refine Al (Aj (Ay rfl rfl (Ay rfl rfl (o_z ?_))))
 refine Al (Aj (Ay rfl rfl (o_z ?_)))
 refine Al ?_
 obtain ⟨s8,qE,hm⟩:=bs hm
 refine AU (aft s8 (fun (s5:Int×(List Int)) (x6:(Option Addr×Nat))=>[(0,(.pointer (some ⟨p0,0,none⟩))),(6,(.slice x6.1 s5.2.length x6.2))]) (fun s5 x6 w'=>∃ O':Lab,Bm w O0 w' O'∧Ob 2 w' O' (.pointer (some ⟨p0,0,none⟩)) x0∧Rw 3 w' O' 3 (.slice x6.1 s5.2.length x6.2) s5.2∧inI64 s5.1)) ?_ ?_
 ·
  refine Bf (FE (σ:=Int×(List Int)) (X:=(Option Addr×Nat)) qE (fun (s5:Int×(List Int)) (x6:(Option Addr×Nat))=>[(0,(.pointer (some ⟨p0,0,none⟩))),(1,(.int .i64 s5.1)),(6,(.slice x6.1 s5.2.length x6.2))]) _ (fun s5 x6 w'=>∃ O':Lab,Bm w O0 w' O'∧Ob 2 w' O' (.pointer (some ⟨p0,0,none⟩)) x0∧Rw 3 w' O' 3 (.slice x6.1 s5.2.length x6.2) s5.2∧inI64 s5.1) _ (none,0) ⟨O0,hB,n2',(Rw.nil 3 (by decide)),rx1⟩ ⟨rfl,rfl,rfl,trivial⟩ ?_)
  rintro s5 x6 w9 rE ⟨vL,hB,n2',p8,t8⟩ b2 u8 k4
  refine Al (Al (Aj (Ar rfl rfl (Fc rfl rfl rfl (fun v8=>?_) fun v8=>?_))))
  ·
   replace b2:=ip b2 v8
   refine o_z ?_
   refine Ah rfl (AZ (Al (Bf (Aj (Ar rfl rfl (Ar rfl rfl ?_))))))
   obtain ⟨wL,w8,b2⟩:=bs b2
   obtain ⟨w8,sE,tE⟩:=AB w8
   refine El rfl (a:=s5.1) p8 (vInt t8) (fun _=>rfl) rfl (by decide) (by decide) sE tE ⟨rfl,rfl⟩ fun xL uE vE yL zL tC uC=>?_
   rw [← w8] at uC ⊢
   refine Ay rfl rfl (o_z ?_)
   refine Aj (Ar rfl rfl (Dc rfl rfl ?_))
   replace n2':=n2'.st tC
   obtain ⟨aM,bM,cM,dM,eM,fM,gM,hM,iM,vC,wE,wC,xC,yC,zC,aD,bD,x8,cD,dD,xE⟩:=Ors.opn n2' 2 4 5 6 (by decide)
   obtain ⟨jM,kM,rfl⟩:=xC.form
   obtain ⟨lM,mM,rfl⟩:=yC.form
   obtain ⟨nM,oM,rfl⟩:=zC.form
   obtain ⟨pM,qM,rfl⟩:=aD.form
   obtain ⟨rM,sM,rfl⟩:=bD.form
   obtain ⟨tM,uM,rfl⟩:=x8.form
   obtain ⟨vM,rfl⟩:=cD.mptr
   obtain ⟨wM,xM,rfl⟩:=dD.form
   refine AV rfl rfl (AP (hc:=Blk.cell (i:=5) (wC.1) rfl) rfl rfl ?_)
   refine Ar rfl rfl ?_
   obtain ⟨yM,yE,b2⟩:=bs b2
   obtain ⟨zE,aF⟩:=Ba yE
   obtain ⟨zM,aN,bF,y8,z8,a9,bN,cN,rfl,cF,dF,dN,eF,eN⟩:=x8.elem aF
   obtain ⟨fN,gN,rfl⟩:=cF.form
   obtain ⟨hN,iN,rfl⟩:=dF.form
   refine BB (hA:=y8) (hj:=(Int.toNat_of_nonneg zE).symm) (hlt:=z8) rfl rfl rfl ?_
   refine AV rfl rfl (AP (hc:=cat2 a9) rfl rfl ?_)
   refine Ay rfl rfl (o_z ?_)
   obtain ⟨jN,eD,fD,gD,fF⟩:=Ors.shut (x:=x0) (l0:=2) (l1:=4) (l2:=5) (l3:=6) (by decide) wC xC yC zC aD bD x8 cD dD xE
   obtain rfl:=sm b2
   exact show Exists _ from ⟨_,(uE,vE),rfl,⟨rfl,rfl,rfl,trivial⟩,_,((hB.st tC).st vC).st eD,fF,(uC.st vC).st eD,eF⟩
  replace b2:=im b2 v8
  refine o_z ?_
  refine Ae rfl (Dz ?_)
  obtain rfl:=sm b2
  exact show Exists _ from ⟨_,(x6.1,x6.2),k4 _ rfl,⟨rfl,rfl,trivial⟩,_,hB,n2',p8,t8⟩
 rintro gF hF ⟨f1,z0,rfl,b5,b9,hB,n2',p8,t8⟩
 replace hm:=Bq hm
 refine Bc _ b5 ?_
 refine Al (Aj (Ar rfl rfl ?_))
 obtain ⟨v3,c9,hm⟩:=bs hm
 refine EJ (O:=b9) (FB p8 c9) rfl rfl fun iF jF kF y3 h0=>?_
 refine o_z ?_
 refine Al (Aj (Ar rfl rfl (Dc rfl rfl ?_)))
 replace n2':=n2'.st y3
 obtain ⟨d9,lF,mF,nF,oF,pF,qF,rF,sF,z3,hD,z2,o2,p2,q2,r2,a3,b3,c3,d3,c5⟩:=Ors.opn n2' 2 4 5 6 (by decide)
 obtain ⟨e9,f9,rfl⟩:=o2.form
 obtain ⟨g9,h9,rfl⟩:=p2.form
 obtain ⟨i9,j9,rfl⟩:=q2.form
 obtain ⟨k9,l9,rfl⟩:=r2.form
 obtain ⟨tF,uF,rfl⟩:=a3.form
 obtain ⟨vF,wF,rfl⟩:=b3.form
 obtain ⟨xF,rfl⟩:=c3.mptr
 obtain ⟨yF,zF,rfl⟩:=d3.form
 refine AV rfl rfl (Br (hl:=rfl) (hc:=(ER 0 4 (z2.1).cellsAt)) rfl rfl ?_)
 obtain ⟨a4,m9,hm⟩:=bs hm
 refine Bt (O:=d9) (R:=fun w' F v=>T2 w' F v a4) (GZ Fr.lt (Vb.ofAgg (cs:=[(.slice e9 x0.t.vars.length f9),(.slice g9 x0.t.init.length h9),(.slice i9 x0.t.goal.length j9),(.slice k9 x0.t.ops.length l9)]) (x:=(⟨x0.t.vars,x0.t.init,x0.t.goal,x0.t.ops⟩:Tsk)) rfl ⟨_,_,_,_,rfl,o2,p2,q2,r2⟩) m9) rfl rfl fun aG bG n9 w0 o9=>?_
 obtain ⟨cG,dG,rfl,p9,q9⟩:=o9
 obtain ⟨iD,rfl,eG,fG,gG,rfl,b4,c4,d4⟩:=p9
 obtain ⟨d5,e5,rfl⟩:=b4.form
 obtain ⟨f5,g5,rfl⟩:=c4.form
 obtain ⟨h5,i5,rfl⟩:=d4.form
 obtain ⟨rfl,r9⟩:=q9.err
 refine Ar rfl rfl (Cy rfl rfl rfl (Cy rfl rfl rfl (Bk 7 n9 rfl fun t1 hG s9 n0 e0=>?_)))
 refine AA e0 rfl rfl rfl (AG rfl) (allOne rfl) fun t9 o0 e0=>?_
 replace e0:Lc 7 t9 s9 t1 53 [(.slice d5 a4.1.vars.length e5),(.slice f5 a4.1.vals.length g5),(.slice h5 a4.1.ops.length i5)]:=e0
 refine Ay rfl rfl (o_z ?_)
 refine Al (Al (Aj (Ar rfl rfl (Ej rfl rfl (fun l4=>?_) fun l4=>?_))))
 ·
  replace hm:=ip hm l4
  refine o_z ?_
  refine Ah rfl (Al (Aj (Ar rfl rfl (Ay rfl rfl (Ay rfl rfl (o_z ?_))))))
  refine AR ?_
  replace z2:=((z2.st w0).st n0).st o0
  replace o2:=((o2.st w0).st n0).st o0
  replace p2:=((p2.st w0).st n0).st o0
  replace q2:=((q2.st w0).st n0).st o0
  replace r2:=((r2.st w0).st n0).st o0
  replace a3:=((a3.st w0).st n0).st o0
  replace b3:=((b3.st w0).st n0).st o0
  replace c3:=((c3.st w0).st n0).st o0
  replace d3:=((d3.st w0).st n0).st o0
  obtain ⟨iG,u9,jD,kD,v9⟩:=Ors.shut (x:=x0) (l0:=2) (l1:=4) (l2:=5) (l3:=6) (by decide) z2 o2 p2 q2 r2 a3 b3 c3 d3 c5
  obtain rfl:=sm hm
  replace hB:=(((((hB.st y3).st z3).st w0).st n0).st o0).st u9
  obtain ⟨O',hS',hz,hl⟩:=hE.leave (fun q=>if q=2 then i0 else 0) rfl hB
  exact ret2 rfl (AO rfl) (AO rfl) ⟨O',hS',_,_,(Ob.leave v9 hz (hl 2 (by decide) (by decide)) n2.2),rfl,(Vb.mono (Vb.nil _ _) hz),(vErr r9)⟩
 replace hm:=im hm l4
 refine o_z ?_
 refine Ae rfl (AZ (Al (Aj (Ay rfl rfl (o_z ?_)))))
 refine Al (Al (Aj (Ar rfl rfl (Bj rfl rfl ?_))))
 replace h0:=(((h0.st z3).st w0).st n0).st o0
 have m4:f1.2.length≤9223372036854775807:=Nat.le_trans h0.len.2.1 h0.len.2.2
 have jG:inI64 (f1.2.length:Int):=rngNat m4
 refine Ar rfl rfl (o_z ?_)
 replace z2:=((z2.st w0).st n0).st o0
 replace o2:=((o2.st w0).st n0).st o0
 replace p2:=((p2.st w0).st n0).st o0
 replace q2:=((q2.st w0).st n0).st o0
 replace r2:=((r2.st w0).st n0).st o0
 replace a3:=((a3.st w0).st n0).st o0
 replace b3:=((b3.st w0).st n0).st o0
 replace c3:=((c3.st w0).st n0).st o0
 replace d3:=((d3.st w0).st n0).st o0
 obtain ⟨x9,e3,lD,mD,i2⟩:=Ors.shut (x:=x0) (l0:=2) (l1:=4) (l2:=5) (l3:=6) (by decide) z2 o2 p2 q2 r2 a3 b3 c3 d3 c5
 obtain ⟨n4,j5,hm⟩:=bs hm
 refine AU (aft n4 (fun (d0:(List Int)×(List Int)×(List (List Int))×(List Int)) (a0:(Option Addr×Nat)×(Option Addr×Nat)×(Option Addr×Nat)×(Option Addr×Nat))=>[(9,(.slice a0.1.1 d0.1.length a0.1.2))]) (fun d0 a0 w'=>∃ O':Lab,Bm w O0 w' O'∧Rw 10 w' O' 3 (.slice a0.1.1 d0.1.length a0.1.2) d0.1∧Ob 2 w' O' (.pointer (some ⟨p0,0,none⟩)) x0)) ?_ ?_
 ·
  refine Bf ?_
  replace hB:=(((((hB.st y3).st z3).st w0).st n0).st o0).st e3
  replace h0:=h0.st e3
  replace b4:=((b4.st n0).st o0).st e3
  replace c4:=((c4.st n0).st o0).st e3
  replace d4:=((d4.st n0).st o0).st e3
  replace e0:=e0.st e3
  refine BS (σ:=(List Int)×(List Int)×(List (List Int))×(List Int)) (X:=(Option Addr×Nat)×(Option Addr×Nat)×(Option Addr×Nat)×(Option Addr×Nat)) (f1.2.length) j5 rfl m4 (fun (d0:(List Int)×(List Int)×(List (List Int))×(List Int)) (a0:(Option Addr×Nat)×(Option Addr×Nat)×(Option Addr×Nat)×(Option Addr×Nat))=>[(0,(.pointer (some ⟨p0,0,none⟩))),(7,(.pointer (some ⟨t1,0,none⟩))),(9,(.slice a0.1.1 d0.1.length a0.1.2)),(44,(.slice z0.1 f1.2.length z0.2))]) _ (fun d0 a0 w'=>∃ O':Lab,Bm w O0 w' O'∧Ob 2 w' O' (.pointer (some ⟨p0,0,none⟩)) x0∧Lc 7 w' O' t1 53 [(.slice a0.2.1.1 d0.2.1.length a0.2.1.2),(.slice a0.2.2.1.1 d0.2.2.1.length a0.2.2.1.2),(.slice a0.2.2.2.1 d0.2.2.2.length a0.2.2.2.2)]∧Vb w' (Fr 0 w' O') (.slice a0.2.1.1 d0.2.1.length a0.2.1.2) d0.2.1∧Vb w' (Fr 0 w' O') (.slice a0.2.2.1.1 d0.2.2.1.length a0.2.2.1.2) d0.2.2.1∧Vb w' (Fr 0 w' O') (.slice a0.2.2.2.1 d0.2.2.2.length a0.2.2.2.2) d0.2.2.2∧Rw 10 w' O' 3 (.slice a0.1.1 d0.1.length a0.1.2) d0.1∧Rw 3 w' O' 3 (.slice z0.1 f1.2.length z0.2) v3) _ ((none,0),(d5,e5),(f5,g5),(h5,i5)) ⟨x9,hB,i2,e0,b4,c4,d4,(Rw.nil 10 (by decide)),h0⟩ ⟨rfl,rfl,rfl,rfl,rfl,rfl,trivial⟩ (fun _ _=>⟨rfl,rfl⟩) (fun _ _=>⟨rfl,trivial⟩) (fun _ _ _ ⟨O',hB,i2,e0,c1,d1,e1,r1,h0⟩=>⟨O',hB,r1,i2⟩) ⟨rfl,rfl,rfl⟩ ⟨rfl,rfl⟩ ?_
  rintro w3 kG d0 a0 lG nD k5 ⟨mG,hB,i2,e0,c1,d1,e1,r1,h0⟩ r0 q3 q8
  have rk203:inI64 (w3:Int):=rngK k5 m4
  refine Al (Aj ?_)
  obtain ⟨l5,y9,r0⟩:=bs r0
  obtain ⟨nG,oG,oD,m5,n5,o5,rfl,pG⟩:=h0.elem y9
  refine BB (hA:=m5) (hj:=rfl) (hlt:=n5) rfl rfl rfl ?_
  refine AP (hc:=cat0 o5) rfl rfl ?_
  refine Ay rfl rfl (o_z ?_)
  refine Al ?_
  obtain ⟨z9,g0,r0⟩:=bs r0
  refine AU (fun l' w'=>∃ (w1:(List Int)) (n1:(Option Addr×Nat)) (O':Lab),z9=.done w1∧subs l' [(0,(.pointer (some ⟨p0,0,none⟩))),(7,(.pointer (some ⟨t1,0,none⟩))),(9,(.slice n1.1 w1.length n1.2)),(11,(.int .i64 l5)),(44,(.slice z0.1 f1.2.length z0.2)),(45,(.int .i64 (f1.2.length:Int))),(46,(.int .i64 (w3:Int)))]∧Bm w O0 w' O'∧Ob 2 w' O' (.pointer (some ⟨p0,0,none⟩)) x0∧Lc 7 w' O' t1 53 [(.slice a0.2.1.1 d0.2.1.length a0.2.1.2),(.slice a0.2.2.1.1 d0.2.2.1.length a0.2.2.1.2),(.slice a0.2.2.2.1 d0.2.2.2.length a0.2.2.2.2)]∧Vb w' (Fr 0 w' O') (.slice a0.2.1.1 d0.2.1.length a0.2.1.2) d0.2.1∧Vb w' (Fr 0 w' O') (.slice a0.2.2.1.1 d0.2.2.1.length a0.2.2.1.2) d0.2.2.1∧Vb w' (Fr 0 w' O') (.slice a0.2.2.2.1 d0.2.2.2.length a0.2.2.2.2) d0.2.2.2∧Rw 10 w' O' 3 (.slice n1.1 w1.length n1.2) w1∧Rw 3 w' O' 3 (.slice z0.1 f1.2.length z0.2) v3) ?_ ?_
  ·
   refine Al (Aj (Ar rfl rfl (Dc rfl rfl ?_)))
   obtain ⟨aA,qG,rG,sG,tG,uG,vG,wG,xG,k0,pD,s1,g1,h1,i1,j1,c2,y1,d2,e2,o4⟩:=Ors.opn i2 2 4 5 6 (by decide)
   obtain ⟨p5,q5,rfl⟩:=g1.form
   obtain ⟨r5,t5,rfl⟩:=h1.form
   obtain ⟨u5,v5,rfl⟩:=i1.form
   obtain ⟨w5,x5,rfl⟩:=j1.form
   obtain ⟨yG,zG,rfl⟩:=c2.form
   obtain ⟨aH,bH,rfl⟩:=y1.form
   obtain ⟨cH,rfl⟩:=d2.mptr
   obtain ⟨dH,eH,rfl⟩:=e2.form
   refine AV rfl rfl (AP (hc:=Blk.cell (i:=5) (s1.1) rfl) rfl rfl ?_)
   refine Ar rfl rfl ?_
   obtain ⟨k1,bA,g0⟩:=bs g0
   obtain ⟨cA,dA⟩:=Ba bA
   obtain ⟨fH,gH,qD,y5,z5,a6,hH,iH,rfl,r3,s3,jH,kH,lH⟩:=y1.elem dA
   obtain ⟨p4,q4,rfl⟩:=r3.form
   obtain ⟨r4,s4,rfl⟩:=s3.form
   refine BB (hA:=y5) (hj:=(Int.toNat_of_nonneg cA).symm) (hlt:=z5) rfl rfl rfl ?_
   refine Br (hl:=rfl) (hc:=a6) rfl rfl ?_
   refine Bk 8 aA rfl fun t4 mH e4 b0 j2=>?_
   refine AA j2 rfl rfl rfl (AG rfl) (allOne rfl) fun eA c0 j2=>?_
   replace j2:Lc 8 eA e4 t4 78 [(.slice p4 k1.state.length q4),(.int .i64 k1.cost),(.int .i64 k1.parent),(.int .i64 k1.op),(.slice r4 k1.used.length s4),(.bool k1.fin)]:=j2
   refine o_z ?_
   refine Al (Aj (AV rfl rfl (AP (hc:=Blk.cell (i:=3) (j2.1) rfl) rfl rfl ?_)))
   refine Fc rfl rfl rfl (fun u4=>?_) fun u4=>?_
   ·
    replace g0:=ip g0 u4
    refine o_z ?_
    refine Ah rfl (Al ?_)
    obtain ⟨f2,b6,g0⟩:=bs g0
    obtain ⟨k2,i4,g0⟩:=bs g0
    refine AU (fun l' w'=>∃ (o1:Nat×(Option Addr×Nat)×(Option Addr×Nat)×(Option Addr×Nat)) (O':Lab),subs l' [(0,(.pointer (some ⟨p0,0,none⟩))),(7,(.pointer (some ⟨t1,0,none⟩))),(9,(.slice a0.1.1 d0.1.length a0.1.2)),(11,(.int .i64 l5)),(12,(.pointer (some ⟨t4,0,none⟩))),(13,(.pointer (some ⟨o1.1,0,none⟩))),(14,(errV f2.2.n)),(44,(.slice z0.1 f1.2.length z0.2)),(45,(.int .i64 (f1.2.length:Int))),(46,(.int .i64 (w3:Int)))]∧Bm w O0 w' O'∧Ob 2 w' O' (.pointer (some ⟨p0,0,none⟩)) x0∧Lc 7 w' O' t1 53 [(.slice a0.2.1.1 d0.2.1.length a0.2.1.2),(.slice a0.2.2.1.1 d0.2.2.1.length a0.2.2.1.2),(.slice a0.2.2.2.1 d0.2.2.2.length a0.2.2.2.2)]∧Vb w' (Fr 0 w' O') (.slice a0.2.1.1 d0.2.1.length a0.2.1.2) d0.2.1∧Vb w' (Fr 0 w' O') (.slice a0.2.2.1.1 d0.2.2.1.length a0.2.2.1.2) d0.2.2.1∧Vb w' (Fr 0 w' O') (.slice a0.2.2.2.1 d0.2.2.2.length a0.2.2.2.2) d0.2.2.2∧Rw 10 w' O' 3 (.slice a0.1.1 d0.1.length a0.1.2) d0.1∧Lc 8 w' O' t4 78 [(.slice p4 k1.state.length q4),(.int .i64 k1.cost),(.int .i64 k1.parent),(.int .i64 k1.op),(.slice r4 k1.used.length s4),(.bool k1.fin)]∧Vb w' (Fr 0 w' O') (.slice p4 k1.state.length q4) k1.state∧Vb w' (Fr 0 w' O') (.slice r4 k1.used.length s4) k1.used∧Lc 9 w' O' o1.1 53 [(.slice o1.2.1.1 k2.1.length o1.2.1.2),(.slice o1.2.2.1.1 k2.2.1.length o1.2.2.1.2),(.slice o1.2.2.2.1 k2.2.2.length o1.2.2.2.2)]∧Vb w' (Fr 0 w' O') (.slice o1.2.1.1 k2.1.length o1.2.1.2) k2.1∧Vb w' (Fr 0 w' O') (.slice o1.2.2.1.1 k2.2.1.length o1.2.2.1.2) k2.2.1∧Vb w' (Fr 0 w' O') (.slice o1.2.2.2.1 k2.2.2.length o1.2.2.2.2) k2.2.2∧Rw 3 w' O' 3 (.slice z0.1 f1.2.length z0.2) v3∧inI64 f2.2.n) ?_ ?_
    ·
     refine Bw [(10,[9])] e4 ?_
     refine AD (fuel:=7) [] [(0,true),(1,true),(2,true),(3,true),(4,true)] (by kernel_rfl) rfl ?_
     refine AW rfl rfl rfl (Dd rfl rfl rfl (AJ rfl rfl rfl ?_))
     replace s1:=(s1.st b0).st c0
     refine Df (hl:=rfl) (hb:=fun w' ⟨O',hq⟩=>(ER 0 4 ((s1.st hq (by decide)).1).cellsAt)) rfl rfl rfl ?_
     replace e0:=((e0.st k0).st b0).st c0
     refine Df (hl:=rfl) (hb:=fun w' ⟨O',hq⟩=>((e0.st hq (by decide)).1).cellsAt) rfl rfl rfl ?_
     refine Au ?_
     refine Bz (i:=5) (j:=9) (by kernel_rfl) rfl rfl ?_ ?_
     ·
      replace c1:=((c1.st k0).st b0).st c0
      replace d1:=((d1.st k0).st b0).st c0
      replace e1:=((e1.st k0).st b0).st c0
      replace g1:=(g1.st b0).st c0
      replace h1:=(h1.st b0).st c0
      replace i1:=(i1.st b0).st c0
      replace j1:=(j1.st b0).st c0
      refine Bt (O:=e4) (R:=fun w' F v=>T2 w' F v f2) (Fi Fr.lt (Vb.ofAgg (cs:=[(.slice p5 x0.t.vars.length q5),(.slice r5 x0.t.init.length t5),(.slice u5 x0.t.goal.length v5),(.slice w5 x0.t.ops.length x5)]) (x:=(⟨x0.t.vars,x0.t.init,x0.t.goal,x0.t.ops⟩:Tsk)) rfl ⟨_,_,_,_,rfl,g1,h1,i1,j1⟩) (Vb.ofAgg (cs:=[(.slice a0.2.1.1 d0.2.1.length a0.2.1.2),(.slice a0.2.2.1.1 d0.2.2.1.length a0.2.2.1.2),(.slice a0.2.2.2.1 d0.2.2.2.length a0.2.2.2.2)]) (x:=(⟨d0.2.1,d0.2.2.1,d0.2.2.2⟩:Swp)) rfl ⟨_,_,_,rfl,c1,d1,e1⟩) b6) rfl rfl fun nH oH fA a1 gA=>?_
      obtain ⟨pH,qH,rfl,iA,jA⟩:=gA
      obtain ⟨rD,rfl,rH,sH,tH,rfl,c6,d6,e6⟩:=iA
      obtain ⟨f6,g6,rfl⟩:=c6.form
      obtain ⟨h6,i6,rfl⟩:=d6.form
      obtain ⟨j6,k6,rfl⟩:=e6.form
      obtain ⟨rfl,kA⟩:=jA.err
      have hZ:=a1.lst [] (fun _ h=>h.elim)
      refine Az [(10,[9])] hZ (by kernel_rfl) ?_
      refine AD (fuel:=4) [] [(6,true),(7,true)] (by kernel_rfl) rfl ?_
      refine AW rfl rfl rfl (GA rfl rfl rfl rfl (Au ?_))
      refine AD (fuel:=3) [9] [(8,true)] (by kernel_rfl) rfl ?_
      refine GA rfl rfl rfl rfl (Au ?_)
      refine At (i:=9) (by kernel_rfl) rfl ?_
      refine Bk 9 fA rfl fun l6 uH lA s0 x3=>?_
      have hZ:=s0.lst [] (fun _ h=>h.elim)
      refine Az [(10,[9])] hZ (by kernel_rfl) ?_
      refine At (i:=10) (by kernel_rfl) rfl ?_
      refine AA x3 rfl rfl rfl (AG rfl) (allOne rfl) fun mA t0 x3=>?_
      replace x3:Lc 9 mA lA l6 53 [(.slice f6 f2.1.vars.length g6),(.slice h6 f2.1.vals.length i6),(.slice j6 f2.1.ops.length k6)]:=x3
      have hZ:=t0.lst [9] (fun _ h=>by cases h;decide)
      refine Az [] hZ (by kernel_rfl) ?_
      refine AD (fuel:=0) [] [(11,true)] (by kernel_rfl) rfl ?_
      refine EC rfl rfl rfl (Au ?_)
      refine AY (by kernel_rfl) ?_
      replace s1:=((s1.st a1).st s0).st t0
      replace g1:=((g1.st a1).st s0).st t0
      replace h1:=((h1.st a1).st s0).st t0
      replace i1:=((i1.st a1).st s0).st t0
      replace j1:=((j1.st a1).st s0).st t0
      replace c2:=((((c2.st b0).st c0).st a1).st s0).st t0
      replace y1:=((((y1.st b0).st c0).st a1).st s0).st t0
      replace d2:=((((d2.st b0).st c0).st a1).st s0).st t0
      replace e2:=((((e2.st b0).st c0).st a1).st s0).st t0
      obtain ⟨vH,p1,sD,tD,nA⟩:=Ors.shut (x:=x0) (l0:=2) (l1:=4) (l2:=5) (l3:=6) (by decide) s1 g1 h1 i1 j1 c2 y1 d2 e2 o4
      obtain rfl:=sm i4
      exact ⟨(l6,(f6,g6),(h6,i6),(j6,k6)),_,⟨rfl,rfl,rfl,rfl,rfl,rfl,rfl,rfl,rfl,rfl,trivial⟩,((((((hB.st k0).st b0).st c0).st a1).st s0).st t0).st p1,nA,(((e0.st a1).st s0).st t0).st p1,(((c1.st a1).st s0).st t0).st p1,(((d1.st a1).st s0).st t0).st p1,(((e1.st a1).st s0).st t0).st p1,((((((r1.st k0).st b0).st c0).st a1).st s0).st t0).st p1,(((j2.st a1).st s0).st t0).st p1,(((((r3.st b0).st c0).st a1).st s0).st t0).st p1,(((((s3.st b0).st c0).st a1).st s0).st t0).st p1,x3.st p1,((c6.st s0).st t0).st p1,((d6.st s0).st t0).st p1,((e6.st s0).st t0).st p1,((((((h0.st k0).st b0).st c0).st a1).st s0).st t0).st p1,kA⟩
     refine Bk 9 e4 rfl fun m6 wH oA b1 f3=>?_
     have hZ:=b1.lst [] (fun _ h=>h.elim)
     refine Az [(10,[9])] hZ (by kernel_rfl) ?_
     refine At (i:=5) (by kernel_rfl) rfl ?_
     replace c1:=(((c1.st k0).st b0).st c0).st b1
     replace d1:=(((d1.st k0).st b0).st c0).st b1
     replace e1:=(((e1.st k0).st b0).st c0).st b1
     replace g1:=((g1.st b0).st c0).st b1
     replace h1:=((h1.st b0).st c0).st b1
     replace i1:=((i1.st b0).st c0).st b1
     replace j1:=((j1.st b0).st c0).st b1
     refine Bt (O:=oA) (R:=fun w' F v=>T2 w' F v f2) (Fi Fr.lt (Vb.ofAgg (cs:=[(.slice p5 x0.t.vars.length q5),(.slice r5 x0.t.init.length t5),(.slice u5 x0.t.goal.length v5),(.slice w5 x0.t.ops.length x5)]) (x:=(⟨x0.t.vars,x0.t.init,x0.t.goal,x0.t.ops⟩:Tsk)) rfl ⟨_,_,_,_,rfl,g1,h1,i1,j1⟩) (Vb.ofAgg (cs:=[(.slice a0.2.1.1 d0.2.1.length a0.2.1.2),(.slice a0.2.2.1.1 d0.2.2.1.length a0.2.2.1.2),(.slice a0.2.2.2.1 d0.2.2.2.length a0.2.2.2.2)]) (x:=(⟨d0.2.1,d0.2.2.1,d0.2.2.2⟩:Swp)) rfl ⟨_,_,_,rfl,c1,d1,e1⟩) b6) rfl rfl fun xH yH pA y0 qA=>?_
     obtain ⟨zH,aI,rfl,rA,sA⟩:=qA
     obtain ⟨uD,rfl,bI,cI,dI,rfl,n6,o6,p6⟩:=rA
     obtain ⟨q6,r6,rfl⟩:=n6.form
     obtain ⟨s6,t6,rfl⟩:=o6.form
     obtain ⟨u6,v6,rfl⟩:=p6.form
     obtain ⟨rfl,tA⟩:=sA.err
     have hZ:=y0.lst [] (fun _ h=>h.elim)
     refine Az [(10,[9])] hZ (by kernel_rfl) ?_
     refine AD (fuel:=3) [] [(6,true),(7,true)] (by kernel_rfl) rfl ?_
     refine AW rfl rfl rfl (GA rfl rfl rfl rfl (Au ?_))
     refine AD (fuel:=2) [9] [(8,true)] (by kernel_rfl) rfl ?_
     refine GA rfl rfl rfl rfl (Au ?_)
     refine At (i:=10) (by kernel_rfl) rfl ?_
     replace f3:=f3.st y0
     refine AA f3 rfl rfl rfl (AG rfl) (allOne rfl) fun uA u0 f3=>?_
     replace f3:Lc 9 uA pA m6 53 [(.slice q6 f2.1.vars.length r6),(.slice s6 f2.1.vals.length t6),(.slice u6 f2.1.ops.length v6)]:=f3
     have hZ:=u0.lst [9] (fun _ h=>by cases h;decide)
     refine Az [] hZ (by kernel_rfl) ?_
     refine AD (fuel:=0) [] [(11,true)] (by kernel_rfl) rfl ?_
     refine EC rfl rfl rfl (Au ?_)
     refine AY (by kernel_rfl) ?_
     replace s1:=((s1.st b1).st y0).st u0
     replace g1:=(g1.st y0).st u0
     replace h1:=(h1.st y0).st u0
     replace i1:=(i1.st y0).st u0
     replace j1:=(j1.st y0).st u0
     replace c2:=((((c2.st b0).st c0).st b1).st y0).st u0
     replace y1:=((((y1.st b0).st c0).st b1).st y0).st u0
     replace d2:=((((d2.st b0).st c0).st b1).st y0).st u0
     replace e2:=((((e2.st b0).st c0).st b1).st y0).st u0
     obtain ⟨eI,q1,vD,wD,vA⟩:=Ors.shut (x:=x0) (l0:=2) (l1:=4) (l2:=5) (l3:=6) (by decide) s1 g1 h1 i1 j1 c2 y1 d2 e2 o4
     obtain rfl:=sm i4
     exact ⟨(m6,(q6,r6),(s6,t6),(u6,v6)),_,⟨rfl,rfl,rfl,rfl,rfl,rfl,rfl,rfl,rfl,rfl,trivial⟩,((((((hB.st k0).st b0).st c0).st b1).st y0).st u0).st q1,vA,(((e0.st b1).st y0).st u0).st q1,((c1.st y0).st u0).st q1,((d1.st y0).st u0).st q1,((e1.st y0).st u0).st q1,((((((r1.st k0).st b0).st c0).st b1).st y0).st u0).st q1,(((j2.st b1).st y0).st u0).st q1,(((((r3.st b0).st c0).st b1).st y0).st u0).st q1,(((((s3.st b0).st c0).st b1).st y0).st u0).st q1,f3.st q1,(n6.st u0).st q1,(o6.st u0).st q1,(p6.st u0).st q1,((((((h0.st k0).st b0).st c0).st b1).st y0).st u0).st q1,tA⟩
    replace hB:=((hB.st k0).st b0).st c0
    replace h0:=((h0.st k0).st b0).st c0
    replace e0:=((e0.st k0).st b0).st c0
    replace r1:=((r1.st k0).st b0).st c0
    replace c1:=((c1.st k0).st b0).st c0
    replace d1:=((d1.st k0).st b0).st c0
    replace e1:=((e1.st k0).st b0).st c0
    replace r3:=(r3.st b0).st c0
    replace s3:=(s3.st b0).st c0
    rintro fI gI ⟨o1,hI,w6,hB,y6,e0,c1,d1,e1,r1,j2,r3,s3,wA,iI,jI,xA,h0,yA⟩
    refine Bc _ w6 ?_
    refine Al (Al (Aj (Ar rfl rfl (Ej rfl rfl (fun v4=>?_) fun v4=>?_))))
    ·
     replace g0:=ip g0 v4
     refine o_z ?_
     refine Ah rfl (Al (Aj (Ar rfl rfl (Ay rfl rfl (Ay rfl rfl (o_z ?_))))))
     refine AR ?_
     obtain rfl:=sm g0
     obtain rfl:=sm (Cn r0)
     obtain rfl:=q3 _ rfl
     obtain rfl:=sm (Cn hm)
     obtain ⟨O',hS',hz,hl⟩:=hE.leave (fun q=>if q=2 then i0 else 0) rfl hB
     exact ret2 rfl (AO rfl) (AO rfl) ⟨O',hS',_,_,(Ob.leave y6 hz (hl 2 (by decide) (by decide)) n2.2),rfl,(Vb.mono (Vb.nil _ _) hz),(vErr yA)⟩
    replace g0:=im g0 v4
    refine o_z ?_
    refine Ae rfl (AZ (Aj (Ar rfl rfl (AV rfl rfl (AP (hc:=Blk.cell (i:=2) (wA.1) rfl) rfl rfl ?_)))))
    refine AV rfl rfl (AP (hc:=Blk.cell (i:=3) (j2.1) rfl) rfl rfl ?_)
    obtain ⟨zA,aB,g0⟩:=bs g0
    obtain ⟨bB,cB⟩:=Ba aB
    obtain ⟨kI,lI,xD,z6,a7,b7,rfl,dB⟩:=xA.elem' cB
    refine BB (hA:=z6) (hj:=(Int.toNat_of_nonneg bB).symm) (hlt:=a7) rfl rfl rfl ?_
    refine AP (hc:=cat0 b7) rfl rfl ?_
    obtain ⟨mI,w4,g0⟩:=bs g0
    obtain ⟨w4,eB,fB⟩:=AB w4
    refine El rfl (a:=zA) r1 (vInt dB) (fun _=>rfl) rfl (by decide) (by decide) eB fB ⟨rfl,rfl⟩ fun nI gB iB oI pI g3 c7=>?_
    rw [← w4] at c7 ⊢
    refine Ay rfl rfl (o_z ?_)
    obtain rfl:=sm g0
    exact ⟨_,(gB,iB),_,rfl,⟨rfl,rfl,rfl,rfl,rfl,rfl,rfl,trivial⟩,hB.st g3,y6.st g3,e0.st g3,c1.st g3,d1.st g3,e1.st g3,c7,h0.st g3⟩
   replace g0:=im g0 u4
   refine o_z ?_
   refine Ae rfl (AZ ?_)
   replace s1:=(s1.st b0).st c0
   replace g1:=(g1.st b0).st c0
   replace h1:=(h1.st b0).st c0
   replace i1:=(i1.st b0).st c0
   replace j1:=(j1.st b0).st c0
   replace c2:=(c2.st b0).st c0
   replace y1:=(y1.st b0).st c0
   replace d2:=(d2.st b0).st c0
   replace e2:=(e2.st b0).st c0
   obtain ⟨qI,h3,yD,zD,jB⟩:=Ors.shut (x:=x0) (l0:=2) (l1:=4) (l2:=5) (l3:=6) (by decide) s1 g1 h1 i1 j1 c2 y1 d2 e2 o4
   obtain rfl:=sm g0
   exact ⟨_,(a0.1.1,a0.1.2),_,rfl,⟨rfl,rfl,rfl,rfl,rfl,rfl,rfl,trivial⟩,(((hB.st k0).st b0).st c0).st h3,jB,(((e0.st k0).st b0).st c0).st h3,(((c1.st k0).st b0).st c0).st h3,(((d1.st k0).st b0).st c0).st h3,(((e1.st k0).st b0).st c0).st h3,(((r1.st k0).st b0).st c0).st h3,(((h0.st k0).st b0).st c0).st h3⟩
  rintro rI sI ⟨w1,n1,tI,rfl,d7,hB,kB,e0,c1,d1,e1,z1,h0⟩
  replace r0:=Bq r0
  refine Bc _ d7 ?_
  refine Al (Aj (Ar rfl rfl (Dc rfl rfl ?_)))
  obtain ⟨uI,vI,wI,xI,yI,zI,aJ,bJ,cJ,a2,aE,e7,f7,g7,h7,i7,j7,x4,k7,l7,lB⟩:=Ors.opn kB 2 4 5 6 (by decide)
  obtain ⟨dJ,eJ,rfl⟩:=f7.form
  obtain ⟨fJ,gJ,rfl⟩:=g7.form
  obtain ⟨hJ,iJ,rfl⟩:=h7.form
  obtain ⟨jJ,kJ,rfl⟩:=i7.form
  obtain ⟨lJ,mJ,rfl⟩:=j7.form
  obtain ⟨nJ,oJ,rfl⟩:=x4.form
  obtain ⟨pJ,rfl⟩:=k7.mptr
  obtain ⟨qJ,rJ,rfl⟩:=l7.form
  refine AV rfl rfl (AP (hc:=Blk.cell (i:=5) (e7.1) rfl) rfl rfl ?_)
  refine Ar rfl rfl ?_
  obtain ⟨t3,mB,r0⟩:=bs r0
  obtain ⟨nB,oB⟩:=Ba mB
  obtain ⟨sJ,tJ,bE,m7,n7,o7,uJ,vJ,rfl,pB,g2,wJ,xJ,yJ⟩:=x4.elem oB
  obtain ⟨zJ,aK,rfl⟩:=pB.form
  obtain ⟨p7,q7,rfl⟩:=g2.form
  refine BB (hA:=m7) (hj:=(Int.toNat_of_nonneg nB).symm) (hlt:=n7) rfl rfl rfl ?_
  refine AV rfl rfl (AP (hc:=cat4 o7) rfl rfl ?_)
  refine Bj rfl rfl ?_
  have y4:t3.used.length≤9223372036854775807:=Nat.le_trans g2.len.2.1 g2.len.2.2
  have bK:inI64 (t3.used.length:Int):=rngNat y4
  refine Ar rfl rfl (o_z ?_)
  obtain ⟨qB,u1,cE,dE,i3⟩:=Ors.shut (x:=x0) (l0:=2) (l1:=4) (l2:=5) (l3:=6) (by decide) e7 f7 g7 h7 i7 j7 x4 k7 l7 lB
  obtain ⟨z4,r7,r0⟩:=bs r0
  refine AU (aft z4 (fun (j0:(List Int)×(List (List Int))×(List Int)) (f0:(Option Addr×Nat)×(Option Addr×Nat)×(Option Addr×Nat))=>[(0,(.pointer (some ⟨p0,0,none⟩))),(7,(.pointer (some ⟨t1,0,none⟩))),(9,(.slice n1.1 w1.length n1.2)),(44,(.slice z0.1 f1.2.length z0.2)),(45,(.int .i64 (f1.2.length:Int))),(46,(.int .i64 (w3:Int)))]) (fun j0 f0 w'=>∃ O':Lab,Bm w O0 w' O'∧Ob 2 w' O' (.pointer (some ⟨p0,0,none⟩)) x0∧Lc 7 w' O' t1 53 [(.slice f0.1.1 j0.1.length f0.1.2),(.slice f0.2.1.1 j0.2.1.length f0.2.1.2),(.slice f0.2.2.1 j0.2.2.length f0.2.2.2)]∧Vb w' (Fr 0 w' O') (.slice f0.1.1 j0.1.length f0.1.2) j0.1∧Vb w' (Fr 0 w' O') (.slice f0.2.1.1 j0.2.1.length f0.2.1.2) j0.2.1∧Vb w' (Fr 0 w' O') (.slice f0.2.2.1 j0.2.2.length f0.2.2.2) j0.2.2∧Rw 10 w' O' 3 (.slice n1.1 w1.length n1.2) w1∧Rw 3 w' O' 3 (.slice z0.1 f1.2.length z0.2) v3)) ?_ ?_
  ·
   refine Bf ?_
   replace hB:=(hB.st a2).st u1
   replace h0:=(h0.st a2).st u1
   replace e0:=(e0.st a2).st u1
   replace c1:=(c1.st a2).st u1
   replace d1:=(d1.st a2).st u1
   replace e1:=(e1.st a2).st u1
   replace z1:=(z1.st a2).st u1
   replace g2:=g2.st u1
   refine BS (σ:=(List Int)×(List (List Int))×(List Int)) (X:=(Option Addr×Nat)×(Option Addr×Nat)×(Option Addr×Nat)) (t3.used.length) r7 rfl y4 (fun (j0:(List Int)×(List (List Int))×(List Int)) (f0:(Option Addr×Nat)×(Option Addr×Nat)×(Option Addr×Nat))=>[(0,(.pointer (some ⟨p0,0,none⟩))),(7,(.pointer (some ⟨t1,0,none⟩))),(9,(.slice n1.1 w1.length n1.2)),(44,(.slice z0.1 f1.2.length z0.2)),(45,(.int .i64 (f1.2.length:Int))),(46,(.int .i64 (w3:Int))),(88,(.slice p7 t3.used.length q7))]) _ (fun j0 f0 w'=>∃ O':Lab,Bm w O0 w' O'∧Ob 2 w' O' (.pointer (some ⟨p0,0,none⟩)) x0∧Lc 7 w' O' t1 53 [(.slice f0.1.1 j0.1.length f0.1.2),(.slice f0.2.1.1 j0.2.1.length f0.2.1.2),(.slice f0.2.2.1 j0.2.2.length f0.2.2.2)]∧Vb w' (Fr 0 w' O') (.slice f0.1.1 j0.1.length f0.1.2) j0.1∧Vb w' (Fr 0 w' O') (.slice f0.2.1.1 j0.2.1.length f0.2.1.2) j0.2.1∧Vb w' (Fr 0 w' O') (.slice f0.2.2.1 j0.2.2.length f0.2.2.2) j0.2.2∧Rw 10 w' O' 3 (.slice n1.1 w1.length n1.2) w1∧Rw 3 w' O' 3 (.slice z0.1 f1.2.length z0.2) v3∧Vb w' (Fr 0 w' O') (.slice p7 t3.used.length q7) t3.used) _ ((a0.2.1.1,a0.2.1.2),(a0.2.2.1.1,a0.2.2.1.2),(a0.2.2.2.1,a0.2.2.2.2)) ⟨qB,hB,i3,e0,c1,d1,e1,z1,h0,g2⟩ ⟨rfl,rfl,rfl,rfl,rfl,rfl,rfl,rfl,rfl,trivial⟩ (fun _ _=>⟨rfl,rfl⟩) (fun _ _=>⟨rfl,rfl,rfl,rfl,rfl,rfl,trivial⟩) (fun _ _ _ ⟨O',hB,i3,e0,j3,k3,m3,z1,h0,g2⟩=>⟨O',hB,i3,e0,j3,k3,m3,z1,h0⟩) ⟨rfl,rfl,rfl⟩ ⟨rfl,rfl⟩ ?_
   rintro rB cK j0 f0 dK eE j4 ⟨eK,hB,i3,e0,j3,k3,m3,z1,h0,g2⟩ m1 f4 r8
   have rk498:inI64 (rB:Int):=rngK j4 y4
   refine Al (Aj ?_)
   obtain ⟨fK,gK,fE,s7,t7,u7,rfl,hK⟩:=g2.elem' j4
   refine BB (hA:=s7) (hj:=rfl) (hlt:=t7) rfl rfl rfl ?_
   refine AP (hc:=cat0 u7) rfl rfl ?_
   refine Ay rfl rfl (o_z ?_)
   refine Al ?_
   obtain ⟨v7,iK,jK,kK,lK,mK,nK,oK,pK,m2,gE,s2,t2,u2,v2,w2,x2,n3,o3,p3,w7⟩:=Ors.opn i3 2 4 5 6 (by decide)
   obtain ⟨sB,tB,rfl⟩:=t2.form
   obtain ⟨uB,vB,rfl⟩:=u2.form
   obtain ⟨wB,xB,rfl⟩:=v2.form
   obtain ⟨yB,zB,rfl⟩:=w2.form
   obtain ⟨qK,rK,rfl⟩:=x2.form
   obtain ⟨sK,tK,rfl⟩:=n3.form
   obtain ⟨uK,rfl⟩:=o3.mptr
   obtain ⟨vK,wK,rfl⟩:=p3.form
   refine Bw [(16,[7])] v7 ?_
   refine AD (fuel:=6) [] [(0,true),(1,true),(2,true),(3,true),(4,true),(5,true),(6,true),(7,true),(8,true),(9,true),(10,true),(11,true)] (by kernel_rfl) rfl ?_
   refine AW rfl rfl rfl (Dd rfl rfl rfl (AJ rfl rfl rfl (Df (hl:=rfl) (hb:=fun w' ⟨O',hq⟩=>(ER 0 4 ((s2.st hq (by decide)).1).cellsAt)) rfl rfl rfl ?_)))
   replace e0:=e0.st m2
   refine Df (hl:=rfl) (hb:=fun w' ⟨O',hq⟩=>((e0.st hq (by decide)).1).cellsAt) rfl rfl rfl ?_
   refine AW rfl rfl rfl (Dd rfl rfl rfl (AJ rfl rfl rfl (Bb (hc:=fun w' ⟨O',hq⟩=>Blk.cell (i:=4) ((s2.st hq (by decide)).1) rfl) rfl rfl rfl ?_)))
   refine AW rfl rfl rfl ?_
   obtain ⟨g4,aC,m1⟩:=bs m1
   obtain ⟨bC,cC⟩:=Ba aC
   obtain ⟨xK,yK,iE,x7,y7,z7,a8,zK,aL,bL,rfl,b8,c8,d8⟩:=x2.elem cC
   obtain ⟨dC,eC,rfl⟩:=b8.form
   obtain ⟨fC,gC,rfl⟩:=c8.form
   obtain ⟨hC,iC,rfl⟩:=d8.form
   refine BC (hA:=x7) (hj:=(Int.toNat_of_nonneg bC).symm) (hlt:=z7) rfl rfl rfl rfl ?_
   refine Df (hl:=rfl) (hb:=fun w' ⟨O',hq⟩=>(Bg (hq.agree (i:=0) (by decide)) y7 a8)) rfl rfl rfl ?_
   refine Au ?_
   refine At (i:=12) (by kernel_rfl) rfl ?_
   obtain ⟨h4,jC,m1⟩:=bs m1
   replace j3:=j3.st m2
   replace k3:=k3.st m2
   replace m3:=m3.st m2
   refine Bt (O:=v7) (R:=fun w' F v=>T2 w' F v h4) (Ho Fr.lt (Vb.ofAgg (cs:=[(.slice sB x0.t.vars.length tB),(.slice uB x0.t.init.length vB),(.slice wB x0.t.goal.length xB),(.slice yB x0.t.ops.length zB)]) (x:=(⟨x0.t.vars,x0.t.init,x0.t.goal,x0.t.ops⟩:Tsk)) rfl ⟨_,_,_,_,rfl,t2,u2,v2,w2⟩) (Vb.ofAgg (cs:=[(.slice f0.1.1 j0.1.length f0.1.2),(.slice f0.2.1.1 j0.2.1.length f0.2.1.2),(.slice f0.2.2.1 j0.2.2.length f0.2.2.2)]) (x:=(⟨j0.1,j0.2.1,j0.2.2⟩:Swp)) rfl ⟨_,_,_,rfl,j3,k3,m3⟩) (Vb.ofAgg (cs:=[(.slice dC g4.vars.length eC),(.slice fC g4.vals.length gC),(.slice hC g4.ops.length iC)]) (x:=g4) rfl ⟨_,_,_,rfl,b8,c8,d8⟩) jC) rfl rfl fun cL dL kC q0 lC=>?_
   obtain ⟨eL,fL,rfl,mC,nC⟩:=lC
   obtain ⟨jE,rfl,gL,hL,iL,rfl,e8,f8,g8⟩:=mC
   obtain ⟨h8,i8,rfl⟩:=e8.form
   obtain ⟨j8,k8,rfl⟩:=f8.form
   obtain ⟨l8,m8,rfl⟩:=g8.form
   obtain ⟨rfl,oC⟩:=nC.err
   have hZ:=q0.lst [] (fun _ h=>h.elim)
   refine Az [(16,[7])] hZ (by kernel_rfl) ?_
   refine AD (fuel:=3) [] [(13,true),(14,true)] (by kernel_rfl) rfl ?_
   refine AW rfl rfl rfl (GA rfl rfl rfl rfl (Au ?_))
   refine AD (fuel:=2) [7] [(15,true)] (by kernel_rfl) rfl ?_
   refine GA rfl rfl rfl rfl (Au ?_)
   refine At (i:=16) (by kernel_rfl) rfl ?_
   replace e0:=e0.st q0
   refine AA e0 rfl rfl rfl (AG rfl) (allOne rfl) fun pC m0 e0=>?_
   replace e0:Lc 7 pC kC t1 53 [(.slice h8 h4.1.vars.length i8),(.slice j8 h4.1.vals.length k8),(.slice l8 h4.1.ops.length m8)]:=e0
   have hZ:=m0.lst [7] (fun _ h=>by cases h;decide)
   refine Az [] hZ (by kernel_rfl) ?_
   refine AD (fuel:=0) [] [(17,true)] (by kernel_rfl) rfl ?_
   refine EC rfl rfl rfl (Au ?_)
   refine AY (by kernel_rfl) ?_
   refine Al (Aj (Ar rfl rfl (Ej rfl rfl (fun a5=>?_) fun a5=>?_)))
   ·
    replace m1:=ip m1 a5
    refine o_z ?_
    refine Ah rfl (Al (Aj (Ar rfl rfl (Ay rfl rfl (Ay rfl rfl (o_z ?_))))))
    refine AR ?_
    replace s2:=(s2.st q0).st m0
    replace t2:=(t2.st q0).st m0
    replace u2:=(u2.st q0).st m0
    replace v2:=(v2.st q0).st m0
    replace w2:=(w2.st q0).st m0
    replace x2:=(x2.st q0).st m0
    replace n3:=(n3.st q0).st m0
    replace o3:=(o3.st q0).st m0
    replace p3:=(p3.st q0).st m0
    obtain ⟨jL,qC,kE,lE,rC⟩:=Ors.shut (x:=x0) (l0:=2) (l1:=4) (l2:=5) (l3:=6) (by decide) s2 t2 u2 v2 w2 x2 n3 o3 p3 w7
    obtain rfl:=sm m1
    obtain rfl:=f4 _ rfl
    obtain rfl:=sm (Cn r0)
    obtain rfl:=q3 _ rfl
    obtain rfl:=sm (Cn hm)
    replace hB:=(((hB.st m2).st q0).st m0).st qC
    obtain ⟨O',hS',hz,hl⟩:=hE.leave (fun q=>if q=2 then i0 else 0) rfl hB
    exact ret2 rfl (AO rfl) (AO rfl) ⟨O',hS',_,_,(Ob.leave rC hz (hl 2 (by decide) (by decide)) n2.2),rfl,(Vb.mono (Vb.nil _ _) hz),(vErr oC)⟩
   replace m1:=im m1 a5
   refine o_z ?_
   refine Ae rfl (AZ ?_)
   replace s2:=(s2.st q0).st m0
   replace t2:=(t2.st q0).st m0
   replace u2:=(u2.st q0).st m0
   replace v2:=(v2.st q0).st m0
   replace w2:=(w2.st q0).st m0
   replace x2:=(x2.st q0).st m0
   replace n3:=(n3.st q0).st m0
   replace o3:=(o3.st q0).st m0
   replace p3:=(p3.st q0).st m0
   obtain ⟨kL,y2,mE,nE,sC⟩:=Ors.shut (x:=x0) (l0:=2) (l1:=4) (l2:=5) (l3:=6) (by decide) s2 t2 u2 v2 w2 x2 n3 o3 p3 w7
   obtain rfl:=sm m1
   exact show Exists _ from ⟨_,((h8,i8),(j8,k8),(l8,m8)),rfl,⟨rfl,rfl,rfl,rfl,rfl,rfl,rfl,rfl,rfl,trivial⟩,_,(((hB.st m2).st q0).st m0).st y2,sC,e0.st y2,(e8.st m0).st y2,(f8.st m0).st y2,(g8.st m0).st y2,(((z1.st m2).st q0).st m0).st y2,(((h0.st m2).st q0).st m0).st y2,(((g2.st m2).st q0).st m0).st y2⟩
  replace hB:=(hB.st a2).st u1
  replace h0:=(h0.st a2).st u1
  replace e0:=(e0.st a2).st u1
  replace z1:=(z1.st a2).st u1
  rintro lL mL ⟨nL,u3,rfl,h2,oL,hB,i3,e0,j3,k3,m3,z1,h0⟩
  replace r0:=Bq r0
  obtain rfl:=sm r0
  exact show Exists _ from ⟨_,((n1.1,n1.2),(u3.1.1,u3.1.2),(u3.2.1.1,u3.2.1.2),(u3.2.2.1,u3.2.2.2)),rfl,⟨(CV h2 _ _ rfl),(CV h2 _ _ rfl),(CV h2 _ _ rfl),(CV h2 _ _ rfl),(CV h2 _ _ rfl),(CV h2 _ _ rfl),trivial⟩,_,hB,i3,e0,j3,k3,m3,z1,h0⟩
 replace hB:=(((((hB.st y3).st z3).st w0).st n0).st o0).st e3
 rintro pL qL ⟨rL,sL,rfl,n8,tL,hB,r1,i2⟩
 replace hm:=Bq hm
 refine Bc _ n8 ?_
 refine Al (Aj (Ar rfl rfl (Ay rfl rfl (Ay rfl rfl (o_z ?_)))))
 refine AR ?_
 obtain ⟨uL,o8,r1⟩:=r1.freeze
 obtain rfl:=sm hm
 replace hB:=hB.st o8
 obtain ⟨O',hS',hz,hl⟩:=hE.leave (fun q=>if q=2 then i0 else 0) rfl hB
 replace i2:=i2.st o8
 exact ret2 rfl (AO rfl) (AO rfl) ⟨O',hS',_,_,(Ob.leave i2 hz (hl 2 (by decide) (by decide)) n2.2),rfl,(Vb.mono r1 hz),(vErr (show inI64 0 from by decide))⟩
noncomputable def Cj (x0:Tsk) (x1:List Swp) (x2:Int):Option (Rsl×Err) :=
  bnd (Cq x0) fun q33=>if q33.n≠0 then (some ((⟨0,([]:List Int),0,0⟩:Rsl),(⟨q33.n⟩:Err))) else (bnd (rng (ρ:=Rsl×Err) (fun (k50:Nat) (a51:Swp) (s48:Unit)=>bnd (Cr x0 a51) fun q87=>if q87=true then some (.next ()) else some (.ret ((⟨0,([]:List Int),0,0⟩:Rsl),(⟨2⟩:Err)))) x1 0 ()) fun res46=>fin res46 fun (s100:Unit)=>bnd (DZ x0) fun q102=>if q102.2.n≠0 then (some ((⟨0,([]:List Int),0,0⟩:Rsl),(⟨q102.2.n⟩:Err))) else (bnd (BM (⟨(⟨x0.vars,x0.init,x0.goal,x0.ops⟩:Tsk),x1,([]:List ONd),(⟨[]⟩:MapP ByteArray Int),([]:List OEn),0⟩:Ors) x0.init 0 (-1) (-1)) fun q138=>if q138.1.n≠0 then (some ((⟨0,([]:List Int),0,0⟩:Rsl),(⟨q138.1.n⟩:Err))) else (bnd (lop (ρ:=Rsl×Err) (fun (s153:Int×Ors)=>bnd (BO s153.2.open_) fun q208=>if q208=0 then (some (.ret ((⟨2,([]:List Int),0,s153.1⟩:Rsl),(⟨0⟩:Err)))) else (bnd (Ct (⟨s153.2.open_⟩:BxR 67 73 OEn)) fun q224=>bnd (bnd (atI s153.2.nodes q224.1.x.node) fun a259=>if a259.fin=true then (some true) else (bnd (atI s153.2.nodes q224.1.x.node) fun a287=>if a287.cost < q224.1.x.cost then (some true) else (some false)):Option Bool) fun y255=>if y255=true then (some (.next (s153.1,(⟨(⟨s153.2.t.vars,s153.2.t.init,s153.2.t.goal,s153.2.t.ops⟩:Tsk),s153.2.gens,s153.2.nodes,s153.2.tab,q224.2.l,s153.2.number⟩:Ors)))) else (bnd (atI ((⟨(⟨s153.2.t.vars,s153.2.t.init,s153.2.t.goal,s153.2.t.ops⟩:Tsk),s153.2.gens,s153.2.nodes,s153.2.tab,q224.2.l,s153.2.number⟩:Ors).nodes) q224.1.x.node) fun a363=>bnd (DN x0.goal a363.state) fun q392=>if q392=true then bnd (Cl (⟨(⟨s153.2.t.vars,s153.2.t.init,s153.2.t.goal,s153.2.t.ops⟩:Tsk),s153.2.gens,s153.2.nodes,s153.2.tab,q224.2.l,s153.2.number⟩:Ors) q224.1.x.node) fun q540=>if q540.2.n≠0 then (some (.ret ((⟨0,([]:List Int),0,0⟩:Rsl),(⟨q540.2.n⟩:Err)))) else (some (.ret ((⟨1,q540.1,a363.cost,s153.1⟩:Rsl),(⟨0⟩:Err)))) else if x2≤s153.1 then (some (.ret ((⟨3,([]:List Int),0,s153.1⟩:Rsl),(⟨0⟩:Err)))) else (bnd (chkI (s153.1 + 1)) fun n402=>bnd (atI ((⟨(⟨s153.2.t.vars,s153.2.t.init,s153.2.t.goal,s153.2.t.ops⟩:Tsk),s153.2.gens,s153.2.nodes,s153.2.tab,q224.2.l,s153.2.number⟩:Ors).nodes) q224.1.x.node) fun a405=>bnd (BA q102.1 a363.state) fun q440=>bnd (rng (ρ:=Ctl (Int×Ors) (Rsl×Err)) (fun (k460:Nat) (a461:Suc) (s458:Ors)=>bnd (atI x0.ops a461.op) fun a492=>bnd (chkI (a363.cost + a492.cost)) fun n513=>bnd (BM s458 a461.state n513 q224.1.x.node a461.op) fun q516=>if q516.1.n≠0 then (some (.ret (.ret ((⟨0,([]:List Int),0,0⟩:Rsl),(⟨q516.1.n⟩:Err))))) else (some (.next q516.2))) q440 0 (⟨(⟨(⟨(⟨s153.2.t.vars,s153.2.t.init,s153.2.t.goal,s153.2.t.ops⟩:Tsk),s153.2.gens,s153.2.nodes,s153.2.tab,q224.2.l,s153.2.number⟩:Ors).t.vars,(⟨(⟨s153.2.t.vars,s153.2.t.init,s153.2.t.goal,s153.2.t.ops⟩:Tsk),s153.2.gens,s153.2.nodes,s153.2.tab,q224.2.l,s153.2.number⟩:Ors).t.init,(⟨(⟨s153.2.t.vars,s153.2.t.init,s153.2.t.goal,s153.2.t.ops⟩:Tsk),s153.2.gens,s153.2.nodes,s153.2.tab,q224.2.l,s153.2.number⟩:Ors).t.goal,(⟨(⟨s153.2.t.vars,s153.2.t.init,s153.2.t.goal,s153.2.t.ops⟩:Tsk),s153.2.gens,s153.2.nodes,s153.2.tab,q224.2.l,s153.2.number⟩:Ors).t.ops⟩:Tsk),(⟨(⟨s153.2.t.vars,s153.2.t.init,s153.2.t.goal,s153.2.t.ops⟩:Tsk),s153.2.gens,s153.2.nodes,s153.2.tab,q224.2.l,s153.2.number⟩:Ors).gens,(((⟨(⟨s153.2.t.vars,s153.2.t.init,s153.2.t.goal,s153.2.t.ops⟩:Tsk),s153.2.gens,s153.2.nodes,s153.2.tab,q224.2.l,s153.2.number⟩:Ors).nodes).set (q224.1.x.node:Int).toNat ({ a405 with fin:=true }:ONd)),(⟨(⟨s153.2.t.vars,s153.2.t.init,s153.2.t.goal,s153.2.t.ops⟩:Tsk),s153.2.gens,s153.2.nodes,s153.2.tab,q224.2.l,s153.2.number⟩:Ors).tab,(⟨(⟨s153.2.t.vars,s153.2.t.init,s153.2.t.goal,s153.2.t.ops⟩:Tsk),s153.2.gens,s153.2.nodes,s153.2.tab,q224.2.l,s153.2.number⟩:Ors).open_,(⟨(⟨s153.2.t.vars,s153.2.t.init,s153.2.t.goal,s153.2.t.ops⟩:Tsk),s153.2.gens,s153.2.nodes,s153.2.tab,q224.2.l,s153.2.number⟩:Ors).number⟩:Ors)) fun res456=>fin res456 fun (s533:Ors)=>some (.next (n402,s533)))))) (0,q138.2)) fun res151=>fin res151 fun (_:Int×Ors)=>none)))
theorem Gt {w:World} {A:Nat→Prop} (hA:∀ k,A k→k < w.heap.size) {vx0:Value} {x0:Tsk} (k8:Vb w A vx0 x0) {vx1:Value} {x1:List Swp} (i2:Vb w A vx1 x1) {x2:Int} (rx2:inI64 x2) {r:Rsl×Err} (hm:Cj x0 x1 x2=some r) :
    Fn Tryz.prog 12 [vx0,vx1,(.int .i64 x2)] w fun v w'=>Ext w w'∧T2 w' (upA A w w') v r:=by
 obtain ⟨O,hB,tC⟩:=enter hA
 replace k8:=k8.mono tC
 obtain ⟨nK,rfl,v5,v6,v7,v8,rfl,h9,w0,y0,z0⟩:=k8
 obtain ⟨j2,k2,rfl⟩:=h9.form
 obtain ⟨m2,n2,rfl⟩:=w0.form
 obtain ⟨o2,p2,rfl⟩:=y0.form
 obtain ⟨q2,r2,rfl⟩:=z0.form
 replace i2:=i2.mono tC
 obtain ⟨n5,o5,rfl⟩:=i2.form
 refine AQ Tryz.func12 rfl Tryz.ntmps12 rfl ?_
 unfold Cj at hm
 refine Al (Aj (Cp 2 O rfl rfl fun i3 lE uC i4 t0=>?_))
 replace t0:Lc 2 lE uC i3 26 [(.slice j2 x0.vars.length k2),(.slice m2 x0.init.length n2),(.slice o2 x0.goal.length p2),(.slice q2 x0.ops.length r2)]:=t0
 refine Bk 3 uC rfl fun q1 vC wC u3 j0=>?_
 refine Ay rfl rfl (o_z ?_)
 refine Al (Al (Aj ?_))
 replace t0:=t0.st u3
 refine Br (hl:=rfl) (hc:=(t0.1).cellsAt) rfl rfl ?_
 obtain ⟨mE,nE,hm⟩:=bs hm
 replace h9:=(h9.st i4).st u3
 replace w0:=(w0.st i4).st u3
 replace y0:=(y0.st i4).st u3
 replace z0:=(z0.st i4).st u3
 refine By (O:=wC) (A:=All vC) (R:=fun w' F v=>Vb w' F v mE) (FO (fun _ h=>h) (Vb.mono (F:=Fr 0 vC wC) (Vb.ofAgg (cs:=[(.slice j2 x0.vars.length k2),(.slice m2 x0.init.length n2),(.slice o2 x0.goal.length p2),(.slice q2 x0.ops.length r2)]) (x:=x0) rfl ⟨_,_,_,_,rfl,h9,w0,y0,z0⟩) Fr.lt) nE) rfl rfl fun oK pK l8 s2 oE=>?_
 obtain ⟨rfl,pE⟩:=oE.err
 refine Ay rfl rfl (o_z ?_)
 refine Al (Aj (Ar rfl rfl (Ej rfl rfl (fun m8=>?_) fun m8=>?_)))
 ·
  replace hm:=ip hm m8
  refine o_z ?_
  refine Ah rfl (Al (Aj (CG rfl rfl rfl ?_)))
  refine Ar rfl rfl ?_
  replace j0:=j0.st s2
  refine AA j0 rfl rfl rfl (AG rfl) (allOne rfl) fun xC qE j0=>?_
  replace j0:Lc 3 xC l8 q1 32 [(.int .i64 0),(.slice none 0 0),(.int .i64 0),(.int .i64 0)]:=j0
  refine Ay rfl rfl (o_z ?_)
  refine AR ?_
  obtain rfl:=sm hm
  replace hB:=(((hB.st i4).st u3).st s2).st qE
  exact ret2 rfl (Cg (cs:=[(.int .i64 0),(.slice none 0 0),(.int .i64 0),(.int .i64 0)]) rfl rfl j0.1.cellsAt) (AO rfl) ⟨hB.ext,_,_,rfl,(Vb.mono (F:=Fr 0 xC l8) (Vb.ofAgg (cs:=[(.int .i64 0),(.slice none 0 0),(.int .i64 0),(.int .i64 0)]) (x:=(⟨0,([]:List Int),0,0⟩:Rsl)) rfl ⟨_,rfl,(Vb.nil _ _),(show inI64 0 from by decide),(show inI64 0 from by decide),(show inI64 0 from by decide)⟩) hB.out),(vErr pE)⟩
 replace hm:=im hm m8
 refine o_z ?_
 refine Ae rfl (AZ (Al (Al (Aj (Ar rfl rfl (Bj rfl rfl ?_))))))
 replace i2:=((i2.st i4).st u3).st s2
 have n8:x1.length≤9223372036854775807:=Nat.le_trans i2.len.2.1 i2.len.2.2
 have qK:inI64 (x1.length:Int):=rngNat n8
 refine Ar rfl rfl (o_z ?_)
 obtain ⟨p5,o8,hm⟩:=bs hm
 refine AU (aft p5 (fun (b8:Unit) (c8:Unit)=>[(1,(.slice n5 x1.length o5)),(2,(.int .i64 x2)),(3,(.pointer (some ⟨i3,0,none⟩))),(6,(.pointer (some ⟨q1,0,none⟩)))]) (fun b8 c8 w'=>∃ O':Lab,Bs w A w' O'∧Vb w' (Fr 0 w' O') (.slice n5 x1.length o5) x1∧Lc 2 w' O' i3 26 [(.slice j2 x0.vars.length k2),(.slice m2 x0.init.length n2),(.slice o2 x0.goal.length p2),(.slice q2 x0.ops.length r2)]∧Vb w' (Fr 0 w' O') (.slice j2 x0.vars.length k2) x0.vars∧Vb w' (Fr 0 w' O') (.slice m2 x0.init.length n2) x0.init∧Vb w' (Fr 0 w' O') (.slice o2 x0.goal.length p2) x0.goal∧Vb w' (Fr 0 w' O') (.slice q2 x0.ops.length r2) x0.ops∧Lc 3 w' O' q1 32 [(.int .i64 0),(.slice none 0 0),(.int .i64 0),(.int .i64 0)])) ?_ ?_
 ·
  refine Bf ?_
  replace hB:=((hB.st i4).st u3).st s2
  replace h9:=h9.st s2
  replace w0:=w0.st s2
  replace y0:=y0.st s2
  replace z0:=z0.st s2
  replace t0:=t0.st s2
  replace j0:=j0.st s2
  refine BS (σ:=Unit) (X:=Unit) (x1.length) o8 rfl n8 (fun (b8:Unit) (c8:Unit)=>[(1,(.slice n5 x1.length o5)),(2,(.int .i64 x2)),(3,(.pointer (some ⟨i3,0,none⟩))),(6,(.pointer (some ⟨q1,0,none⟩))),(30,(.slice n5 x1.length o5))]) _ (fun b8 c8 w'=>∃ O':Lab,Bs w A w' O'∧Vb w' (Fr 0 w' O') (.slice n5 x1.length o5) x1∧Lc 2 w' O' i3 26 [(.slice j2 x0.vars.length k2),(.slice m2 x0.init.length n2),(.slice o2 x0.goal.length p2),(.slice q2 x0.ops.length r2)]∧Vb w' (Fr 0 w' O') (.slice j2 x0.vars.length k2) x0.vars∧Vb w' (Fr 0 w' O') (.slice m2 x0.init.length n2) x0.init∧Vb w' (Fr 0 w' O') (.slice o2 x0.goal.length p2) x0.goal∧Vb w' (Fr 0 w' O') (.slice q2 x0.ops.length r2) x0.ops∧Lc 3 w' O' q1 32 [(.int .i64 0),(.slice none 0 0),(.int .i64 0),(.int .i64 0)]) _ () ⟨l8,hB,i2,t0,h9,w0,y0,z0,j0⟩ ⟨rfl,rfl,rfl,rfl,rfl,rfl,rfl,trivial⟩ (fun _ _=>⟨rfl,rfl⟩) (fun _ _=>⟨rfl,rfl,rfl,rfl,trivial⟩) (fun _ _ _ ⟨O',hB,i2,t0,h9,w0,y0,z0,j0⟩=>⟨O',hB,i2,t0,h9,w0,y0,z0,j0⟩) ⟨rfl,rfl,rfl⟩ ⟨rfl,rfl⟩ ?_
  rintro rE l4 b8 c8 rK sE q5 ⟨tE,hB,i2,t0,h9,w0,y0,z0,j0⟩ t2 m4 p8
  have rk50:inI64 (rE:Int):=rngK q5 n8
  refine Al (Aj ?_)
  obtain ⟨sK,tK,uE,q8,r8,s8,uK,vK,wK,rfl,d8,e8,f8⟩:=i2.elem' q5
  obtain ⟨yC,zC,rfl⟩:=d8.form
  obtain ⟨aD,bD,rfl⟩:=e8.form
  obtain ⟨cD,dD,rfl⟩:=f8.form
  refine BB (hA:=q8) (hj:=rfl) (hlt:=r8) rfl rfl rfl ?_
  refine Br (hl:=rfl) (hc:=s8) rfl rfl ?_
  refine Bk 4 tE rfl fun vE xK g8 j3 r5=>?_
  refine AA r5 rfl rfl rfl (AG rfl) (allOne rfl) fun h8 k3 r5=>?_
  replace r5:Lc 4 h8 g8 vE 53 [(.slice yC l4.vars.length zC),(.slice aD l4.vals.length bD),(.slice cD l4.ops.length dD)]:=r5
  refine o_z ?_
  refine Al (Aj ?_)
  replace t0:=(t0.st j3).st k3
  refine Br (hl:=rfl) (hc:=(t0.1).cellsAt) rfl rfl ?_
  refine Br (hl:=rfl) (hc:=(r5.1).cellsAt) rfl rfl ?_
  obtain ⟨eD,wE,t2⟩:=bs t2
  replace h9:=(h9.st j3).st k3
  replace w0:=(w0.st j3).st k3
  replace y0:=(y0.st j3).st k3
  replace z0:=(z0.st j3).st k3
  replace d8:=(d8.st j3).st k3
  replace e8:=(e8.st j3).st k3
  replace f8:=(f8.st j3).st k3
  refine By (O:=g8) (A:=All h8) (R:=fun w' F v=>Vb w' F v eD) (Im (fun _ h=>h) (Vb.mono (F:=Fr 0 h8 g8) (Vb.ofAgg (cs:=[(.slice j2 x0.vars.length k2),(.slice m2 x0.init.length n2),(.slice o2 x0.goal.length p2),(.slice q2 x0.ops.length r2)]) (x:=x0) rfl ⟨_,_,_,_,rfl,h9,w0,y0,z0⟩) Fr.lt) (Vb.mono (F:=Fr 0 h8 g8) (Vb.ofAgg (cs:=[(.slice yC l4.vars.length zC),(.slice aD l4.vals.length bD),(.slice cD l4.ops.length dD)]) (x:=l4) rfl ⟨_,_,_,rfl,d8,e8,f8⟩) Fr.lt) wE) rfl rfl fun yK zK fD t3 xE=>?_
  obtain rfl:=xE.bool
  cases eD
  case false =>
   replace t2:=iF t2
   refine DL rfl rfl (o_z ?_)
   refine Ah rfl (Al (Aj (CG rfl rfl rfl ?_)))
   refine LV rfl rfl ?_
   replace j0:=((j0.st j3).st k3).st t3
   refine AA j0 rfl rfl rfl (AG rfl) (allOne rfl) fun gD yE j0=>?_
   replace j0:Lc 3 gD fD q1 32 [(.int .i64 0),(.slice none 0 0),(.int .i64 0),(.int .i64 0)]:=j0
   refine Ay rfl rfl (o_z ?_)
   refine AR ?_
   obtain rfl:=sm t2
   obtain rfl:=m4 _ rfl
   obtain rfl:=sm (Cn hm)
   replace hB:=(((hB.st j3).st k3).st t3).st yE
   exact ret2 rfl (Cg (cs:=[(.int .i64 0),(.slice none 0 0),(.int .i64 0),(.int .i64 0)]) rfl rfl j0.1.cellsAt) (AO rfl) ⟨hB.ext,_,_,rfl,(Vb.mono (F:=Fr 0 gD fD) (Vb.ofAgg (cs:=[(.int .i64 0),(.slice none 0 0),(.int .i64 0),(.int .i64 0)]) (x:=(⟨0,([]:List Int),0,0⟩:Rsl)) rfl ⟨_,rfl,(Vb.nil _ _),(show inI64 0 from by decide),(show inI64 0 from by decide),(show inI64 0 from by decide)⟩) hB.out),(vErr (by decide))⟩
  replace t2:=iT t2
  refine DK rfl rfl (o_z ?_)
  refine Ae rfl (AZ ?_)
  obtain rfl:=sm t2
  exact show Exists _ from ⟨_,(),rfl,⟨rfl,rfl,rfl,rfl,rfl,rfl,rfl,trivial⟩,_,((hB.st j3).st k3).st t3,((i2.st j3).st k3).st t3,t0.st t3,h9.st t3,w0.st t3,y0.st t3,z0.st t3,((j0.st j3).st k3).st t3⟩
 replace hB:=((hB.st i4).st u3).st s2
 replace h9:=h9.st s2
 replace w0:=w0.st s2
 replace y0:=y0.st s2
 replace z0:=z0.st s2
 replace t0:=t0.st s2
 replace j0:=j0.st s2
 rintro aL bL ⟨zE,aF,rfl,t8,bF,hB,i2,t0,h9,w0,y0,z0,j0⟩
 replace hm:=Bq hm
 refine Bc _ t8 ?_
 refine Al (Aj (Br (hl:=rfl) (hc:=(t0.1).cellsAt) rfl rfl ?_))
 obtain ⟨n3,u8,hm⟩:=bs hm
 refine Bt (O:=bF) (R:=fun w' F v=>T2 w' F v n3) (JV Fr.lt (Vb.ofAgg (cs:=[(.slice j2 x0.vars.length k2),(.slice m2 x0.init.length n2),(.slice o2 x0.goal.length p2),(.slice q2 x0.ops.length r2)]) (x:=x0) rfl ⟨_,_,_,_,rfl,h9,w0,y0,z0⟩) u8) rfl rfl fun cF dF n4 m1 w8=>?_
 obtain ⟨eF,fF,rfl,u0,x8⟩:=w8
 obtain ⟨u2,rfl,hD⟩:=u0.ptr
 obtain ⟨rfl,y8⟩:=x8.err
 refine Ar rfl rfl (Cy rfl rfl rfl (Cy rfl rfl rfl (Ay rfl rfl (Ay rfl rfl (o_z ?_)))))
 refine Al (Al (Aj (Ar rfl rfl (Ej rfl rfl (fun o4=>?_) fun o4=>?_))))
 ·
  replace hm:=ip hm o4
  refine o_z ?_
  refine Ah rfl (Al (Aj (CG rfl rfl rfl ?_)))
  refine Ar rfl rfl ?_
  replace j0:=j0.st m1
  refine AA j0 rfl rfl rfl (AG rfl) (allOne rfl) fun s5 z8 j0=>?_
  replace j0:Lc 3 s5 n4 q1 32 [(.int .i64 0),(.slice none 0 0),(.int .i64 0),(.int .i64 0)]:=j0
  refine Ay rfl rfl (o_z ?_)
  refine AR ?_
  obtain rfl:=sm hm
  replace hB:=(hB.st m1).st z8
  exact ret2 rfl (Cg (cs:=[(.int .i64 0),(.slice none 0 0),(.int .i64 0),(.int .i64 0)]) rfl rfl j0.1.cellsAt) (AO rfl) ⟨hB.ext,_,_,rfl,(Vb.mono (F:=Fr 0 s5 n4) (Vb.ofAgg (cs:=[(.int .i64 0),(.slice none 0 0),(.int .i64 0),(.int .i64 0)]) (x:=(⟨0,([]:List Int),0,0⟩:Rsl)) rfl ⟨_,rfl,(Vb.nil _ _),(show inI64 0 from by decide),(show inI64 0 from by decide),(show inI64 0 from by decide)⟩) hB.out),(vErr y8)⟩
 replace hm:=im hm o4
 refine o_z ?_
 refine Ae rfl (AZ (Al (Aj ?_)))
 replace t0:=t0.st m1
 refine Br (hl:=rfl) (hc:=(t0.1).cellsAt) rfl rfl ?_
 refine Ar rfl rfl (Ov (K:=ByteArray) (V:=Int) 5 (by decide) n4 rfl fun a9 gF b9 o1 p4=>?_)
 refine CG rfl rfl rfl ?_
 refine Cp 6 b9 rfl rfl fun p1 q4 r4 n1 s4=>?_
 replace s4:Lc 6 q4 r4 p1 69 [(.slice j2 x0.vars.length k2),(.slice m2 x0.init.length n2),(.slice o2 x0.goal.length p2),(.slice q2 x0.ops.length r2),(.slice n5 x1.length o5),(.slice none 0 0),(.map (some a9)),(.slice none 0 0),(.int .i64 0)]:=s4
 refine Ay rfl rfl (o_z ?_)
 refine Al (Al (Aj (Ar rfl rfl (AV rfl rfl ?_))))
 replace t0:=(t0.st o1).st n1
 refine AP (hc:=Blk.cell (i:=1) (t0.1) rfl) rfl rfl ?_
 have c9:Rw 7 q4 r4 78 (.slice none 0 0) ([]:List ONd):=Rw.nil 7 (by decide)
 have d9:Rw 8 q4 r4 73 (.slice none 0 0) ([]:List OEn):=Rw.nil 8 (by decide)
 replace i2:=((i2.st m1).st o1).st n1
 replace h9:=((h9.st m1).st o1).st n1
 replace w0:=((w0.st m1).st o1).st n1
 replace y0:=((y0.st m1).st o1).st n1
 replace z0:=((z0.st m1).st o1).st n1
 replace p4:=p4.st n1
 obtain ⟨e9,r1,iD,jD,f9⟩:=Ors.shut (x:=(⟨(⟨x0.vars,x0.init,x0.goal,x0.ops⟩:Tsk),x1,([]:List ONd),(⟨[]⟩:MapP ByteArray Int),([]:List OEn),0⟩:Ors)) (l0:=6) (l1:=7) (l2:=5) (l3:=8) (by decide) s4 h9 w0 y0 z0 i2 c9 p4 d9 (show inI64 0 from by decide)
 obtain ⟨hF,g9,hm⟩:=bs hm
 replace w0:=w0.st r1
 refine EJ (O:=e9) (Fj f9 w0 (show inI64 (0) from by decide) (show inI64 (-1) from by decide) (show inI64 (-1) from by decide) g9) rfl rfl fun jF kF t4 s1 i9=>?_
 obtain ⟨j9,k9⟩:=i9
 obtain ⟨rfl,l9⟩:=k9.err
 refine Ay rfl rfl (o_z ?_)
 refine Al (Aj (Ar rfl rfl (Ej rfl rfl (fun u4=>?_) fun u4=>?_)))
 ·
  replace hm:=ip hm u4
  refine o_z ?_
  refine Ah rfl (Al (Aj (CG rfl rfl rfl ?_)))
  refine Ar rfl rfl ?_
  replace j0:=((((j0.st m1).st o1).st n1).st r1).st s1
  refine AA j0 rfl rfl rfl (AG rfl) (allOne rfl) fun t5 m9 j0=>?_
  replace j0:Lc 3 t5 t4 q1 32 [(.int .i64 0),(.slice none 0 0),(.int .i64 0),(.int .i64 0)]:=j0
  refine Ay rfl rfl (o_z ?_)
  refine AR ?_
  obtain rfl:=sm hm
  replace hB:=(((((hB.st m1).st o1).st n1).st r1).st s1).st m9
  exact ret2 rfl (Cg (cs:=[(.int .i64 0),(.slice none 0 0),(.int .i64 0),(.int .i64 0)]) rfl rfl j0.1.cellsAt) (AO rfl) ⟨hB.ext,_,_,rfl,(Vb.mono (F:=Fr 0 t5 t4) (Vb.ofAgg (cs:=[(.int .i64 0),(.slice none 0 0),(.int .i64 0),(.int .i64 0)]) (x:=(⟨0,([]:List Int),0,0⟩:Rsl)) rfl ⟨_,rfl,(Vb.nil _ _),(show inI64 0 from by decide),(show inI64 0 from by decide),(show inI64 0 from by decide)⟩) hB.out),(vErr l9)⟩
 replace hm:=im hm u4
 refine o_z ?_
 refine Ae rfl (AZ (Al (Aj (Ay rfl rfl (o_z ?_)))))
 obtain ⟨v4,u5,hm⟩:=bs hm
 refine AU (aft v4 (fun (a0:Int×Ors) (v3:Unit)=>[]) (fun a0 v3 w'=>False)) ?_ ?_
 ·
  refine Bf ?_
  replace hB:=((((hB.st m1).st o1).st n1).st r1).st s1
  replace h9:=(h9.st r1).st s1
  replace w0:=w0.st s1
  replace y0:=(y0.st r1).st s1
  replace z0:=(z0.st r1).st s1
  replace t0:=(t0.st r1).st s1
  replace j0:=((((j0.st m1).st o1).st n1).st r1).st s1
  replace u0:=(((u0.st o1).st n1).st r1).st s1
  refine FE (σ:=Int×Ors) (X:=Unit) u5 (fun (a0:Int×Ors) (v3:Unit)=>[(2,(.int .i64 x2)),(3,(.pointer (some ⟨i3,0,none⟩))),(6,(.pointer (some ⟨q1,0,none⟩))),(11,(.pointer u2)),(13,(.pointer (some ⟨p1,0,none⟩))),(15,(.int .i64 a0.1))]) _ (fun a0 v3 w'=>∃ O':Lab,Bs w A w' O'∧Lc 2 w' O' i3 26 [(.slice j2 x0.vars.length k2),(.slice m2 x0.init.length n2),(.slice o2 x0.goal.length p2),(.slice q2 x0.ops.length r2)]∧Vb w' (Fr 0 w' O') (.slice j2 x0.vars.length k2) x0.vars∧Vb w' (Fr 0 w' O') (.slice m2 x0.init.length n2) x0.init∧Vb w' (Fr 0 w' O') (.slice o2 x0.goal.length p2) x0.goal∧Vb w' (Fr 0 w' O') (.slice q2 x0.ops.length r2) x0.ops∧Lc 3 w' O' q1 32 [(.int .i64 0),(.slice none 0 0),(.int .i64 0),(.int .i64 0)]∧Vb w' (Fr 0 w' O') (.pointer u2) n3.1∧Ob 6 w' O' (.pointer (some ⟨p1,0,none⟩)) a0.2∧inI64 a0.1) _ () ⟨t4,hB,t0,h9,w0,y0,z0,j0,u0,j9,(show inI64 (0) from by decide)⟩ ⟨rfl,rfl,rfl,rfl,rfl,rfl,trivial⟩ ?_
  rintro a0 v3 n9 kD ⟨lF,hB,t0,h9,w0,y0,z0,j0,u0,o9,w3⟩ b0 i1 i8
  refine Bf (Al (Al (Aj (Ar rfl rfl (Dc rfl rfl ?_)))))
  obtain ⟨p9,mF,nF,oF,pF,qF,rF,sF,tF,o0,lD,x3,t1,u1,v1,w1,y1,v2,z1,o3,w4⟩:=Ors.opn o9 6 9 10 11 (by decide)
  obtain ⟨w5,x5,rfl⟩:=t1.form
  obtain ⟨y5,z5,rfl⟩:=u1.form
  obtain ⟨a6,b6,rfl⟩:=v1.form
  obtain ⟨c6,d6,rfl⟩:=w1.form
  obtain ⟨e6,f6,rfl⟩:=y1.form
  obtain ⟨g6,h6,rfl⟩:=v2.form
  obtain ⟨i6,rfl⟩:=z1.mptr
  obtain ⟨q9,r9,rfl⟩:=o3.form
  refine AV rfl rfl (AP (hc:=Blk.cell (i:=7) (x3.1) rfl) rfl rfl ?_)
  obtain ⟨s9,t9,b0⟩:=bs b0
  refine By (O:=p9) (A:=All n9) (R:=fun w' F v=>Vb w' F v s9) (ED (fun _ h=>h) (o3).all t9) rfl rfl fun uF vF j6 d0 u9=>?_
  obtain ⟨rfl,wF⟩:=u9.int
  refine Ei rfl rfl rfl (fun x4=>?_) fun x4=>?_
  ·
   replace b0:=ip b0 x4
   refine o_z ?_
   refine Ah rfl (Al (Aj (Ar rfl rfl (CG rfl rfl rfl ?_))))
   replace j0:=(j0.st o0).st d0
   refine AA j0 rfl rfl rfl (AG rfl) (allOne rfl) fun k6 v9 j0=>?_
   replace j0:Lc 3 k6 j6 q1 32 [(.int .i64 2),(.slice none 0 0),(.int .i64 0),(.int .i64 a0.1)]:=j0
   refine Ay rfl rfl (o_z ?_)
   refine AR ?_
   obtain rfl:=sm b0
   obtain rfl:=i1 _ rfl
   obtain rfl:=sm (Cn hm)
   replace hB:=((hB.st o0).st d0).st v9
   exact ret2 rfl (Cg (cs:=[(.int .i64 2),(.slice none 0 0),(.int .i64 0),(.int .i64 a0.1)]) rfl rfl j0.1.cellsAt) (AO rfl) ⟨hB.ext,_,_,rfl,(Vb.mono (F:=Fr 0 k6 j6) (Vb.ofAgg (cs:=[(.int .i64 2),(.slice none 0 0),(.int .i64 0),(.int .i64 a0.1)]) (x:=(⟨2,([]:List Int),0,a0.1⟩:Rsl)) rfl ⟨_,rfl,(Vb.nil _ _),(show inI64 (2) from by decide),(show inI64 0 from by decide),w3⟩) hB.out),(vErr (show inI64 0 from by decide))⟩
  replace b0:=im b0 x4
  refine o_z ?_
  refine Ae rfl (AZ (Al (Aj (Ar rfl rfl (Dc rfl rfl (AV rfl rfl (Of rfl rfl ?_)))))))
  replace x3:=x3.st d0
  replace o3:=o3.st d0
  obtain ⟨w9,g0,mD,nD,x9⟩:=BxC.shut (cx:=(⟨69,[(.slice w5 a0.2.t.vars.length x5),(.slice y5 a0.2.t.init.length z5),(.slice a6 a0.2.t.goal.length b6),(.slice c6 a0.2.t.ops.length d6),(.slice e6 a0.2.gens.length f6),(.slice g6 a0.2.nodes.length h6),(.map (some i6))],[(.int .i64 a0.2.number)]⟩:Cx)) (p:=p1) (c0:=.slice q9 a0.2.open_.length r9) (x:=(⟨a0.2.open_⟩:BxR 67 73 OEn)) (l0:=6) (l1:=11) (by decide) x3 o3
  obtain ⟨r0,y9,b0⟩:=bs b0
  refine EJ (O:=w9) (GD x9 y9) rfl rfl fun xF z9 yF h0 aA=>?_
  obtain ⟨bA,cA⟩:=aA
  obtain ⟨zF,rfl,dA⟩:=cA.any
  obtain ⟨oD,rfl,rfl,aG,bG,l6⟩:=dA
  obtain ⟨m6,cG,i0,pD,e2,a2⟩:=BxC.opn bA 6 11 (by decide)
  obtain ⟨eA,fA,rfl⟩:=a2.form
  replace e2:Lc 6 z9 m6 p1 69 [(.slice w5 a0.2.t.vars.length x5),(.slice y5 a0.2.t.init.length z5),(.slice a6 a0.2.t.goal.length b6),(.slice c6 a0.2.t.ops.length d6),(.slice e6 a0.2.gens.length f6),(.slice g6 a0.2.nodes.length h6),(.map (some i6)),(.slice eA r0.2.l.length fA),(.int .i64 a0.2.number)]:=e2
  refine Oh rfl rfl ?_
  refine Ar rfl rfl (Cy rfl rfl rfl (Cy rfl rfl rfl (Bk 12 m6 rfl fun p3 dG gA e0 p0=>?_)))
  refine AA p0 rfl rfl rfl (AG rfl) (allOne rfl) fun n6 f0 p0=>?_
  replace p0:Lc 12 n6 gA p3 73 [(.int .i64 r0.1.x.cost),(.int .i64 r0.1.x.number),(.int .i64 r0.1.x.node)]:=p0
  refine Ay rfl rfl (o_z ?_)
  refine Al (Al ?_)
  obtain ⟨iA,v0,b0⟩:=bs b0
  refine AU (fun l' w'=>∃ (jA:Unit) (O':Lab),subs l' [(2,(.int .i64 x2)),(3,(.pointer (some ⟨i3,0,none⟩))),(6,(.pointer (some ⟨q1,0,none⟩))),(11,(.pointer u2)),(13,(.pointer (some ⟨p1,0,none⟩))),(15,(.int .i64 a0.1)),(16,(.pointer (some ⟨p3,0,none⟩))),(108,(.bool iA))]∧Bs w A w' O'∧Lc 2 w' O' i3 26 [(.slice j2 x0.vars.length k2),(.slice m2 x0.init.length n2),(.slice o2 x0.goal.length p2),(.slice q2 x0.ops.length r2)]∧Vb w' (Fr 0 w' O') (.slice j2 x0.vars.length k2) x0.vars∧Vb w' (Fr 0 w' O') (.slice m2 x0.init.length n2) x0.init∧Vb w' (Fr 0 w' O') (.slice o2 x0.goal.length p2) x0.goal∧Vb w' (Fr 0 w' O') (.slice q2 x0.ops.length r2) x0.ops∧Lc 3 w' O' q1 32 [(.int .i64 0),(.slice none 0 0),(.int .i64 0),(.int .i64 0)]∧Vb w' (Fr 0 w' O') (.pointer u2) n3.1∧Ob 6 w' O' (.pointer (some ⟨p1,0,none⟩)) (⟨(⟨a0.2.t.vars,a0.2.t.init,a0.2.t.goal,a0.2.t.ops⟩:Tsk),a0.2.gens,a0.2.nodes,a0.2.tab,r0.2.l,a0.2.number⟩:Ors)∧Lc 12 w' O' p3 73 [(.int .i64 r0.1.x.cost),(.int .i64 r0.1.x.number),(.int .i64 r0.1.x.node)]) ?_ ?_
  ·
   refine Cu (·=n6) [(0,true),(1,true),(2,true),(3,true),(4,true),(5,true),(6,true),(7,true),(8,true),(9,true),(10,true),(11,true),(12,true),(13,true),(14,true),(15,true),(16,true),(17,true),(18,true),(19,true),(20,true),(21,true),(22,true),(23,true),(24,true),(25,true),(26,true)] (by kernel_rfl) rfl (by kernel_rfl) rfl ?_
   refine AW rfl rfl rfl (Ni rfl rfl rfl (AW rfl rfl rfl (AK rfl (AH rfl rfl (Eh rfl rfl (AK rfl (AH rfl rfl (Ps rfl rfl (AK rfl (AH rfl rfl (Cz rfl rfl (AK rfl (AH rfl rfl ?_)))))))))))))
   replace e2:=(e2.st e0).st f0
   refine BY (hc:=Blk.cell (i:=5) (e2.1) rfl) rfl rfl ?_
   refine AK rfl (AH rfl rfl (Cz rfl rfl (AK rfl (AH rfl rfl (BY (hc:=Blk.cell (i:=2) (p0.1) rfl) rfl rfl ?_)))))
   refine AK rfl (AH rfl rfl ?_)
   obtain ⟨kA,lA,v0⟩:=bs v0
   obtain ⟨mA,nA⟩:=Ba lA
   replace v2:=(((((v2.st d0).st g0).st h0).st i0).st e0).st f0
   obtain ⟨eG,fG,qD,o6,p6,q6,gG,hG,rfl,oA,pA,iG,jG,kG⟩:=v2.elem nA
   obtain ⟨lG,mG,rfl⟩:=oA.form
   obtain ⟨nG,oG,rfl⟩:=pA.form
   refine LX (hA:=o6) (hj:=(Int.toNat_of_nonneg mA).symm) (hlt:=p6) rfl rfl rfl ?_
   refine AK rfl (AH rfl rfl (Cz rfl rfl (AK rfl (AH rfl rfl (BY (hc:=cat5 q6) rfl rfl ?_)))))
   refine CS rfl rfl rfl rfl (AW rfl rfl rfl ?_)
   rcases Bool.eq_false_or_eq_true kA.fin with q3|q3
   ·
    try rw [q3]
    replace v0:=ip v0 q3
    refine Ck rfl rfl rfl rfl rfl (Ck rfl rfl rfl rfl rfl (Ck rfl rfl rfl rfl rfl (Ck rfl rfl rfl rfl rfl (Ck rfl rfl rfl rfl rfl (Ck rfl rfl rfl rfl rfl (Ck rfl rfl rfl rfl rfl (Ck rfl rfl rfl rfl rfl (Ck rfl rfl rfl rfl rfl (Ck rfl rfl rfl rfl rfl (Ck rfl rfl rfl rfl rfl (Ck rfl rfl rfl rfl rfl (Dp rfl rfl rfl rfl (h_z ?_)))))))))))))
    replace t1:=(((((t1.st d0).st g0).st h0).st i0).st e0).st f0
    replace u1:=(((((u1.st d0).st g0).st h0).st i0).st e0).st f0
    replace v1:=(((((v1.st d0).st g0).st h0).st i0).st e0).st f0
    replace w1:=(((((w1.st d0).st g0).st h0).st i0).st e0).st f0
    replace y1:=(((((y1.st d0).st g0).st h0).st i0).st e0).st f0
    replace z1:=(((((z1.st d0).st g0).st h0).st i0).st e0).st f0
    replace a2:=(a2.st e0).st f0
    obtain ⟨pG,f2,rD,sD,qA⟩:=Ors.shut (x:=(⟨(⟨a0.2.t.vars,a0.2.t.init,a0.2.t.goal,a0.2.t.ops⟩:Tsk),a0.2.gens,a0.2.nodes,a0.2.tab,r0.2.l,a0.2.number⟩:Ors)) (l0:=6) (l1:=9) (l2:=10) (l3:=11) (by decide) e2 t1 u1 v1 w1 y1 v2 z1 a2 w4
    obtain rfl:=sm v0
    exact ⟨(),_,⟨rfl,rfl,rfl,rfl,rfl,rfl,rfl,rfl,trivial⟩,(((((((hB.st o0).st d0).st g0).st h0).st i0).st e0).st f0).st f2,(((((((t0.st o0).st d0).st g0).st h0).st i0).st e0).st f0).st f2,(((((((h9.st o0).st d0).st g0).st h0).st i0).st e0).st f0).st f2,(((((((w0.st o0).st d0).st g0).st h0).st i0).st e0).st f0).st f2,(((((((y0.st o0).st d0).st g0).st h0).st i0).st e0).st f0).st f2,(((((((z0.st o0).st d0).st g0).st h0).st i0).st e0).st f0).st f2,(((((((j0.st o0).st d0).st g0).st h0).st i0).st e0).st f0).st f2,(((((((u0.st o0).st d0).st g0).st h0).st i0).st e0).st f0).st f2,qA,p0.st f2⟩
   try rw [q3]
   replace v0:=im' v0 q3
   refine AK rfl (AH rfl rfl (Eh rfl rfl (AK rfl (AH rfl rfl (Ps rfl rfl (AK rfl (AH rfl rfl (Cz rfl rfl (AK rfl (AH rfl rfl (BY (hc:=Blk.cell (i:=5) (e2.1) rfl) rfl rfl ?_)))))))))))
   refine AK rfl (AH rfl rfl (Cz rfl rfl (AK rfl (AH rfl rfl (BY (hc:=Blk.cell (i:=2) (p0.1) rfl) rfl rfl ?_)))))
   refine AK rfl (AH rfl rfl ?_)
   obtain ⟨qG,rA,v0⟩:=bs v0
   obtain ⟨sA,tA⟩:=Ba rA
   obtain ⟨rG,sG,tD,r6,s6,t6,tG,uG,rfl,uA,vA,vG,wG,xG⟩:=v2.elem tA
   obtain ⟨yG,zG,rfl⟩:=uA.form
   obtain ⟨aH,bH,rfl⟩:=vA.form
   refine LX (hA:=r6) (hj:=(Int.toNat_of_nonneg sA).symm) (hlt:=s6) rfl rfl rfl ?_
   refine AK rfl (AH rfl rfl (Cz rfl rfl (AK rfl (AH rfl rfl (BY (hc:=cat1 t6) rfl rfl ?_)))))
   refine AK rfl (AH rfl rfl (Cz rfl rfl (AK rfl (AH rfl rfl (BY (hc:=Blk.cell (i:=0) (p0.1) rfl) rfl rfl ?_)))))
   refine AK rfl (AH rfl rfl (BP (fun _ _=>Dg rfl rfl) rfl (fun y4=>?_) (fun y4=>?_)))
   ·
    replace v0:=ip v0 y4
    refine CS rfl rfl rfl rfl (h_z ?_)
    replace t1:=(((((t1.st d0).st g0).st h0).st i0).st e0).st f0
    replace u1:=(((((u1.st d0).st g0).st h0).st i0).st e0).st f0
    replace v1:=(((((v1.st d0).st g0).st h0).st i0).st e0).st f0
    replace w1:=(((((w1.st d0).st g0).st h0).st i0).st e0).st f0
    replace y1:=(((((y1.st d0).st g0).st h0).st i0).st e0).st f0
    replace z1:=(((((z1.st d0).st g0).st h0).st i0).st e0).st f0
    replace a2:=(a2.st e0).st f0
    obtain ⟨cH,g2,uD,vD,wA⟩:=Ors.shut (x:=(⟨(⟨a0.2.t.vars,a0.2.t.init,a0.2.t.goal,a0.2.t.ops⟩:Tsk),a0.2.gens,a0.2.nodes,a0.2.tab,r0.2.l,a0.2.number⟩:Ors)) (l0:=6) (l1:=9) (l2:=10) (l3:=11) (by decide) e2 t1 u1 v1 w1 y1 v2 z1 a2 w4
    obtain rfl:=sm v0
    exact ⟨(),_,⟨rfl,rfl,rfl,rfl,rfl,rfl,rfl,rfl,trivial⟩,(((((((hB.st o0).st d0).st g0).st h0).st i0).st e0).st f0).st g2,(((((((t0.st o0).st d0).st g0).st h0).st i0).st e0).st f0).st g2,(((((((h9.st o0).st d0).st g0).st h0).st i0).st e0).st f0).st g2,(((((((w0.st o0).st d0).st g0).st h0).st i0).st e0).st f0).st g2,(((((((y0.st o0).st d0).st g0).st h0).st i0).st e0).st f0).st g2,(((((((z0.st o0).st d0).st g0).st h0).st i0).st e0).st f0).st g2,(((((((j0.st o0).st d0).st g0).st h0).st i0).st e0).st f0).st g2,(((((((u0.st o0).st d0).st g0).st h0).st i0).st e0).st f0).st g2,wA,p0.st g2⟩
   replace v0:=im v0 y4
   refine CS rfl rfl rfl rfl (h_z ?_)
   replace t1:=(((((t1.st d0).st g0).st h0).st i0).st e0).st f0
   replace u1:=(((((u1.st d0).st g0).st h0).st i0).st e0).st f0
   replace v1:=(((((v1.st d0).st g0).st h0).st i0).st e0).st f0
   replace w1:=(((((w1.st d0).st g0).st h0).st i0).st e0).st f0
   replace y1:=(((((y1.st d0).st g0).st h0).st i0).st e0).st f0
   replace z1:=(((((z1.st d0).st g0).st h0).st i0).st e0).st f0
   replace a2:=(a2.st e0).st f0
   obtain ⟨dH,h2,wD,xD,xA⟩:=Ors.shut (x:=(⟨(⟨a0.2.t.vars,a0.2.t.init,a0.2.t.goal,a0.2.t.ops⟩:Tsk),a0.2.gens,a0.2.nodes,a0.2.tab,r0.2.l,a0.2.number⟩:Ors)) (l0:=6) (l1:=9) (l2:=10) (l3:=11) (by decide) e2 t1 u1 v1 w1 y1 v2 z1 a2 w4
   obtain rfl:=sm v0
   exact ⟨(),_,⟨rfl,rfl,rfl,rfl,rfl,rfl,rfl,rfl,trivial⟩,(((((((hB.st o0).st d0).st g0).st h0).st i0).st e0).st f0).st h2,(((((((t0.st o0).st d0).st g0).st h0).st i0).st e0).st f0).st h2,(((((((h9.st o0).st d0).st g0).st h0).st i0).st e0).st f0).st h2,(((((((w0.st o0).st d0).st g0).st h0).st i0).st e0).st f0).st h2,(((((((y0.st o0).st d0).st g0).st h0).st i0).st e0).st f0).st h2,(((((((z0.st o0).st d0).st g0).st h0).st i0).st e0).st f0).st h2,(((((((j0.st o0).st d0).st g0).st h0).st i0).st e0).st f0).st h2,(((((((u0.st o0).st d0).st g0).st h0).st i0).st e0).st f0).st h2,xA,p0.st h2⟩
  replace hB:=((((((hB.st o0).st d0).st g0).st h0).st i0).st e0).st f0
  replace h9:=((((((h9.st o0).st d0).st g0).st h0).st i0).st e0).st f0
  replace w0:=((((((w0.st o0).st d0).st g0).st h0).st i0).st e0).st f0
  replace y0:=((((((y0.st o0).st d0).st g0).st h0).st i0).st e0).st f0
  replace z0:=((((((z0.st o0).st d0).st g0).st h0).st i0).st e0).st f0
  replace t0:=((((((t0.st o0).st d0).st g0).st h0).st i0).st e0).st f0
  replace j0:=((((((j0.st o0).st d0).st g0).st h0).st i0).st e0).st f0
  replace u0:=((((((u0.st o0).st d0).st g0).st h0).st i0).st e0).st f0
  rintro eH fH ⟨jA,gH,u6,hB,t0,h9,w0,y0,z0,j0,u0,w6,p0⟩
  refine Bc _ u6 ?_
  refine CC rfl (fun z4=>?_) (fun z4=>?_)
  ·
   replace b0:=ip b0 z4
   refine Dz ?_
   obtain rfl:=sm b0
   exact show Exists _ from ⟨_,(),rfl,⟨rfl,rfl,rfl,rfl,rfl,rfl,trivial⟩,_,hB,t0,h9,w0,y0,z0,j0,u0,w6,w3⟩
  replace b0:=im' b0 z4
  refine AZ (Al ?_)
  obtain ⟨x6,hH,iH,jH,kH,lH,mH,nH,oH,b1,yD,b2,w2,y2,z2,a3,b3,j1,c3,d3,y6⟩:=Ors.opn w6 6 9 10 11 (by decide)
  obtain ⟨pH,qH,rfl⟩:=w2.form
  obtain ⟨rH,sH,rfl⟩:=y2.form
  obtain ⟨tH,uH,rfl⟩:=z2.form
  obtain ⟨vH,wH,rfl⟩:=a3.form
  obtain ⟨xH,yH,rfl⟩:=b3.form
  obtain ⟨zH,aI,rfl⟩:=j1.form
  obtain ⟨bI,rfl⟩:=c3.mptr
  obtain ⟨cI,dI,rfl⟩:=d3.form
  refine Bw [] x6 ?_
  refine AD (fuel:=2) [] [(0,true),(1,true),(2,true),(3,true),(4,true),(5,true),(6,true),(7,true)] (by kernel_rfl) rfl ?_
  refine AW rfl rfl rfl (Dd rfl rfl rfl (AJ rfl rfl rfl (Bb (hc:=fun w' ⟨O',hq⟩=>Blk.cell (i:=5) ((b2.st hq (by decide)).1) rfl) rfl rfl rfl ?_)))
  refine AJ rfl rfl rfl ?_
  replace p0:=p0.st b1
  refine Bb (hc:=fun w' ⟨O',hq⟩=>Blk.cell (i:=2) ((p0.st hq (by decide)).1) rfl) rfl rfl rfl ?_
  obtain ⟨c1,yA,b0⟩:=bs b0
  obtain ⟨zA,aB⟩:=Ba yA
  obtain ⟨eI,fI,zD,z6,a7,b7,c7,gI,hI,rfl,k1,e3,bB,iI,jI⟩:=j1.elemF aB
  obtain ⟨a5,b5,rfl⟩:=k1.form
  obtain ⟨c5,d5,rfl⟩:=e3.form
  refine BC (hA:=z6) (hj:=(Int.toNat_of_nonneg zA).symm) (hlt:=b7) rfl rfl rfl rfl ?_
  refine Df (hl:=rfl) (hb:=fun w' ⟨O',hq⟩=>(Bg (hq.agree (i:=9) (by decide)) a7 c7)) rfl rfl rfl ?_
  refine Au ?_
  refine At (i:=8) (by kernel_rfl) rfl ?_
  refine Bk 13 x6 rfl fun e5 kI y3 m0 d1=>?_
  have hZ:=m0.lst [] (fun _ h=>h.elim)
  refine Az [] hZ (by kernel_rfl) ?_
  refine At (i:=9) (by kernel_rfl) rfl ?_
  refine AA d1 rfl rfl rfl (AG rfl) (allOne rfl) fun z3 n0 d1=>?_
  replace d1:Lc 13 z3 y3 e5 78 [(.slice a5 c1.state.length b5),(.int .i64 c1.cost),(.int .i64 c1.parent),(.int .i64 c1.op),(.slice c5 c1.used.length d5),(.bool c1.fin)]:=d1
  refine Be (by kernel_rfl) ?_
  refine AY (by kernel_rfl) ?_
  refine Al (Al (Aj (AV rfl rfl ?_)))
  replace t0:=((t0.st b1).st m0).st n0
  refine AP (hc:=Blk.cell (i:=2) (t0.1) rfl) rfl rfl ?_
  refine AV rfl rfl (AP (hc:=Blk.cell (i:=0) (d1.1) rfl) rfl rfl ?_)
  obtain ⟨d7,cB,b0⟩:=bs b0
  replace y0:=((y0.st b1).st m0).st n0
  replace k1:=(k1.st m0).st n0
  refine By (O:=y3) (A:=All z3) (R:=fun w' F v=>Vb w' F v d7) (Hk (fun _ h=>h) (Vb.mono (F:=Fr 0 z3 y3) y0 Fr.lt) (Vb.mono (F:=Fr 0 z3 y3) k1 Fr.lt) cB) rfl rfl fun lI mI a4 k0 dB=>?_
  obtain rfl:=dB.bool
  cases d7
  case false =>
   replace b0:=iF b0
   refine o_z ?_
   refine Ae rfl (AZ (Al (Al (Aj (Ar rfl rfl (Ar rfl rfl (Fc rfl rfl rfl (fun f5=>?_) fun f5=>?_)))))))
   ·
    replace b0:=ip b0 f5
    refine o_z ?_
    refine Ah rfl (Al (Aj (Ar rfl rfl (CG rfl rfl rfl ?_))))
    replace j0:=(((j0.st b1).st m0).st n0).st k0
    refine AA j0 rfl rfl rfl (AG rfl) (allOne rfl) fun e7 eB j0=>?_
    replace j0:Lc 3 e7 a4 q1 32 [(.int .i64 3),(.slice none 0 0),(.int .i64 0),(.int .i64 a0.1)]:=j0
    refine Ay rfl rfl (o_z ?_)
    refine AR ?_
    obtain rfl:=sm b0
    obtain rfl:=i1 _ rfl
    obtain rfl:=sm (Cn hm)
    replace hB:=((((hB.st b1).st m0).st n0).st k0).st eB
    exact ret2 rfl (Cg (cs:=[(.int .i64 3),(.slice none 0 0),(.int .i64 0),(.int .i64 a0.1)]) rfl rfl j0.1.cellsAt) (AO rfl) ⟨hB.ext,_,_,rfl,(Vb.mono (F:=Fr 0 e7 a4) (Vb.ofAgg (cs:=[(.int .i64 3),(.slice none 0 0),(.int .i64 0),(.int .i64 a0.1)]) (x:=(⟨3,([]:List Int),0,a0.1⟩:Rsl)) rfl ⟨_,rfl,(Vb.nil _ _),(show inI64 (3) from by decide),(show inI64 0 from by decide),w3⟩) hB.out),(vErr (show inI64 0 from by decide))⟩
   replace b0:=im b0 f5
   refine o_z ?_
   refine Ae rfl (AZ (Al (Aj (Ar rfl rfl ?_))))
   obtain ⟨f7,g7,b0⟩:=bs b0
   have fB:=(BI g7)
   refine Fz (he:=g7) rfl rfl rfl ?_
   refine Ay rfl rfl (o_z ?_)
   refine Al (Bw [] a4 ?_)
   refine AD (fuel:=1) [] [(0,true),(1,true),(2,true),(3,true),(4,true),(5,true),(6,true),(7,true)] (by kernel_rfl) rfl ?_
   refine AW rfl rfl rfl (Dd rfl rfl rfl (AJ rfl rfl rfl ?_))
   replace b2:=((b2.st m0).st n0).st k0
   refine Bb (hc:=fun w' ⟨O',hq⟩=>Blk.cell (i:=5) ((b2.st hq (by decide)).1) rfl) rfl rfl rfl ?_
   refine AJ rfl rfl rfl ?_
   replace p0:=((p0.st m0).st n0).st k0
   refine Bb (hc:=fun w' ⟨O',hq⟩=>Blk.cell (i:=2) ((p0.st hq (by decide)).1) rfl) rfl rfl rfl ?_
   obtain ⟨b4,gB,b0⟩:=bs b0
   obtain ⟨iB,h7⟩:=Ba gB
   replace j1:=((j1.st m0).st n0).st k0
   obtain ⟨nI,oI,aE,j4,bE,i7,cE,pI,qI,rfl,jB,kB,rI,sI,tI⟩:=j1.elemF h7
   obtain ⟨uI,vI,rfl⟩:=jB.form
   obtain ⟨wI,xI,rfl⟩:=kB.form
   refine BC (hA:=j4) (hj:=(Int.toNat_of_nonneg iB).symm) (hlt:=i7) rfl rfl rfl rfl ?_
   refine AJ rfl rfl rfl (Au ?_)
   refine At (i:=8) (by kernel_rfl) rfl ?_
   refine Mr (a:=b4) (a':=({ b4 with fin:=true }:ONd)) (off:=5) j1 j4 h7 rfl rfl rfl (Nat.le_of_ble_eq_true rfl) (by first|exact allOne rfl|simp [Value.cells,Value.oneCell',Kq]) (by rintro ce ⟨yI,zI,rfl,lB,mB,nB,oB,pB⟩;exact ⟨_,_,rfl,lB,mB,nB,oB,pB⟩) fun aJ s0 j1=>?_
   refine Be (by kernel_rfl) ?_
   refine AY (by kernel_rfl) ?_
   refine Al (Aj (Ar rfl rfl (AV rfl rfl ?_)))
   replace d1:=(d1.st k0).st s0
   refine AP (hc:=Blk.cell (i:=0) (d1.1) rfl) rfl rfl ?_
   obtain ⟨f3,qB,b0⟩:=bs b0
   replace u0:=((((u0.st b1).st m0).st n0).st k0).st s0
   replace k1:=(k1.st k0).st s0
   refine Bt (O:=a4) (R:=fun w' F v=>Vb w' F v f3) (ET Fr.lt u0 k1 qB) rfl rfl fun bJ cJ dJ q0 c2=>?_
   obtain ⟨j7,k7,rfl⟩:=c2.form
   refine Bj rfl rfl ?_
   have g5:f3.length≤9223372036854775807:=Nat.le_trans c2.len.2.1 c2.len.2.2
   have eJ:inI64 (f3.length:Int):=rngNat g5
   refine Ar rfl rfl (o_z ?_)
   replace b2:=(b2.st s0).st q0
   replace w2:=((((w2.st m0).st n0).st k0).st s0).st q0
   replace y2:=((((y2.st m0).st n0).st k0).st s0).st q0
   replace z2:=((((z2.st m0).st n0).st k0).st s0).st q0
   replace a3:=((((a3.st m0).st n0).st k0).st s0).st q0
   replace b3:=((((b3.st m0).st n0).st k0).st s0).st q0
   replace j1:=j1.st q0
   replace c3:=((((c3.st m0).st n0).st k0).st s0).st q0
   replace d3:=((((d3.st m0).st n0).st k0).st s0).st q0
   obtain ⟨rB,a1,dE,eE,sB⟩:=Ors.shut (x:=(⟨(⟨(⟨(⟨a0.2.t.vars,a0.2.t.init,a0.2.t.goal,a0.2.t.ops⟩:Tsk),a0.2.gens,a0.2.nodes,a0.2.tab,r0.2.l,a0.2.number⟩:Ors).t.vars,(⟨(⟨a0.2.t.vars,a0.2.t.init,a0.2.t.goal,a0.2.t.ops⟩:Tsk),a0.2.gens,a0.2.nodes,a0.2.tab,r0.2.l,a0.2.number⟩:Ors).t.init,(⟨(⟨a0.2.t.vars,a0.2.t.init,a0.2.t.goal,a0.2.t.ops⟩:Tsk),a0.2.gens,a0.2.nodes,a0.2.tab,r0.2.l,a0.2.number⟩:Ors).t.goal,(⟨(⟨a0.2.t.vars,a0.2.t.init,a0.2.t.goal,a0.2.t.ops⟩:Tsk),a0.2.gens,a0.2.nodes,a0.2.tab,r0.2.l,a0.2.number⟩:Ors).t.ops⟩:Tsk),(⟨(⟨a0.2.t.vars,a0.2.t.init,a0.2.t.goal,a0.2.t.ops⟩:Tsk),a0.2.gens,a0.2.nodes,a0.2.tab,r0.2.l,a0.2.number⟩:Ors).gens,(((⟨(⟨a0.2.t.vars,a0.2.t.init,a0.2.t.goal,a0.2.t.ops⟩:Tsk),a0.2.gens,a0.2.nodes,a0.2.tab,r0.2.l,a0.2.number⟩:Ors).nodes).set (r0.1.x.node:Int).toNat ({ b4 with fin:=true }:ONd)),(⟨(⟨a0.2.t.vars,a0.2.t.init,a0.2.t.goal,a0.2.t.ops⟩:Tsk),a0.2.gens,a0.2.nodes,a0.2.tab,r0.2.l,a0.2.number⟩:Ors).tab,(⟨(⟨a0.2.t.vars,a0.2.t.init,a0.2.t.goal,a0.2.t.ops⟩:Tsk),a0.2.gens,a0.2.nodes,a0.2.tab,r0.2.l,a0.2.number⟩:Ors).open_,(⟨(⟨a0.2.t.vars,a0.2.t.init,a0.2.t.goal,a0.2.t.ops⟩:Tsk),a0.2.gens,a0.2.nodes,a0.2.tab,r0.2.l,a0.2.number⟩:Ors).number⟩:Ors)) (l0:=6) (l1:=9) (l2:=10) (l3:=11) (by decide) (by have q:=b2;rw [← ((by simp:(((⟨(⟨a0.2.t.vars,a0.2.t.init,a0.2.t.goal,a0.2.t.ops⟩:Tsk),a0.2.gens,a0.2.nodes,a0.2.tab,r0.2.l,a0.2.number⟩:Ors).nodes).set (r0.1.x.node:Int).toNat ({ b4 with fin:=true }:ONd)).length=((⟨(⟨a0.2.t.vars,a0.2.t.init,a0.2.t.goal,a0.2.t.ops⟩:Tsk),a0.2.gens,a0.2.nodes,a0.2.tab,r0.2.l,a0.2.number⟩:Ors).nodes).length).trans rfl)] at q;exact q) w2 y2 z2 a3 b3 j1.relen c3 d3 y6
   obtain ⟨h5,l7,b0⟩:=bs b0
   refine AU (aft h5 (fun (m3:Ors) (c4:Unit)=>[(2,(.int .i64 x2)),(3,(.pointer (some ⟨i3,0,none⟩))),(6,(.pointer (some ⟨q1,0,none⟩))),(11,(.pointer u2)),(13,(.pointer (some ⟨p1,0,none⟩))),(15,(.int .i64 f7))]) (fun m3 c4 w'=>∃ O':Lab,Bs w A w' O'∧Lc 2 w' O' i3 26 [(.slice j2 x0.vars.length k2),(.slice m2 x0.init.length n2),(.slice o2 x0.goal.length p2),(.slice q2 x0.ops.length r2)]∧Vb w' (Fr 0 w' O') (.slice j2 x0.vars.length k2) x0.vars∧Vb w' (Fr 0 w' O') (.slice m2 x0.init.length n2) x0.init∧Vb w' (Fr 0 w' O') (.slice o2 x0.goal.length p2) x0.goal∧Vb w' (Fr 0 w' O') (.slice q2 x0.ops.length r2) x0.ops∧Lc 3 w' O' q1 32 [(.int .i64 0),(.slice none 0 0),(.int .i64 0),(.int .i64 0)]∧Vb w' (Fr 0 w' O') (.pointer u2) n3.1∧Ob 6 w' O' (.pointer (some ⟨p1,0,none⟩)) m3)) ?_ ?_
   ·
    refine Bf ?_
    replace hB:=((((((hB.st b1).st m0).st n0).st k0).st s0).st q0).st a1
    replace h9:=((((((h9.st b1).st m0).st n0).st k0).st s0).st q0).st a1
    replace w0:=((((((w0.st b1).st m0).st n0).st k0).st s0).st q0).st a1
    replace y0:=(((y0.st k0).st s0).st q0).st a1
    replace z0:=((((((z0.st b1).st m0).st n0).st k0).st s0).st q0).st a1
    replace t0:=(((t0.st k0).st s0).st q0).st a1
    replace j0:=((((((j0.st b1).st m0).st n0).st k0).st s0).st q0).st a1
    replace u0:=(u0.st q0).st a1
    replace p0:=((p0.st s0).st q0).st a1
    replace k1:=(k1.st q0).st a1
    replace e3:=(((((e3.st m0).st n0).st k0).st s0).st q0).st a1
    replace d1:=(d1.st q0).st a1
    replace c2:=c2.st a1
    refine BS (σ:=Ors) (X:=Unit) (f3.length) l7 rfl g5 (fun (m3:Ors) (c4:Unit)=>[(2,(.int .i64 x2)),(3,(.pointer (some ⟨i3,0,none⟩))),(6,(.pointer (some ⟨q1,0,none⟩))),(11,(.pointer u2)),(13,(.pointer (some ⟨p1,0,none⟩))),(15,(.int .i64 f7)),(16,(.pointer (some ⟨p3,0,none⟩))),(18,(.pointer (some ⟨e5,0,none⟩))),(156,(.slice j7 f3.length k7))]) _ (fun m3 c4 w'=>∃ O':Lab,Bs w A w' O'∧Lc 2 w' O' i3 26 [(.slice j2 x0.vars.length k2),(.slice m2 x0.init.length n2),(.slice o2 x0.goal.length p2),(.slice q2 x0.ops.length r2)]∧Vb w' (Fr 0 w' O') (.slice j2 x0.vars.length k2) x0.vars∧Vb w' (Fr 0 w' O') (.slice m2 x0.init.length n2) x0.init∧Vb w' (Fr 0 w' O') (.slice o2 x0.goal.length p2) x0.goal∧Vb w' (Fr 0 w' O') (.slice q2 x0.ops.length r2) x0.ops∧Lc 3 w' O' q1 32 [(.int .i64 0),(.slice none 0 0),(.int .i64 0),(.int .i64 0)]∧Vb w' (Fr 0 w' O') (.pointer u2) n3.1∧Ob 6 w' O' (.pointer (some ⟨p1,0,none⟩)) m3∧Lc 12 w' O' p3 73 [(.int .i64 r0.1.x.cost),(.int .i64 r0.1.x.number),(.int .i64 r0.1.x.node)]∧Lc 13 w' O' e5 78 [(.slice a5 c1.state.length b5),(.int .i64 c1.cost),(.int .i64 c1.parent),(.int .i64 c1.op),(.slice c5 c1.used.length d5),(.bool c1.fin)]∧Vb w' (Fr 0 w' O') (.slice a5 c1.state.length b5) c1.state∧Vb w' (Fr 0 w' O') (.slice c5 c1.used.length d5) c1.used∧Vb w' (Fr 0 w' O') (.slice j7 f3.length k7) f3) _ () ⟨rB,hB,t0,h9,w0,y0,z0,j0,u0,sB,p0,d1,k1,e3,c2⟩ ⟨rfl,rfl,rfl,rfl,rfl,rfl,rfl,rfl,rfl,rfl,rfl,trivial⟩ (fun _ _=>⟨rfl,rfl⟩) (fun _ _=>⟨rfl,rfl,rfl,rfl,rfl,rfl,trivial⟩) (fun _ _ _ ⟨O',hB,t0,h9,w0,y0,z0,j0,u0,g3,p0,d1,k1,e3,c2⟩=>⟨O',hB,t0,h9,w0,y0,z0,j0,u0,g3⟩) ⟨rfl,rfl,rfl⟩ ⟨rfl,rfl⟩ ?_
    rintro tB m7 m3 c4 fJ fE k4 ⟨uB,hB,t0,h9,w0,y0,z0,j0,u0,g3,p0,d1,k1,e3,c2⟩ e1 d4 j8
    have rk460:inI64 (tB:Int):=rngK k4 g5
    refine Al (Aj ?_)
    obtain ⟨gJ,hJ,gE,n7,o7,p7,iJ,rfl,e4,vB⟩:=c2.elem' k4
    obtain ⟨wB,xB,rfl⟩:=e4.form
    refine BB (hA:=n7) (hj:=rfl) (hlt:=o7) rfl rfl rfl ?_
    refine Br (hl:=rfl) (hc:=p7) rfl rfl ?_
    refine Bk 14 uB rfl fun yB jJ i5 f1 h3=>?_
    refine AA h3 rfl rfl rfl (AG rfl) (allOne rfl) fun zB g1 h3=>?_
    replace h3:Lc 14 zB i5 yB 85 [(.int .i64 m7.op),(.slice wB m7.state.length xB)]:=h3
    refine o_z ?_
    refine Al (Bw [(17,[6])] i5 ?_)
    refine AD (fuel:=2) [] [(0,true),(1,true),(2,true),(3,true),(4,true),(5,true),(6,true),(7,true),(8,true),(9,true),(10,true),(11,true),(12,true),(13,true),(14,true),(15,true),(16,true)] (by kernel_rfl) rfl ?_
    refine AW rfl rfl rfl (AJ rfl rfl rfl (Bb (hc:=fun w' ⟨O',hq⟩=>Blk.cell (i:=1) ((h3.st hq (by decide)).1) rfl) rfl rfl rfl ?_))
    refine AJ rfl rfl rfl ?_
    replace d1:=(d1.st f1).st g1
    refine Bb (hc:=fun w' ⟨O',hq⟩=>Blk.cell (i:=1) ((d1.st hq (by decide)).1) rfl) rfl rfl rfl ?_
    refine AJ rfl rfl rfl ?_
    replace t0:=(t0.st f1).st g1
    refine Bb (hc:=fun w' ⟨O',hq⟩=>Blk.cell (i:=3) ((t0.st hq (by decide)).1) rfl) rfl rfl rfl ?_
    refine AJ rfl rfl rfl (Bb (hc:=fun w' ⟨O',hq⟩=>Blk.cell (i:=0) ((h3.st hq (by decide)).1) rfl) rfl rfl rfl ?_)
    obtain ⟨kJ,aC,e1⟩:=bs e1
    obtain ⟨bC,cC⟩:=Ba aC
    replace z0:=(z0.st f1).st g1
    obtain ⟨lJ,mJ,iE,q7,r7,s7,t7,nJ,oJ,rfl,dC,eC,pJ,qJ⟩:=z0.elem cC
    obtain ⟨rJ,sJ,rfl⟩:=dC.form
    obtain ⟨tJ,uJ,rfl⟩:=eC.form
    refine BC (hA:=q7) (hj:=(Int.toNat_of_nonneg bC).symm) (hlt:=s7) rfl rfl rfl rfl ?_
    refine AJ rfl rfl rfl (Bb (hc:=fun w' ⟨O',hq⟩=>cat1 (Bg (hq.agree (i:=0) (by decide)) r7 t7)) rfl rfl rfl ?_)
    obtain ⟨vJ,u7,e1⟩:=bs e1
    have fC:=(BI u7)
    refine IL (he:=u7) rfl rfl rfl rfl ?_
    refine AJ rfl rfl rfl ?_
    replace p0:=(p0.st f1).st g1
    refine Bb (hc:=fun w' ⟨O',hq⟩=>Blk.cell (i:=2) ((p0.st hq (by decide)).1) rfl) rfl rfl rfl ?_
    refine AJ rfl rfl rfl (Bb (hc:=fun w' ⟨O',hq⟩=>Blk.cell (i:=0) ((h3.st hq (by decide)).1) rfl) rfl rfl rfl ?_)
    refine Au ?_
    refine At (i:=17) (by kernel_rfl) rfl ?_
    obtain ⟨wJ,gC,e1⟩:=bs e1
    replace g3:=(g3.st f1).st g1
    replace e4:=(e4.st f1).st g1
    refine EJ (O:=i5) (Fj g3 e4 fC l6 vB gC) rfl rfl fun xJ yJ w7 h1 hC=>?_
    obtain ⟨iC,jC⟩:=hC
    obtain ⟨rfl,kC⟩:=jC.err
    have hZ:=h1.lst [6] (fun _ h=>by cases h;decide)
    refine Az [] hZ (by kernel_rfl) ?_
    refine AD (fuel:=0) [] [(18,true)] (by kernel_rfl) rfl ?_
    refine EC rfl rfl rfl (Au ?_)
    refine AY (by kernel_rfl) ?_
    refine Al (Aj (Ar rfl rfl (Ej rfl rfl (fun j5=>?_) fun j5=>?_)))
    ·
     replace e1:=ip e1 j5
     refine o_z ?_
     refine Ah rfl (Al (Aj (CG rfl rfl rfl ?_)))
     refine Ar rfl rfl ?_
     replace j0:=((j0.st f1).st g1).st h1
     refine AA j0 rfl rfl rfl (AG rfl) (allOne rfl) fun x7 lC j0=>?_
     replace j0:Lc 3 x7 w7 q1 32 [(.int .i64 0),(.slice none 0 0),(.int .i64 0),(.int .i64 0)]:=j0
     refine Ay rfl rfl (o_z ?_)
     refine AR ?_
     obtain rfl:=sm e1
     obtain rfl:=d4 _ rfl
     obtain rfl:=sm (Cn b0)
     obtain rfl:=i1 _ rfl
     obtain rfl:=sm (Cn hm)
     replace hB:=(((hB.st f1).st g1).st h1).st lC
     exact ret2 rfl (Cg (cs:=[(.int .i64 0),(.slice none 0 0),(.int .i64 0),(.int .i64 0)]) rfl rfl j0.1.cellsAt) (AO rfl) ⟨hB.ext,_,_,rfl,(Vb.mono (F:=Fr 0 x7 w7) (Vb.ofAgg (cs:=[(.int .i64 0),(.slice none 0 0),(.int .i64 0),(.int .i64 0)]) (x:=(⟨0,([]:List Int),0,0⟩:Rsl)) rfl ⟨_,rfl,(Vb.nil _ _),(show inI64 0 from by decide),(show inI64 0 from by decide),(show inI64 0 from by decide)⟩) hB.out),(vErr kC)⟩
    replace e1:=im e1 j5
    refine o_z ?_
    refine Ae rfl (AZ ?_)
    obtain rfl:=sm e1
    exact show Exists _ from ⟨_,(),rfl,⟨rfl,rfl,rfl,rfl,rfl,rfl,rfl,rfl,rfl,rfl,rfl,trivial⟩,_,((hB.st f1).st g1).st h1,t0.st h1,((h9.st f1).st g1).st h1,((w0.st f1).st g1).st h1,((y0.st f1).st g1).st h1,z0.st h1,((j0.st f1).st g1).st h1,((u0.st f1).st g1).st h1,iC,p0.st h1,d1.st h1,((k1.st f1).st g1).st h1,((e3.st f1).st g1).st h1,((c2.st f1).st g1).st h1⟩
   replace hB:=((((((hB.st b1).st m0).st n0).st k0).st s0).st q0).st a1
   replace h9:=((((((h9.st b1).st m0).st n0).st k0).st s0).st q0).st a1
   replace w0:=((((((w0.st b1).st m0).st n0).st k0).st s0).st q0).st a1
   replace y0:=(((y0.st k0).st s0).st q0).st a1
   replace z0:=((((((z0.st b1).st m0).st n0).st k0).st s0).st q0).st a1
   replace t0:=(((t0.st k0).st s0).st q0).st a1
   replace j0:=((((((j0.st b1).st m0).st n0).st k0).st s0).st q0).st a1
   replace u0:=(u0.st q0).st a1
   rintro zJ aK ⟨bK,cK,rfl,d2,dK,hB,t0,h9,w0,y0,z0,j0,u0,g3⟩
   replace b0:=Bq b0
   obtain rfl:=sm b0
   exact show Exists _ from ⟨_,(),rfl,⟨(CV d2 _ _ rfl),(CV d2 _ _ rfl),(CV d2 _ _ rfl),(CV d2 _ _ rfl),(CV d2 _ _ rfl),(CV d2 _ _ rfl),trivial⟩,_,hB,t0,h9,w0,y0,z0,j0,u0,g3,fB⟩
  replace b0:=iT b0
  refine o_z ?_
  refine Ah rfl (Al (Aj (Ar rfl rfl (AV rfl rfl ?_))))
  replace p0:=((p0.st m0).st n0).st k0
  refine AP (hc:=Blk.cell (i:=2) (p0.1) rfl) rfl rfl ?_
  replace b2:=((b2.st m0).st n0).st k0
  replace w2:=((w2.st m0).st n0).st k0
  replace y2:=((y2.st m0).st n0).st k0
  replace z2:=((z2.st m0).st n0).st k0
  replace a3:=((a3.st m0).st n0).st k0
  replace b3:=((b3.st m0).st n0).st k0
  replace j1:=((j1.st m0).st n0).st k0
  replace c3:=((c3.st m0).st n0).st k0
  replace d3:=((d3.st m0).st n0).st k0
  obtain ⟨mC,r3,jE,kE,nC⟩:=Ors.shut (x:=(⟨(⟨a0.2.t.vars,a0.2.t.init,a0.2.t.goal,a0.2.t.ops⟩:Tsk),a0.2.gens,a0.2.nodes,a0.2.tab,r0.2.l,a0.2.number⟩:Ors)) (l0:=6) (l1:=9) (l2:=10) (l3:=11) (by decide) b2 w2 y2 z2 a3 b3 j1 c3 d3 y6
  obtain ⟨f4,oC,b0⟩:=bs b0
  refine EJ (O:=mC) (Ha nC l6 oC) rfl rfl fun eK fK g4 s3 pC=>?_
  obtain ⟨gK,hK,iK,rfl,h4,qC⟩:=pC
  obtain ⟨k5,l5,rfl⟩:=h4.form
  obtain ⟨rfl,rC⟩:=qC.err
  refine Ar rfl rfl (Cy rfl rfl rfl (Cy rfl rfl rfl (Ay rfl rfl (Ay rfl rfl (o_z ?_)))))
  refine Al (Al (Aj (Ar rfl rfl (Ej rfl rfl (fun m5=>?_) fun m5=>?_))))
  ·
   replace b0:=ip b0 m5
   refine o_z ?_
   refine Ah rfl (Al (Aj (CG rfl rfl rfl ?_)))
   refine Ar rfl rfl ?_
   replace j0:=(((((j0.st b1).st m0).st n0).st k0).st r3).st s3
   refine AA j0 rfl rfl rfl (AG rfl) (allOne rfl) fun y7 sC j0=>?_
   replace j0:Lc 3 y7 g4 q1 32 [(.int .i64 0),(.slice none 0 0),(.int .i64 0),(.int .i64 0)]:=j0
   refine Ay rfl rfl (o_z ?_)
   refine AR ?_
   obtain rfl:=sm b0
   obtain rfl:=i1 _ rfl
   obtain rfl:=sm (Cn hm)
   replace hB:=((((((hB.st b1).st m0).st n0).st k0).st r3).st s3).st sC
   exact ret2 rfl (Cg (cs:=[(.int .i64 0),(.slice none 0 0),(.int .i64 0),(.int .i64 0)]) rfl rfl j0.1.cellsAt) (AO rfl) ⟨hB.ext,_,_,rfl,(Vb.mono (F:=Fr 0 y7 g4) (Vb.ofAgg (cs:=[(.int .i64 0),(.slice none 0 0),(.int .i64 0),(.int .i64 0)]) (x:=(⟨0,([]:List Int),0,0⟩:Rsl)) rfl ⟨_,rfl,(Vb.nil _ _),(show inI64 0 from by decide),(show inI64 0 from by decide),(show inI64 0 from by decide)⟩) hB.out),(vErr rC)⟩
  replace b0:=im b0 m5
  refine o_z ?_
  refine Ae rfl (AZ (Al (Aj (Ar rfl rfl (AV rfl rfl ?_)))))
  replace d1:=((d1.st k0).st r3).st s3
  refine AP (hc:=Blk.cell (i:=1) (d1.1) rfl) rfl rfl ?_
  refine Ar rfl rfl (CG rfl rfl rfl ?_)
  replace j0:=(((((j0.st b1).st m0).st n0).st k0).st r3).st s3
  refine AA j0 rfl rfl rfl (AG rfl) (allOne rfl) fun z7 a8 j0=>?_
  replace j0:Lc 3 z7 g4 q1 32 [(.int .i64 1),(.slice k5 f4.1.length l5),(.int .i64 c1.cost),(.int .i64 a0.1)]:=j0
  refine Ay rfl rfl (o_z ?_)
  refine AR ?_
  obtain rfl:=sm b0
  obtain rfl:=i1 _ rfl
  obtain rfl:=sm (Cn hm)
  replace hB:=((((((hB.st b1).st m0).st n0).st k0).st r3).st s3).st a8
  replace h4:=h4.st a8
  exact ret2 rfl (Cg (cs:=[(.int .i64 1),(.slice k5 f4.1.length l5),(.int .i64 c1.cost),(.int .i64 a0.1)]) rfl rfl j0.1.cellsAt) (AO rfl) ⟨hB.ext,_,_,rfl,(Vb.mono (F:=Fr 0 z7 g4) (Vb.ofAgg (cs:=[(.int .i64 1),(.slice k5 f4.1.length l5),(.int .i64 c1.cost),(.int .i64 a0.1)]) (x:=(⟨1,f4.1,c1.cost,a0.1⟩:Rsl)) rfl ⟨_,rfl,h4,(show inI64 (1) from by decide),bB,w3⟩) hB.out),(vErr (show inI64 0 from by decide))⟩
 rintro jK kK ⟨lK,mK,_,_,hE⟩
 exact hE.elim
end
section
open Go Go.RowKit
inductive PlanR (t:Tsk):List Int→List Int→List Int→Int→Prop
  | nil {s:List Int}:PlanR t s [] s 0
  | cons {s rest s':List Int} {k:Nat} {o:Opr} {C:Int}:t.ops[k]?=some o→holdsB o.pre s=true→PlanR t (succ o s) rest s' C→PlanR t s ((k:Int) :: rest) s' (o.cost + C)
theorem MF (f:List Fct) (s:List Int):DN f s=some (holdsB f s):=rfl
theorem MG {t:Tsk} (h:TaskOk t) {s plan s':List Int} {C:Int} (hr:PlanR t s plan s' C):∀ (j:Nat) (c:Int),StateOk t.vars s→0≤c→c + plan.length * 1048576≤1000000000000000 →
    rng (ρ:=Int×Bool) (fun (_:Nat) (a34:Int) (s31:(List Int)×Int)=>bnd (CI t s31.1 a34) fun q56=>if (!q56.2)=true then (some (.ret (0,false))) else (bnd (atI t.ops a34) fun a70=>bnd (chkI (s31.2 + a70.cost)) fun n91=>some (.next (q56.1,n91)))) plan j (s,c)=some (.done (s',c + C)):=by
  induction hr with
  | nil=>intro j c _ _ _;simp [rng]
  | @cons s rest s' k o C ho hp hr ih =>
    intro j c hs hc hb
    simp only [List.length_cons] at hb
    have hoo:=h.2.2.2.2.2 k o ho
    have h1:=hoo.1
    have h2:=hoo.2.1
    have e2:(bnd (CI t s (k:Int)) fun q56=>if (!q56.2)=true then (some (.ret (0,false))) else (bnd (atI t.ops (k:Int)) fun a70=>bnd (chkI (c + a70.cost)) fun n91=>some (.next (q56.1,n91))):Option (Ctl (List Int×Int) (Int×Bool)))=some (.next (succ o s,c + o.cost)):=by
      rw [ME h hs ho,if_pos hp,Am,if_neg (by simp),Bi,ho,Am,Ci (by unfold inI64;omega),Am]
    simp only [rng,e2]
    rw [ih (j + 1) (c + o.cost) (EM h hs ho) (by omega) (by omega),Int.add_assoc]
theorem OE {t:Tsk} (h:TaskOk t) {s plan s':List Int} {C:Int} (hs:StateOk t.vars s) (hr:PlanR t s plan s' C) (hl:plan.length≤1000):Ex t s plan=some (C,holdsB t.goal s'):=by
  unfold Ex
  rw [MG h hr 0 0 hs (by omega) (by omega),Am,BW,GH,Am,Int.zero_add]
  cases holdsB t.goal s'<;>rfl
end
section
section
variable {α σ ρ β : Type}
theorem LE {f:σ→Option (Ctl σ ρ)} (I:σ→Prop) (B:σ→Prop) (R:ρ→Prop) (μ:σ→Nat) (h:∀ s,I s→(∃ s',f s=some (.next s')∧I s'∧μ s' < μ s)∨(∃ s',f s=some (.brk s')∧B s')∨∃ r,f s=some (.ret r)∧R r) :
    ∀ s,I s→(∃ s',lop f s=some (.done s')∧B s')∨∃ r,lop f s=some (.ret r)∧R r:=by
  have key:∀ (n:Nat) s,I s→μ s < n→(∃ s',lop f s=some (.done s')∧B s')∨∃ r,lop f s=some (.ret r)∧R r:=by
    intro n
    induction n with
    | zero=>intro s _ hn;omega
    | succ n ih =>
      intro s hI hn
      rw [CN]
      rcases h s hI with ⟨s',h1,h2,h3⟩|⟨s',h1,h2⟩|⟨r,h1,h2⟩
      · rw [h1];exact ih s' h2 (by omega)
      · rw [h1];exact .inl ⟨s',rfl,h2⟩
      · rw [h1];exact .inr ⟨r,rfl,h2⟩
  exact fun s hI=>key (μ s + 1) s hI (by omega)
theorem MH {f:σ→Option (Ctl σ ρ)} {s₀:σ} {k:Fin σ ρ→Option β} {P:β→Prop} (I:σ→Prop) (B:σ→Prop) (R:ρ→Prop) (μ:σ→Nat) (h0:I s₀)
    (h:∀ s,I s→(∃ s',f s=some (.next s')∧I s'∧μ s' < μ s)∨(∃ s',f s=some (.brk s')∧B s')∨∃ r,f s=some (.ret r)∧R r)
    (hb:∀ s,B s→∃ r,k (.done s)=some r∧P r) (hr:∀ q,R q→∃ r,k (.ret q)=some r∧P r):∃ r,bnd (lop f s₀) k=some r∧P r:=by
  rcases LE I B R μ h s₀ h0 with ⟨s,h1,h2⟩|⟨q,h1,h2⟩
  · rw [h1,Am];exact hb s h2
  · rw [h1,Am];exact hr q h2
theorem OF {f:σ→Option (Ctl σ ρ)} {s₀:σ} {k:Fin σ ρ→Option β} {r:Option β} (I:σ→Prop) (B:σ→Prop) (μ:σ→Nat) (h0:I s₀)
    (h:∀ s,I s→(∃ s',f s=some (.next s')∧I s'∧μ s' < μ s)∨(∃ s',f s=some (.brk s')∧B s')) (hb:∀ s,B s→k (.done s)=r):bnd (lop f s₀) k=r:=by
  rcases LE I B (fun _=>False) μ (fun s hI=>(h s hI).imp id .inl) s₀ h0 with ⟨s,h1,h2⟩|⟨q,_,h2⟩
  · rw [h1,Am];exact hb s h2
  · exact h2.elim
theorem KG {f:Nat→α→σ→Option (Ctl σ ρ)} {xs:List α} {s₀:σ} {k:Fin σ ρ→Option β} {P:β→Prop} (I:Nat→σ→Prop) (R:ρ→Prop) (h0:I 0 s₀)
    (h:∀ i x s,xs[i]?=some x→I i s→(∃ s',f i x s=some (.next s')∧I (i + 1) s')∨∃ q,f i x s=some (.ret q)∧R q)
    (hb:∀ s,I xs.length s→∃ r,k (.done s)=some r∧P r) (hr:∀ q,R q→∃ r,k (.ret q)=some r∧P r):∃ r,bnd (rng f xs 0 s₀) k=some r∧P r:=by
  have key:∀ (ys:List α) (j:Nat) (s:σ),(∀ i,ys[i]?=xs[j + i]?)→j + ys.length=xs.length→I j s→∃ r,bnd (rng f ys j s) k=some r∧P r:=by
    intro ys
    induction ys with
    | nil=>intro j s _ hl hI;exact hb s (by simp at hl;rw [← hl];exact hI)
    | cons y ys ih =>
      intro j s hg hl hI
      have hy:xs[j]?=some y:=by have:=hg 0;simpa using this.symm
      simp only [rng]
      rcases h j y s hy hI with ⟨s',h1,h2⟩|⟨q,h1,h2⟩
      · rw [h1]
        exact ih (j + 1) s' (fun i=>by have:=hg (i + 1);rw [show j + 1 + i=j + (i + 1) from by omega,← this];simp) (by simp at hl;omega) h2
      · rw [h1,Am];exact hr q h2
  exact key xs 0 s₀ (fun i=>by rw [Nat.zero_add]) (by omega) h0
theorem OG {f:Nat→α→σ→Option (Ctl σ ρ)} {xs:List α} {s₀:σ} {k:Fin σ ρ→Option β} {r:Option β} (I:Nat→σ→Prop) (h0:I 0 s₀)
    (h:∀ i x s,xs[i]?=some x→I i s→∃ s',f i x s=some (.next s')∧I (i + 1) s') (hb:∀ s,I xs.length s→k (.done s)=r):bnd (rng f xs 0 s₀) k=r:=by
  obtain ⟨s,h1,h2⟩:=DP I h0 h
  rw [h1,Am]
  exact hb s h2
end
end
section
open Go Go.RowKit
inductive Walk (t:Tsk):List Int→Int→Prop
  | goal {s:List Int}:holdsB t.goal s=true→Walk t s 0
  | step {s:List Int} {k:Nat} {o:Opr} {c:Int}:t.ops[k]?=some o→holdsB o.pre s=true→Walk t (succ o s) c→Walk t s (c + o.cost)
def Inf:Int:=1125899906842624
theorem NA {α:Type} {l:List α} {k:Nat} {x y:α} (h:l[k]?=some x):y∈l.take (k + 1)↔y∈l.take k∨y=x:=by
  rw [List.take_add_one,h,List.mem_append];simp
end
section
open Go Go.RowKit
structure QEn where
  key:Int
  tie:Int
  item:Int
  number:Int
theorem JH {α:Type} {l:List α} {m i:Nat} {x:α} (h:(l.take m)[i]?=some x):l[i]?=some x:=by
  by_cases hi:i < m
  · rwa [List.getElem?_take_of_lt hi] at h
  · rw [List.getElem?_take_eq_none (by omega)] at h;cases h
def bfr (x y:QEn):Prop:=x.key < y.key∨(x.key=y.key∧(x.tie < y.tie∨(x.tie=y.tie∧x.number < y.number)))
instance (x y:QEn):Decidable (bfr x y):=by unfold bfr;infer_instance
def nb (x y:QEn):Prop:=¬ bfr x y
theorem GI {x y z:QEn} (h1:nb x y) (h2:nb y z):nb x z:=by unfold nb bfr at *;omega
theorem Ka {x y:QEn} (h:bfr x y):nb y x:=by unfold nb bfr at *;omega
theorem IV (x:QEn):nb x x:=by unfold nb bfr;omega
theorem MI {x y:QEn} (h:nb x y):y.key≤x.key:=by unfold nb bfr at h;omega
def HeapOk (l:List QEn):Prop:=∀ (j:Nat) x y,0 < j→l[j]?=some x→l[(j - 1) / 2]?=some y→nb x y
def Over (l:List QEn) (i:Nat):Prop:=∀ (j:Nat) x y,0 < i→0 < j→(j - 1) / 2=i→l[j]?=some x→l[(i - 1) / 2]?=some y→nb x y
def UpI (l:List QEn) (i:Nat):Prop:=(∀ (j:Nat) x y,0 < j→j≠i→l[j]?=some x→l[(j - 1) / 2]?=some y→nb x y)∧Over l i
def DownI (l:List QEn) (i:Nat):Prop:=(∀ (j:Nat) x y,0 < j→(j - 1) / 2≠i→l[j]?=some x→l[(j - 1) / 2]?=some y→nb x y)∧Over l i
theorem Gu {l:List QEn} {i j:Nat} {a b:QEn} (hi:l[i]?=some a) (hj:l[j]?=some b) (hne:i≠j) (k:Nat):((l.set i b).set j a)[k]?=if k=j then some a else if k=i then some b else l[k]?:=by
  by_cases h1:k=j
  · subst h1;rw [if_pos rfl,List.getElem?_set_self (by simpa using AL hj)]
  · rw [if_neg h1,List.getElem?_set_ne (by omega)]
    by_cases h2:k=i
    · subst h2;rw [if_pos rfl,List.getElem?_set_self (AL hi)]
    · rw [if_neg h2,List.getElem?_set_ne (by omega)]
theorem KH {l:List QEn} {i j:Nat} {a b:QEn} (hi:l[i]?=some a) (hj:l[j]?=some b):((l.set i b).set j a).Perm l:=by
  have h1:=AL hi
  have h2:=AL hj
  have e1:l[i]=a:=by rw [List.getElem?_eq_getElem h1] at hi;exact Option.some.inj hi
  have e2:l[j]=b:=by rw [List.getElem?_eq_getElem h2] at hj;exact Option.some.inj hj
  rw [← e1,← e2]
  exact List.set_set_perm h1 h2
theorem UpI.step {l:List QEn} {i:Nat} {a b:QEn} (h:UpI l i) (h0:0 < i) (hi:l[i]?=some a) (hj:l[(i - 1) / 2]?=some b) (hb:bfr a b):UpI ((l.set i b).set ((i - 1) / 2) a) ((i - 1) / 2):=by
  have hne:i≠(i - 1) / 2:=by omega
  constructor
  · intro j x y hj0 hjp hx hy
    rw [Gu hi hj hne,if_neg hjp] at hx
    rw [Gu hi hj hne] at hy
    by_cases e1:j=i
    · subst e1
      rw [if_pos rfl] at hx hy
      obtain rfl:=Option.some.inj hx
      obtain rfl:=Option.some.inj hy
      exact Ka hb
    · rw [if_neg e1] at hx
      by_cases e2:(j - 1) / 2=(i - 1) / 2
      · rw [if_pos e2] at hy
        obtain rfl:=Option.some.inj hy
        have:=h.1 j x b hj0 e1 hx (by rw [e2];exact hj)
        exact GI this (Ka hb)
      · rw [if_neg e2] at hy
        by_cases e3:(j - 1) / 2=i
        · rw [if_pos e3] at hy
          obtain rfl:=Option.some.inj hy
          exact h.2 j x b h0 hj0 e3 hx hj
        · rw [if_neg e3] at hy
          exact h.1 j x y hj0 e1 hx hy
  · intro j x y hp0 hj0 hjp hx hy
    rw [Gu hi hj hne] at hx hy
    have n1:((i - 1) / 2 - 1) / 2≠(i - 1) / 2:=by omega
    have n2:((i - 1) / 2 - 1) / 2≠i:=by omega
    rw [if_neg n1,if_neg n2] at hy
    have hpp:=h.1 ((i - 1) / 2) b y hp0 (by omega) hj hy
    rw [if_neg (by omega)] at hx
    by_cases e1:j=i
    · subst e1
      rw [if_pos rfl] at hx
      obtain rfl:=Option.some.inj hx
      exact hpp
    · rw [if_neg e1] at hx
      exact GI (h.1 j x b hj0 e1 hx (by rw [hjp];exact hj)) hpp
theorem UpI.heap {l:List QEn} {i:Nat} (h:UpI l i) (hi:i=0∨∀ x y,l[i]?=some x→l[(i - 1) / 2]?=some y→nb x y):HeapOk l:=fun j x y hj hx hy=>by
  by_cases e:j=i
  · subst e
    rcases hi with h0|h1
    · omega
    · exact h1 x y hx hy
  · exact h.1 j x y hj e hx hy
theorem DownI.step {l:List QEn} {i c:Nat} {a b:QEn} (h:DownI l i) (hc:c=2 * i + 1∨c=2 * i + 2) (hi:l[i]?=some a) (hj:l[c]?=some b) (hb:bfr b a) (hs:∀ (j:Nat) x,0 < j→(j - 1) / 2=i→l[j]?=some x→nb x b):DownI ((l.set i b).set c a) c:=by
  have hne:i≠c:=by omega
  have hcp:(c - 1) / 2=i:=by omega
  constructor
  · intro j x y hj0 hjp hx hy
    rw [Gu hi hj hne] at hx hy
    rw [if_neg hjp] at hy
    by_cases e1:j=c
    · subst e1
      rw [if_pos rfl] at hx
      rw [if_pos hcp] at hy
      obtain rfl:=Option.some.inj hx
      obtain rfl:=Option.some.inj hy
      exact Ka hb
    · rw [if_neg e1] at hx
      by_cases e2:j=i
      · subst e2
        rw [if_pos rfl] at hx
        rw [if_neg (by omega)] at hy
        obtain rfl:=Option.some.inj hx
        exact h.2 c _ y hj0 (by omega) hcp hj hy
      · rw [if_neg e2] at hx
        by_cases e3:(j - 1) / 2=i
        · rw [if_pos e3] at hy
          obtain rfl:=Option.some.inj hy
          exact hs j x hj0 e3 hx
        · rw [if_neg e3] at hy
          exact h.1 j x y hj0 e3 hx hy
  · intro j x y hc0 hj0 hjc hx hy
    rw [Gu hi hj hne] at hx hy
    rw [if_neg (by omega),if_neg (by omega)] at hx
    rw [if_neg (by omega),if_pos hcp] at hy
    obtain rfl:=Option.some.inj hy
    exact h.1 j x _ hj0 (by omega) hx (by rw [hjc];exact hj)
theorem DownI.heap {l:List QEn} {i:Nat} (h:DownI l i) (hi:∀ (j:Nat) x y,0 < j→(j - 1) / 2=i→l[j]?=some x→l[i]?=some y→nb x y):HeapOk l:=fun j x y hj hx hy=>by
  by_cases e:(j - 1) / 2=i
  · exact hi j x y hj e hx (by rw [← e];exact hy)
  · exact h.1 j x y hj e hx hy
theorem MJ {l:List QEn} (h:HeapOk l) {e:QEn} (he:l[0]?=some e):∀ x∈l,nb x e:=by
  have key:∀ (n j:Nat) x,j≤n→l[j]?=some x→nb x e:=by
    intro n
    induction n with
    | zero =>
      intro j x hj hx
      have hj0:j=0:=by omega
      rw [hj0,he] at hx
      rw [← Option.some.inj hx]
      exact IV _
    | succ n ih =>
      intro j x hj hx
      by_cases h0:j=0
      · exact ih j x (by omega) hx
      · obtain ⟨y,hy⟩:=AN (l:=l) (k:=(j - 1) / 2) (by have:=AL hx;omega)
        exact GI (h j x y (by omega) hx hy) (ih ((j - 1) / 2) y (by omega) hy)
  intro x hx
  obtain ⟨j,hj⟩:=List.getElem?_of_mem hx
  exact key j j x (by omega) hj
end
section
open Go Go.RowKit
theorem JI {K V:Type} [MKey K] (z:V) (k k':K) (v:V):∀ l:List (K×V),mget z (mput l k v) k'=if k=k' then v else mget z l k'
  | []=>by simp only [mput,mget]
  | p :: r=>by
    have ih:=JI z k k' v r
    simp only [mput]
    by_cases h1:p.1=k
    · rw [if_pos h1]
      simp only [mget]
      by_cases h2:k=k'
      · rw [if_pos h2,if_pos h2]
      · rw [if_neg h2,if_neg h2,if_neg (by rw [h1];exact h2)]
    · rw [if_neg h1]
      simp only [mget,ih]
      by_cases h2:k=k'
      · rw [if_pos h2,if_pos h2,if_neg (by rw [← h2];exact h1)]
      · rw [if_neg h2,if_neg h2]
theorem PH {xs:List Int} (hl:xs.length≤1000000):BX xs=some xs.reverse:=by
  unfold BX
  rw [Ci (by unfold inI64;omega),Am]
  refine OF (fun s=>∃ i:Nat,s.2.1=(i:Int)∧s.2.1 + s.2.2=(xs.length:Int) - 1∧i≤xs.length∧s.1.length=xs.length∧∀ k:Nat,k < xs.length→s.1[k]?=if k < i∨xs.length - 1 - k < i then xs[xs.length - 1 - k]? else xs[k]?) (fun s=>s.1=xs.reverse) (fun s=>(s.2.2 - s.2.1 + 1).toNat) ⟨0,rfl,by dsimp only;omega,by omega,rfl,fun k hk=>by rw [if_neg (by omega)]⟩ ?_ (fun s hs=>by rw [BW,hs])
  rintro ⟨ys,i',j⟩ ⟨i,hi,hij,hil,hlen,hg⟩
  dsimp only at hi hij hlen hg ⊢
  subst hi
  by_cases hlt:(i:Int) < j
  · obtain ⟨jn,rfl⟩:∃ jn:Nat,j=(jn:Int):=⟨j.toNat,by omega⟩
    obtain ⟨a,ha⟩:=AN (l:=ys) (k:=jn) (by omega)
    obtain ⟨b,hb⟩:=AN (l:=ys) (k:=i) (by omega)
    rw [if_pos hlt,Bi,ha,Am,Bi,hb,Am,Am,Int.toNat_natCast,Int.toNat_natCast,Bi,List.getElem?_set_ne (by omega),ha,Am,Ci (by unfold inI64;omega),Am,Ci (by unfold inI64;omega),Am]
    refine .inl ⟨_,rfl,⟨i + 1,by dsimp only;omega,by dsimp only;omega,by omega,by simp [hlen],fun k hk=>?_⟩,by dsimp only;omega⟩
    dsimp only
    have hga:=hg jn (by omega)
    rw [ha,if_neg (by omega)] at hga
    have hgb:=hg i (by omega)
    rw [hb,if_neg (by omega)] at hgb
    by_cases e1:k=jn
    · subst e1
      rw [List.getElem?_set_self (by simp;omega),if_pos (by omega),hgb]
      congr 1;omega
    · rw [List.getElem?_set_ne (by omega)]
      by_cases e2:k=i
      · subst e2
        rw [List.getElem?_set_self (by omega),if_pos (by omega),hga]
        congr 1;omega
      · rw [List.getElem?_set_ne (by omega),hg k hk]
        by_cases e3:k < i∨xs.length - 1 - k < i
        · rw [if_pos e3,if_pos (by omega)]
        · rw [if_neg e3,if_neg (by omega)]
  · rw [if_neg hlt]
    refine .inr ⟨_,rfl,?_⟩
    dsimp only
    apply List.ext_getElem?
    intro k
    rcases Nat.lt_or_ge k xs.length with hk|hk
    · rw [List.getElem?_reverse hk,hg k hk]
      by_cases e3:k < i∨xs.length - 1 - k < i
      · rw [if_pos e3]
      · rw [if_neg e3];congr 1;omega
    · rw [List.getElem?_eq_none (by omega),List.getElem?_eq_none (by simp;omega)]
end
section
open Go Go.RowKit
theorem PlanR.snoc {t:Tsk} {s p s':List Int} {C:Int} (h:PlanR t s p s' C) {k:Nat} {o:Opr} (ho:t.ops[k]?=some o) (hp:holdsB o.pre s'=true):PlanR t s (p ++ [(k:Int)]) (succ o s') (C + o.cost):=by
  induction h with
  | nil=>have:=PlanR.cons ho hp (PlanR.nil (t:=t) (s:=succ o _));simpa [Int.add_comm] using this
  | cons ho' hp' _ ih=>have:=PlanR.cons ho' hp' (ih hp);rw [Int.add_assoc];exact this
theorem PlanR.walk {t:Tsk} {s p s':List Int} {C:Int} (h:PlanR t s p s' C) (hg:holdsB t.goal s'=true):Walk t s C:=by
  induction h with
  | nil=>exact .goal hg
  | cons ho hp _ ih=>have:=Walk.step ho hp (ih hg);rwa [Int.add_comm] at this
end
section
open Go Go.RowKit
attribute [local irreducible] ewp owp hwp hwq hws Ev Evg Fn retPost loud loudS Res1
noncomputable def CB (x0:Tsk) (x1:Rsl) (x2:Int):Option Bool :=
  if 1125899906842624≤x2 then (bnd (if x1.verdict=2 then (if (x1.plan.length:Int)=0 then (if x1.cost=0 then (some true) else (some false)) else (some false)) else (some false):Option Bool) fun y40=>some y40) else (bnd (Ex x0 x0.init x1.plan) fun q53=>bnd (if x1.verdict=1 then (if q53.2=true then (if q53.1=x2 then (if x1.cost=x2 then (some true) else (some false)) else (some false)) else (some false)) else (some false):Option Bool) fun y65=>some y65)
theorem JW {w:World} {A:Nat→Prop} (hA:∀ k,A k→k < w.heap.size) {vx0:Value} {x0:Tsk} (o0:Vb w A vx0 x0) {vx1:Value} {x1:Rsl} (p0:Vb w A vx1 x1) {x2:Int} (rx2:inI64 x2) {r:Bool} (hm:CB x0 x1 x2=some r) :
    Fn Tryz.prog 13 [vx0,vx1,(.int .i64 x2)] w fun v w'=>Ext w w'∧Vb w' (upA A w w') v r:=by
 obtain ⟨O,hB,a1⟩:=enter hA
 replace o0:=o0.mono a1
 obtain ⟨b2,rfl,v5,v6,v7,v8,rfl,h9,i0,m0,n0⟩:=o0
 obtain ⟨b1,c1,rfl⟩:=h9.form
 obtain ⟨d1,e1,rfl⟩:=i0.form
 obtain ⟨f1,g1,rfl⟩:=m0.form
 obtain ⟨h1,i1,rfl⟩:=n0.form
 replace p0:=p0.mono a1
 obtain ⟨l1,rfl,c2,rfl,f0,d2,e2,f2⟩:=p0
 obtain ⟨m1,n1,rfl⟩:=f0.form
 refine AQ Tryz.func13 rfl Tryz.ntmps13 rfl ?_
 unfold CB at hm
 refine Al (Aj (Cp 2 O rfl rfl fun o1 p1 j1 d0 h0=>?_))
 replace h0:Lc 2 p1 j1 o1 26 [(.slice b1 x0.vars.length c1),(.slice d1 x0.init.length e1),(.slice f1 x0.goal.length g1),(.slice h1 x0.ops.length i1)]:=h0
 refine Cp 3 j1 rfl rfl fun q1 j0 k0 c0 e0=>?_
 replace e0:Lc 3 j0 k0 q1 32 [(.int .i64 x1.verdict),(.slice m1 x1.plan.length n1),(.int .i64 x1.cost),(.int .i64 x1.expanded)]:=e0
 refine Ay rfl rfl (o_z ?_)
 refine Al (Al (Aj (Ar rfl rfl (Fc rfl rfl rfl (fun q0=>?_) fun q0=>?_))))
 ·
  replace hm:=ip hm q0
  refine o_z ?_
  refine Ah rfl (Al ?_)
  obtain ⟨r1,b0,hm⟩:=bs hm
  refine AU (fun l' w'=>∃ (s1:Unit) (O':Lab),subs l' [(6,(.bool r1))]∧Bs w A w' O') ?_ ?_
  ·
   refine Aj (AV rfl rfl (AP (hc:=Blk.cell (i:=0) (e0.1) rfl) rfl rfl ?_))
   refine Ei rfl rfl rfl (fun r0=>?_) fun r0=>?_
   ·
    replace b0:=ip b0 r0
    refine Ar rfl rfl (AE rfl rfl (AV rfl rfl (AE rfl rfl (AP (hc:=Blk.cell (i:=1) (e0.1) rfl) rfl rfl ?_))))
    refine AE rfl rfl (Bj rfl rfl ?_)
    replace f0:=(f0.st d0).st c0
    have t1:x1.plan.length≤9223372036854775807:=Nat.le_trans f0.len.2.1 f0.len.2.2
    have g2:inI64 (x1.plan.length:Int):=rngNat t1
    refine AE rfl rfl (Ei rfl rfl rfl (fun s0=>?_) fun s0=>?_)
    ·
     replace b0:=ip b0 s0
     refine BF rfl rfl rfl (Ar rfl rfl (AE rfl rfl (AV rfl rfl (AE rfl rfl (AP (hc:=Blk.cell (i:=2) (e0.1) rfl) rfl rfl ?_)))))
     refine AE rfl rfl (Ei rfl rfl rfl (fun t0=>?_) fun t0=>?_)
     ·
      replace b0:=ip b0 t0
      refine BF rfl rfl rfl (Ay rfl rfl (o_z ?_))
      obtain rfl:=sm b0
      exact ⟨(),_,⟨rfl,trivial⟩,(hB.st d0).st c0⟩
     replace b0:=im b0 t0
     refine BF rfl rfl rfl (Ay rfl rfl (o_z ?_))
     obtain rfl:=sm b0
     exact ⟨(),_,⟨rfl,trivial⟩,(hB.st d0).st c0⟩
    replace b0:=im b0 s0
    refine BF rfl rfl rfl (Ar rfl rfl (AC rfl rfl rfl rfl (AC rfl rfl rfl rfl (AC rfl rfl rfl rfl (BN rfl rfl rfl (Ay rfl rfl (o_z ?_)))))))
    obtain rfl:=sm b0
    exact ⟨(),_,⟨rfl,trivial⟩,(hB.st d0).st c0⟩
   replace b0:=im b0 r0
   refine Ar rfl rfl (AC rfl rfl rfl rfl (AC rfl rfl rfl rfl (AC rfl rfl rfl rfl (AC rfl rfl rfl rfl (BN rfl rfl rfl (Ar rfl rfl (AC rfl rfl rfl rfl (AC rfl rfl rfl rfl (AC rfl rfl rfl rfl (BN rfl rfl rfl (Ay rfl rfl (o_z ?_))))))))))))
   obtain rfl:=sm b0
   exact ⟨(),_,⟨rfl,trivial⟩,(hB.st d0).st c0⟩
  replace hB:=(hB.st d0).st c0
  rintro h2 i2 ⟨s1,j2,u0,hB⟩
  refine Bc _ u0 ?_
  refine AR ?_
  obtain rfl:=sm hm
  exact ret1v rfl (AO rfl) ⟨hB.ext,vBool⟩
 replace hm:=im hm q0
 refine o_z ?_
 refine Ae rfl (AZ (Al (Aj ?_)))
 replace h0:=h0.st c0
 refine Br (hl:=rfl) (hc:=(h0.1).cellsAt) rfl rfl ?_
 refine AV rfl rfl (AP (hc:=Blk.cell (i:=1) (h0.1) rfl) rfl rfl ?_)
 refine AV rfl rfl (AP (hc:=Blk.cell (i:=1) (e0.1) rfl) rfl rfl ?_)
 obtain ⟨k1,u1,hm⟩:=bs hm
 replace h9:=(h9.st d0).st c0
 replace i0:=(i0.st d0).st c0
 replace m0:=(m0.st d0).st c0
 replace n0:=(n0.st d0).st c0
 replace f0:=(f0.st d0).st c0
 refine By (O:=k0) (A:=All j0) (R:=fun w' F v=>T2 w' F v k1) (Lh (fun _ h=>h) (Vb.mono (F:=Fr 0 j0 k0) (Vb.ofAgg (cs:=[(.slice b1 x0.vars.length c1),(.slice d1 x0.init.length e1),(.slice f1 x0.goal.length g1),(.slice h1 x0.ops.length i1)]) (x:=x0) rfl ⟨_,_,_,_,rfl,h9,i0,m0,n0⟩) Fr.lt) (Vb.mono (F:=Fr 0 j0 k0) i0 Fr.lt) (Vb.mono (F:=Fr 0 j0 k0) f0 Fr.lt) u1) rfl rfl fun k2 l2 m2 g0 v1=>?_
 obtain ⟨n2,o2,rfl,w1,y1⟩:=v1
 obtain ⟨rfl,p2⟩:=w1.int
 obtain rfl:=y1.bool
 refine Ar rfl rfl (Cy rfl rfl rfl (Cy rfl rfl rfl (Ay rfl rfl (Ay rfl rfl (o_z ?_)))))
 refine Al ?_
 obtain ⟨z1,a0,hm⟩:=bs hm
 refine AU (fun l' w'=>∃ (a2:Unit) (O':Lab),subs l' [(6,(.bool z1))]∧Bs w A w' O') ?_ ?_
 ·
  refine Aj (AV rfl rfl ?_)
  replace e0:=e0.st g0
  refine AP (hc:=Blk.cell (i:=0) (e0.1) rfl) rfl rfl ?_
  refine Ei rfl rfl rfl (fun v0=>?_) fun v0=>?_
  ·
   replace a0:=ip a0 v0
   refine Ar rfl rfl (AE rfl rfl (Ar rfl rfl (BF rfl rfl rfl (Ar rfl rfl ?_))))
   rcases Bool.eq_false_or_eq_true k1.2 with l0|l0
   ·
    try simp only [l0]
    replace a0:=ip a0 l0
    refine AE rfl rfl (Ar rfl rfl (AE rfl rfl (Ar rfl rfl (AE rfl rfl (Ei rfl rfl rfl (fun w0=>?_) fun w0=>?_)))))
    ·
     replace a0:=ip a0 w0
     refine BF rfl rfl rfl (Ar rfl rfl (AE rfl rfl (AV rfl rfl (AE rfl rfl (AP (hc:=Blk.cell (i:=2) (e0.1) rfl) rfl rfl ?_)))))
     refine AE rfl rfl (Ar rfl rfl (AE rfl rfl (Ei rfl rfl rfl (fun y0=>?_) fun y0=>?_)))
     ·
      replace a0:=ip a0 y0
      refine BF rfl rfl rfl (Ay rfl rfl (o_z ?_))
      obtain rfl:=sm a0
      exact ⟨(),_,⟨rfl,trivial⟩,((hB.st d0).st c0).st g0⟩
     replace a0:=im a0 y0
     refine BF rfl rfl rfl (Ay rfl rfl (o_z ?_))
     obtain rfl:=sm a0
     exact ⟨(),_,⟨rfl,trivial⟩,((hB.st d0).st c0).st g0⟩
    replace a0:=im a0 w0
    refine BF rfl rfl rfl (Ar rfl rfl (AC rfl rfl rfl rfl (AC rfl rfl rfl rfl (AC rfl rfl rfl rfl (AC rfl rfl rfl rfl (BN rfl rfl rfl (Ay rfl rfl (o_z ?_))))))))
    obtain rfl:=sm a0
    exact ⟨(),_,⟨rfl,trivial⟩,((hB.st d0).st c0).st g0⟩
   try simp only [l0]
   replace a0:=im' a0 l0
   refine AC rfl rfl rfl rfl (AC rfl rfl rfl rfl (AC rfl rfl rfl rfl (BN rfl rfl rfl (Ar rfl rfl (AC rfl rfl rfl rfl (AC rfl rfl rfl rfl (AC rfl rfl rfl rfl (AC rfl rfl rfl rfl (BN rfl rfl rfl (Ay rfl rfl (o_z ?_)))))))))))
   obtain rfl:=sm a0
   exact ⟨(),_,⟨rfl,trivial⟩,((hB.st d0).st c0).st g0⟩
  replace a0:=im a0 v0
  refine Ar rfl rfl (AC rfl rfl rfl rfl (BN rfl rfl rfl (Ar rfl rfl (AC rfl rfl rfl rfl (AC rfl rfl rfl rfl (AC rfl rfl rfl rfl (BN rfl rfl rfl (Ar rfl rfl (AC rfl rfl rfl rfl (AC rfl rfl rfl rfl (AC rfl rfl rfl rfl (AC rfl rfl rfl rfl (BN rfl rfl rfl (Ay rfl rfl ?_))))))))))))))
  refine o_z ?_
  obtain rfl:=sm a0
  exact ⟨(),_,⟨rfl,trivial⟩,((hB.st d0).st c0).st g0⟩
 replace hB:=((hB.st d0).st c0).st g0
 rintro q2 r2 ⟨a2,s2,z0,hB⟩
 refine Bc _ z0 ?_
 refine AR ?_
 obtain rfl:=sm hm
 exact ret1v rfl (AO rfl) ⟨hB.ext,vBool⟩
end
section
open Go Go.RowKit
theorem PlanR.bound {t:Tsk} (h:TaskOk t) {s p s':List Int} {C:Int} (hr:PlanR t s p s' C):0≤C∧C≤(p.length:Int) * 1048576:=by
  induction hr with
  | nil=>simp
  | @cons s rest s' k o C ho _ _ ih =>
    have h1:=(h.2.2.2.2.2 k o ho).1
    have h2:=(h.2.2.2.2.2 k o ho).2.1
    simp only [List.length_cons]
    omega
theorem NB {t:Tsk} (h:Mid t) {r:Rsl} {b:Int} (hbw:b < Inf→Walk t t.init b) (hbl:∀ C,Walk t t.init C→b≤C) (hv:r.verdict=1) (hl:r.plan.length≤1000) {s':List Int} (hp:PlanR t t.init r.plan s' r.cost) (hg:holdsB t.goal s'=true) (hm:∀ C,Walk t t.init C→r.cost≤C):CB t r b=some true:=by
  have h1:=hp.bound h.ok
  have h2:=hbl _ (hp.walk hg)
  have hlt:b < Inf:=by unfold Inf;omega
  have h3:=hm _ (hbw hlt)
  have he:r.cost=b:=by omega
  unfold CB
  unfold Inf at hlt
  rw [if_neg (by omega),OE h.ok h.ok.2.2.2.1 hp hl,Am,if_pos hv,hg,BD,he,if_pos rfl,if_pos rfl]
  rfl
theorem NC {t:Tsk} {r:Rsl} {b:Int} (hbw:b < Inf→Walk t t.init b) (hv:r.verdict=2) (hp:r.plan=[]) (hc:r.cost=0) (hn:∀ C,¬ Walk t t.init C):CB t r b=some true:=by
  have hlt:¬ b < Inf:=fun hh=>hn _ (hbw hh)
  unfold CB
  unfold Inf at hlt
  rw [if_pos (by omega),if_pos hv,hp,if_pos (by simp),if_pos hc]
  rfl
theorem Gc {α:Type} [DecidableEq α]:∀ {a b:List α},a.Nodup→(∀ x∈a,x∈b)→a.length≤b.length
  | [],_,_,_=>Nat.zero_le _
  | x :: a,b,hn,hs=>by
    have hx:=hs x List.mem_cons_self
    have h1:=Gc (a:=a) (b:=b.erase x) (List.nodup_cons.1 hn).2 fun y hy=>(List.mem_erase_of_ne (fun e=>(List.nodup_cons.1 hn).1 (by rw [← e];exact hy))).2 (hs y (List.mem_cons_of_mem _ hy))
    have h2:=List.length_erase_of_mem hx
    have h3:=List.length_pos_of_mem hx
    simp only [List.length_cons]
    omega
theorem KI {L:List (List Int)} (h:∀ (i j:Nat) s,L[i]?=some s→L[j]?=some s→i=j):L.Nodup:=by
  rw [List.nodup_iff_pairwise_ne,List.pairwise_iff_getElem]
  intro i j hi hj hij he
  have:=h i j L[i] (List.getElem?_eq_getElem hi) (by rw [he];exact List.getElem?_eq_getElem hj)
  omega
end
section
open Go Go.RowKit
def appB (t:Tsk) (s:List Int) (k:Nat):Bool:=match t.ops[k]? with|some o=>holdsB o.pre s|none=>false
def appN (t:Tsk) (s:List Int) (m:Nat):List Nat:=(List.range m).filter (appB t s)
def sucN (t:Tsk) (s:List Int) (k:Nat):List Int:=match t.ops[k]? with|some o=>succ o s|none=>s
theorem PI (t:Tsk) (s:List Int):appl t s=(appN t s t.ops.length).map fun k:Nat=>(k:Int):=rfl
theorem OH (t:Tsk) (s:List Int) (k:Nat):sucOf t s (k:Int)=⟨(k:Int),sucN t s k⟩:=rfl
theorem LF {t:Tsk} {s:List Int} {k:Nat} {o:Opr} (ho:t.ops[k]?=some o):appB t s k=holdsB o.pre s∧sucN t s k=succ o s:=by unfold appB sucN;rw [ho];exact ⟨rfl,rfl⟩
end
section
set_option linter.unusedVariables false
set_option linter.unusedSimpArgs false
open Go Go.RowKit
def UpN {α:Type} (i:Nat) (x:α) (l l':List α):Prop:=l'[i]?=some x∧∀ j,j≠i→l'[j]?=l[j]?
theorem OK {α:Type} {i:Nat} {x:α} {l:List α} (h:i < l.length):UpN i x l (l.set i x):=⟨List.getElem?_set_self h,fun j hj=>List.getElem?_set_ne (by omega)⟩
theorem OL {α:Type} {x:α} {l:List α}:UpN l.length x l (l ++ [x]):=⟨by simp,fun j hj=>by
  rcases Nat.lt_or_ge j l.length with h|h
  · exact List.getElem?_append_left h
  · rw [List.getElem?_append_right h,List.getElem?_eq_none (l:=l) h,List.getElem?_eq_none (by simp;omega)]⟩
theorem KJ {t:Tsk} {s:List Int} {k:Nat} {o:Opr} (ho:t.ops[k]?=some o) (hp:holdsB o.pre s=true):(k:Int)∈appl t s:=by
  rw [PI,List.mem_map]
  exact ⟨k,List.mem_filter.2 ⟨List.mem_range.2 (AL ho),by rw [(LF ho).1];exact hp⟩,rfl⟩
def cntN (N:List ONd):Nat:=(N.filter fun n=>n.fin).length
theorem ND (N:List ONd) {n:ONd} (h:n.fin=false):cntN (N ++ [n])=cntN N:=by simp [cntN,h]
theorem KK:∀ {N:List ONd} {i:Nat} {a b:ONd},N[i]?=some a→a.fin=false→b.fin=false→cntN (N.set i b)=cntN N
  | [],i,_,_,h,_,_=>by simp at h
  | n :: N,0,a,b,h,ha,hb=>by simp at h;subst h;simp [cntN,ha,hb]
  | n :: N,i + 1,a,b,h,ha,hb=>by
    have:=KK (N:=N) (i:=i) (by simpa using h) ha hb
    simp only [cntN,List.set_cons_succ,List.filter_cons] at this ⊢
    split<;>simp [this]
theorem JJ:∀ {N:List ONd} {i:Nat} {a b:ONd},N[i]?=some a→a.fin=false→b.fin=true→cntN (N.set i b)=cntN N + 1
  | [],i,_,_,h,_,_=>by simp at h
  | n :: N,0,a,b,h,ha,hb=>by simp at h;subst h;simp [cntN,ha,hb]
  | n :: N,i + 1,a,b,h,ha,hb=>by
    have:=JJ (N:=N) (i:=i) (by simpa using h) ha hb
    simp only [cntN,List.set_cons_succ,List.filter_cons] at this ⊢
    split<;>simp [this]
theorem OM (N:List ONd):cntN N≤N.length:=List.length_filter_le _ _
inductive OR (t:Tsk) (cn:List Int→List Int):List Int→Prop
  | init:OR t cn (cn t.init)
  | step {s:List Int} {k:Nat} {o:Opr}:OR t cn s→holdsB t.goal s=false→t.ops[k]?=some o→holdsB o.pre s=true→OR t cn (cn (succ o s))
inductive WalkC (t:Tsk) (cn:List Int→List Int):List Int→Int→Prop
  | goal {s:List Int}:holdsB t.goal s=true→WalkC t cn s 0
  | step {s:List Int} {k:Nat} {o:Opr} {C:Int}:t.ops[k]?=some o→holdsB o.pre s=true→WalkC t cn (cn (succ o s)) C→WalkC t cn s (C + o.cost)
theorem MK {t:Tsk} (h:TaskOk t) {cn:List Int→List Int} {s:List Int} {C:Int} (hw:WalkC t cn s C):0≤C:=by
  induction hw with
  | goal _=>omega
  | @step s k o C ho _ _ ih=>have:=(h.2.2.2.2.2 k o ho).1;omega
structure OrI (t:Tsk) (cn wd:List Int→List Int) (D:Nat→Int→Prop) (N:List ONd) (hp:List QEn) (ord:Nat→Nat) (E:Nat):Prop where
  root:∃ n,N[0]?=some n∧n.state=cn t.init∧n.used=wd t.init∧n.cost=0∧n.parent=-1∧n.op=-1
  link:∀ (i:Nat) n,N[i]?=some n→i=0∨∃ (p q:Nat) (o:Opr) (m:ONd),n.parent=(p:Int)∧n.op=(q:Int)∧t.ops[q]?=some o∧N[p]?=some m∧m.fin=true∧holdsB o.pre m.state=true∧n.state=cn (succ o m.state)∧n.used=wd (succ o m.state)∧n.cost=m.cost + o.cost∧(n.fin=true→ord p < ord i)
  ordl:∀ (i:Nat) n,N[i]?=some n→n.fin=true→ord i < E
  lower:∀ (j:Nat) n,N[j]?=some n→n.fin=true→∀ e∈hp,n.cost≤e.key
  ent:∀ e∈hp,∃ (i:Nat) (n:ONd),e.item=(i:Int)∧N[i]?=some n∧n.cost≤e.key
  opn:∀ (i:Nat) n,N[i]?=some n→n.fin=false→∃ e∈hp,e.key=n.cost∧e.item=(i:Int)
  bound:∀ (i:Nat) n,N[i]?=some n→0≤n.cost∧n.cost≤(E:Int) * 1048576
  nogoal:∀ (j:Nat) n,N[j]?=some n→n.fin=true→holdsB t.goal n.state=false
  rel:∀ (j:Nat) n q,N[j]?=some n→n.fin=true→q∈appl t n.state→D j q→∃ (k:Nat) (o:Opr) (i:Nat) (m:ONd),q=(k:Int)∧t.ops[k]?=some o∧N[i]?=some m∧m.state=cn (succ o n.state)∧m.cost≤n.cost + o.cost
  num:cntN N=E
  rch:∀ (i:Nat) n,N[i]?=some n→OR t cn n.state
  first:0 < E→∃ n,N[0]?=some n∧n.fin=true
  uniq:∀ (i j:Nat) n m,N[i]?=some n→N[j]?=some m→n.state=m.state→i=j
section
variable {t : Tsk} {cn wd : List Int → List Int} {D : Nat → Int → Prop} {N N' : List ONd} {hp hp' : List QEn} {ord : Nat → Nat} {E : Nat}
theorem OrI.upd (h:OrI t cn wd D N hp ord E) (hok:TaskOk t) {i p q:Nat} {o:Opr} {n m:ONd} {e:QEn} (hN:UpN i n N N') (hh:hp'.Perm (e :: hp)) (ek:e.key=n.cost) (ei:e.item=(i:Int)) (hle:N.length≤N'.length) (hc:cntN N'=cntN N)
    (hi:(N[i]?=none∧∀ (j:Nat) a,N[j]?=some a→a.state≠n.state)∨∃ a,N[i]?=some a∧a.state=n.state∧a.fin=false∧n.cost < a.cost)
    (hd:n.fin=false) (hpa:n.parent=(p:Int)) (hop:n.op=(q:Int)) (ho:t.ops[q]?=some o) (hm:N[p]?=some m) (hmd:m.fin=true) (hpre:holdsB o.pre m.state=true) (hst:n.state=cn (succ o m.state)) (hus:n.used=wd (succ o m.state)) (hx:n.cost=m.cost + o.cost) (hmax:∀ (j:Nat) a,N[j]?=some a→a.fin=true→a.cost≤m.cost) (hxE:n.cost≤(E:Int) * 1048576) :
    OrI t cn wd D N' hp' ord E:=by
  have hoc:=(hok.2.2.2.2.2 q o ho).1
  have hcp:=(h.bound p m hm).1
  have hfin:∀ (j:Nat) a,N[j]?=some a→a.fin=true→j≠i:=fun j a hj hja e1=>by
    subst e1
    rcases hi with ⟨hn,_⟩|⟨b,hb,_,hbd,_⟩
    · rw [hj] at hn;cases hn
    · rw [hj] at hb;obtain rfl:=Option.some.inj hb;rw [hja] at hbd;cases hbd
  have hfin':∀ (j:Nat) a,N'[j]?=some a→a.fin=true→j≠i∧N[j]?=some a:=fun j a hj hja=>by
    have hne:j≠i:=fun e1=>by subst e1;rw [hN.1] at hj;obtain rfl:=Option.some.inj hj;rw [hd] at hja;cases hja
    exact ⟨hne,by rw [← hN.2 j hne];exact hj⟩
  obtain ⟨n0,r1,r2,r3,r4,r5,r6⟩:=h.root
  have h0:(0:Nat)≠i:=fun e1=>by
    subst e1
    rcases hi with ⟨hn,_⟩|⟨b,hb,_,_,hlt⟩
    · rw [r1] at hn;cases hn
    · rw [r1] at hb;obtain rfl:=Option.some.inj hb;omega
  have hpi:=hfin p m hm hmd
  refine ⟨⟨n0,by rw [hN.2 0 h0];exact r1,r2,r3,r4,r5,r6⟩,?_,?_,?_,?_,?_,?_,?_,?_,by rw [hc];exact h.num,?_,?_,?_⟩
  · intro j a hj
    by_cases e1:j=i
    · subst e1
      rw [hN.1] at hj
      obtain rfl:=Option.some.inj hj
      exact .inr ⟨p,q,o,m,hpa,hop,ho,by rw [hN.2 p hpi];exact hm,hmd,hpre,hst,hus,hx,fun hh=>by rw [hd] at hh;cases hh⟩
    · rw [hN.2 j e1] at hj
      rcases h.link j a hj with hh|⟨p',q',o',m',a1,a2,a3,a4,a5,a6⟩
      · exact .inl hh
      · exact .inr ⟨p',q',o',m',a1,a2,a3,by rw [hN.2 p' (hfin p' m' a4 a5)];exact a4,a5,a6⟩
  · intro j a hj hja
    exact h.ordl j a (hfin' j a hj hja).2 hja
  · intro j a hj hja e' he'
    obtain ⟨_,hj⟩:=hfin' j a hj hja
    rcases List.mem_cons.1 (hh.mem_iff.1 he') with rfl|hm'
    · have:=hmax j a hj hja;omega
    · exact h.lower j a hj hja e' hm'
  · intro e' he'
    rcases List.mem_cons.1 (hh.mem_iff.1 he') with rfl|hm'
    · exact ⟨i,n,ei,hN.1,by omega⟩
    · obtain ⟨j,a,j1,j2,j3⟩:=h.ent e' hm'
      by_cases e1:j=i
      · subst e1
        rcases hi with ⟨hn,_⟩|⟨b,hb,_,_,hlt⟩
        · rw [j2] at hn;cases hn
        · rw [j2] at hb
          obtain rfl:=Option.some.inj hb
          exact ⟨j,n,j1,hN.1,by omega⟩
      · exact ⟨j,a,j1,by rw [hN.2 j e1];exact j2,j3⟩
  · intro j a hj hja
    by_cases e1:j=i
    · subst e1
      rw [hN.1] at hj
      obtain rfl:=Option.some.inj hj
      exact ⟨e,hh.mem_iff.2 List.mem_cons_self,ek,ei⟩
    · rw [hN.2 j e1] at hj
      obtain ⟨e',m',r⟩:=h.opn j a hj hja
      exact ⟨e',hh.mem_iff.2 (List.mem_cons_of_mem _ m'),r⟩
  · intro j a hj
    by_cases e1:j=i
    · subst e1
      rw [hN.1] at hj
      obtain rfl:=Option.some.inj hj
      omega
    · rw [hN.2 j e1] at hj;exact h.bound j a hj
  · intro j a hj hja
    exact h.nogoal j a (hfin' j a hj hja).2 hja
  · intro j a q' hj hja hq hD
    obtain ⟨hne,hj⟩:=hfin' j a hj hja
    obtain ⟨k,o',i',b,a1,a2,a3,a4,a5⟩:=h.rel j a q' hj hja hq hD
    by_cases e1:i'=i
    · subst e1
      rcases hi with ⟨hn,_⟩|⟨b',hb,hbs,_,hlt⟩
      · rw [a3] at hn;cases hn
      · rw [a3] at hb
        obtain rfl:=Option.some.inj hb
        exact ⟨k,o',i',n,a1,a2,hN.1,by rw [← hbs];exact a4,by omega⟩
    · exact ⟨k,o',i',b,a1,a2,by rw [hN.2 i' e1];exact a3,a4,a5⟩
  · intro j a hj
    by_cases e1:j=i
    · subst e1
      rw [hN.1] at hj
      obtain rfl:=Option.some.inj hj
      rw [hst]
      exact (h.rch p m hm).step (h.nogoal p m hm hmd) ho hpre
    · rw [hN.2 j e1] at hj;exact h.rch j a hj
  · intro hE
    obtain ⟨b,b1,b2⟩:=h.first hE
    exact ⟨b,by rw [hN.2 0 h0];exact b1,b2⟩
  · intro a b x y hx' hy' hs
    have key:∀ (j:Nat) z,j≠i→N'[j]?=some z→z.state≠n.state:=fun j z hne hz hzs=>by
      rw [hN.2 j hne] at hz
      rcases hi with ⟨_,hn⟩|⟨b',hb,hbs,_⟩
      · exact hn j z hz hzs
      · exact hne (h.uniq j i z b' hz hb (by rw [hzs,hbs]))
    by_cases ea:a=i
    · subst ea
      rw [hN.1] at hx'
      obtain rfl:=Option.some.inj hx'
      by_cases eb:b=a
      · exact eb.symm
      · exact (key b y eb hy' hs.symm).elim
    · by_cases eb:b=i
      · subst eb
        rw [hN.1] at hy'
        obtain rfl:=Option.some.inj hy'
        exact (key a x ea hx' hs).elim
      · rw [hN.2 a ea] at hx'
        rw [hN.2 b eb] at hy'
        exact h.uniq a b x y hx' hy' hs
theorem OrI.drop (h:OrI t cn wd D N hp ord E) {e:QEn} (hh:hp.Perm (e :: hp')) {i:Nat} {n:ONd} (hi:e.item=(i:Int)) (hn:N[i]?=some n) (hd:n.fin=true∨n.cost≠e.key):OrI t cn wd D N hp' ord E :=
  { h with
    lower:=fun j a hj hja e' he'=>h.lower j a hj hja e' (hh.mem_iff.2 (List.mem_cons_of_mem _ he'))
    ent:=fun e' he'=>h.ent e' (hh.mem_iff.2 (List.mem_cons_of_mem _ he'))
    opn := fun j a hj hja=>by
      obtain ⟨e',m,k1,k2⟩:=h.opn j a hj hja
      rcases List.mem_cons.1 (hh.mem_iff.1 m) with rfl|hm
      · exfalso
        have e1:i=j:=by omega
        subst e1
        rw [hn] at hj
        obtain rfl:=Option.some.inj hj
        rcases hd with hd|hd
        · rw [hja] at hd;cases hd
        · exact hd k1.symm
      · exact ⟨e',hm,k1,k2⟩ }
theorem OrI.mark (h:OrI t cn wd (fun _ _=>True) N hp ord E) {e:QEn} (hh:hp.Perm (e :: hp')) (hmin:∀ x∈hp,nb x e) {i:Nat} {n n':ONd} (hi:e.item=(i:Int)) (hn:N[i]?=some n) (hf:n.fin=false) (hc:n.cost=e.key) (hg:holdsB t.goal n.state=false) (hn':n'={ n with fin:=true }) :
    OrI t cn wd (fun j _=>j≠i) (N.set i n') hp' (fun j=>if j=i then E else ord j) (E + 1):=by
  subst hn'
  have hil:=AL hn
  have hset:∀ (j:Nat) a,(N.set i { n with fin:=true })[j]?=some a→(j=i∧a={ n with fin:=true })∨(j≠i∧N[j]?=some a):=fun j a hj=>by
    by_cases e1:j=i
    · subst e1;rw [List.getElem?_set_self hil] at hj;exact .inl ⟨rfl,(Option.some.inj hj).symm⟩
    · rw [List.getElem?_set_ne (by omega)] at hj;exact .inr ⟨e1,hj⟩
  have hkeep:∀ (j:Nat) a,N[j]?=some a→a.fin=true→j≠i∧(N.set i { n with fin:=true })[j]?=some a:=fun j a hj hja=>by
    have hne:j≠i:=fun e1=>by subst e1;rw [hn] at hj;obtain rfl:=Option.some.inj hj;rw [hja] at hf;cases hf
    exact ⟨hne,by rw [List.getElem?_set_ne (by omega)];exact hj⟩
  have hst:∀ (j:Nat) a,(N.set i { n with fin:=true })[j]?=some a→∃ b,N[j]?=some b∧b.state=a.state∧b.cost=a.cost:=fun j a hj=>by
    rcases hset j a hj with ⟨rfl,rfl⟩|⟨_,h2⟩
    · exact ⟨n,hn,rfl,rfl⟩
    · exact ⟨a,h2,rfl,rfl⟩
  have hto:∀ (j:Nat) b,N[j]?=some b→∃ a,(N.set i { n with fin:=true })[j]?=some a∧a.state=b.state∧a.cost=b.cost∧a.used=b.used∧a.parent=b.parent∧a.op=b.op:=fun j b hj=>by
    by_cases e1:j=i
    · subst e1
      rw [hn] at hj
      obtain rfl:=Option.some.inj hj
      exact ⟨_,List.getElem?_set_self hil,rfl,rfl,rfl,rfl,rfl⟩
    · exact ⟨b,by rw [List.getElem?_set_ne (by omega)];exact hj,rfl,rfl,rfl,rfl,rfl⟩
  have hord:∀ (p:Nat) (m:ONd),N[p]?=some m→m.fin=true→ord p < E:=fun p m h1 h2=>h.ordl p m h1 h2
  refine ⟨?_,?_,?_,?_,?_,?_,?_,?_,?_,by rw [JJ hn hf rfl,h.num],?_,?_,?_⟩
  · obtain ⟨n0,r1,r2,r3,r4,r5,r6⟩:=h.root
    obtain ⟨a,a1,a2,a3,a4,a5,a6⟩:=hto 0 n0 r1
    exact ⟨a,a1,a2.trans r2,a4.trans r3,a3.trans r4,a5.trans r5,a6.trans r6⟩
  · intro j a hj
    rcases hset j a hj with ⟨rfl,rfl⟩|⟨hne,hj2⟩
    · rcases h.link j n hn with hh|⟨p',q',o',m',a1,a2,a3,a4,a5,a6,a7,a8,a9,a10⟩
      · exact .inl hh
      · obtain ⟨hne,hp2⟩:=hkeep p' m' a4 a5
        exact .inr ⟨p',q',o',m',a1,a2,a3,hp2,a5,a6,a7,a8,a9,fun _=>by rw [if_neg hne,if_pos rfl];exact hord p' m' a4 a5⟩
    · rcases h.link j a hj2 with hh|⟨p',q',o',m',a1,a2,a3,a4,a5,a6,a7,a8,a9,a10⟩
      · exact .inl hh
      · obtain ⟨hne',hp2⟩:=hkeep p' m' a4 a5
        exact .inr ⟨p',q',o',m',a1,a2,a3,hp2,a5,a6,a7,a8,a9,fun hd=>by rw [if_neg hne',if_neg hne];exact a10 hd⟩
  · intro j a hj hja
    rcases hset j a hj with ⟨rfl,rfl⟩|⟨hne,hj2⟩
    · rw [if_pos rfl];omega
    · rw [if_neg hne];have:=h.ordl j a hj2 hja;omega
  · intro j a hj hja e' he'
    have hm:e'∈hp:=hh.mem_iff.2 (List.mem_cons_of_mem _ he')
    rcases hset j a hj with ⟨rfl,rfl⟩|⟨_,hj2⟩
    · have:=MI (hmin e' hm);dsimp only;omega
    · exact h.lower j a hj2 hja e' hm
  · intro e' he'
    obtain ⟨j,b,j1,j2,j3⟩:=h.ent e' (hh.mem_iff.2 (List.mem_cons_of_mem _ he'))
    obtain ⟨a,a1,a2,a3,_⟩:=hto j b j2
    exact ⟨j,a,j1,a1,by omega⟩
  · intro j a hj hja
    rcases hset j a hj with ⟨rfl,rfl⟩|⟨hne,hj2⟩
    · cases hja
    · obtain ⟨e',m,k1,k2⟩:=h.opn j a hj2 hja
      rcases List.mem_cons.1 (hh.mem_iff.1 m) with rfl|hm
      · omega
      · exact ⟨e',hm,k1,k2⟩
  · intro j a hj
    obtain ⟨b,b1,_,b3⟩:=hst j a hj
    have:=h.bound j b b1
    omega
  · intro j a hj hja
    rcases hset j a hj with ⟨rfl,rfl⟩|⟨_,hj2⟩
    · exact hg
    · exact h.nogoal j a hj2 hja
  · intro j a q hj hja hq hD
    rcases hset j a hj with ⟨rfl,rfl⟩|⟨_,hj2⟩
    · exact absurd rfl hD
    · obtain ⟨k,o,i',m,a1,a2,a3,a4,a5⟩:=h.rel j a q hj2 hja hq trivial
      obtain ⟨b,b1,b2,b3,_⟩:=hto i' m a3
      exact ⟨k,o,i',b,a1,a2,b1,by rw [b2];exact a4,by omega⟩
  · intro j a hj
    obtain ⟨b,b1,b2,_⟩:=hst j a hj
    rw [← b2];exact h.rch j b b1
  · intro _
    by_cases h0:i=0
    · subst h0;exact ⟨_,List.getElem?_set_self hil,rfl⟩
    · rcases h.link i n hn with hh|⟨p',_,_,m',_,_,_,a4,a5,_⟩
      · exact absurd hh h0
      · have hE:0 < E:=by have:=h.ordl p' m' a4 a5;omega
        obtain ⟨b,b1,b2⟩:=h.first hE
        exact ⟨b,(hkeep 0 b b1 b2).2,b2⟩
  · intro a b x y hx hy hs
    obtain ⟨x',x1,x2,_⟩:=hst a x hx
    obtain ⟨y',y1,y2,_⟩:=hst b y hy
    exact h.uniq a b x' y' x1 y1 (by rw [x2,y2,hs])
theorem OrI.front (h:OrI t cn wd (fun _ _=>True) N hp ord E) (hok:TaskOk t) {s:List Int} {C:Int} (hw:WalkC t cn s C):∀ (i:Nat) n,N[i]?=some n→n.state=s→∃ e∈hp,e.key≤n.cost + C:=by
  induction hw with
  | @goal s hg =>
    intro i n hi hs
    cases hb:n.fin with
    | false=>obtain ⟨e,m,k1,_⟩:=h.opn i n hi hb;exact ⟨e,m,by omega⟩
    | true=>have:=h.nogoal i n hi hb;rw [hs,hg] at this;cases this
  | @step s k o C ho hk hw ih =>
    intro i n hi hs
    have h1:=MK hok hw
    have h2:=(hok.2.2.2.2.2 k o ho).1
    cases hb:n.fin with
    | false=>obtain ⟨e,m,k1,_⟩:=h.opn i n hi hb;exact ⟨e,m,by omega⟩
    | true =>
      obtain ⟨k',o',i',m,a1,a2,a3,a4,a5⟩:=h.rel i n (k:Int) hi hb (by rw [hs];exact KJ ho hk) trivial
      have e1:k=k':=by omega
      subst e1
      rw [ho] at a2
      obtain rfl:=Option.some.inj a2
      rw [hs] at a4
      obtain ⟨e,m',k1⟩:=ih i' m a3 a4
      exact ⟨e,m',by omega⟩
theorem OrI.all (h:OrI t cn wd (fun _ _=>True) N [] ord E) {s:List Int} (hs:OR t cn s):∃ (i:Nat) (n:ONd),N[i]?=some n∧n.state=s∧n.fin=true:=by
  have hdone:∀ (i:Nat) n,N[i]?=some n→n.fin=true:=fun i n hi=>by
    cases hb:n.fin with
    | true=>rfl
    | false=>obtain ⟨e,m,_⟩:=h.opn i n hi hb;simp at m
  induction hs with
  | init=>obtain ⟨n,r1,r2,_⟩:=h.root;exact ⟨0,n,r1,r2,hdone 0 n r1⟩
  | @step s k o _ _ ho hp ih =>
    obtain ⟨i,n,i1,i2,i3⟩:=ih
    obtain ⟨k',o',i',m,a1,a2,a3,a4,_⟩:=h.rel i n (k:Int) i1 i3 (by rw [i2];exact KJ ho hp) trivial
    have e1:k=k':=by omega
    subst e1
    rw [ho] at a2
    obtain rfl:=Option.some.inj a2
    exact ⟨i',m,a3,by rw [a4,i2],hdone i' m a3⟩
theorem OrI.more (h:OrI t cn wd D N hp ord E) {D':Nat→Int→Prop} {j₀:Nat} {q₀:Int} (hD:∀ j q,D' j q→D j q∨(j=j₀∧q=q₀)) {n m:ONd} (hn:N[j₀]?=some n) {k:Nat} {o:Opr} {i:Nat} (h1:q₀=(k:Int)) (h2:t.ops[k]?=some o) (h3:N[i]?=some m) (h4:m.state=cn (succ o n.state)) (h6:m.cost≤n.cost + o.cost):OrI t cn wd D' N hp ord E :=
  { h with
    rel := fun j a q hj hja hq hd=>by
      rcases hD j q hd with hd|⟨rfl,rfl⟩
      · exact h.rel j a q hj hja hq hd
      · rw [hn] at hj
        obtain rfl:=Option.some.inj hj
        exact ⟨k,o,i,m,h1,h2,h3,h4,h6⟩ }
inductive TrN (N:List ONd):Nat→List Nat→Prop
  | root {n:ONd}:N[0]?=some n→n.parent=-1→TrN N 0 [0]
  | step {i p:Nat} {n:ONd} {l:List Nat}:N[i]?=some n→n.parent=(p:Int)→TrN N p l→TrN N i (l ++ [i])
theorem OrI.trace (h:OrI t cn wd D N hp ord E):∀ (b i:Nat) n,ord i < b→N[i]?=some n→n.fin=true→∃ l,TrN N i l∧l.length≤ord i + 1:=by
  intro b
  induction b with
  | zero=>intro i n hb;omega
  | succ b ih =>
    intro i n hb hi hd
    rcases h.link i n hi with rfl|⟨p,q,o,m,a1,a2,a3,a4,a5,a6,a7,a8,a9,a10⟩
    · obtain ⟨n0,r1,_,_,_,r5,_⟩:=h.root
      exact ⟨[0],.root r1 r5,by simp⟩
    · have ho:=a10 hd
      obtain ⟨l,l1,l2⟩:=ih p m (by omega) a4 a5
      exact ⟨l ++ [i],.step hi a1 l1,by simp;omega⟩
theorem OrI.path (h:OrI t cn wd D N hp ord E) {i:Nat} {n:ONd} (hi:N[i]?=some n):∃ l,TrN N i l∧l.length≤E + 1:=by
  rcases h.link i n hi with rfl|⟨p,q,o,m,a1,a2,a3,a4,a5,_⟩
  · obtain ⟨n0,r1,_,_,_,r5,_⟩:=h.root
    exact ⟨[0],.root r1 r5,by simp⟩
  · have ho:=h.ordl p m a4 a5
    obtain ⟨l,l1,l2⟩:=h.trace (ord p + 1) p m (by omega) a4 a5
    exact ⟨l ++ [i],.step hi a1 l1,by simp;omega⟩
end
end
section
open Go Go.RowKit
abbrev BQ:=BxR 67 73 OEn
abbrev AI:=An 73 OEn
def toQ (x:OEn):QEn:=⟨x.cost,0,x.node,x.number⟩
def qs (l:List OEn):List QEn:=l.map toQ
theorem Fk (l:List OEn):(qs l).length=l.length:=by simp [qs]
theorem Fl {l:List OEn} {i:Nat} {x:OEn} (h:l[i]?=some x):(qs l)[i]?=some (toQ x):=by unfold qs;rw [List.getElem?_map,h];rfl
theorem Hu (l:List OEn) (i:Nat) (x:OEn):qs (l.set i x)=(qs l).set i (toQ x):=by unfold qs;rw [List.map_set]
theorem ON (l:List OEn) (n:Nat):qs (l.take n)=(qs l).take n:=by unfold qs;rw [List.map_take]
theorem Iq {l:List OEn} {i j:Nat} {a b:OEn} (ha:l[i]?=some a) (hb:l[j]?=some b):BR l (i:Int) (j:Int)=some (decide (bfr (toQ a) (toQ b))):=by
  unfold BR
  rw [Bi,ha,Am,Bi,hb,Am,Am,Am,Am,Am]
  unfold bfr toQ
  by_cases h2:a.cost=b.cost
  · rw [if_neg (by simp [h2])]
    by_cases h3:a.number < b.number
    · rw [if_pos h3,Am];simp [h2,h3]
    · rw [if_neg h3,Am];simp [h2,h3]
  · rw [if_pos h2]
    by_cases h1:a.cost < b.cost
    · rw [if_pos h1,Am];simp [h1]
    · rw [if_neg h1,Am];simp [h1,h2]
theorem Ir {l:List OEn} {i j:Nat} {a b:OEn} (ha:l[i]?=some a) (hb:l[j]?=some b):BG l (i:Int) (j:Int)=some ((l.set i b).set j a):=by
  have hil:=AL ha
  have hjl:=AL hb
  obtain ⟨c,hc⟩:=AN (l:=l.set i b) (k:=j) (by simp;exact hjl)
  unfold BG
  rw [Bi,hb,Am,Bi,ha,Am,Am,Int.toNat_natCast,Bi,hc,Am,Int.toNat_natCast]
theorem PJ {q:BQ} {i:Nat} (hi:i < q.l.length) (hl:q.l.length≤1000000) (h:UpI (qs q.l) i):∃ r,CP q (i:Int)=some r∧HeapOk (qs r.l)∧(qs r.l).Perm (qs q.l):=by
  unfold CP
  refine MH (fun s=>∃ i:Nat,s.1=(i:Int)∧i < s.2.l.length∧UpI (qs s.2.l) i∧(qs s.2.l).Perm (qs q.l)) (fun s=>HeapOk (qs s.2.l)∧(qs s.2.l).Perm (qs q.l)) (fun _=>False) (fun s=>s.1.toNat) ⟨i,rfl,hi,h,List.Perm.refl _⟩ ?_ (fun s hs=>⟨_,rfl,hs⟩) (fun s hs=>hs.elim)
  rintro ⟨c,s⟩ ⟨i,hc,hi,hu,hp⟩
  dsimp only at hc hi hu hp ⊢
  subst hc
  have hlen:=hp.length_eq
  rw [Fk,Fk] at hlen
  rw [Ci (by unfold inI64;omega),Am]
  by_cases h0:0 < (i:Int)
  · have hq:quoT ((i:Int) - 1) 2=some (((i - 1) / 2:Nat):Int):=by
      unfold quoT;rw [if_pos (by omega),if_pos (by omega)];congr 1;omega
    obtain ⟨a,ha⟩:=AN (l:=s.l) (k:=i) hi
    obtain ⟨b,hb⟩:=AN (l:=s.l) (k:=(i - 1) / 2) (by omega)
    rw [hq,Am,if_neg (by omega),Iq ha hb,Am]
    by_cases hab:bfr (toQ a) (toQ b)
    · rw [decide_eq_true hab,BD,Am,Cb,Ir hb ha,Am]
      have e1:qs ((s.l.set ((i - 1) / 2) a).set i b)=((qs s.l).set i (toQ b)).set ((i - 1) / 2) (toQ a):=by
        rw [Hu,Hu,List.set_comm _ _ (by omega)]
      refine .inl ⟨_,rfl,⟨(i - 1) / 2,rfl,by simp;omega,?_,?_⟩,?_⟩
      · dsimp only;rw [e1];exact hu.step (by omega) (Fl ha) (Fl hb) hab
      · dsimp only;rw [e1];exact (KH (Fl ha) (Fl hb)).trans hp
      · dsimp only;omega
    · rw [decide_eq_false hab,Cb,Am,BD]
      refine .inr (.inl ⟨_,rfl,hu.heap (.inr fun x y hx hy=>?_),hp⟩)
      rw [Fl ha] at hx
      rw [Fl hb] at hy
      obtain rfl:=Option.some.inj hx
      obtain rfl:=Option.some.inj hy
      exact hab
  · have h00:i=0:=by omega
    subst h00
    have hq:quoT (((0:Nat):Int) - 1) 2=some 0:=rfl
    rw [hq,Am,if_pos (show (0:Int)=((0:Nat):Int) from rfl),Am,BD]
    exact .inr (.inl ⟨_,rfl,hu.heap (.inl rfl),hp⟩)
theorem NE {q:BQ} (h:HeapOk (qs q.l)) (hl:q.l.length≤900000) (x:OEn):∃ r,Co q ⟨x⟩=some r∧HeapOk (qs r.l)∧(qs r.l).Perm (toQ x :: qs q.l):=by
  unfold Co DD BO
  rw [Cm (by simp;omega) (by simp;omega),Am,Am,Am,Ci (by unfold inI64;simp;omega),Am]
  have hlen:(((q.l ++ [x]).length:Int) - 1)=((q.l.length:Nat):Int):=by simp
  rw [hlen]
  have eq1:qs (q.l ++ [x])=qs q.l ++ [toQ x]:=by simp [qs]
  obtain ⟨r,r1,r2,r3⟩:=PJ (q:=⟨q.l ++ [x]⟩) (i:=q.l.length) (by simp) (by simp;omega) ⟨fun j y z hj hji hx hy=>by
    dsimp only at hx hy
    rw [eq1] at hx hy
    have hjl:j < (qs q.l).length:=by have:=AL hx;simp at this;rw [Fk] at this ⊢;omega
    rw [List.getElem?_append_left hjl] at hx
    rw [List.getElem?_append_left (by omega)] at hy
    exact h j y z hj hx hy,fun j y z h1 h2 h3 hx hy=>by
    dsimp only at hx
    have:=AL hx
    rw [Fk] at this
    simp at this
    omega⟩
  rw [r1,Am]
  refine ⟨_,rfl,r2,r3.trans ?_⟩
  dsimp only
  rw [eq1]
  exact List.perm_append_comm (l₁:=qs q.l) (l₂:=[_])
theorem NF {q:BQ} {n:Nat} (hn:n≤q.l.length) (hl:q.l.length≤1000000) (h:DownI (qs (q.l.take n)) 0):∃ r,CF q 0 (n:Int)=some r∧HeapOk (qs (r.2.l.take n))∧(qs (r.2.l.take n)).Perm (qs (q.l.take n))∧r.2.l.drop n=q.l.drop n∧r.2.l.length=q.l.length:=by
  unfold CF
  refine MH (fun s=>∃ i:Nat,s.1=(i:Int)∧DownI (qs (s.2.l.take n)) i∧i≤n∧(qs (s.2.l.take n)).Perm (qs (q.l.take n))∧s.2.l.drop n=q.l.drop n∧s.2.l.length=q.l.length) (fun s=>HeapOk (qs (s.2.l.take n))∧(qs (s.2.l.take n)).Perm (qs (q.l.take n))∧s.2.l.drop n=q.l.drop n∧s.2.l.length=q.l.length) (fun _=>False) (fun s=>n - s.1.toNat) ⟨0,rfl,h,by omega,List.Perm.refl _,rfl,rfl⟩ ?_ ?_ (fun s hs=>hs.elim)
  · rintro ⟨c,s⟩ ⟨i,hc,hd,hi,hp,hdr,hsl⟩
    dsimp only at hc hd hi hp hdr hsl ⊢
    subst hc
    rw [Ci (by unfold inI64;omega),Am,Ci (by unfold inI64;omega),Am]
    by_cases h1:(n:Int)≤2 * (i:Int) + 1
    · rw [if_pos h1,Am,BD]
      refine .inr (.inl ⟨_,rfl,hd.heap fun j x y hj hji hx _=>?_,hp,hdr,hsl⟩)
      have:=AL hx
      rw [Fk,List.length_take] at this
      omega
    rw [if_neg h1,if_neg (by omega),Am,Cb]
    obtain ⟨a,ha⟩:=AN (l:=s.l) (k:=i) (by omega)
    obtain ⟨b,hb⟩:=AN (l:=s.l) (k:=2 * i + 1) (by omega)
    have tk:∀ {k:Nat} {x:OEn},k < n→s.l[k]?=some x→(qs (s.l.take n))[k]?=some (toQ x):=fun {k x} hk hx=>Fl (by rw [List.getElem?_take_of_lt hk];exact hx)
    have cast1:2 * (i:Int) + 1=((2 * i + 1:Nat):Int):=by omega
    have cast2:2 * (i:Int) + 1 + 1=((2 * i + 2:Nat):Int):=by omega
    have rest:∀ (c:Nat) (d:OEn),(c=2 * i + 1∨c=2 * i + 2)→c < n→s.l[c]?=some d→(∀ (j:Nat) x,0 < j→(j - 1) / 2=i→(qs (s.l.take n))[j]?=some x→nb x (toQ d))→(∃ s',(bnd (BR s.l (c:Int) (i:Int)) fun q97=>if q97=true then bnd (BG s.l (i:Int) (c:Int)) fun q109=>some (Ctl.next (ρ:=Bool×BQ) ((c:Int),(⟨q109⟩:BQ))) else some (.brk ((i:Int),s)))=some (.next s')∧(∃ i:Nat,s'.1=(i:Int)∧DownI (qs (s'.2.l.take n)) i∧i≤n∧(qs (s'.2.l.take n)).Perm (qs (q.l.take n))∧s'.2.l.drop n=q.l.drop n∧s'.2.l.length=q.l.length)∧n - s'.1.toNat < n - ((i:Int)).toNat)∨(∃ s',(bnd (BR s.l (c:Int) (i:Int)) fun q97=>if q97=true then bnd (BG s.l (i:Int) (c:Int)) fun q109=>some (Ctl.next (ρ:=Bool×BQ) ((c:Int),(⟨q109⟩:BQ))) else some (.brk ((i:Int),s)))=some (.brk s')∧HeapOk (qs (s'.2.l.take n))∧(qs (s'.2.l.take n)).Perm (qs (q.l.take n))∧s'.2.l.drop n=q.l.drop n∧s'.2.l.length=q.l.length)∨∃ r,(bnd (BR s.l (c:Int) (i:Int)) fun q97=>if q97=true then bnd (BG s.l (i:Int) (c:Int)) fun q109=>some (Ctl.next (ρ:=Bool×BQ) ((c:Int),(⟨q109⟩:BQ))) else some (.brk ((i:Int),s)))=some (.ret r)∧False:=by
      intro c d hc hcn hd' hs
      rw [Iq hd' ha,Am]
      have e1:qs (((s.l.set i d).set c a).take n)=((qs (s.l.take n)).set i (toQ d)).set c (toQ a):=by
        rw [List.take_set,List.take_set,Hu,Hu]
      by_cases hda:bfr (toQ d) (toQ a)
      · rw [decide_eq_true hda,BD,Ir ha hd',Am]
        refine .inl ⟨_,rfl,⟨c,rfl,?_,by omega,?_,?_,by simp;exact hsl⟩,?_⟩
        · dsimp only;rw [e1];exact hd.step hc (tk (by omega) ha) (tk hcn hd') hda hs
        · dsimp only;rw [e1];exact (KH (tk (by omega) ha) (tk hcn hd')).trans hp
        · dsimp only
          rw [← hdr]
          apply List.ext_getElem?
          intro k
          rw [List.getElem?_drop,List.getElem?_drop,List.getElem?_set_ne (by omega),List.getElem?_set_ne (by omega)]
        · dsimp only;omega
      · rw [decide_eq_false hda,Cb]
        refine .inr (.inl ⟨_,rfl,hd.heap fun j x y hj hji hx hy=>?_,hp,hdr,hsl⟩)
        rw [tk (by omega) ha] at hy
        obtain rfl:=Option.some.inj hy
        exact GI (hs j x hj hji hx) hda
    rw [Ci (by unfold inI64;omega),Am]
    by_cases h2:2 * (i:Int) + 1 + 1 < (n:Int)
    · obtain ⟨d,hd'⟩:=AN (l:=s.l) (k:=2 * i + 2) (by omega)
      rw [if_pos h2,cast2,cast1,Iq hd' hb,Am]
      by_cases hdb:bfr (toQ d) (toQ b)
      · rw [decide_eq_true hdb,BD,Am,BD,Am]
        refine rest (2 * i + 2) d (.inr rfl) (by omega) hd' fun j x hj hji hx=>?_
        have:j=2 * i + 1∨j=2 * i + 2:=by omega
        rcases this with rfl|rfl
        · rw [tk (by omega) hb] at hx;obtain rfl:=Option.some.inj hx;exact Ka hdb
        · rw [tk (by omega) hd'] at hx;obtain rfl:=Option.some.inj hx;exact IV _
      · rw [decide_eq_false hdb,Cb,Am,Cb,Am]
        refine rest (2 * i + 1) b (.inl rfl) (by omega) hb fun j x hj hji hx=>?_
        have:j=2 * i + 1∨j=2 * i + 2:=by omega
        rcases this with rfl|rfl
        · rw [tk (by omega) hb] at hx;obtain rfl:=Option.some.inj hx;exact IV _
        · rw [tk (by omega) hd'] at hx;obtain rfl:=Option.some.inj hx;exact hdb
    · rw [if_neg h2,Am,Cb,Am,cast1]
      refine rest (2 * i + 1) b (.inl rfl) (by omega) hb fun j x hj hji hx=>?_
      have:j=2 * i + 1:=by have:=AL hx;rw [Fk,List.length_take] at this;omega
      subst this
      rw [tk (by omega) hb] at hx;obtain rfl:=Option.some.inj hx;exact IV _
  · intro s hs
    by_cases hz:0 < s.1
    · rw [BW,if_pos hz,Am];exact ⟨_,rfl,hs⟩
    · rw [BW,if_neg hz,Am];exact ⟨_,rfl,hs⟩
theorem OO {q:BQ} (h:HeapOk (qs q.l)) (h0:0 < q.l.length) (hl:q.l.length≤900000):∃ r,Ct q=some r∧∃ (e:OEn) (q':BQ),r=((⟨e⟩:AI),q')∧HeapOk (qs q'.l)∧(qs q.l).Perm (toQ e :: qs q'.l)∧∀ x∈qs q.l,nb x (toQ e):=by
  obtain ⟨e,he⟩:=AN (l:=q.l) (k:=0) h0
  obtain ⟨z,hz⟩:=AN (l:=q.l) (k:=q.l.length - 1) (by omega)
  have cz:((q.l.length:Int) - 1)=((q.l.length - 1:Nat):Int):=by omega
  have sw:BG q.l 0 ((q.l.length - 1:Nat):Int)=some ((q.l.set 0 z).set (q.l.length - 1) e):=Ir (i:=0) he hz
  unfold Ct BO
  rw [Am,Ci (by unfold inI64;omega),Am,cz,sw,Am]
  have tk:((q.l.set 0 z).set (q.l.length - 1) e).take (q.l.length - 1)=(q.l.set 0 z).take (q.l.length - 1):=by
    rw [List.take_set]
    exact List.set_eq_of_length_le (by simp)
  have hperm:(qs q.l).Perm (toQ e :: qs ((q.l.set 0 z).take (q.l.length - 1))):=by
    have:q.l.Perm (e :: (q.l.set 0 z).take (q.l.length - 1)):=by
      cases hq:q.l with
      | nil=>rw [hq] at h0;simp at h0
      | cons a tl =>
        rw [hq] at he hz
        simp at he
        subst he
        cases htl:tl.reverse with
        | nil =>
          have:tl=[]:=by simpa using htl
          subst this
          simp
        | cons w r =>
          have htl':tl=r.reverse ++ [w]:=by have:=congrArg List.reverse htl;simpa using this
          subst htl'
          simp at hz
          subst hz
          simp
    exact this.map toQ
  obtain ⟨r,r1,r2,r3,r4,r5⟩:=NF (q:=⟨(q.l.set 0 z).set (q.l.length - 1) e⟩) (n:=q.l.length - 1) (by simp) (by simp;omega) (by
    dsimp only
    rw [tk]
    refine ⟨fun j x y hj hjp hx hy=>?_,fun j x y h1=>by omega⟩
    rw [ON,Hu] at hx hy
    have hx':=JH hx
    have hy':=JH hy
    rw [List.getElem?_set_ne (by omega)] at hx' hy'
    exact h j x y hj hx' hy')
  dsimp only at r3 r4 r5
  rw [tk] at r3
  simp only [List.length_set] at r5
  rw [r1,Am]
  unfold DW
  have hlast:r.2.l[q.l.length - 1]?=some e:=by
    have:(r.2.l.drop (q.l.length - 1))[0]?=some e:=by
      rw [r4,List.getElem?_drop,Nat.add_zero,List.getElem?_set_self (by simp;omega)]
    rwa [List.getElem?_drop,Nat.add_zero] at this
  have hcut:cutI r.2.l 0 ((q.l.length - 1:Nat):Int)=some (r.2.l.take (q.l.length - 1)):=by
    unfold cutI
    rw [if_pos (by simp;omega)]
    simp
  rw [r5,cz,Ci (by unfold inI64;omega),Am,Bi,hlast,Am,Am,hcut,Am,Am]
  exact ⟨_,rfl,e,⟨r.2.l.take (q.l.length - 1)⟩,rfl,r2,hperm.trans (List.Perm.cons _ r3.symm),MJ h (Fl he)⟩
end
section
open Go Go.RowKit
def rangeI (n:Nat):List Int:=(List.range n).map fun i:Nat=>(i:Int)
theorem GJ {n:Nat} {x:Int}:x∈rangeI n↔0≤x∧x < n:=by
  unfold rangeI
  rw [List.mem_map]
  constructor
  · rintro ⟨i,hi,rfl⟩;have:=List.mem_range.1 hi;omega
  · rintro ⟨h1,h2⟩;exact ⟨x.toNat,List.mem_range.2 (by omega),by omega⟩
theorem GK (n:Nat):(rangeI n).length=n:=by simp [rangeI]
theorem KL (n:Nat):(rangeI n).Nodup:=by
  unfold rangeI
  rw [List.nodup_iff_pairwise_ne,List.pairwise_map]
  exact (List.nodup_iff_pairwise_ne.1 List.nodup_range).imp fun h=>by omega
def PermR (l:List Int) (n:Nat):Prop:=l.Perm (rangeI n)
theorem Gv:∀ {l₁ l₂:List Int},l₁.Nodup→(∀ x∈l₁,x∈l₂)→l₂.length≤l₁.length→l₁.Perm l₂
  | [],l₂,_,_,hl=>by
    have:l₂=[]:=List.eq_nil_of_length_eq_zero (by simpa using hl)
    rw [this]
  | x :: l₁,l₂,hn,hs,hl=>by
    have hx:=hs x List.mem_cons_self
    have hp:=List.perm_cons_erase hx
    obtain ⟨h1,h2⟩:=List.nodup_cons.1 hn
    refine (List.Perm.cons x (Gv h2 (fun y hy=>?_) ?_)).trans hp.symm
    · have:y≠x:=fun e=>h1 (e ▸ hy)
      exact (List.mem_erase_of_ne this).2 (hs y (List.mem_cons_of_mem _ hy))
    · rw [List.length_erase_of_mem hx]
      simp at hl;omega
theorem PermR.len {l:List Int} {n:Nat} (h:PermR l n):l.length=n:=by rw [h.length_eq,GK]
theorem PermR.mem {l:List Int} {n:Nat} (h:PermR l n) {x:Int} (hx:x∈l):0≤x∧x < n:=GJ.1 (h.mem_iff.1 hx)
theorem PermR.nodup {l:List Int} {n:Nat} (h:PermR l n):l.Nodup:=h.symm.nodup (KL n)
theorem KM {l:List Int} {n:Nat} (h1:l.Nodup) (h2:∀ x∈l,0≤x∧x < n) (h3:l.length=n):PermR l n:=Gv h1 (fun x hx=>GJ.2 (h2 x hx)) (by rw [GK];omega)
theorem Gw {p q:Prop} (h:p↔q):some (bof p)=some (bof q):=by rw [Kn h]
theorem Ea {α:Type} {l:List α} {k:Nat} {x y:α} (h:l[k]?=some x):y∈l.take (k + 1)↔y∈l.take k∨y=x:=by
  rw [List.take_add_one,h,List.mem_append];simp
theorem OP      {l:List Int} {n:Int} (hl:l.length≤1000000∨(l.length:Int)≠n):BL l n=some (bof ((l.length:Int)=n∧PermR l l.length)):=by
  unfold BL
  by_cases hn:(l.length:Int)=n
  case neg=>rw [if_pos hn,Bh (fun h=>hn h.1)]
  have hl':l.length≤1000000:=hl.resolve_right fun h=>h hn
  subst hn
  rw [if_neg (by simp),FM (by omega) (by omega),Am]
  rcases Jn (ρ:=Bool) (f:=fun (_:Nat) (a26:Int) (s23:(List Bool))=>bnd (if a26 < 0 then (some true) else (if (l.length:Int)≤a26 then (some true) else (bnd (atI s23 a26) fun a54=>some a54)):Option Bool) fun y48=>if y48=true then (some (.ret false)) else (bnd (atI s23 a26) fun _=>some (.next (s23.set (a26).toNat true)))) (xs:=l) (s₀:=List.replicate l.length false)
    (fun k s=>s.length=l.length∧(∀ j:Nat,j < l.length→s[j]?=some (bof ((j:Int)∈l.take k)))∧(l.take k).Nodup∧∀ x∈l.take k,0≤x∧x < l.length) (fun r=>r=false∧¬ PermR l l.length)
    ⟨by simp, fun j hj=>by rw [List.getElem?_replicate,if_pos hj,List.take_zero,Bh (List.not_mem_nil)],by simp,by simp⟩ (fun k x s hx hI=>by
      obtain ⟨i1,i2,i3,i4⟩:=hI
      by_cases h1:x < 0
      · rw [if_pos h1,Am,BD]
        exact .inr ⟨_,rfl,rfl,fun hp=>by have:=hp.mem (List.mem_of_getElem? hx);omega⟩
      · rw [if_neg h1]
        by_cases h2:(l.length:Int)≤x
        · rw [if_pos h2,Am,BD]
          exact .inr ⟨_,rfl,rfl,fun hp=>by have:=hp.mem (List.mem_of_getElem? hx);omega⟩
        · rw [if_neg h2]
          obtain ⟨j,rfl⟩:=Int.eq_ofNat_of_zero_le (by omega:0≤x)
          rw [Bi,i2 j (by omega),Am,Am]
          by_cases hm:(j:Int)∈l.take k
          · rw [Bl hm,BD]
            refine .inr ⟨_,rfl,rfl,fun hp=>?_⟩
            have hnd:=hp.nodup
            rw [← List.take_append_drop k l,List.nodup_append] at hnd
            have hd:(j:Int)∈l.drop k:=List.mem_of_getElem? (i:=0) (by rw [List.getElem?_drop,Nat.add_zero];exact hx)
            exact hnd.2.2 _ hm _ hd rfl
          · rw [Bh hm,Cb,Am]
            refine .inl ⟨_,rfl,by simpa using i1,fun q hq=>?_,?_,fun y hy=>?_⟩
            · rw [show ((j:Int)).toNat=j from by omega,List.getElem?_set]
              by_cases hjq:j=q
              · subst hjq
                rw [if_pos rfl,if_pos (by omega),Bl ((Ea hx).2 (.inr rfl))]
              · rw [if_neg hjq,i2 q hq]
                refine Gw ⟨fun h=>(Ea hx).2 (.inl h),fun h=>((Ea hx).1 h).resolve_right (by omega)⟩
            · rw [List.take_add_one,hx]
              refine List.nodup_append.2 ⟨i3,by simp,fun a ha b hb=>?_⟩
              have:b=(j:Int):=by simpa using hb
              rw [this];exact fun e=>hm (e ▸ ha)
            · rcases (Ea hx).1 hy with hy|rfl
              · exact i4 y hy
              · omega) with ⟨s,hr,_,_,hnd,hrg⟩|⟨r,hr,rfl,hno⟩
  · rw [hr,Am,BW]
    rw [List.take_length] at hnd hrg
    rw [Bl ⟨rfl,KM hnd hrg rfl⟩]
  · rw [hr,Am,HK,Bh (fun h=>hno h.2)]
end
section
open Go Go.RowKit
theorem HL {α:Type} {f:Nat→α→Unit→Option (Ctl Unit Bool)} {xs:List α} (P:Nat→Prop) (h:∀ k x,xs[k]?=some x→f k x ()=if bof (P k)=true then some (.next ()) else some (.ret false)) :
    (bnd (rng (ρ:=Bool) f xs 0 ()) fun r=>fin r fun _=>some true)=some (bof (∀ k,k < xs.length→P k)):=by
  rcases Jn (f:=f) (xs:=xs) (s₀:=()) (fun k _=>∀ j,j < k→P j) (fun r=>r=false∧¬ ∀ k,k < xs.length→P k) (fun j hj=>by omega) (fun k x _ hx hI=>by
    rw [h k x hx]
    by_cases hp:P k
    · rw [Bl hp,BD]
      exact .inl ⟨_,rfl,CT hI hp⟩
    · rw [Bh hp,Cb]
      exact .inr ⟨_,rfl,rfl,fun hh=>hp (hh k (AL hx))⟩) with ⟨_,hr,hc⟩|⟨r,hr,rfl,hno⟩
  · rw [hr,Am,BW,Bl hc]
  · rw [hr,Am,HK,Bh hno]
theorem KN {l:List Int} {n:Nat} (hn:n≤1000000):BL l (n:Int)=some (bof (PermR l n)):=by
  rw [OP (by omega)]
  exact Gw ⟨fun h=>by       have:l.length=n:=by omega
                            rw [← this];exact h.2,fun h=>⟨by rw [h.len],by rw [h.len];exact h⟩⟩
def FactsPerm (t:Tsk) (x:Swp):Prop:=PermR x.vars t.vars.length∧x.vals.length=t.vars.length∧∀ (k:Nat),k < t.vars.length→∃ (n:Nat) (a:Int) (l:List Int),t.vars[k]?=some (n:Int)∧x.vars[k]?=some a∧x.vals[k]?=some l∧atI t.vars a=some (n:Int)∧PermR l n
theorem NG {t:Tsk} {x:Swp} (hok:TaskOk t):Dk t x=some (bof (FactsPerm t x)):=by
  obtain ⟨hl,_,hv,_⟩:=hok
  unfold Dk
  rw [KN (by omega),Am]
  by_cases h1:PermR x.vars t.vars.length
  case neg=>rw [Bh h1,Cb,Am,BD,Bh (fun h=>h1 h.1)]
  rw [Bl h1,BD]
  by_cases h2:x.vals.length=t.vars.length
  case neg=>rw [if_pos (by omega),Am,BD,Bh (fun h=>h2 h.2.1)]
  rw [if_neg (by omega),Am,Cb]
  rw [HL (fun k=>∃ (n:Nat) (a:Int) (l:List Int),t.vars[k]?=some (n:Int)∧x.vars[k]?=some a∧x.vals[k]?=some l∧atI t.vars a=some (n:Int)∧PermR l n) (fun k y hy=>by
    have hk:=AL hy
    obtain ⟨a,ha⟩:=AN (l:=x.vars) (k:=k) (by rw [h1.len];omega)
    obtain ⟨l,hll⟩:=AN (l:=x.vals) (k:=k) (by omega)
    have hy2:=hv k y hy
    obtain ⟨n,rfl⟩:=Int.eq_ofNat_of_zero_le (by omega:0≤y)
    obtain ⟨ha1,ha2⟩:=h1.mem (List.mem_of_getElem? ha)
    obtain ⟨j,rfl⟩:=Int.eq_ofNat_of_zero_le ha1
    obtain ⟨m,hm⟩:=AN (l:=t.vars) (k:=j) (by omega)
    rw [ha,Am,Bi,hm,Am]
    by_cases hmn:m=(n:Int)
    · rw [if_neg (by simpa using hmn),hll,Am,KN (by omega),Am]
      by_cases hp:PermR l n
      · rw [Bl hp,BD,Am,Cb,Bl ⟨n,_,l,hy,rfl,rfl,by rw [Bi,hm,hmn],hp⟩,BD]
      · rw [Bh hp,Cb,Am,BD,Bh (fun ⟨n',a',l',q1,q2,q3,q4,q5⟩=>by
          have e1:(n:Int)=n':=by rw [hy] at q1;exact Option.some.inj q1
          have e2:l=l':=Option.some.inj q3
          have e3:n=n':=by omega
          subst e2 e3;exact hp q5),Cb]
    · rw [if_pos hmn,Am,BD,Bh (fun ⟨n',a',l',q1,q2,q3,q4,q5⟩=>by
        have e1:(n:Int)=n':=by rw [hy] at q1;exact Option.some.inj q1
        have e2:(j:Int)=a':=Option.some.inj q2
        rw [← e2,Bi,hm] at q4
        exact hmn (by rw [e1];exact Option.some.inj q4)),Cb])]
  exact Gw ⟨fun h=>⟨h1,h2,h⟩,fun h=>h.2.2⟩
theorem Gi (a b:List Fct):Bv a b=some (bof (a=b)):=by
  unfold Bv
  by_cases hl:a.length=b.length
  case neg=>rw [if_pos (by omega),Bh (fun h=>hl (by rw [h]))]
  rw [if_neg (by omega),HL (fun k=>a[k]?=b[k]?) (fun k y hy=>by
    obtain ⟨z,hz⟩:=AN (l:=b) (k:=k) (by have:=AL hy;omega)
    rw [hz,Am]
    by_cases h:y=z
    · rw [if_neg (by simp [h]),Bl (by rw [hy,h]),BD]
    · rw [if_pos (fun hh=>h (by cases y;cases z;simpa using hh)),Bh (by rw [hy];simpa using h),Cb])]
  refine Gw ⟨fun h=>List.ext_getElem? fun k=>?_,fun h=>by rw [h];exact fun _ _=>rfl⟩
  by_cases hk:k < a.length
  · exact h k hk
  · rw [List.getElem?_eq_none (by omega),List.getElem?_eq_none (by omega)]
theorem alike1 (a b:Eff):CO a b=some (bof (a=b)):=by
  unfold CO
  by_cases h1:a.var=b.var
  case neg=>rw [if_neg h1,Am,Bh (fun h=>h1 (by rw [h]))]
  by_cases h2:a.val=b.val
  case neg=>rw [if_pos h1,if_neg h2,Am,Bh (fun h=>h2 (by rw [h]))]
  rw [if_pos h1,if_pos h2,Gi,Am]
  by_cases h3:a.cond=b.cond
  · rw [Bl h3,BD,Am,Bl (by cases a;cases b;simp_all)]
  · rw [Bh h3,Cb,Am,Bh (fun h=>h3 (by rw [h]))]
theorem Me (a b:List Eff):AX a b=some (bof (a=b)):=by
  unfold AX
  by_cases hl:a.length=b.length
  case neg=>rw [if_pos (by omega),Bh (fun h=>hl (by rw [h]))]
  rw [if_neg (by omega),HL (fun k=>a[k]?=b[k]?) (fun k y hy=>by
    obtain ⟨z,hz⟩:=AN (l:=b) (k:=k) (by have:=AL hy;omega)
    rw [hz,Am,alike1,Am]
    by_cases h:y=z
    · rw [Bl h,BD,Bl (by rw [hy,h]),BD]
    · rw [Bh h,Cb,Bh (by rw [hy];simpa using h),Cb])]
  refine Gw ⟨fun h=>List.ext_getElem? fun k=>?_,fun h=>by rw [h];exact fun _ _=>rfl⟩
  by_cases hk:k < a.length
  · exact h k hk
  · rw [List.getElem?_eq_none (by omega),List.getElem?_eq_none (by omega)]
theorem NH (p q:Opr):Dl p q=some (bof (p.cost=q.cost∧p.pre=q.pre∧p.effs=q.effs)):=by
  unfold Dl
  by_cases h1:p.cost=q.cost
  case neg=>rw [if_neg h1,Am,Bh (fun h=>h1 h.1)]
  rw [if_pos h1,Gi,Am]
  by_cases h2:p.pre=q.pre
  case neg=>rw [Bh h2,Cb,Am,Bh (fun h=>h2 h.2.1)]
  rw [Bl h2,BD,Me,Am]
  by_cases h3:p.effs=q.effs
  · rw [Bl h3,BD,Am,Bl ⟨h1,h2,h3⟩]
  · rw [Bh h3,Cb,Am,Bh (fun h=>h3 h.2.2)]
def imF (x:Swp) (f:Fct):Fct:=⟨(x.vars[f.var.toNat]?).getD 0,(((x.vals[f.var.toNat]?).getD [])[f.val.toNat]?).getD 0⟩
def imL (x:Swp) (fs:List Fct):List Fct:=Bd (fs.map (imF x))
def imE (x:Swp) (e:Eff):Eff:=⟨imL x e.cond,(imF x ⟨e.var,e.val⟩).var,(imF x ⟨e.var,e.val⟩).val⟩
def imO (x:Swp) (o:Opr):Opr:=⟨⟨#[]⟩,o.cost,imL x o.pre,o.effs.map (imE x)⟩
theorem IW {t:Tsk} {x:Swp} {f:Fct} (hp:FactsPerm t x) (hf:FactOk t.vars f):∃ l,atI x.vars f.var=some (imF x f).var∧atI x.vals f.var=some l∧atI l f.val=some (imF x f).val∧0≤(imF x f).var∧0≤(imF x f).val:=by
  obtain ⟨h1,h2,n,hn,h3⟩:=hf
  obtain ⟨fv,fz⟩:=f
  simp only at h1 h2 hn h3 ⊢
  obtain ⟨j,rfl⟩:=Int.eq_ofNat_of_zero_le h1
  obtain ⟨i,rfl⟩:=Int.eq_ofNat_of_zero_le h2
  rw [show ((j:Int)).toNat=j from by omega] at hn
  obtain ⟨m,a,l,q1,q2,q3,q4,q5⟩:=hp.2.2 j (AL hn)
  have e:(m:Int)=n:=by rw [hn] at q1;exact (Option.some.inj q1).symm
  obtain ⟨z,hz⟩:=AN (l:=l) (k:=i) (by rw [q5.len];omega)
  have ha:=hp.1.mem (List.mem_of_getElem? q2)
  have hz':=q5.mem (List.mem_of_getElem? hz)
  refine ⟨l,?_,?_,?_,?_,?_⟩<;>simp [imF,Bi,q2,q3,hz]<;>omega
end
section
open Go Go.RowKit
theorem EE {vars:List Int} {f:List Fct} (h:FactsOk vars f):(∀ x∈f,FactOk vars x)∧f.Pairwise fun x y=>x.var < y.var:=by
  refine ⟨fun x hx=>by obtain ⟨i,hi⟩:=List.getElem?_of_mem hx;exact h.1 i x hi,?_⟩
  rw [List.pairwise_iff_getElem]
  intro i j hi hj hij
  exact Fy h j i _ _ hij (List.getElem?_eq_getElem hi) (List.getElem?_eq_getElem hj)
theorem ML {a b:List Fct} (hp:a.Perm b) (ha:a.Pairwise fun x y=>x.var < y.var) (hb:b.Pairwise fun x y=>x.var < y.var):a=b :=
  List.Perm.eq_of_pairwise (fun x y _ _ h1 h2=>by omega) ha hb hp
def VarsNe (f:List Fct):Prop:=f.Pairwise fun x y=>x.var≠y.var
theorem VarsNe.perm {a b:List Fct} (hp:a.Perm b) (h:VarsNe a):VarsNe b:=(hp.pairwise_iff (fun h e=>h e.symm)).1 h
theorem IX {a:List Fct} (h:VarsNe a):(Bd a).Pairwise fun x y=>x.var < y.var:=by
  have h1:=Le a
  have h2:VarsNe (Bd a):=h.perm (Dv a).symm
  exact (h1.and h2).imp fun ⟨p,q⟩=>by omega
theorem OQ {t:Tsk} {x:Swp} {f g:Fct} (hp:FactsPerm t x) (hf:FactOk t.vars f) (hg:FactOk t.vars g) (h:(imF x f).var=(imF x g).var):f.var=g.var:=by
  obtain ⟨_,hf1,_⟩:=IW hp hf
  obtain ⟨_,hg1,_⟩:=IW hp hg
  obtain ⟨i,hi,hi'⟩:=EW hf1
  obtain ⟨j,hj,hj'⟩:=EW hg1
  rw [h,← hj'] at hi'
  have h1:i < x.vars.length:=by rw [hj'] at hi';exact AL hi'
  have h2:=AL hj'
  rw [List.getElem?_eq_getElem h1,List.getElem?_eq_getElem h2] at hi'
  have hij:=(List.getElem_inj hp.1.nodup).1 (Option.some.inj hi')
  rw [hi,hj,hij]
theorem Oi {t:Tsk} {x:Swp} {fs:List Fct} (hp:FactsPerm t x) (hf:FactsOk t.vars fs):VarsNe (fs.map (imF x)):=by
  obtain ⟨h1,h2⟩:=EE hf
  unfold VarsNe
  rw [List.pairwise_map]
  refine List.Pairwise.imp_of_mem (fun {a b} ha hb hab=>?_) h2
  intro e
  have:=OQ hp (h1 a ha) (h1 b hb) e
  omega
theorem MM {t:Tsk} {fs:List Fct} (hok:TaskOk t) (hf:FactsOk t.vars fs):fs.length≤64:=by have:=Ew hf;have:=hok.1;omega
theorem map_take {α β:Type} {f:α→β} {l:List α} {k:Nat} {x:α} (h:l[k]?=some x):(l.take (k + 1)).map f=(l.take k).map f ++ [f x]:=by
  rw [List.take_add_one,h];simp
theorem Hv {t:Tsk} {x:Swp} {fs:List Fct} (hok:TaskOk t) (hp:FactsPerm t x) (hf:FactsOk t.vars fs):Cv x fs=some (imL x fs):=by
  have hl:=MM hok hf
  unfold Cv
  rw [Fa (fun k=>(fs.take k).map (imF x)) (by simp) (fun k f hk=>by
    obtain ⟨l,h1,h2,h3,_⟩:=IW hp (hf.1 k f hk)
    have:=AL hk
    rw [h1,Am,h2,Am,h3,Am,Cm (by simp;omega) (by simp;omega),Am,map_take hk]),Am,BW,List.take_length,if_pos (by simp;omega),Am]
  rfl
theorem NI {t:Tsk} {x:Swp} {o:Opr} (hok:TaskOk t) (hp:FactsPerm t x) (ho:OpOk t.vars o):Dm x o=some (imO x o):=by
  obtain ⟨_,_,hl,_,hpre,heff⟩:=ho
  unfold Dm
  rw [Hv hok hp hpre,Am,Am,Fa (fun k=>(o.effs.take k).map (imE x)) (by simp) (fun k e hk=>by
    obtain ⟨h1,h2⟩:=heff k e hk
    obtain ⟨l,g1,g2,g3,_⟩:=IW hp h2
    have:=AL hk
    rw [show e.var=(⟨e.var,e.val⟩:Fct).var from rfl,g1,Am,g2,Am,show e.val=(⟨e.var,e.val⟩:Fct).val from rfl,g3,Am,Hv hok hp h1,Am,Cm (by simp;omega) (by simp;omega),Am,map_take hk]
    rfl),Am,BW,List.take_length]
  rfl
def SymP (t:Tsk) (x:Swp):Prop:=FactsPerm t x∧PermR x.ops t.ops.length∧imL x t.goal=t.goal∧∀ k,k < t.ops.length→∃ (o p:Opr) (a:Int),t.ops[k]?=some o∧x.ops[k]?=some a∧atI t.ops a=some p∧o.cost=p.cost∧imL x o.pre=p.pre∧o.effs.map (imE x)=p.effs
theorem HM {t:Tsk} {x:Swp} (hok:TaskOk t):Da t x=some (bof (SymP t x)):=by
  unfold Da
  rw [NG hok,Am]
  by_cases h1:FactsPerm t x
  case neg=>rw [Bh h1,Cb,Am,BD,Bh (fun h=>h1 h.1)]
  have hlo:=hok.2.1
  rw [Bl h1,BD,KN (by omega),Am]
  by_cases h2:PermR x.ops t.ops.length
  case neg=>rw [Bh h2,Cb,Am,BD,Bh (fun h=>h2 h.2.1)]
  rw [Bl h2,BD,Hv hok h1 hok.2.2.2.2.1,Am,Gi,Am]
  by_cases h3:imL x t.goal=t.goal
  case neg=>rw [Bh h3,Cb,Am,BD,Bh (fun h=>h3 h.2.2.1)]
  rw [Bl h3,BD,Am,Cb,HL (fun k=>∃ (o p:Opr) (a:Int),t.ops[k]?=some o∧x.ops[k]?=some a∧atI t.ops a=some p∧o.cost=p.cost∧imL x o.pre=p.pre∧o.effs.map (imE x)=p.effs) (fun k o hk=>by
    have:=AL hk
    obtain ⟨a,ha⟩:=AN (l:=x.ops) (k:=k) (by rw [h2.len];omega)
    obtain ⟨ha1,ha2⟩:=h2.mem (List.mem_of_getElem? ha)
    obtain ⟨j,rfl⟩:=Int.eq_ofNat_of_zero_le ha1
    obtain ⟨p,hp⟩:=AN (l:=t.ops) (k:=j) (by omega)
    rw [ha,Am,Bi,hp,Am,NI hok h1 (hok.2.2.2.2.2 k o hk),Am,NH,Am]
    have e:(∃ (o p:Opr) (a:Int),t.ops[k]?=some o∧some (j:Int)=some a∧atI t.ops a=some p∧o.cost=p.cost∧imL x o.pre=p.pre∧o.effs.map (imE x)=p.effs)↔((imO x o).cost=p.cost∧(imO x o).pre=p.pre∧(imO x o).effs=p.effs):=by
      constructor
      · rintro ⟨o',p',a',q1,q2,q3,q4⟩
        obtain rfl:o=o':=by rw [hk] at q1;exact Option.some.inj q1
        obtain rfl:=Option.some.inj q2
        rw [Bi,hp] at q3
        obtain rfl:=Option.some.inj q3
        exact q4
      · intro h
        exact ⟨o,p,j,hk,rfl,by rw [Bi,hp],h⟩
    rw [Kn e])]
  exact Gw ⟨fun h=>⟨h1,h2,h3,h⟩,fun h=>h.2.2.2⟩
theorem NJ {t:Tsk} {x:Swp}:Cr t x=some (bof (TaskOk t∧SymP t x)):=by
  unfold Cr Cq
  rw [Am]
  by_cases hok:TaskOk t
  case neg=>rw [if_neg (fun h=>hok (Dj.1 h)),Am,Bh (fun h=>hok h.1)]
  rw [if_pos (Dj.2 hok),HM hok,Am]
  by_cases h:SymP t x
  · rw [Bl h,BD,Am,Bl ⟨hok,h⟩]
  · rw [Bh h,Cb,Am,Bh (fun hh=>h hh.2)]
end
section
open Go Go.RowKit
theorem demand1 {t:Tsk} {x:Swp} (hok:TaskOk t):Bn t [x]=some ⟨if bof (SymP t x)=true then 0 else 2⟩:=by
  unfold Bn Cq
  rw [Am,if_neg (by rw [Dj.2 hok];simp)]
  by_cases h:SymP t x
  · rw [Nv (fun k y hy=>by
      obtain rfl:y=x:=by simpa using List.mem_of_getElem? hy
      rw [HM hok,Am,Bl h,BD]),Am,BW,Bl h,BD]
  · have:rng (ρ:=Err) (fun (_:Nat) (a41:Swp) (_:Unit)=>bnd (Da t a41) fun q77=>if q77=true then some (.next ()) else some (.ret (⟨2⟩:Err))) [x] 0 ()=some (.ret ⟨2⟩):=by
      simp only [rng]
      rw [HM hok,Am,Bh h,Cb]
    rw [this,Am,HK,Bh h,Cb]
def ImS (x:Swp) (s r:List Int):Prop:=r.length=s.length∧∀ (k:Nat) v,s[k]?=some v→∃ (a:Nat) (l:List Int) (z:Int),x.vars[k]?=some (a:Int)∧x.vals[k]?=some l∧atI l v=some z∧r[a]?=some z
theorem KO {t:Tsk} {x:Swp} {s:List Int} (hok:TaskOk t) (hp:FactsPerm t x) (hs:StateOk t.vars s):∃ r,Ch x s=some r∧ImS x s r:=by
  obtain ⟨hsl,hsv⟩:=hs
  have hl:=hok.1
  unfold Ch
  rw [FM (by omega) (by omega),Am]
  obtain ⟨r,h1,h2,h3⟩:=DP (ρ:=List Int) (f:=fun (k42:Nat) (a43:Int) (s40:(List Int))=>bnd (x.vars[k42]?) fun a65=>bnd (x.vals[k42]?) fun a75=>bnd (atI a75 a43) fun a88=>bnd (atI s40 a65) fun _=>some (.next (s40.set (a65).toNat a88))) (xs:=s) (s₀:=List.replicate s.length 0)
    (fun k r=>r.length=s.length∧∀ (j:Nat) v,j < k→s[j]?=some v→∃ (a:Nat) (l:List Int) (z:Int),x.vars[j]?=some (a:Int)∧x.vals[j]?=some l∧atI l v=some z∧r[a]?=some z) ⟨by simp,fun j v hj=>by omega⟩ (fun k v r hk hI=>by
    obtain ⟨i1,i2⟩:=hI
    have hlt:=AL hk
    obtain ⟨n,a,l,q1,q2,q3,q4,q5⟩:=hp.2.2 k (by omega)
    obtain ⟨ha1,ha2⟩:=hp.1.mem (List.mem_of_getElem? q2)
    obtain ⟨a,rfl⟩:=Int.eq_ofNat_of_zero_le ha1
    obtain ⟨h1,h2⟩:=hsv k v n hk q1
    obtain ⟨u,rfl⟩:=Int.eq_ofNat_of_zero_le h1
    obtain ⟨z,hz⟩:=AN (l:=l) (k:=u) (by rw [q5.len];omega)
    obtain ⟨y,hy⟩:=AN (l:=r) (k:=a) (by omega)
    rw [q2,Am,q3,Am,Bi,hz,Am,Bi,hy,Am]
    refine ⟨_,rfl,by simpa using i1,fun j v' hj hv'=>?_⟩
    rw [show ((a:Int)).toNat=a from by omega]
    by_cases hjk:j=k
    · subst hjk
      rw [hk] at hv'
      obtain rfl:=Option.some.inj hv'
      exact ⟨a,l,z,q2,q3,by rw [Bi,hz],by rw [List.getElem?_set_self (by omega)]⟩
    · obtain ⟨a',l',z',g1,g2,g3,g4⟩:=i2 j v' (by omega) hv'
      refine ⟨a',l',z',g1,g2,g3,?_⟩
      rw [List.getElem?_set_ne (fun e=>hjk ?_),g4]
      have hj1:=AL g1
      have hk1:=AL q2
      rw [e] at q2
      have:=g1.trans q2.symm
      rw [List.getElem?_eq_getElem hj1,List.getElem?_eq_getElem hk1] at this
      exact (List.getElem_inj hp.1.nodup).1 (Option.some.inj this))
  exact ⟨r,by rw [h1,Am,BW],h2,fun k v hk=>h3 k v (AL hk) hk⟩
theorem JK (x:Swp) (s:List Int):Dq x s=Ch x s:=rfl
end
section
open Go Go.RowKit
theorem EF {l:List Int} {n:Nat} (h:PermR l n) {k:Nat} (hk:k < n):∃ a:Nat,l[k]?=some (a:Int)∧a < n:=by
  obtain ⟨z,hz⟩:=AN (l:=l) (k:=k) (by rw [h.len];exact hk)
  obtain ⟨h1,h2⟩:=h.mem (List.mem_of_getElem? hz)
  obtain ⟨a,rfl⟩:=Int.eq_ofNat_of_zero_le h1
  exact ⟨a,hz,by omega⟩
theorem EN {l:List Int} {n:Nat} (h:PermR l n) {a:Nat} (ha:a < n):∃ k:Nat,k < n∧l[k]?=some (a:Int):=by
  have:(a:Int)∈l:=h.mem_iff.2 (GJ.2 ⟨by omega,by omega⟩)
  obtain ⟨k,hk⟩:=List.getElem?_of_mem this
  exact ⟨k,by rw [← h.len];exact AL hk,hk⟩
theorem FP {l:List Int} {n:Nat} (h:PermR l n) {i j:Nat} {a:Int} (hi:l[i]?=some a) (hj:l[j]?=some a):i=j:=by
  have h1:=AL hi
  have h2:=AL hj
  have:=hi.trans hj.symm
  rw [List.getElem?_eq_getElem h1,List.getElem?_eq_getElem h2] at this
  exact (List.getElem_inj h.nodup).1 (Option.some.inj this)
theorem JL {l:List Int} {n:Nat} (hl:l.length=n) (h1:∀ (k:Nat) (a:Int),l[k]?=some a→0≤a∧a < n) (h2:∀ (i j:Nat) (a:Int),l[i]?=some a→l[j]?=some a→i=j):PermR l n:=by
  refine KM ?_ (fun x hx=>?_) hl
  · rw [List.nodup_iff_pairwise_ne,List.pairwise_iff_getElem]
    intro i j hi hj hij e
    have:=h2 i j l[i] (List.getElem?_eq_getElem hi) (by rw [List.getElem?_eq_getElem hj,e])
    omega
  · obtain ⟨k,hk⟩:=List.getElem?_of_mem hx
    exact h1 k x hk
theorem CR {n k:Nat} (h:k < n):(rangeI n)[k]?=some (k:Int):=by
  unfold rangeI
  rw [List.getElem?_map,List.getElem?_range h];rfl
theorem Gj (n:Nat):PermR (rangeI n) n:=List.Perm.refl _
theorem JM {l:List Int} {n:Nat} (hl:l.length=n) (h:∀ k,k < n→l[k]?=some (k:Int)):l=rangeI n:=List.ext_getElem? fun k=>by
  by_cases hk:k < n
  · rw [h k hk,CR hk]
  · rw [List.getElem?_eq_none (by omega),List.getElem?_eq_none (by rw [GK];omega)]
theorem Jp {n:Nat} (h:n≤1000000):CH (n:Int)=some (rangeI n):=by
  unfold CH
  rw [FM (by omega) (by omega),Am,List.length_replicate]
  obtain ⟨s,h1,h2,h3⟩:=Nx (ρ:=List Int) (f:=fun (k20:Nat) (s18:(List Int))=>bnd (s18[k20]?) fun _=>some (.next (s18.set k20 (k20:Int)))) (N:=n) (s₀:=List.replicate n 0) (fun k s=>s.length=n∧∀ j,j < k→s[j]?=some (j:Int)) ⟨by simp,fun j hj=>by omega⟩ (fun k s hk hI=>by
    obtain ⟨i1,i2⟩:=hI
    obtain ⟨z,hz⟩:=AN (l:=s) (k:=k) (by omega)
    rw [hz,Am]
    refine ⟨_,rfl,by simpa using i1,fun j hj=>?_⟩
    rw [List.getElem?_set]
    by_cases e:k=j
    · rw [if_pos e,if_pos (by omega),e]
    · rw [if_neg e];exact i2 j (by omega))
  rw [h1,Am,BW,JM h2 h3]
def alongL (a b:List Int):List Int:=a.map fun k=>(b[k.toNat]?).getD 0
theorem Dx {a b:List Int} {n:Nat} (ha:PermR a n) (hb:b.length=n) {k i:Nat} {z:Int} (h1:a[k]?=some (i:Int)) (h2:b[i]?=some z):(alongL a b)[k]?=some z:=by
  unfold alongL
  rw [List.getElem?_map,h1]
  simp [h2]
theorem Is {a b:List Int} {n:Nat} (ha:PermR a n) (hb:b.length=n) (hn:n≤1000000):CE a b=some (alongL a b):=by
  unfold CE
  have hl:=ha.len
  rw [FM (by omega) (by omega),Am]
  obtain ⟨s,h1,h2,h3⟩:=DP (ρ:=List Int) (f:=fun (k26:Nat) (a27:Int) (s24:(List Int))=>bnd (atI b a27) fun a49=>bnd (s24[k26]?) fun _=>some (.next (s24.set k26 a49))) (xs:=a) (s₀:=List.replicate a.length 0) (fun k s=>s.length=a.length∧∀ j,j < k→s[j]?=(alongL a b)[j]?) ⟨by simp,fun j hj=>by omega⟩ (fun k y s hk hI=>by
    obtain ⟨i1,i2⟩:=hI
    have hlt:=AL hk
    obtain ⟨i,hi,hin⟩:=EF ha (k:=k) (by omega)
    obtain rfl:y=(i:Int):=by rw [hi] at hk;exact (Option.some.inj hk).symm
    obtain ⟨z,hz⟩:=AN (l:=b) (k:=i) (by omega)
    obtain ⟨u,hu⟩:=AN (l:=s) (k:=k) (by omega)
    rw [Bi,hz,Am,hu,Am]
    refine ⟨_,rfl,by simpa using i1,fun j hj=>?_⟩
    rw [List.getElem?_set]
    by_cases e:k=j
    · subst e;rw [if_pos rfl,if_pos (by omega),Dx ha hb hi hz]
    · rw [if_neg e];exact i2 j (by omega))
  rw [h1,Am,BW]
  refine congrArg some (List.ext_getElem? fun k=>?_)
  by_cases hk:k < a.length
  · exact h3 k hk
  · rw [List.getElem?_eq_none (by omega),List.getElem?_eq_none (by simp [alongL];omega)]
theorem GL {a b:List Int} {n:Nat} (ha:PermR a n) (hb:PermR b n):PermR (alongL a b) n:=by
  have hl:(alongL a b).length=n:=by simp [alongL,ha.len]
  have key:∀ (k:Nat) (z:Int),(alongL a b)[k]?=some z→∃ i:Nat,a[k]?=some (i:Int)∧b[i]?=some z:=fun k z hz=>by
    obtain ⟨i,hi,hin⟩:=EF ha (k:=k) (by rw [← hl];exact AL hz)
    obtain ⟨y,hy,_⟩:=EF hb hin
    rw [Dx ha hb.len hi hy] at hz
    exact ⟨i,hi,hy.trans hz⟩
  refine JL hl (fun k z hz=>?_) (fun k j z h1 h2=>?_)
  · obtain ⟨i,hi,hz⟩:=key k z hz
    exact hb.mem (List.mem_of_getElem? hz)
  · obtain ⟨i,hi,hz⟩:=key k z h1
    obtain ⟨i',hi',hz'⟩:=key j z h2
    have:=FP hb hz hz'
    subst this
    exact FP ha hi hi'
noncomputable def backL (l:List Int):List Int:=(Cd l).getD []
theorem Ee {l:List Int} {n:Nat} (hp:PermR l n) (hn:n≤1000000):Cd l=some (backL l)∧(backL l).length=n∧∀ i k:Nat,l[i]?=some (k:Int)→(backL l)[k]?=some (i:Int):=by
  have hl:=hp.len
  have:∃ s,Cd l=some s∧s.length=n∧∀ i k:Nat,l[i]?=some (k:Int)→s[k]?=some (i:Int):=by
    unfold Cd
    rw [FM (by omega) (by omega),Am]
    obtain ⟨s,h1,h2,h3⟩:=DP (ρ:=List Int) (f:=fun (k24:Nat) (a25:Int) (s22:(List Int))=>bnd (atI s22 a25) fun _=>some (.next (s22.set (a25).toNat (k24:Int)))) (xs:=l) (s₀:=List.replicate l.length 0) (fun k s=>s.length=n∧∀ i j:Nat,i < k→l[i]?=some (j:Int)→s[j]?=some (i:Int)) ⟨by simpa using hl,fun i j hi=>by omega⟩ (fun k y s hk hI=>by
      obtain ⟨i1,i2⟩:=hI
      have hlt:=AL hk
      obtain ⟨j,hj,hjn⟩:=EF hp (k:=k) (by omega)
      obtain rfl:y=(j:Int):=by rw [hj] at hk;exact (Option.some.inj hk).symm
      obtain ⟨u,hu⟩:=AN (l:=s) (k:=j) (by omega)
      rw [Bi,hu,Am]
      refine ⟨_,rfl,by simpa using i1,fun i j' hi hij=>?_⟩
      rw [show ((j:Int)).toNat=j from by omega,List.getElem?_set]
      by_cases e:j=j'
      · subst e
        rw [if_pos rfl,if_pos (by omega),FP hp hij hk]
      · rw [if_neg e]
        refine i2 i j' ?_ hij
        have:i≠k:=fun h=>e (by subst h;rw [hij] at hk;have:=Option.some.inj hk;omega)
        omega)
    exact ⟨s,by rw [h1,Am,BW],h2,fun i k h=>h3 i k (AL h) h⟩
  obtain ⟨s,h1,h2,h3⟩:=this
  have e:backL l=s:=by unfold backL;rw [h1];rfl
  rw [e];exact ⟨h1,h2,h3⟩
theorem Hw {l:List Int} {n:Nat} (hp:PermR l n) (hn:n≤1000000):PermR (backL l) n:=by
  obtain ⟨_,h2,h3⟩:=Ee hp hn
  have key:∀ (k:Nat) (z:Int),(backL l)[k]?=some z→∃ i:Nat,z=(i:Int)∧i < n∧l[i]?=some (k:Int):=fun k z hz=>by
    obtain ⟨i,hin,hi⟩:=EN hp (a:=k) (by rw [← h2];exact AL hz)
    have:=h3 i k hi
    rw [hz] at this
    exact ⟨i,Option.some.inj this,hin,hi⟩
  refine JL h2 (fun k z hz=>?_) (fun k j z g1 g2=>?_)
  · obtain ⟨i,rfl,hi,_⟩:=key k z hz;omega
  · obtain ⟨i,rfl,_,hi⟩:=key k z g1
    obtain ⟨i',e,_,hi'⟩:=key j _ g2
    obtain rfl:i=i':=by omega
    rw [hi] at hi'
    have:=Option.some.inj hi'
    omega
theorem GM {l:List Int} {n:Nat} (hp:PermR l n) (hn:n≤1000000):alongL l (backL l)=rangeI n:=by
  obtain ⟨_,h2,h3⟩:=Ee hp hn
  refine JM (by simp [alongL,hp.len]) fun k hk=>?_
  obtain ⟨a,ha,_⟩:=EF hp hk
  exact Dx hp h2 ha (h3 k a ha)
theorem IY {x:Swp} {v u a z:Nat} {l:List Int} (h1:x.vars[v]?=some (a:Int)) (h2:x.vals[v]?=some l) (h3:l[u]?=some (z:Int)):imF x ⟨v,u⟩=⟨a,z⟩:=by simp [imF,h1,h2,h3]
theorem DY {t:Tsk} {x:Swp} {f:Fct} (hok:TaskOk t) (hp:FactsPerm t x) (hf:FactOk t.vars f):∃ (v u n a z:Nat) (l:List Int),f=⟨v,u⟩∧v < t.vars.length∧t.vars[v]?=some (n:Int)∧n≤64∧u < n∧x.vars[v]?=some (a:Int)∧x.vals[v]?=some l∧PermR l n∧l[u]?=some (z:Int)∧z < n∧a < t.vars.length∧t.vars[a]?=some (n:Int)∧imF x f=⟨a,z⟩:=by
  obtain ⟨fv,fu⟩:=f
  obtain ⟨h1,h2,n,hn,h3⟩:=hf
  simp only at h1 h2 hn h3
  obtain ⟨v,rfl⟩:=Int.eq_ofNat_of_zero_le h1
  obtain ⟨u,rfl⟩:=Int.eq_ofNat_of_zero_le h2
  rw [show ((v:Int)).toNat=v from by omega] at hn
  have hlt:=AL hn
  obtain ⟨m,a,l,q1,q2,q3,q4,q5⟩:=hp.2.2 v hlt
  have e:(m:Int)=n:=by rw [hn] at q1;exact (Option.some.inj q1).symm
  subst e
  obtain ⟨ha1,ha2⟩:=hp.1.mem (List.mem_of_getElem? q2)
  obtain ⟨a,rfl⟩:=Int.eq_ofNat_of_zero_le ha1
  obtain ⟨z,hz,hzn⟩:=EF q5 (k:=u) (by omega)
  have hm:=hok.2.2.1 v m hn
  rw [Bi] at q4
  exact ⟨v,u,m,a,z,l,rfl,hlt,hn,by omega,by omega,q2,q3,q5,hz,hzn,by omega,q4,IY q2 q3 hz⟩
theorem MN {t:Tsk} {x:Swp} {f:Fct} (hok:TaskOk t) (hp:FactsPerm t x) (hf:FactOk t.vars f):FactOk t.vars (imF x f):=by
  obtain ⟨v,u,n,a,z,l,rfl,_,_,_,_,_,_,_,_,hz,ha,hta,e⟩:=DY hok hp hf
  rw [e]
  exact ⟨by simp,by simp,n,by simpa using hta,by simpa using hz⟩
theorem KP {t:Tsk} {x:Swp} {fs:List Fct} (hok:TaskOk t) (hp:FactsPerm t x) (hf:FactsOk t.vars fs):(∀ f∈imL x fs,FactOk t.vars f)∧(imL x fs).Pairwise fun a b=>a.var < b.var:=by
  refine ⟨fun f h=>?_,IX (Oi hp hf)⟩
  have h:=(Dv _).mem_iff.1 h
  obtain ⟨g,hg,rfl⟩:=List.mem_map.1 h
  exact MN hok hp ((EE hf).1 g hg)
theorem Hx {t:Tsk} {x:Swp} {fs gs:List Fct} (hp:FactsPerm t x) (hf:FactsOk t.vars fs) (hg:gs.Pairwise fun a b=>a.var < b.var) (h:gs.Perm (fs.map (imF x))):imL x fs=gs :=
  ML ((Dv _).trans h.symm) (IX (Oi hp hf)) hg
theorem It {t:Tsk} {x y z:Swp} {fs:List Fct} (hok:TaskOk t) (hx:FactsPerm t x) (hy:FactsPerm t y) (hz:FactsPerm t z) (hf:FactsOk t.vars fs) (hgs:FactsOk t.vars (imL x fs)) (h:∀ f,FactOk t.vars f→imF z f=imF y (imF x f)):imL z fs=imL y (imL x fs):=by
  refine Hx hz hf (KP hok hy hgs).2 ?_
  refine (Dv _).trans ?_
  have e:fs.map (imF z)=(fs.map (imF x)).map (imF y):=by
    rw [List.map_map]
    exact List.map_congr_left fun f hf'=>h f ((EE hf).1 f hf')
  rw [e]
  exact (Dv _).map _
theorem Mf {vars:List Int} {f:List Fct} (h1:∀ x∈f,FactOk vars x) (h2:f.Pairwise fun x y=>x.var < y.var):FactsOk vars f:=by
  refine ⟨fun i x hx=>h1 x (List.mem_of_getElem? hx),fun i x y hx hy=>?_⟩
  obtain ⟨hi,rfl⟩:=List.getElem?_eq_some_iff.1 hx
  obtain ⟨hj,rfl⟩:=List.getElem?_eq_some_iff.1 hy
  exact List.pairwise_iff_getElem.1 h2 i (i + 1) hi hj (Nat.lt_succ_self i)
theorem Hy {t:Tsk} {x:Swp} {fs:List Fct} (hok:TaskOk t) (hp:FactsPerm t x) (hf:FactsOk t.vars fs):FactsOk t.vars (imL x fs):=Mf (KP hok hp hf).1 (KP hok hp hf).2
theorem GN {t:Tsk} {x:Swp} {fs:List Fct} (hp:FactsPerm t x) (hf:FactsOk t.vars fs) (h:∀ f,FactOk t.vars f→imF x f=f):imL x fs=fs:=by
  refine Hx hp hf (EE hf).2 ?_
  have:fs.map (imF x)=fs.map id:=List.map_congr_left fun f hf'=>h f ((EE hf).1 f hf')
  rw [this,List.map_id]
theorem KQ {t:Tsk} {x y z:Swp} {e:Eff} (hok:TaskOk t) (hx:FactsPerm t x) (hy:FactsPerm t y) (hz:FactsPerm t z) (he:EffOk t.vars e) (h:∀ f,FactOk t.vars f→imF z f=imF y (imF x f)):imE z e=imE y (imE x e):=by
  have h1:=It hok hx hy hz he.1 (Hy hok hx he.1) h
  have h2:=h ⟨e.var,e.val⟩ he.2
  show (⟨imL z e.cond,(imF z ⟨e.var,e.val⟩).var,(imF z ⟨e.var,e.val⟩).val⟩:Eff)=⟨imL y (imL x e.cond),(imF y (imF x ⟨e.var,e.val⟩)).var,(imF y (imF x ⟨e.var,e.val⟩)).val⟩
  rw [h1,h2]
theorem KR {t:Tsk} {x:Swp} {e:Eff} (hp:FactsPerm t x) (he:EffOk t.vars e) (h:∀ f,FactOk t.vars f→imF x f=f):imE x e=e:=by
  show (⟨imL x e.cond,(imF x ⟨e.var,e.val⟩).var,(imF x ⟨e.var,e.val⟩).val⟩:Eff)=e
  rw [GN hp he.1 h,h _ he.2]
theorem HN {vars:List Int} {o:Opr} (ho:OpOk vars o):∀ e∈o.effs,EffOk vars e:=fun e he=>by
  obtain ⟨j,hj⟩:=List.getElem?_of_mem he
  exact ho.2.2.2.2.2 j e hj
def idX (t:Tsk):Swp:=⟨rangeI t.vars.length,t.vars.map fun n=>rangeI n.toNat,rangeI t.ops.length⟩
theorem Ef {t:Tsk} (hok:TaskOk t):FactsPerm t (idX t):=by
  refine ⟨Gj _,by simp [idX],fun k hk=>?_⟩
  obtain ⟨n,hn⟩:=AN (l:=t.vars) (k:=k) hk
  have:=hok.2.2.1 k n hn
  obtain ⟨m,rfl⟩:=Int.eq_ofNat_of_zero_le (by omega:0≤n)
  exact ⟨m,k,rangeI m,hn,CR hk,by simp [idX,hn],by rw [Bi,hn],Gj _⟩
theorem Fb {t:Tsk} (hok:TaskOk t) {f:Fct} (hf:FactOk t.vars f):imF (idX t) f=f:=by
  obtain ⟨v,u,n,a,z,l,rfl,h1,h2,_,hu,h3,h4,_,h5,_,_,_,e⟩:=DY hok (Ef hok) hf
  have e1:(idX t).vars[v]?=some (v:Int):=CR h1
  have e2:(idX t).vals[v]?=some (rangeI n):=by simp [idX,h2]
  exact IY e1 e2 (CR hu)
theorem MO {t:Tsk} (hok:TaskOk t):SymP t (idX t):=by
  refine ⟨Ef hok,Gj _,GN (Ef hok) hok.2.2.2.2.1 fun f=>Fb hok,fun k hk=>?_⟩
  obtain ⟨o,ho⟩:=AN (l:=t.ops) (k:=k) hk
  have hoo:=hok.2.2.2.2.2 k o ho
  refine ⟨o,o,k,ho,CR hk,by rw [Bi,ho],rfl,GN (Ef hok) hoo.2.2.2.2.1 fun f=>Fb hok,?_⟩
  have:o.effs.map (imE (idX t))=o.effs.map id:=List.map_congr_left fun e he=>KR (Ef hok) (HN hoo e he) fun f=>Fb hok
  rw [this,List.map_id]
theorem demand0 {t:Tsk} (hok:TaskOk t):Bn t []=some ⟨0⟩:=by
  unfold Bn Cq
  rw [Am,if_neg (by rw [Dj.2 hok];simp)]
  rfl
theorem demand2 {t:Tsk} {x y:Swp} (hok:TaskOk t):Bn t [x,y]=some ⟨if bof (SymP t x∧SymP t y)=true then 0 else 2⟩:=by
  unfold Bn Cq
  rw [Am,if_neg (by rw [Dj.2 hok];simp)]
  simp only [rng]
  rw [HM hok,HM hok,Am,Am]
  by_cases hx:SymP t x
  · rw [Bl hx,BD]
    by_cases hy:SymP t y
    · rw [Bl hy,BD,Bl (p:=SymP t x∧SymP t y) ⟨hx,hy⟩];rfl
    · rw [Bh hy,Cb,Bh (p:=SymP t x∧SymP t y) (fun h=>hy h.2)];rfl
  · rw [Bh hx,Cb,Bh (p:=SymP t x∧SymP t y) (fun h=>hx h.1)];rfl
def compX (x y:Swp):Swp:=⟨alongL x.vars y.vars,x.vals.mapIdx fun v l=>alongL l ((y.vals[((x.vars[v]?).getD 0).toNat]?).getD []),alongL x.ops y.ops⟩
theorem Fm {x y:Swp} {v a:Nat} {l m:List Int} (h1:x.vars[v]?=some (a:Int)) (h2:x.vals[v]?=some l) (h3:y.vals[a]?=some m):(compX x y).vals[v]?=some (alongL l m):=by
  simp [compX,List.getElem?_mapIdx,h1,h2,h3]
theorem MP {t:Tsk} {x y:Swp} (hx:FactsPerm t x) (hy:FactsPerm t y):FactsPerm t (compX x y):=by
  refine ⟨GL hx.1 hy.1,by simp [compX,hx.2.1],fun k hk=>?_⟩
  obtain ⟨n,a,l,q1,q2,q3,q4,q5⟩:=hx.2.2 k hk
  obtain ⟨ha1,ha2⟩:=hx.1.mem (List.mem_of_getElem? q2)
  obtain ⟨a,rfl⟩:=Int.eq_ofNat_of_zero_le ha1
  obtain ⟨n',b,m,p1,p2,p3,p4,p5⟩:=hy.2.2 a (by omega)
  rw [Bi] at q4
  have e:n=n':=by rw [q4] at p1;have:=Option.some.inj p1;omega
  subst e
  exact ⟨n,b,alongL l m,q1,Dx hx.1 hy.1.len q2 p2,Fm q2 q3 p3,p4,GL q5 p5⟩
theorem MQ {t:Tsk} {x y:Swp} (hok:TaskOk t) (hx:FactsPerm t x) (hy:FactsPerm t y) {f:Fct} (hf:FactOk t.vars f):imF (compX x y) f=imF y (imF x f):=by
  obtain ⟨v,u,n,a,z,l,rfl,h1,h2,h3,hu,h4,h5,h6,h7,h8,h9,h10,e⟩:=DY hok hx hf
  have hf2:=MN hok hx hf
  rw [e] at hf2 ⊢
  obtain ⟨v',u',n',a',z',l',e',g1,g2,g3,gu,g4,g5,g6,g7,g8,g9,g10,e2⟩:=DY hok hy hf2
  have e3:v'=a:=by have:=congrArg Fct.var e';simp at this;omega
  have e4:u'=z:=by have:=congrArg Fct.val e';simp at this;omega
  subst e3 e4
  rw [e2]
  have hn:n'=n:=by rw [g2] at h10;have:=Option.some.inj h10;omega
  subst hn
  exact IY (Dx hx.1 hy.1.len h4 g4) (Fm h4 h5 g5) (Dx h6 g6.len h7 g7)
theorem EO {t:Tsk} {x:Swp} (hx:SymP t x) {k:Nat} (hk:k < t.ops.length):∃ (o p:Opr) (a:Nat),t.ops[k]?=some o∧x.ops[k]?=some (a:Int)∧a < t.ops.length∧t.ops[a]?=some p∧o.cost=p.cost∧imL x o.pre=p.pre∧o.effs.map (imE x)=p.effs:=by
  obtain ⟨o,p,a,h1,h2,h3,h4⟩:=hx.2.2.2 k hk
  obtain ⟨ha1,ha2⟩:=hx.2.1.mem (List.mem_of_getElem? h2)
  obtain ⟨a,rfl⟩:=Int.eq_ofNat_of_zero_le ha1
  rw [Bi] at h3
  exact ⟨o,p,a,h1,h2,by omega,h3,h4⟩
theorem KS {t:Tsk} {x y:Swp} (hok:TaskOk t) (hx:SymP t x) (hy:SymP t y):SymP t (compX x y):=by
  have hz:=MP hx.1 hy.1
  have hc:∀ f,FactOk t.vars f→imF (compX x y) f=imF y (imF x f):=fun f=>MQ hok hx.1 hy.1
  have hL:∀ fs,FactsOk t.vars fs→imL (compX x y) fs=imL y (imL x fs):=fun fs hf=>It hok hx.1 hy.1 hz hf (Hy hok hx.1 hf) hc
  refine ⟨hz,GL hx.2.1 hy.2.1,by rw [hL _ hok.2.2.2.2.1,hx.2.2.1,hy.2.2.1],fun k hk=>?_⟩
  obtain ⟨o,p,a,h1,h2,ha,h3,h4,h5,h6⟩:=EO hx hk
  obtain ⟨p',q,b,g1,g2,hb,g3,g4,g5,g6⟩:=EO hy ha
  obtain rfl:p=p':=by rw [g1] at h3;exact (Option.some.inj h3).symm
  have hoo:=hok.2.2.2.2.2 k o h1
  refine ⟨o,q,b,h1,Dx hx.2.1 hy.2.1.len h2 g2,by rw [Bi,g3],h4.trans g4,by rw [hL _ hoo.2.2.2.2.1,h5,g5],?_⟩
  have:o.effs.map (imE (compX x y))=o.effs.map (imE y ∘ imE x):=List.map_congr_left fun e he=>KQ hok hx.1 hy.1 hz (HN hoo e he) hc
  rw [this,← List.map_map,h6,g6]
noncomputable def invX (x:Swp):Swp:=⟨backL x.vars,(List.range x.vals.length).map fun w=>backL ((x.vals[(((backL x.vars)[w]?).getD 0).toNat]?).getD []),backL x.ops⟩
theorem GO {t:Tsk} {x:Swp} (hok:TaskOk t) (hx:FactsPerm t x) {v a:Nat} {l:List Int} (h1:x.vars[v]?=some (a:Int)) (h2:x.vals[v]?=some l):(invX x).vals[a]?=some (backL l):=by
  obtain ⟨_,h4,h5⟩:=Ee hx.1 (by have:=hok.1;omega)
  have:=hx.1.mem (List.mem_of_getElem? h1)
  have h6:=h5 v a h1
  show ((List.range x.vals.length).map _)[a]?=_
  rw [List.getElem?_map,List.getElem?_range (by rw [hx.2.1];omega)]
  simp [h6,h2]
theorem Iu {t:Tsk} {x:Swp} (hok:TaskOk t) (hx:FactsPerm t x):FactsPerm t (invX x):=by
  have hl:t.vars.length≤1000000:=by have:=hok.1;omega
  refine ⟨Hw hx.1 hl,by simp [invX,hx.2.1],fun k hk=>?_⟩
  obtain ⟨v,hv,hvk⟩:=EN hx.1 hk
  obtain ⟨n,a,l,q1,q2,q3,q4,q5⟩:=hx.2.2 v hv
  obtain rfl:a=(k:Int):=by rw [hvk] at q2;exact (Option.some.inj q2).symm
  rw [Bi] at q4
  have hn:=hok.2.2.1 v n q1
  obtain ⟨_,h4,h5⟩:=Ee hx.1 hl
  exact ⟨n,v,backL l,q4,h5 v k hvk,GO hok hx hvk q3,by rw [Bi,q1],Hw q5 (by omega)⟩
theorem KT {t:Tsk} {x:Swp} (hok:TaskOk t) (hx:FactsPerm t x) {f:Fct} (hf:FactOk t.vars f):imF (invX x) (imF x f)=f:=by
  obtain ⟨v,u,n,a,z,l,rfl,h1,h2,h3,hu,h4,h5,h6,h7,h8,h9,h10,e⟩:=DY hok hx hf
  rw [e]
  have hl:t.vars.length≤1000000:=by have:=hok.1;omega
  exact IY ((Ee hx.1 hl).2.2 v a h4) (GO hok hx h4 h5) ((Ee h6 (by omega)).2.2 u z h7)
theorem KU {t:Tsk} {x:Swp} (hok:TaskOk t) (hx:FactsPerm t x) {fs:List Fct} (hf:FactsOk t.vars fs):imL (invX x) (imL x fs)=fs:=by
  rw [← It hok hx (Iu hok hx) (Ef hok) hf (Hy hok hx hf) (fun f hf=>by rw [KT hok hx hf,Fb hok hf])]
  exact GN (Ef hok) hf fun f=>Fb hok
theorem OS {t:Tsk} {x:Swp} (hok:TaskOk t) (hx:FactsPerm t x) {e:Eff} (he:EffOk t.vars e):imE (invX x) (imE x e)=e:=by
  rw [← KQ hok hx (Iu hok hx) (Ef hok) he (fun f hf=>by rw [KT hok hx hf,Fb hok hf])]
  exact KR (Ef hok) he fun f=>Fb hok
theorem Jq {t:Tsk} {x:Swp} (hok:TaskOk t) (hx:SymP t x):SymP t (invX x):=by
  have hl:t.ops.length≤1000000:=by have:=hok.2.1;omega
  refine ⟨Iu hok hx.1,Hw hx.2.1 hl,?_,fun k hk=>?_⟩
  · have:=KU hok hx.1 hok.2.2.2.2.1
    rwa [hx.2.2.1] at this
  · obtain ⟨j,hj,hjk⟩:=EN hx.2.1 hk
    obtain ⟨o,p,a,h1,h2,ha,h3,h4,h5,h6⟩:=EO hx hj
    obtain rfl:a=k:=by rw [hjk] at h2;have:=Option.some.inj h2;omega
    have hoo:=hok.2.2.2.2.2 j o h1
    refine ⟨p,o,j,h3,(Ee hx.2.1 hl).2.2 j a hjk,by rw [Bi,h1],h4.symm,by rw [← h5,KU hok hx.1 hoo.2.2.2.2.1],?_⟩
    rw [← h6,List.map_map]
    have:o.effs.map (imE (invX x) ∘ imE x)=o.effs.map id:=List.map_congr_left fun e he=>OS hok hx.1 (HN hoo e he)
    rw [this,List.map_id]
theorem NK {t:Tsk} {x:Swp} (hok:TaskOk t) (hx:SymP t x):compX x (invX x)=idX t:=by
  have hl:t.vars.length≤1000000:=by have:=hok.1;omega
  have hl2:t.ops.length≤1000000:=by have:=hok.2.1;omega
  have h1:(compX x (invX x)).vars=(idX t).vars:=GM hx.1.1 hl
  have h2:(compX x (invX x)).ops=(idX t).ops:=GM hx.2.1 hl2
  have h3:(compX x (invX x)).vals=(idX t).vals:=List.ext_getElem? fun k=>by
    by_cases hk:k < t.vars.length
    · obtain ⟨n,a,l,q1,q2,q3,q4,q5⟩:=hx.1.2.2 k hk
      obtain ⟨ha1,ha2⟩:=hx.1.1.mem (List.mem_of_getElem? q2)
      obtain ⟨a,rfl⟩:=Int.eq_ofNat_of_zero_le ha1
      have hn:=hok.2.2.1 k n q1
      rw [Fm q2 q3 (GO hok hx.1 q2 q3),GM q5 (by omega)]
      simp [idX,q1]
    · rw [List.getElem?_eq_none (by simp [compX,hx.1.2.1];omega),List.getElem?_eq_none (by simp [idX];omega)]
  cases h:compX x (invX x)
  rw [h] at h1 h2 h3
  cases h':idX t
  rw [h'] at h1 h2 h3
  simp_all
theorem Iv {t:Tsk} {x:Swp} {s r r':List Int} (hx:FactsPerm t x) (hs:s.length=t.vars.length) (h:ImS x s r) (h':ImS x s r'):r=r':=List.ext_getElem? fun a=>by
  by_cases ha:a < t.vars.length
  · obtain ⟨v,hv,hva⟩:=EN hx.1 ha
    obtain ⟨u,hu⟩:=AN (l:=s) (k:=v) (by omega)
    obtain ⟨b,l,z,q1,q2,q3,q4⟩:=h.2 v u hu
    obtain ⟨b',l',z',p1,p2,p3,p4⟩:=h'.2 v u hu
    obtain rfl:b=a:=by rw [hva] at q1;have:=Option.some.inj q1;omega
    obtain rfl:b'=b:=by rw [hva] at p1;have:=Option.some.inj p1;omega
    obtain rfl:l=l':=by rw [q2] at p2;exact Option.some.inj p2
    rw [q4,p4];rw [q3] at p3;exact p3
  · rw [List.getElem?_eq_none (by rw [h.1];omega),List.getElem?_eq_none (by rw [h'.1];omega)]
theorem MR {t:Tsk} {x:Swp} {s r:List Int} (hx:FactsPerm t x) (hs:StateOk t.vars s) (h:ImS x s r):StateOk t.vars r:=by
  refine ⟨h.1.trans hs.1,fun a z n hz hn=>?_⟩
  obtain ⟨v,hv,hva⟩:=EN hx.1 (AL hn)
  obtain ⟨u,hu⟩:=AN (l:=s) (k:=v) (by rw [hs.1];exact hv)
  obtain ⟨b,l,z',q1,q2,q3,q4⟩:=h.2 v u hu
  obtain rfl:b=a:=by rw [hva] at q1;have:=Option.some.inj q1;omega
  obtain ⟨m,b',l',p1,p2,p3,p4,p5⟩:=hx.2.2 v hv
  obtain rfl:b'=(b:Int):=by rw [hva] at p2;exact (Option.some.inj p2).symm
  obtain rfl:l=l':=by rw [q2] at p3;exact Option.some.inj p3
  rw [Bi,hn] at p4
  rw [q4] at hz
  obtain rfl:=Option.some.inj hz
  obtain ⟨j,_,hj⟩:=EW q3
  have:=p5.mem (List.mem_of_getElem? hj)
  have:=Option.some.inj p4
  omega
theorem Iw {t:Tsk} {x y:Swp} {s a b:List Int} (hx:FactsPerm t x) (hy:FactsPerm t y) (hs:StateOk t.vars s) (ha:ImS x s a) (hb:ImS y a b):ImS (compX x y) s b:=by
  refine ⟨hb.1.trans ha.1,fun k v hk=>?_⟩
  obtain ⟨i,l,z,q1,q2,q3,q4⟩:=ha.2 k v hk
  obtain ⟨j,m,z',p1,p2,p3,p4⟩:=hb.2 i z q4
  obtain ⟨c,rfl,hc⟩:=EW q3
  obtain ⟨d,rfl,hd⟩:=EW p3
  have hkl:k < t.vars.length:=by rw [← hs.1];exact AL hk
  obtain ⟨n,a',l',u1,u2,u3,u4,u5⟩:=hx.2.2 k hkl
  obtain rfl:l=l':=by rw [q2] at u3;exact Option.some.inj u3
  obtain rfl:a'=(i:Int):=by rw [q1] at u2;exact (Option.some.inj u2).symm
  have hil:i < t.vars.length:=by have:=hx.1.mem (List.mem_of_getElem? q1);omega
  obtain ⟨n',b',m',w1,w2,w3,w4,w5⟩:=hy.2.2 i hil
  obtain rfl:m=m':=by rw [p2] at w3;exact Option.some.inj w3
  rw [Bi] at u4
  have e:n=n':=by rw [u4] at w1;have:=Option.some.inj w1;omega
  subst e
  exact ⟨j,alongL l m,z',Dx hx.1 hy.1.len q1 p1,Fm q1 q2 p2,by rw [Bi,Dx u5 w5.len hc hd],p4⟩
theorem KV {t:Tsk} {s:List Int} (hok:TaskOk t) (hs:StateOk t.vars s):ImS (idX t) s s:=by
  refine ⟨rfl,fun k v hk=>?_⟩
  have hkl:k < t.vars.length:=by rw [← hs.1];exact AL hk
  obtain ⟨n,hn⟩:=AN (l:=t.vars) (k:=k) hkl
  obtain ⟨h1,h2⟩:=hs.2 k v n hk hn
  obtain ⟨v,rfl⟩:=Int.eq_ofNat_of_zero_le h1
  obtain ⟨n,rfl⟩:=Int.eq_ofNat_of_zero_le (by omega:0≤n)
  exact ⟨k,rangeI n,v,CR hkl,by simp [idX,hn],by rw [Bi,CR (by omega)],hk⟩
end
section
open Go Go.RowKit
theorem OU (a b:Int):Db a b=some (Lib.compareInt a b):=by
  unfold Db Dw
  rcases DX a b with ⟨h1,h2⟩|⟨h1,h2⟩|⟨h1,h2⟩
  · simp [bnd,h1,h2]
  · subst h1;simp [bnd,h2]
  · have:¬ a < b:=by omega
    simp [bnd,h1,h2,this]
theorem OV (xs ys:List Int):BJ xs ys=some (cfL xs ys):=by
  have:∃ r,BJ xs ys=some r∧r=cfL xs ys:=by
    unfold BJ
    refine KG (fun m _=>m≤ys.length∧cfL xs ys=cfL (xs.drop m) (ys.drop m)) (fun r=>r=cfL xs ys) ⟨Nat.zero_le _,rfl⟩ ?_ ?_ (fun q hq=>⟨_,rfl,hq⟩)
    · rintro m x _ hx ⟨h1,h2⟩
      by_cases hge:(ys.length:Int)≤(m:Int)
      · rw [if_pos hge]
        refine .inr ⟨_,rfl,?_⟩
        rw [h2,In (l:=ys) (by omega),List.drop_eq_getElem_cons (AL hx)]
        rfl
      · rw [if_neg hge]
        obtain ⟨y,hy⟩:=EL (l:=ys) (k:=m) (by omega)
        have hst:=Kz hx hy
        rw [hy,Am,OU,Am]
        by_cases hc:Lib.compareInt x y≠0
        · rw [if_pos hc]
          rw [if_pos hc] at hst
          exact .inr ⟨_,rfl,by rw [h2,hst]⟩
        · rw [if_neg hc]
          rw [if_neg hc] at hst
          exact .inl ⟨(),rfl,by omega,by rw [h2,hst]⟩
    · rintro _ ⟨h1,h2⟩
      rw [BW]
      rw [List.drop_length] at h2
      by_cases hll:(xs.length:Int) < (ys.length:Int)
      · rw [if_pos hll]
        refine ⟨_,rfl,?_⟩
        rw [h2,List.drop_eq_getElem_cons (l:=ys) (i:=xs.length) (by omega)]
        rfl
      · rw [if_neg hll]
        refine ⟨_,rfl,?_⟩
        rw [h2,In (l:=ys) (by omega)]
        rfl
  obtain ⟨r,h1,h2⟩:=this
  rw [h1,h2]
theorem OW {xs ys:List Int} (hl:xs.length=ys.length):DO xs ys=some (decide (cfL xs ys < 0)):=by
  have:∃ r,DO xs ys=some r∧r=decide (cfL xs ys < 0):=by
    unfold DO
    refine KG (fun m _=>cfL xs ys=cfL (xs.drop m) (ys.drop m)) (fun r=>r=decide (cfL xs ys < 0)) rfl ?_ ?_ (fun q hq=>⟨_,rfl,hq⟩)
    · rintro m x _ hx h2
      obtain ⟨y,hy⟩:=EL (l:=ys) (k:=m) (by have:=AL hx;omega)
      have hst:=Kz hx hy
      rw [hy,Am]
      rcases DX x y with ⟨p1,p2⟩|⟨p1,p2⟩|⟨p1,p2⟩
      · rw [if_pos (by omega),Am,if_pos p1,Am]
        rw [p2] at hst
        exact .inr ⟨_,rfl,by rw [h2,hst];rfl⟩
      · rw [if_neg (by omega)]
        rw [p2] at hst
        exact .inl ⟨(),rfl,by rw [h2,hst];rfl⟩
      · rw [if_pos (by omega),Am,if_neg (by omega),Am]
        rw [p2] at hst
        exact .inr ⟨_,rfl,by rw [h2,hst];rfl⟩
    · intro _ h2
      refine ⟨_,rfl,?_⟩
      rw [List.drop_length,In (l:=ys) (by omega)] at h2
      rw [h2];rfl
  obtain ⟨r,h1,h2⟩:=this
  rw [h1,h2]
def txt (s:List Int):ByteArray:=strB (s.map bw)
end
section
open Go Go.RowKit
noncomputable def imS (x:Swp) (s:List Int):List Int:=(Ch x s).getD []
theorem Fo {t:Tsk} {x:Swp} {s:List Int} (hok:TaskOk t) (hp:FactsPerm t x) (hs:StateOk t.vars s):Ch x s=some (imS x s)∧ImS x s (imS x s)∧StateOk t.vars (imS x s):=by
  obtain ⟨r,h1,h2⟩:=KO hok hp hs
  have:imS x s=r:=by unfold imS;rw [h1];rfl
  rw [this]
  exact ⟨h1,h2,MR hp hs h2⟩
def muL (vars s:List Int):Nat:=((statesL vars).filter fun x=>decide (cfL x s < 0)).length
theorem JN {α:Type} {p q:α→Bool}:∀ {l:List α},(∀ x∈l,p x=true→q x=true)→(∃ x∈l,q x=true∧p x=false)→(l.filter p).length < (l.filter q).length
  | [],_,h=>by obtain ⟨x,hx,_⟩:=h;cases hx
  | y :: l,hsub,⟨x,hx,h1,h2⟩=>by
    have hle:(l.filter p).length≤(l.filter q).length:=by
      clear hx
      induction l with
      | nil=>simp
      | cons z l ih =>
        have ihh:=ih fun a ha=>hsub a (by rcases List.mem_cons.1 ha with rfl|ha;exact List.mem_cons_self;exact List.mem_cons_of_mem _ (List.mem_cons_of_mem _ ha))
        have hz:=hsub z (List.mem_cons_of_mem _ List.mem_cons_self)
        rw [List.filter_cons,List.filter_cons]
        cases hp:p z with
        | true=>rw [hz hp];simp;omega
        | false=>cases q z<;>simp<;>omega
    rw [List.filter_cons,List.filter_cons]
    rcases List.mem_cons.1 hx with rfl|hx
    · rw [h1,h2];simp;omega
    · have ih:=JN (l:=l) (fun a ha=>hsub a (List.mem_cons_of_mem _ ha)) ⟨x,hx,h1,h2⟩
      have hy:=hsub y List.mem_cons_self
      cases hp:p y with
      | true=>rw [hy hp];simp;omega
      | false=>cases q y<;>simp<;>omega
theorem PK {vars s r:List Int} (hr:StateOk vars r) (h:cfL r s < 0):muL vars r < muL vars s:=by
  refine JN (fun x _ hx=>?_) ⟨r,Fd.2 hr,by simpa using h,by rw [Ip];simp⟩
  simp at hx ⊢
  have h3:=Hp (Int.le_of_lt hx) (Int.le_of_lt h)
  rcases Int.lt_or_eq_of_le h3 with h4|h4
  · exact h4
  · exfalso
    have:=Mz h4
    rw [← this,LB] at h
    omega
noncomputable def canF (x1:List Swp):(List Int)×(List Int)×Int→Option (Ctl ((List Int)×(List Int)×Int) ((List Int)×(List Int)×Err)) :=
  fun (s58:(List Int)×(List Int)×Int)=>if s58.2.2 < (x1.length:Int) then (bnd (atI x1 s58.2.2) fun a84=>bnd (Ch a84 s58.1) fun q107=>bnd (BJ q107 s58.1) fun q116=>if 0≤q116 then (bnd (chkI (s58.2.2 + 1)) fun n125=>some (.next (s58.1,s58.2.1,n125))) else (bnd (appI 8 s58.2.1 [s58.2.2]) fun u128=>some (.next (q107,u128,0)))) else (some (.brk (s58.1,s58.2.1,s58.2.2)))
noncomputable def canG (x0:List Swp):(List Int)×(List Int)→Option (Ctl ((List Int)×(List Int)) ((List Int)×(List Int))) :=
  fun (s9:(List Int)×(List Int))=>bnd (rng (ρ:=Ctl ((List Int)×(List Int)) ((List Int)×(List Int))) (fun (k34:Nat) (a35:Swp) (s32:Int)=>bnd (if s32 < 0 then (bnd (Dq a35 s9.1) fun q71=>bnd (DO q71 s9.1) fun q80=>if q80=true then some true else some false) else (some false):Option Bool) fun y47=>if y47=true then (some (.next (k34:Int))) else (some (.next s32))) x0 0 (-1)) fun res30=>fin res30 fun (s96:Int)=>if s96 < 0 then (some (.ret (s9.1,s9.2))) else (bnd (atI x0 s96) fun a101=>bnd (Dq a101 s9.1) fun q124=>bnd (appI 8 s9.2 [s96]) fun u133=>some (.next (q124,u133)))
def FstL (gens:List Swp) (s:List Int) (k:Nat):Prop:=∃ x,gens[k]?=some x∧cfL (imS x s) s < 0
theorem MS {t:Tsk} (hok:TaskOk t) {gens:List Swp} (hg:∀ x∈gens,SymP t x) (hgl:gens.length≤1000) {s used:List Int} (hs:StateOk t.vars s) (hu:used.length≤100000):∀ (n k:Nat),gens.length - k=n→k≤gens.length →
    ((∀ j,k≤j→¬ FstL gens s j)∧lop (canF gens) (s,used,(k:Int))=some (.done (s,used,(gens.length:Int))))∨∃ m x,k≤m∧(∀ j,k≤j→j < m→¬ FstL gens s j)∧gens[m]?=some x∧cfL (imS x s) s < 0∧lop (canF gens) (s,used,(k:Int))=lop (canF gens) (imS x s,used ++ [(m:Int)],0):=by
  intro n
  induction n with
  | zero =>
    intro k hk hkl
    have:k=gens.length:=by omega
    subst this
    refine .inl ⟨fun j hj hf=>by obtain ⟨x,hx,_⟩:=hf;have:=AL hx;omega,?_⟩
    rw [CN]
    simp only [canF]
    rw [if_neg (by omega)]
  | succ n ih =>
    intro k hk hkl
    obtain ⟨x,hx⟩:=EL (l:=gens) (k:=k) (by omega)
    obtain ⟨h1,h2,h3⟩:=Fo hok (hg x (List.mem_of_getElem? hx)).1 hs
    have hkl':=AL hx
    have step:canF gens (s,used,(k:Int))=if 0≤cfL (imS x s) s then some (.next (s,used,(k:Int) + 1)) else some (.next (imS x s,used ++ [(k:Int)],0)):=by
      simp only [canF]
      rw [if_pos (by omega),Bi,hx,Am,h1,Am,OV,Am,Ci (by unfold inI64;omega),Am,Cm (by simp;omega) (by simp;omega),Am]
    by_cases hc:0≤cfL (imS x s) s
    · have e1:lop (canF gens) (s,used,(k:Int))=lop (canF gens) (s,used,((k + 1:Nat):Int)):=by
        rw [CN,step,if_pos hc]
        simp
      have hnot:¬ FstL gens s k:=fun ⟨y,hy,hlt⟩=>by
        rw [hx] at hy
        obtain rfl:=Option.some.inj hy
        omega
      rcases ih (k + 1) (by omega) (by omega) with ⟨g1,g2⟩|⟨m,y,g1,g2,g3,g4,g5⟩
      · refine .inl ⟨fun j hj=>?_,by rw [e1,g2]⟩
        by_cases e:j=k
        · subst e;exact hnot
        · exact g1 j (by omega)
      · refine .inr ⟨m,y,by omega,fun j hj hjm=>?_,g3,g4,by rw [e1,g5]⟩
        by_cases e:j=k
        · subst e;exact hnot
        · exact g2 j (by omega) hjm
    · refine .inr ⟨k,x,Nat.le_refl _,fun j h1 h2=>by omega,hx,by omega,?_⟩
      rw [CN,step,if_neg hc]
theorem JO {t:Tsk} (hok:TaskOk t) {gens:List Swp} (hg:∀ x∈gens,SymP t x) {s used:List Int} (hs:StateOk t.vars s) (hu:used.length≤100000) :
    ((∀ j,¬ FstL gens s j)∧canG gens (s,used)=some (.ret (s,used)))∨∃ (m:Nat) (x:Swp),(∀ j,j < m→¬ FstL gens s j)∧gens[m]?=some x∧cfL (imS x s) s < 0∧canG gens (s,used)=some (.next (imS x s,used ++ [(m:Int)])):=by
  have key:=DP (ρ:=Ctl ((List Int)×(List Int)) ((List Int)×(List Int))) (xs:=gens) (s₀:=(-1:Int)) (f:=fun (k34:Nat) (a35:Swp) (s32:Int)=>bnd (if s32 < 0 then (bnd (Dq a35 s) fun q71=>bnd (DO q71 s) fun q80=>if q80=true then some true else some false) else (some false):Option Bool) fun y47=>if y47=true then (some (.next (k34:Int))) else (some (.next s32))) (fun m a=>(a=-1∧∀ j,j < m→¬ FstL gens s j)∨∃ (q:Nat) (x:Swp),a=(q:Int)∧(∀ j,j < q→¬ FstL gens s j)∧gens[q]?=some x∧cfL (imS x s) s < 0) (.inl ⟨rfl,fun j hj=>by omega⟩) (fun k x a hx hI=>by
      obtain ⟨h1,h2,h3⟩:=Fo hok (hg x (List.mem_of_getElem? hx)).1 hs
      rcases hI with ⟨rfl,hno⟩|⟨q,y,rfl,hno,hy,hlt⟩
      · rw [if_pos (by omega),JK,h1,Am,OW (by rw [h3.1,hs.1]),Am]
        by_cases hlt:cfL (imS x s) s < 0
        · rw [decide_eq_true hlt,BD,Am,BD]
          exact ⟨_,rfl,.inr ⟨k,x,rfl,hno,hx,hlt⟩⟩
        · rw [decide_eq_false hlt,Cb,Am,Cb]
          refine ⟨_,rfl,.inl ⟨rfl,fun j hj=>?_⟩⟩
          by_cases e:j=k
          · subst e
            rintro ⟨y,hy,hl⟩
            rw [hx] at hy
            obtain rfl:=Option.some.inj hy
            exact hlt hl
          · exact hno j (by omega)
      · rw [if_neg (by omega),Am,Cb]
        exact ⟨_,rfl,.inr ⟨q,y,rfl,hno,hy,hlt⟩⟩)
  obtain ⟨a,g1,g2⟩:=key
  unfold canG
  dsimp only
  rw [g1,Am,BW]
  rcases g2 with ⟨rfl,hno⟩|⟨q,x,rfl,hno,hx,hlt⟩
  · rw [if_pos (by omega)]
    refine .inl ⟨fun j hf=>?_,rfl⟩
    obtain ⟨x,hx,hl⟩:=hf
    exact hno j (AL hx) ⟨x,hx,hl⟩
  · obtain ⟨h1,h2,h3⟩:=Fo hok (hg x (List.mem_of_getElem? hx)).1 hs
    rw [if_neg (by omega),Bi,hx,Am,JK,h1,Am,Cm (by simp;omega) (by simp;omega),Am]
    exact .inr ⟨q,x,hno,hx,hlt,rfl⟩
inductive Word (gens:List Swp):List Int→List Int→List Int→Prop
  | nil {s:List Int}:Word gens s [] s
  | cons {s r ws:List Int} {m:Nat} {x:Swp}:gens[m]?=some x→Word gens (imS x s) ws r→Word gens s ((m:Int) :: ws) r
theorem NL {t:Tsk} (hok:TaskOk t) {gens:List Swp} (hg:∀ x∈gens,SymP t x) (hgl:gens.length≤1000):∀ (n:Nat) (s used:List Int),StateOk t.vars s→muL t.vars s < n→used.length + n≤100000 →
    ∃ r ws,lop (canF gens) (s,used,0)=some (.done (r,used ++ ws,(gens.length:Int)))∧lop (canG gens) (s,used)=some (.ret (r,used ++ ws))∧StateOk t.vars r∧cfL r s≤0∧Word gens s ws r∧∀ j,¬ FstL gens r j:=by
  intro n
  induction n with
  | zero=>intro s used _ h;omega
  | succ n ih =>
    intro s used hs hmu hul
    rcases MS hok hg hgl hs (used:=used) (by omega) gens.length 0 (by omega) (by omega) with ⟨f1,f2⟩|⟨m,x,f1,f2,f3,f4,f5⟩
    · rcases JO hok hg hs (used:=used) (by omega) with ⟨g1,g2⟩|⟨q,y,_,g3,g4,_⟩
      · refine ⟨s,[],by simpa using f2,by rw [CN,g2,List.append_nil],hs,by rw [Ip];omega,.nil,fun j=>f1 j (Nat.zero_le _)⟩
      · exact absurd ⟨y,g3,g4⟩ (f1 q (by omega))
    · rcases JO hok hg hs (used:=used) (by omega) with ⟨g1,_⟩|⟨q,y,g2,g3,g4,g5⟩
      · exact absurd ⟨x,f3,f4⟩ (g1 m)
      · have hqm:q=m:=by
          rcases Nat.lt_trichotomy q m with h|h|h
          · exact absurd ⟨y,g3,g4⟩ (f2 q (by omega) h)
          · exact h
          · exact absurd ⟨x,f3,f4⟩ (g2 m h)
        subst hqm
        rw [f3] at g3
        obtain rfl:=Option.some.inj g3
        obtain ⟨h1,h2,h3⟩:=Fo hok (hg x (List.mem_of_getElem? f3)).1 hs
        have hlt:=PK h3 f4
        obtain ⟨r,ws,r1,r2,r3,r4,r5,r6⟩:=ih (imS x s) (used ++ [(q:Int)]) h3 (by omega) (by simp;omega)
        refine ⟨r,(q:Int) :: ws,?_,?_,r3,Hp r4 (by omega),.cons f3 r5,r6⟩
        · have f5':lop (canF gens) (s,used,0)=lop (canF gens) (imS x s,used ++ [(q:Int)],0):=f5
          rw [f5',r1]
          simp
        · rw [CN,g5]
          simp only
          rw [r2]
          simp
theorem demandL {t:Tsk} (hok:TaskOk t) {gens:List Swp}:Bn t gens=some ⟨if bof (∀ x∈gens,SymP t x)=true then 0 else 2⟩:=by
  have:∃ r,Bn t gens=some r∧r=⟨if bof (∀ x∈gens,SymP t x)=true then 0 else 2⟩:=by
    unfold Bn Cq
    rw [Dj.2 hok,Am,if_neg (by simp)]
    refine KG (fun m _=>∀ x∈gens.take m,SymP t x) (fun r=>r=⟨2⟩∧¬ ∀ x∈gens,SymP t x) (fun x hx=>by simp at hx) ?_ ?_ ?_
    · intro m x _ hx hI
      rw [HM hok,Am]
      by_cases h:SymP t x
      · rw [Bl h,BD]
        refine .inl ⟨(),rfl,fun y hy=>?_⟩
        rcases (Ea hx).1 hy with hy|rfl
        · exact hI y hy
        · exact h
      · rw [Bh h,Cb]
        exact .inr ⟨_,rfl,rfl,fun hh=>h (hh x (List.mem_of_getElem? hx))⟩
    · intro _ hI
      rw [List.take_length] at hI
      exact ⟨_,rfl,by rw [Bl hI];rfl⟩
    · rintro q ⟨rfl,hn⟩
      exact ⟨_,rfl,by rw [Bh hn];rfl⟩
  obtain ⟨r,h1,h2⟩:=this
  rw [h1,h2]
theorem OX {t:Tsk} (hs:SmallOk t) (s:List Int):muL t.vars s≤512:=Nat.le_trans (List.length_filter_le _ _) hs.many
theorem JP {t:Tsk} (hsm:SmallOk t) {gens:List Swp} (hg:∀ x∈gens,SymP t x) (hgl:gens.length≤1000) {s:List Int} (hs:StateOk t.vars s) :
    ∃ r ws,BK t gens s=some (r,ws,⟨0⟩)∧DG gens s=some (r,ws)∧StateOk t.vars r∧cfL r s≤0∧Word gens s ws r∧∀ j,¬ FstL gens r j:=by
  have hok:=hsm.ok
  obtain ⟨r,ws,r1,r2,r3,r4,r5,r6⟩:=NL hok hg hgl 513 s [] hs (by have:=OX hsm s;omega) (by simp)
  rw [List.nil_append] at r1 r2
  refine ⟨r,ws,?_,?_,r3,r4,r5,r6⟩
  · have unf:BK t gens s=bnd (Bn t gens) fun q30=>if q30.n≠0 then (some (([]:List Int),([]:List Int),(⟨q30.n⟩:Err))) else (bnd (EB t.vars s) fun q39=>if q39=true then bnd (Cf s) fun q46=>bnd (lop (canF gens) (q46,([]:List Int),0)) fun res56=>fin res56 fun (s144:(List Int)×(List Int)×Int)=>some (s144.1,s144.2.1,(⟨0⟩:Err)) else some (([]:List Int),([]:List Int),(⟨2⟩:Err))):=rfl
    have hc:Cf s=some s:=if_pos ⟨by have:=hs.1;have:=hok.1;omega,by have:=hs.1;have:=hok.1;omega⟩
    rw [unf,demandL hok,Bl hg,Am,BD,if_neg (by simp)]
    unfold EB
    rw [Bl hs,Am,BD,hc,Am,r1,Am,BW]
  · have unf:DG gens s=bnd (lop (canG gens) (s,([]:List Int))) fun res7=>fin res7 fun (_:(List Int)×(List Int))=>none:=rfl
    rw [unf,r2,Am,HK]
theorem NM {t:Tsk} (hsm:SmallOk t) {gens:List Swp} (hg:∀ x∈gens,SymP t x) (hgl:gens.length≤1000) {s:List Int} (hs:StateOk t.vars s) :
    ∃ r ws,BK t gens s=some (r,ws,⟨0⟩)∧DG gens s=some (r,ws)∧StateOk t.vars r∧cfL r s≤0∧Word gens s ws r:=by
  obtain ⟨r,ws,h1,h2,h3,h4,h5,_⟩:=JP hsm hg hgl hs
  exact ⟨r,ws,h1,h2,h3,h4,h5⟩
end
section
open Go Go.RowKit
theorem OY {t:Tsk} (hok:TaskOk t) {a b:List Int} (ha:StateOk t.vars a) (hb:StateOk t.vars b) (h:txt a=txt b):a=b:=by
  have h1:(a.map bw).map (fun b:Byt=>UInt8.ofNat b.n.toNat)=(b.map bw).map fun b:Byt=>UInt8.ofNat b.n.toNat:=by
    unfold txt strB at h
    have:=congrArg ByteArray.data h
    simpa using this
  apply List.ext_getElem?
  intro i
  rcases Nat.lt_or_ge i t.vars.length with hi|hi
  · obtain ⟨n,hn⟩:=EL (l:=t.vars) (k:=i) hi
    obtain ⟨x,hx⟩:=EL (l:=a) (k:=i) (by rw [ha.1];exact hi)
    obtain ⟨y,hy⟩:=EL (l:=b) (k:=i) (by rw [hb.1];exact hi)
    have hx1:=ha.2 i x n hx hn
    have hy1:=hb.2 i y n hy hn
    have hn1:=hok.2.2.1 i n hn
    have h2:=congrArg (·[i]?) h1
    simp only [List.getElem?_map,hx,hy,Option.map_some] at h2
    have h3:=congrArg UInt8.toNat (Option.some.inj h2)
    simp [bw] at h3
    rw [hx,hy]
    congr 1
    omega
  · rw [List.getElem?_eq_none (by rw [ha.1];exact hi),List.getElem?_eq_none (by rw [hb.1];exact hi)]
end
section
open Go Go.RowKit
def imP (x:Swp) (p:List Int):List Int:=p.map fun op=>(x.ops[op.toNat]?).getD 0
def Inside (n:Nat) (p:List Int):Prop:=∀ a∈p,0≤a∧a < n
end
section
open Go Go.RowKit
theorem KW {s:List Int} {v u:Nat}:hasB s ⟨v,u⟩=true↔s[v]?=some (u:Int):=by
  unfold hasB
  simp
theorem MT {t:Tsk} {x:Swp} {f:Fct} {s a:List Int} (hok:TaskOk t) (hp:FactsPerm t x) (hf:FactOk t.vars f) (hs:StateOk t.vars s) (ha:ImS x s a):hasB a (imF x f)=hasB s f:=by
  obtain ⟨v,u,n,b,z,l,rfl,h1,h2,h3,hu,h4,h5,h6,h7,h8,h9,h10,e⟩:=DY hok hp hf
  rw [e,Bool.eq_iff_iff,KW,KW]
  obtain ⟨y,hy⟩:=AN (l:=s) (k:=v) (by rw [hs.1];exact h1)
  obtain ⟨b',l',z',q1,q2,q3,q4⟩:=ha.2 v y hy
  obtain rfl:b=b':=by rw [h4] at q1;have:=Option.some.inj q1;omega
  obtain rfl:l=l':=by rw [h5] at q2;exact Option.some.inj q2
  obtain ⟨y,rfl,hy2⟩:=EW q3
  rw [q4,hy]
  constructor
  · intro hz
    rw [Option.some.inj hz] at hy2
    rw [FP h6 hy2 h7]
  · intro hz
    have:y=u:=by have:=Option.some.inj hz;omega
    subst this
    rw [h7] at hy2
    exact hy2.symm
theorem Ix {t:Tsk} {x:Swp} {fs:List Fct} {s a:List Int} (hok:TaskOk t) (hp:FactsPerm t x) (hf:FactsOk t.vars fs) (hs:StateOk t.vars s) (ha:ImS x s a):holdsB (imL x fs) a=holdsB fs s:=by
  unfold holdsB imL
  rw [Bool.eq_iff_iff,List.all_eq_true,List.all_eq_true]
  constructor
  · intro h f hf'
    rw [← MT hok hp ((EE hf).1 f hf') hs ha]
    exact h _ ((Dv _).mem_iff.2 (List.mem_map.2 ⟨f,hf',rfl⟩))
  · intro h g hg
    obtain ⟨f,hf',rfl⟩:=List.mem_map.1 ((Dv _).mem_iff.1 hg)
    rw [MT hok hp ((EE hf).1 f hf') hs ha]
    exact h f hf'
theorem OZ {t:Tsk} {x:Swp} {f:Fct} {u b:List Int} (hok:TaskOk t) (hp:FactsPerm t x) (hf:FactOk t.vars f) (hu:u.length=t.vars.length) (hb:ImS x u b):ImS x (u.set f.var.toNat f.val) (b.set (imF x f).var.toNat (imF x f).val):=by
  obtain ⟨v,y,n,c,z,l,rfl,h1,h2,h3,hy,h4,h5,h6,h7,h8,h9,h10,e⟩:=DY hok hp hf
  rw [e]
  simp only [Int.toNat_natCast]
  refine ⟨by simp [hb.1],fun k w hk=>?_⟩
  rw [List.getElem?_set] at hk
  by_cases hvk:v=k
  · subst hvk
    rw [if_pos rfl,if_pos (by omega)] at hk
    obtain rfl:=Option.some.inj hk
    exact ⟨c,l,z,h4,h5,by rw [Bi,h7],by rw [List.getElem?_set_self (by rw [hb.1];omega)]⟩
  · rw [if_neg hvk] at hk
    obtain ⟨c',l',z',q1,q2,q3,q4⟩:=hb.2 k w hk
    refine ⟨c',l',z',q1,q2,q3,?_⟩
    rw [List.getElem?_set_ne (fun ec=>hvk ?_),q4]
    subst ec
    exact FP hp.1 h4 q1
theorem Iy {t:Tsk} {x:Swp} {s a:List Int} (hok:TaskOk t) (hp:FactsPerm t x) (hs:StateOk t.vars s) (ha:ImS x s a):∀ (l:List Eff),(∀ e∈l,EffOk t.vars e)→∀ (u b:List Int),u.length=t.vars.length→ImS x u b→ImS x (effsOn s l u) (effsOn a (l.map (imE x)) b)
  | [],_,_,_,_,hb=>hb
  | e :: l,he,u,b,hu,hb=>by
    obtain ⟨h1,h2⟩:=he e List.mem_cons_self
    rw [List.map_cons]
    unfold effsOn
    have hc:holdsB (imE x e).cond a=holdsB e.cond s:=Ix hok hp h1 hs ha
    rw [hc]
    by_cases hh:holdsB e.cond s=true
    · rw [if_pos hh,if_pos hh]
      exact Iy hok hp hs ha l (fun e' h'=>he e' (List.mem_cons_of_mem _ h')) _ _ (by simp [hu]) (OZ hok hp h2 hu hb)
    · rw [if_neg hh,if_neg hh]
      exact Iy hok hp hs ha l (fun e' h'=>he e' (List.mem_cons_of_mem _ h')) _ _ hu hb
theorem LG {t:Tsk} {x:Swp} {s a:List Int} {k b:Nat} {o p:Opr} (hok:TaskOk t) (hx:SymP t x) (hs:StateOk t.vars s) (ha:ImS x s a) (ho:t.ops[k]?=some o) (hk:x.ops[k]?=some (b:Int)) (hb:t.ops[b]?=some p) :
    holdsB p.pre a=holdsB o.pre s∧ImS x (succ o s) (succ p a)∧p.cost=o.cost:=by
  obtain ⟨o',p',b',h1,h2,_,h3,h4,h5,h6⟩:=EO hx (AL ho)
  obtain rfl:o=o':=by rw [ho] at h1;exact Option.some.inj h1
  obtain rfl:b=b':=by rw [hk] at h2;have:=Option.some.inj h2;omega
  obtain rfl:p=p':=by rw [hb] at h3;exact Option.some.inj h3
  have hoo:=hok.2.2.2.2.2 k o ho
  refine ⟨by rw [← h5];exact Ix hok hx.1 hoo.2.2.2.2.1 hs ha,?_,h4.symm⟩
  unfold succ
  rw [← h6]
  exact Iy hok hx.1 hs ha o.effs (HN hoo) s a hs.1 ha
theorem GP {t:Tsk} {x:Swp} {s a:List Int} (hok:TaskOk t) (hx:SymP t x) (hs:StateOk t.vars s) (ha:ImS x s a):ImS (invX x) a s:=by
  have hi:=Jq hok hx
  obtain ⟨r,_,hr⟩:=KO hok hi.1 (MR hx.1 hs ha)
  have:=Iw hx.1 hi.1 hs ha hr
  rw [NK hok hx] at this
  rwa [Iv (Ef hok) hs.1 this (KV hok hs)] at hr
end
section
open Go Go.RowKit
theorem LH {t:Tsk} {x:Swp} (hok:TaskOk t) (hx:SymP t x) {s p s':List Int} {C:Int} (hr:PlanR t s p s' C):∀ {a:List Int},StateOk t.vars s→ImS x s a→Inside t.ops.length p∧StateOk t.vars s'∧∃ a',PlanR t a (imP x p) a' C∧ImS x s' a':=by
  induction hr with
  | nil=>intro a hs ha;exact ⟨fun b hb=>by simp at hb,hs,a,.nil,ha⟩
  | @cons s rest s' k o C ho hp hr ih =>
    intro a hs ha
    obtain ⟨o',p,b,h1,h2,hb,h3,_⟩:=EO hx (AL ho)
    obtain ⟨g1,g2,g3⟩:=LG hok hx hs ha ho h2 h3
    obtain ⟨i1,i2,a',i3,i4⟩:=ih (EM hok hs ho) g2
    refine ⟨fun q hq=>?_,i2,a',?_,i4⟩
    · rcases List.mem_cons.1 hq with rfl|hq
      · have:=AL ho;omega
      · exact i1 q hq
    · have:imP x ((k:Int) :: rest)=(b:Int) :: imP x rest:=by simp [imP,h2]
      rw [this,← g3]
      exact .cons h3 (by rw [g1];exact hp) i3
end
section
set_option linter.unusedVariables false
set_option linter.unusedSimpArgs false
open Go Go.RowKit
noncomputable def cnP (t:Tsk) (gens:List Swp) (s:List Int):List Int×List Int:=((BK t gens s).map fun r=>(r.1,r.2.1)).getD ([],[])
noncomputable def cnS (t:Tsk) (gens:List Swp) (s:List Int):List Int:=(cnP t gens s).1
noncomputable def wdS (t:Tsk) (gens:List Swp) (s:List Int):List Int:=(cnP t gens s).2
structure Sy (t:Tsk) (gens:List Swp):Prop where
  sm:SmallOk t
  sy:∀ x∈gens,SymP t x
  len:gens.length≤1000
theorem GQ {t:Tsk} {gens:List Swp} (h:Sy t gens) {s:List Int} (hs:StateOk t.vars s):BK t gens s=some (cnS t gens s,wdS t gens s,⟨0⟩)∧DG gens s=some (cnS t gens s,wdS t gens s)∧StateOk t.vars (cnS t gens s)∧Word gens s (wdS t gens s) (cnS t gens s):=by
  obtain ⟨r,ws,h1,h2,h3,_,h5⟩:=NM h.sm h.sy h.len hs
  have e1:cnS t gens s=r:=by unfold cnS cnP;rw [h1];rfl
  have e2:wdS t gens s=ws:=by unfold wdS cnP;rw [h1];rfl
  rw [e1,e2]
  exact ⟨h1,h2,h3,h5⟩
theorem PL {s:List Int} (hl:s.length≤1000000):Ey s=some (txt s):=by
  unfold Ey
  rw [FM (by omega) (by omega),Am]
  refine OG (fun m l=>l.length=s.length∧∀ (i:Nat) x,i < m→s[i]?=some x→l[i]?=some (bw x)) ⟨by simp,fun i x hi=>by omega⟩ ?_ ?_
  · rintro m x l hx ⟨h1,h2⟩
    have hm:=AL hx
    obtain ⟨u,hu⟩:=EL (l:=l) (k:=m) (by omega)
    rw [hu,Am]
    refine ⟨_,rfl,by simpa using h1,fun i y hi hy=>?_⟩
    by_cases e:i=m
    · subst e
      rw [hx] at hy
      rw [List.getElem?_set_self (by omega),Option.some.inj hy]
    · rw [List.getElem?_set_ne (by omega)]
      exact h2 i y (by omega) hy
  · rintro l ⟨h1,h2⟩
    have hls:l=s.map bw:=by
      apply List.ext_getElem?
      intro i
      rw [List.getElem?_map]
      rcases Nat.lt_or_ge i s.length with hi|hi
      · obtain ⟨x,hx⟩:=EL (l:=s) (k:=i) hi
        rw [hx,h2 i x hi hx];rfl
      · rw [List.getElem?_eq_none (by omega),List.getElem?_eq_none hi];rfl
    subst hls
    rw [BW,Oy (by simp;omega),Am]
    rfl
theorem JQ {K V:Type} [MKey K] (k k':K) (v:V):∀ l:List (K×V),mhas (mput l k v) k'=if k=k' then true else mhas l k'
  | []=>by simp only [mput,mhas]
  | p :: r=>by
    have ih:=JQ k k' v r
    simp only [mput]
    by_cases h1:p.1=k
    · rw [if_pos h1]
      simp only [mhas]
      by_cases h2:k=k'
      · rw [if_pos h2,if_pos h2]
      · rw [if_neg h2,if_neg h2,if_neg (by rw [h1];exact h2)]
    · rw [if_neg h1]
      simp only [mhas,ih]
      by_cases h2:k=k'
      · rw [if_pos h2,if_pos h2,if_neg (by rw [← h2];exact h1)]
      · rw [if_neg h2,if_neg h2]
def TabI (vars:List Int) (N:List ONd) (tab:List (ByteArray×Int)):Prop:=∀ y,StateOk vars y→(mhas tab (txt y)=false∧∀ (i:Nat) n,N[i]?=some n→n.state≠y)∨(∃ (i:Nat) (n:ONd),mhas tab (txt y)=true∧mget 0 tab (txt y)=(i:Int)∧N[i]?=some n∧n.state=y)
theorem TabI.set {vars:List Int} {N:List ONd} {tab:List (ByteArray×Int)} (h:TabI vars N tab) {i:Nat} {a b:ONd} (ha:N[i]?=some a) (hb:b.state=a.state):TabI vars (N.set i b) tab:=fun y hy=>by
  have hil:=AL ha
  rcases h y hy with ⟨h1,h2⟩|⟨j,n,h1,h2,h3,h4⟩
  · refine .inl ⟨h1,fun j n hj=>?_⟩
    by_cases e:i=j
    · subst e;rw [List.getElem?_set_self hil] at hj;obtain rfl:=Option.some.inj hj;rw [hb];exact h2 i a ha
    · rw [List.getElem?_set_ne e] at hj;exact h2 j n hj
  · by_cases e:i=j
    · subst e
      rw [ha] at h3
      obtain rfl:=Option.some.inj h3
      exact .inr ⟨i,b,h1,h2,List.getElem?_set_self hil,hb.trans h4⟩
    · exact .inr ⟨j,n,h1,h2,by rw [List.getElem?_set_ne e];exact h3,h4⟩
theorem TabI.app {t:Tsk} (hok:TaskOk t) {N:List ONd} {tab:List (ByteArray×Int)} (h:TabI t.vars N tab) {b:ONd} (hb:StateOk t.vars b.state):TabI t.vars (N ++ [b]) (mput tab (txt b.state) (N.length:Int)):=fun y hy=>by
  rw [JQ,JI]
  by_cases e:txt b.state=txt y
  · have:=OY hok hb hy e
    rw [if_pos e,if_pos e]
    exact .inr ⟨N.length,b,rfl,rfl,by simp,this⟩
  · rw [if_neg e,if_neg e]
    rcases h y hy with ⟨h1,h2⟩|⟨j,n,h1,h2,h3,h4⟩
    · refine .inl ⟨h1,fun j n hj=>?_⟩
      rcases Nat.lt_or_ge j N.length with hl|hl
      · rw [List.getElem?_append_left hl] at hj;exact h2 j n hj
      · rw [List.getElem?_append_right hl] at hj
        have:n=b:=by
          cases hk:j - N.length with
          | zero=>rw [hk] at hj;simpa using hj.symm
          | succ k=>rw [hk] at hj;simp at hj
        subst this
        exact fun e2=>e (by rw [e2])
    · exact .inr ⟨j,n,h1,h2,by rw [List.getElem?_append_left (AL h3)];exact h3,h4⟩
theorem Oj {t:Tsk} {gens:List Swp} (h:Sy t gens) {x:Ors} (ht:x.t=t) (hg:x.gens=gens) (htab:TabI t.vars x.nodes x.tab.l) (hh:HeapOk (qs x.open_)) (hn0:0≤x.number) (hn1:x.number≤100000) (hq:x.open_.length≤100000) (hN:x.nodes.length≤600) {s:List Int} (hs:StateOk t.vars s) (c p q:Int) :
    (∃ (i:Nat) (n:ONd),x.nodes[i]?=some n∧n.state=cnS t gens s∧n.cost≤c∧BM x s c p q=some (⟨0⟩,x)) ∨
    ∃ (i:Nat) (x':Ors),BM x s c p q=some (⟨0⟩,x')∧x'.t=t∧x'.gens=gens∧TabI t.vars x'.nodes x'.tab.l∧HeapOk (qs x'.open_)∧x'.number=x.number + 1∧x'.open_.length=x.open_.length + 1∧(qs x'.open_).Perm (⟨c,0,(i:Int),x.number + 1⟩ :: qs x.open_) ∧
      ((i=x.nodes.length∧x'.nodes=x.nodes ++ [⟨cnS t gens s,c,p,q,wdS t gens s,false⟩]∧∀ (j:Nat) n,x.nodes[j]?=some n→n.state≠cnS t gens s)∨∃ a,x.nodes[i]?=some a∧a.state=cnS t gens s∧c < a.cost∧x'.nodes=x.nodes.set i ⟨cnS t gens s,c,p,q,wdS t gens s,false⟩):=by
  have hok:=h.sm.ok
  obtain ⟨c1,_,c3,_⟩:=GQ h hs
  obtain ⟨tt,gg,N,tab,op,num⟩:=x
  dsimp only at ht hg htab hh hn0 hn1 hq hN ⊢
  subst ht hg
  have c1':BK (⟨tt.vars,tt.init,tt.goal,tt.ops⟩:Tsk) gg s=some (cnS tt gg s,wdS tt gg s,⟨0⟩):=c1
  have hkl:(cnS tt gg s).length≤1000000:=by have:=c3.1;have:=hok.1;omega
  have push:∀ i:Nat,∃ r,Co (⟨op⟩:BQ) ⟨⟨c,num + 1,(i:Int)⟩⟩=some r∧HeapOk (qs r.l)∧(qs r.l).Perm (⟨c,0,(i:Int),num + 1⟩ :: qs op):=fun i=>NE (q:=⟨op⟩) hh (by dsimp only;omega) ⟨c,num + 1,(i:Int)⟩
  have plen:∀ {l:List OEn} {e:QEn},(qs l).Perm (e :: qs op)→l.length=op.length + 1:=fun {l e} hp=>by
    have:=hp.length_eq
    simpa [Fk] using this
  unfold BM
  dsimp only
  rw [c1',Am,if_neg (by simp)]
  dsimp only
  rw [PL hkl,Am]
  rcases htab _ c3 with ⟨h1,h2⟩|⟨j,n,h1,h2,h3,h4⟩
  · refine .inr ⟨N.length,?_⟩
    obtain ⟨r,r1,r2,r3⟩:=push N.length
    rw [h1,Cb,Am]
    dsimp only
    rw [Cb,Cb,Cm (by simp;omega) (by simp;omega),Am,Am]
    dsimp only
    rw [Ci (by unfold inI64;omega),Am,r1,Am]
    exact ⟨_,rfl,rfl,rfl,TabI.app hok htab (b:=⟨cnS tt gg s,c,p,q,wdS tt gg s,false⟩) c3,r2,rfl,plen r3,r3,.inl ⟨rfl,rfl,h2⟩⟩
  · rw [h1,BD,h2,Bi,h3,Am]
    by_cases hle:n.cost≤c
    · rw [if_pos hle,Am]
      dsimp only
      rw [BD]
      exact .inl ⟨j,n,h3,h4,hle,rfl⟩
    · refine .inr ⟨j,?_⟩
      obtain ⟨r,r1,r2,r3⟩:=push j
      rw [if_neg hle,Am]
      dsimp only
      rw [Cb,BD,Am,Am]
      dsimp only
      rw [Ci (by unfold inI64;omega),Am,r1,Am]
      exact ⟨_,rfl,rfl,rfl,htab.set h3 (b:=⟨cnS tt gg s,c,p,q,wdS tt gg s,false⟩) h4.symm,r2,rfl,plen r3,r3,.inr ⟨n,h3,h4,by omega,by dsimp only;rw [Int.toNat_natCast]⟩⟩
end
section
open Go Go.RowKit
theorem Lo {t:Tsk} (hok:TaskOk t):Cw t=some (idX t,⟨0⟩):=by
  unfold Cw
  have h1:=hok.1
  have h2:=hok.2.1
  rw [demand0 hok,Am,if_neg (by simp),Jp (by omega),Am,Jp (by omega),Am,Am,Fa (fun k=>(t.vars.take k).map fun n=>rangeI n.toNat) (by simp) (fun k n hk=>by
    have hn:=hok.2.2.1 k n hk
    have:=AL hk
    obtain ⟨m,rfl⟩:=Int.eq_ofNat_of_zero_le (by omega:0≤n)
    rw [Jp (by omega),Am,Cm (by simp;omega) (by simp;omega),Am,map_take hk]
    simp),Am,BW,List.take_length]
  rfl
theorem Mg {t:Tsk} {x y:Swp} (hok:TaskOk t) (hx:SymP t x) (hy:SymP t y):BV t x y=some (compX x y,⟨0⟩):=by
  unfold BV
  have h1:=hok.1
  have h2:=hok.2.1
  rw [demand2 hok,Am,Bl ⟨hx,hy⟩,BD,if_neg (by simp),Is hx.1.1 hy.1.1.len (by omega),Am,Is hx.2.1 hy.2.1.len (by omega),Am,Am,Fa (fun k=>(compX x y).vals.take k) (by simp) (fun k l hk=>by
    have hlt:=AL hk
    rw [hx.1.2.1] at hlt
    obtain ⟨n,a,l',q1,q2,q3,q4,q5⟩:=hx.1.2.2 k hlt
    obtain rfl:l=l':=by rw [hk] at q3;exact Option.some.inj q3
    obtain ⟨ha1,ha2⟩:=hx.1.1.mem (List.mem_of_getElem? q2)
    obtain ⟨a,rfl⟩:=Int.eq_ofNat_of_zero_le ha1
    obtain ⟨n',b,m,p1,p2,p3,p4,p5⟩:=hy.1.2.2 a (by omega)
    rw [Bi] at q4
    have e:n=n':=by rw [q4] at p1;have:=Option.some.inj p1;omega
    subst e
    have hn:=hok.2.2.1 k n q1
    rw [q2,Am,Bi,p3,Am,Is q5 p5.len (by omega),Am,Cm (by simp;omega) (by simp;omega),Am,List.take_add_one,Fm q2 q3 p3]
    rfl),Am,BW]
  have:x.vals.length=(compX x y).vals.length:=by simp [compX]
  rw [this,List.take_length]
  rfl
theorem Mh {t:Tsk} {x:Swp} (hok:TaskOk t) (hx:SymP t x):Cs t x=some (invX x,⟨0⟩):=by
  unfold Cs
  have hl:t.vars.length≤1000000:=by have:=hok.1;omega
  have hl2:t.ops.length≤1000000:=by have:=hok.2.1;omega
  have hvl:=hx.1.2.1
  rw [demand1 hok,Am,Bl hx,BD,if_neg (by simp),(Ee hx.1.1 hl).1,Am,(Ee hx.2.1 hl2).1,Am,FM (by omega) (by omega),Am,Am]
  simp only
  obtain ⟨s,h1,h2,h3⟩:=DP (ρ:=Swp×Err) (f:=fun (k414:Nat) (a415:List Int) (s412:(List (List Int)))=>bnd (x.vars[k414]?) fun a440=>bnd (Cd a415) fun q450=>bnd (atI s412 a440) fun _=>some (.next (s412.set (a440).toNat q450))) (xs:=x.vals) (s₀:=List.replicate x.vals.length []) (fun k s=>s.length=x.vals.length∧∀ v a:Nat,v < k→x.vars[v]?=some (a:Int)→s[a]?=(invX x).vals[a]?) ⟨by simp,fun v a h=>by omega⟩ (fun k l s hk hI=>by
    obtain ⟨i1,i2⟩:=hI
    have hlt:=AL hk
    obtain ⟨n,a,l',q1,q2,q3,q4,q5⟩:=hx.1.2.2 k (by omega)
    obtain rfl:l=l':=by rw [hk] at q3;exact Option.some.inj q3
    obtain ⟨ha1,ha2⟩:=hx.1.1.mem (List.mem_of_getElem? q2)
    obtain ⟨a,rfl⟩:=Int.eq_ofNat_of_zero_le ha1
    obtain ⟨u,hu⟩:=AN (l:=s) (k:=a) (by omega)
    have hn:=hok.2.2.1 k n q1
    rw [q2,Am,(Ee q5 (by omega)).1,Am,Bi,hu,Am]
    refine ⟨_,rfl,by simpa using i1,fun v b hv hvb=>?_⟩
    rw [show ((a:Int)).toNat=a from by omega,List.getElem?_set]
    by_cases e:a=b
    · subst e;rw [if_pos rfl,if_pos (by omega),GO hok hx.1 q2 q3]
    · rw [if_neg e]
      refine i2 v b ?_ hvb
      have:v≠k:=fun h=>e (by subst h;rw [hvb] at q2;have:=Option.some.inj q2;omega)
      omega)
  rw [h1,Am,BW]
  have:s=(invX x).vals:=List.ext_getElem? fun a=>by
    by_cases ha:a < x.vals.length
    · obtain ⟨v,hv,hva⟩:=EN hx.1.1 (a:=a) (by omega)
      exact h3 v a (by omega) hva
    · rw [List.getElem?_eq_none (by omega),List.getElem?_eq_none (by simp [invX];omega)]
  rw [this]
  rfl
end
section
set_option linter.unusedVariables false
set_option linter.unusedSimpArgs false
open Go Go.RowKit
theorem Gd {t:Tsk} {gens:List Swp} (h:Sy t gens) {s:List Int} (ho:OR t (cnS t gens) s):StateOk t.vars s:=by
  have hok:=h.sm.ok
  induction ho with
  | init=>exact (GQ h hok.2.2.2.1).2.2.1
  | step _ _ ho _ ih=>exact (GQ h (EM hok ih ho)).2.2.1
theorem NO {N:List ONd} {i:Nat} {l:List Nat} (h:TrN N i l):∀ (acc:List Int),acc.length + l.length≤100000 →
    lop (ρ:=(List Int)×Err) (fun (s5:Int×(List Int))=>if 0≤s5.1 then (bnd (appI 8 s5.2 [s5.1]) fun u25=>bnd (atI N s5.1) fun a75=>some (.next (a75.parent,u25))) else (some (.brk (s5.1,s5.2)))) ((i:Int),acc)=some (.done (-1,acc ++ (l.reverse.map fun k:Nat=>(k:Int)))):=by
  induction h with
  | @root n h0 hp =>
    intro acc ha
    simp only [List.length_singleton] at ha
    rw [CN]
    dsimp only
    rw [if_pos (by omega),Cm (by simp;omega) (by simp;omega),Am,Bi,h0,Am,hp]
    dsimp only
    rw [CN]
    dsimp only
    rw [if_neg (by omega)]
    rfl
  | @step i p n l hi hp hl ih =>
    intro acc ha
    simp only [List.length_append,List.length_singleton] at ha
    rw [CN]
    dsimp only
    rw [if_pos (by omega),Cm (by simp;omega) (by simp;omega),Am,Bi,hi,Am,hp]
    dsimp only
    rw [ih (acc ++ [(i:Int)]) (by simp;omega)]
    simp
theorem TrN.way {N:List ONd} {i:Nat} {l:List Nat} (h:TrN N i l):l[0]?=some 0∧l.getLast?=some i∧∀ (k a b:Nat),l[k]?=some a→l[k + 1]?=some b→∃ n,N[b]?=some n∧n.parent=(a:Int):=by
  induction h with
  | root h0 hp=>exact ⟨rfl,rfl,fun k a b _ hb=>by simp at hb⟩
  | @step i p n l hi hp hl ih =>
    obtain ⟨i1,i2,i3⟩:=ih
    have hl0:=AL i1
    refine ⟨by rw [List.getElem?_append_left hl0];exact i1,by simp,fun k a b ha hb=>?_⟩
    rcases Nat.lt_or_ge (k + 1) l.length with hk|hk
    · rw [List.getElem?_append_left hk] at hb
      rw [List.getElem?_append_left (by omega)] at ha
      exact i3 k a b ha hb
    · have hbl:=AL hb
      simp only [List.length_append,List.length_singleton] at hbl
      have hk2:k + 1=l.length:=by omega
      rw [hk2] at hb
      simp at hb
      subst hb
      rw [List.getElem?_append_left (by omega)] at ha
      rw [List.getLast?_eq_getElem?,show l.length - 1=k from by omega,ha] at i2
      obtain rfl:=Option.some.inj i2
      exact ⟨n,hi,hp⟩
theorem TrN.mem {N:List ONd} {i:Nat} {l:List Nat} (h:TrN N i l):∀ k∈l,∃ n,N[k]?=some n:=by
  induction h with
  | root h0 hp=>intro k hk;simp at hk;subst hk;exact ⟨_,h0⟩
  | step hi hp hl ih =>
    intro k hk
    rcases List.mem_append.1 hk with hk|hk
    · exact ih k hk
    · simp at hk;subst hk;exact ⟨_,hi⟩
theorem MU {t:Tsk} {gens:List Swp} (h:Sy t gens) {L s ws r:List Int} (hw:Word gens s ws r) {ρ:Type} (bad:(Swp×Err)→ρ) (hL:StateOk t.vars L):∀ (j:Nat) (x:Swp),SymP t x→StateOk t.vars s→ImS x L s →
    ∃ y:Swp,rng (ρ:=ρ) (fun (k498:Nat) (a499:Int) (s496:(List Int)×(List (List Int))×(List Int))=>bnd (atI gens a499) fun a561=>bnd (BV t (⟨s496.1,s496.2.1,s496.2.2⟩:Swp) a561) fun q584=>if q584.2.n≠0 then (some (.ret (bad q584))) else (some (.next (q584.1.vars,q584.1.vals,q584.1.ops)))) ws j (x.vars,x.vals,x.ops)=some (.done (y.vars,y.vals,y.ops))∧SymP t y∧ImS y L r:=by
  have hok:=h.sm.ok
  induction hw with
  | nil=>intro j x hx _ ha;exact ⟨x,rfl,hx,ha⟩
  | @cons s r ws m g hm hw ih =>
    intro j x hx hs ha
    have hg:=h.sy g (List.mem_of_getElem? hm)
    obtain ⟨g1,g2,g3⟩:=Fo hok hg.1 hs
    obtain ⟨y,y1,y2,y3⟩:=ih (j + 1) (compX x g) (KS hok hx hg) g3 (Iw hx.1 hg.1 hL ha g2)
    refine ⟨y,?_,y2,y3⟩
    have e:BV t (⟨x.vars,x.vals,x.ops⟩:Swp) g=some (compX x g,⟨0⟩):=Mg hok hx hg
    simp only [rng]
    rw [Bi,hm,Am,e,Am,if_neg (by simp)]
    exact y1
theorem NP {t:Tsk} {gens:List Swp} (h:Sy t gens) {x:Ors} (ht:x.t=t) (hg:x.gens=gens) {D:Nat→Int→Prop} {hp:List QEn} {ord:Nat→Nat} {E:Nat} (hinv:OrI t (cnS t gens) (wdS t gens) D x.nodes hp ord E) {i:Nat} {n:ONd} {l:List Nat} (hi:x.nodes[i]?=some n) (hl:TrN x.nodes i l) (hlen:l.length≤1000) :
    ∃ p L,Cl x (i:Int)=some (p,⟨0⟩)∧p.length≤l.length∧PlanR t t.init p L n.cost∧StateOk t.vars L∧∃ y,SymP t y∧ImS y L n.state:=by
  have hok:=h.sm.ok
  have hs0:=hok.2.2.2.1
  obtain ⟨tt,gg,N,tab,op,num⟩:=x
  dsimp only at ht hg hinv hi hl ⊢
  subst ht hg
  obtain ⟨w1,w2,w3⟩:=hl.way
  have hid:Cw (⟨tt.vars,tt.init,tt.goal,tt.ops⟩:Tsk)=some (idX tt,⟨0⟩):=Lo hok
  have hrev:BX (l.reverse.map fun k:Nat=>(k:Int))=some (l.map fun k:Nat=>(k:Int)):=by
    rw [PH (by simp;omega)]
    simp
  have hsp:∀ (j:Nat) m,N[j]?=some m→StateOk tt.vars m.state:=fun j m hj=>Gd h (hinv.rch j m hj)
  unfold Cl
  dsimp only
  rw [NO hl [] (by simp;omega),Am,BW]
  dsimp only
  rw [List.nil_append,hrev,Am,hid,Am,if_neg (by simp)]
  dsimp only
  refine (?_:∃ p L,_∧p.length≤l.length∧PlanR tt tt.init p L n.cost∧StateOk tt.vars L∧∃ y,SymP tt y∧ImS y L n.state)
  obtain ⟨z,z1,z2⟩:=DP (ρ:=(List Int)×Err) (xs:=l.reverse.map fun k:Nat=>(k:Int)) (s₀:=(([]:List Int),(idX tt).vars,(idX tt).vals,(idX tt).ops)) (f:=fun (k203:Nat) (a204:Int) (s201:(List Int)×(List Int)×(List (List Int))×(List Int))=>bnd ((l.map fun k:Nat=>(k:Int))[k203]?) fun a224=>bnd (bnd (atI N a224) fun a278=>if 0≤a278.op then (bnd (Cs (⟨tt.vars,tt.init,tt.goal,tt.ops⟩:Tsk) (⟨s201.2.1,s201.2.2.1,s201.2.2.2⟩:Swp)) fun q308=>bnd (some (q308.1.vars,q308.1.vals,q308.1.ops):Option ((List Int)×(List (List Int))×(List Int))) fun y310=>if q308.2.n≠0 then (some (.ret (.ret (([]:List Int),(⟨q308.2.n⟩:Err))))) else (bnd (atI y310.2.2 a278.op) fun a394=>bnd (appI 8 s201.1 [a394]) fun u406=>some (.done u406))) else (some (.done s201.1)):Option (Fin (List Int) (Ctl ((List Int)×(List Int)×(List (List Int))×(List Int)) ((List Int)×Err)))) fun y234=>fin y234 fun (s236:(List Int))=>bnd (atI N a224) fun a465=>bnd (rng (ρ:=Ctl ((List Int)×(List Int)×(List (List Int))×(List Int)) ((List Int)×Err)) (fun (k498:Nat) (a499:Int) (s496:(List Int)×(List (List Int))×(List Int))=>bnd (atI gg a499) fun a561=>bnd (BV (⟨tt.vars,tt.init,tt.goal,tt.ops⟩:Tsk) (⟨s496.1,s496.2.1,s496.2.2⟩:Swp) a561) fun q584=>if q584.2.n≠0 then (some (.ret (.ret (([]:List Int),(⟨q584.2.n⟩:Err))))) else (some (.next (q584.1.vars,q584.1.vals,q584.1.ops)))) a465.used 0 (s201.2.1,s201.2.2.1,s201.2.2.2)) fun res494=>fin res494 fun (s626:(List Int)×(List (List Int))×(List Int))=>some (.next (s236,s626.1,s626.2.1,s626.2.2)))
    (fun k st=>∃ y:Swp,SymP tt y∧st.2=(y.vars,y.vals,y.ops)∧st.1.length≤k∧((k=0∧st.1=[]∧y=idX tt)∨∃ (k' j:Nat) (m:ONd) (L:List Int),k=k' + 1∧l[k']?=some j∧N[j]?=some m∧PlanR tt tt.init st.1 L m.cost∧StateOk tt.vars L∧ImS y L m.state))
    ⟨idX tt,MO hok,rfl,by simp,.inl ⟨rfl,rfl,rfl⟩⟩ (fun k a st hk hI=>by
      have hkl:=AL hk
      simp only [List.length_map,List.length_reverse] at hkl
      obtain ⟨j,hj⟩:=AN (l:=l) (k:=k) hkl
      obtain ⟨m,hm⟩:=hl.mem j (List.mem_of_getElem? hj)
      obtain ⟨pl,st2⟩:=st
      obtain ⟨y,y1,y2,y3,y4⟩:=hI
      dsimp only at y2 y3 y4 ⊢
      subst y2
      dsimp only
      rw [List.getElem?_map,hj]
      dsimp only [Option.map_some]
      rw [Am,Bi,hm,Am]
      have wloop:∀ {L s:List Int},StateOk tt.vars L→StateOk tt.vars s→ImS y L s→m.state=cnS tt gg s→m.used=wdS tt gg s→∃ y':Swp,rng (ρ:=Ctl ((List Int)×(List Int)×(List (List Int))×(List Int)) ((List Int)×Err)) (fun (k498:Nat) (a499:Int) (s496:(List Int)×(List (List Int))×(List Int))=>bnd (atI gg a499) fun a561=>bnd (BV (⟨tt.vars,tt.init,tt.goal,tt.ops⟩:Tsk) (⟨s496.1,s496.2.1,s496.2.2⟩:Swp) a561) fun q584=>if q584.2.n≠0 then (some (.ret (.ret (([]:List Int),(⟨q584.2.n⟩:Err))))) else (some (.next (q584.1.vars,q584.1.vals,q584.1.ops)))) m.used 0 (y.vars,y.vals,y.ops)=some (.done (y'.vars,y'.vals,y'.ops))∧SymP tt y'∧ImS y' L m.state:=fun {L s} hL hs ha e1 e2=>by
        rw [e1,e2]
        exact MU h (GQ h hs).2.2.2 (fun q584=>Ctl.ret (σ:=(List Int)×(List Int)×(List (List Int))×(List Int)) (([]:List Int),(⟨q584.2.n⟩:Err))) hL 0 y y1 hs ha
      rcases y4 with ⟨rfl,rfl,rfl⟩|⟨k',j',m',L,rfl,hj',hm',hpl,hL,hIm⟩
      · rw [w1] at hj
        obtain rfl:=Option.some.inj hj
        obtain ⟨n0,r1,r2,r3,r4,r5,r6⟩:=hinv.root
        rw [r1] at hm
        obtain rfl:=Option.some.inj hm
        obtain ⟨y',q1,q2,q3⟩:=wloop hs0 hs0 (KV hok hs0) r2 r3
        rw [r6,if_neg (by omega),Am,BW,Am,q1,Am,BW]
        refine ⟨_,rfl,y',q2,rfl,by simp,.inr ⟨0,0,n0,tt.init,rfl,w1,r1,?_,hs0,q3⟩⟩
        rw [r4]
        exact .nil
      · obtain ⟨m2,hm2,hpar⟩:=w3 k' j' j hj' hj
        rw [hm] at hm2
        obtain rfl:=Option.some.inj hm2
        rcases hinv.link j m hm with rfl|⟨pp,q,o,mm,a1,a2,a3,a4,a5,a6,a7,a8,a9,_⟩
        · obtain ⟨n0,r1,_,_,_,r5,_⟩:=hinv.root
          rw [r1] at hm
          obtain rfl:=Option.some.inj hm
          omega
        have epp:pp=j':=by omega
        subst epp
        rw [hm'] at a4
        obtain rfl:=Option.some.inj a4
        have hst:=hsp pp m' hm'
        have hiv:=Jq hok y1
        obtain ⟨o',p2,b,o1,o2,o3,o4,o5,_⟩:=EO hiv (AL a3)
        have hback:=GP hok y1 hL hIm
        obtain ⟨g1,g2,g3⟩:=LG hok hiv hst hback a3 o2 o4
        have hs2:=EM hok hst a3
        have hL2:=EM hok hL o4
        have hIm2:ImS y (succ p2 L) (succ o m'.state):=by
          obtain ⟨c1,c2,c3⟩:=Fo hok y1.1 hL2
          have e1:=GP hok y1 hL2 c2
          have e2:=GP hok hiv c3 e1
          have e3:=GP hok hiv hs2 g2
          have e4:=Iv (Jq hok hiv).1 hL2.1 e2 e3
          rw [e4] at c2
          exact c2
        obtain ⟨y',q1,q2,q3⟩:=wloop hL2 hs2 hIm2 a7 a8
        have ei:Cs (⟨tt.vars,tt.init,tt.goal,tt.ops⟩:Tsk) (⟨y.vars,y.vals,y.ops⟩:Swp)=some (invX y,⟨0⟩):=Mh hok y1
        rw [a2,if_pos (by omega),ei,Am,Am,if_neg (by simp)]
        dsimp only
        rw [Bi,o2,Am,Cm (by simp;omega) (by simp;omega),Am,Am,BW,Am,q1,Am,BW]
        refine ⟨_,rfl,y',q2,rfl,by simp;omega,.inr ⟨k' + 1,j,m,succ p2 L,rfl,hj,hm,?_,hL2,q3⟩⟩
        rw [a9,← g3]
        exact hpl.snoc o4 (by rw [g1];exact a6))
  obtain ⟨y,y1,y2,y3,y4⟩:=z2
  rw [z1,Am,BW]
  simp only [List.length_map,List.length_reverse] at y3 y4
  have hlp:=AL w1
  rcases y4 with ⟨e,_⟩|⟨k',j,m,L,e,hj,hm,hpl,hL,hIm⟩
  · omega
  rw [List.getLast?_eq_getElem?,show l.length - 1=k' from by omega,hj] at w2
  obtain rfl:=Option.some.inj w2
  rw [hi] at hm
  obtain rfl:=Option.some.inj hm
  exact ⟨z.1,L,rfl,y3,hpl,hL,y,y1,hIm⟩
end
section
set_option linter.unusedVariables false
set_option linter.unusedSimpArgs false
open Go Go.RowKit
abbrev OT:=Int×Ors
noncomputable def oIn (t:Tsk) (c:Int) (id:Int) (s:Ors) (a:Suc):Option (Ctl Ors (Ctl OT (Rsl×Err))):=bnd (atI t.ops a.op) fun o=>bnd (chkI (c + o.cost)) fun n=>bnd (BM s a.state n id a.op) fun q=>if q.1.n≠0 then (some (.ret (.ret ((⟨0,([]:List Int),0,0⟩:Rsl),(⟨q.1.n⟩:Err))))) else (some (.next q.2))
noncomputable def orbF (t:Tsk) (g:Option Gnr) (lim:Int):OT→Option (Ctl OT (Rsl×Err)):=fun s=>bnd (BO s.2.open_) fun q=>if q=0 then (some (.ret ((⟨2,([]:List Int),0,s.1⟩:Rsl),(⟨0⟩:Err)))) else (bnd (Ct (⟨s.2.open_⟩:BQ)) fun e=>bnd (bnd (atI s.2.nodes e.1.x.node) fun a=>if a.fin=true then (some true) else (bnd (atI s.2.nodes e.1.x.node) fun b=>if b.cost < e.1.x.cost then (some true) else (some false)):Option Bool) fun y=>if y=true then (some (.next (s.1,(⟨s.2.t,s.2.gens,s.2.nodes,s.2.tab,e.2.l,s.2.number⟩:Ors)))) else (bnd (atI s.2.nodes e.1.x.node) fun n=>bnd (DN t.goal n.state) fun b=>if b=true then bnd (Cl (⟨s.2.t,s.2.gens,s.2.nodes,s.2.tab,e.2.l,s.2.number⟩:Ors) e.1.x.node) fun p=>if p.2.n≠0 then (some (.ret ((⟨0,([]:List Int),0,0⟩:Rsl),(⟨p.2.n⟩:Err)))) else (some (.ret ((⟨1,p.1,n.cost,s.1⟩:Rsl),(⟨0⟩:Err)))) else if lim≤s.1 then (some (.ret ((⟨3,([]:List Int),0,s.1⟩:Rsl),(⟨0⟩:Err)))) else (bnd (chkI (s.1 + 1)) fun n2=>bnd (atI s.2.nodes e.1.x.node) fun m=>bnd (BA g n.state) fun l=>bnd (rng (ρ:=Ctl OT (Rsl×Err)) (fun (_:Nat) (a:Suc) (y:Ors)=>oIn t n.cost e.1.x.node y a) l 0 (⟨s.2.t,s.2.gens,s.2.nodes.set (e.1.x.node:Int).toNat { m with fin:=true },s.2.tab,e.2.l,s.2.number⟩:Ors)) fun r=>fin r fun (z:Ors)=>some (.next (n2,z)))))
theorem Pa (t:Tsk) (gens:List Swp) (lim:Int):Cj t gens lim=bnd (Cq t) fun q33=>if q33.n≠0 then (some ((⟨0,([]:List Int),0,0⟩:Rsl),(⟨q33.n⟩:Err))) else (bnd (rng (ρ:=Rsl×Err) (fun (k50:Nat) (a51:Swp) (s48:Unit)=>bnd (Cr t a51) fun q87=>if q87=true then some (.next ()) else some (.ret ((⟨0,([]:List Int),0,0⟩:Rsl),(⟨2⟩:Err)))) gens 0 ()) fun res46=>fin res46 fun (s100:Unit)=>bnd (DZ t) fun q102=>if q102.2.n≠0 then (some ((⟨0,([]:List Int),0,0⟩:Rsl),(⟨q102.2.n⟩:Err))) else (bnd (BM (⟨t,gens,([]:List ONd),(⟨[]⟩:MapP ByteArray Int),([]:List OEn),0⟩:Ors) t.init 0 (-1) (-1)) fun q138=>if q138.1.n≠0 then (some ((⟨0,([]:List Int),0,0⟩:Rsl),(⟨q138.1.n⟩:Err))) else (bnd (lop (orbF t q102.1 lim) (0,q138.2)) fun res151=>fin res151 fun (_:OT)=>none))):=rfl
theorem NQ {t:Tsk} {gens:List Swp} (h:Sy t gens) {s ws r:List Int} (hw:Word gens s ws r) (hs:StateOk t.vars s):∃ x,SymP t x∧ImS x s r:=by
  have hok:=h.sm.ok
  induction hw with
  | nil=>exact ⟨idX t,MO hok,KV hok hs⟩
  | @cons s r ws m g hm hw ih =>
    have hg:=h.sy g (List.mem_of_getElem? hm)
    obtain ⟨g1,g2,g3⟩:=Fo hok hg.1 hs
    obtain ⟨x,x1,x2⟩:=ih g3
    exact ⟨compX g x,KS hok hg x1,Iw hg.1 x1.1 hs g2 x2⟩
theorem MV {t:Tsk} {gens:List Swp} (h:Sy t gens) {s:List Int} (hs:StateOk t.vars s):∃ x,SymP t x∧ImS x s (cnS t gens s):=NQ h (GQ h hs).2.2.2 hs
theorem Jr {t:Tsk} {x:Swp} (hok:TaskOk t) (hx:SymP t x) {s a:List Int} (hs:StateOk t.vars s) (ha:ImS x s a):holdsB t.goal a=holdsB t.goal s:=by
  have:=Ix hok hx.1 hok.2.2.2.2.1 hs ha
  rwa [hx.2.2.1] at this
theorem MW {t:Tsk} {s:List Int} {C:Int} (hw:Walk t s C):∃ p s',PlanR t s p s' C∧holdsB t.goal s'=true:=by
  induction hw with
  | goal h=>exact ⟨[],_,.nil,h⟩
  | @step s k o C ho hp _ ih =>
    obtain ⟨p,s',h1,h2⟩:=ih
    refine ⟨(k:Int) :: p,s',?_,h2⟩
    rw [Int.add_comm]
    exact .cons ho hp h1
theorem PM {t:Tsk} {gens:List Swp} (h:Sy t gens):∀ (n:Nat) (p s s':List Int) (C:Int),p.length≤n→StateOk t.vars s→PlanR t s p s' C→holdsB t.goal s'=true→WalkC t (cnS t gens) s C:=by
  have hok:=h.sm.ok
  intro n
  induction n with
  | zero =>
    intro p s s' C hp hs hr hg
    cases hr with
    | nil=>exact .goal hg
    | cons _ _ _=>simp at hp
  | succ n ih =>
    intro p s s' C hp hs hr hg
    cases hr with
    | nil=>exact .goal hg
    | @cons _ rest _ k o C ho hpre hr =>
      have hs2:=EM hok hs ho
      obtain ⟨x,x1,x2⟩:=MV h hs2
      obtain ⟨i1,i2,a',i3,i4⟩:=LH hok x1 hr hs2 x2
      have hg':holdsB t.goal a'=true:=by rw [Jr hok x1 i2 i4];exact hg
      rw [Int.add_comm]
      exact .step ho hpre (ih _ _ _ _ (by simp [imP] at hp ⊢;omega) (GQ h hs2).2.2.1 i3 hg')
theorem PN {t:Tsk} {gens:List Swp} (h:Sy t gens) {C:Int} (hw:Walk t t.init C):WalkC t (cnS t gens) (cnS t gens t.init) C:=by
  have hok:=h.sm.ok
  have hs:=hok.2.2.2.1
  obtain ⟨x,x1,x2⟩:=MV h hs
  obtain ⟨p,s',p1,p2⟩:=MW hw
  obtain ⟨i1,i2,a',i3,i4⟩:=LH hok x1 p1 hs x2
  exact PM h _ _ _ _ _ (Nat.le_refl _) (GQ h hs).2.2.1 i3 (by rw [Jr hok x1 i2 i4];exact p2)
structure AS (t:Tsk) (gens:List Swp) (x:Ors):Prop where
  tt:x.t=t
  gg:x.gens=gens
  tab:TabI t.vars x.nodes x.tab.l
  heap:HeapOk (qs x.open_)
  num0:0≤x.number
def KPN (N N':List ONd):Prop:=∀ (j:Nat) n,N'[j]?=some n→n.fin=true→N[j]?=some n
def HMN (N:List ONd) (c:Int):Prop:=∀ (j:Nat) n,N[j]?=some n→n.fin=true→n.cost≤c
theorem HMN.kp {N N':List ONd} {c:Int} (h:HMN N c) (k:KPN N N'):HMN N' c:=fun j n hj hf=>h j n (k j n hj hf) hf
theorem MX {N N':List ONd} {i:Nat} {n:ONd} (h:UpN i n N N') (hf:n.fin=false):KPN N N':=fun j a hj ha=>by
  have hne:j≠i:=fun e=>by subst e;rw [h.1] at hj;obtain rfl:=Option.some.inj hj;rw [hf] at ha;cases ha
  rw [← h.2 j hne];exact hj
theorem JR {t:Tsk} {gens:List Swp} (h:Sy t gens) {D:Nat→Int→Prop} {N:List ONd} {hp:List QEn} {ord:Nat→Nat} {E:Nat} (hinv:OrI t (cnS t gens) (wdS t gens) D N hp ord E):N.length≤512:=by
  have h1:(N.map (·.state)).length≤(statesL t.vars).length:=Gc (KI fun i j s hi hj=>by
    rw [List.getElem?_map] at hi hj
    obtain ⟨n,hn,e1⟩:=Option.map_eq_some_iff.1 hi
    obtain ⟨m,hm,e2⟩:=Option.map_eq_some_iff.1 hj
    exact hinv.uniq i j n m hn hm (e1.trans e2.symm)) fun s hs=>by
      obtain ⟨n,hn,rfl⟩:=List.mem_map.1 hs
      obtain ⟨i,hi⟩:=List.getElem?_of_mem hn
      exact Fd.2 (Gd h (hinv.rch i n hi))
  rw [List.length_map] at h1
  exact Nat.le_trans h1 h.sm.many
theorem Qk {t:Tsk} {gens:List Swp} (h:Sy t gens) {D:Nat→Int→Prop} {ord:Nat→Nat} {E:Nat} {x:Ors} (hx:AS t gens x) (hinv:OrI t (cnS t gens) (wdS t gens) D x.nodes (qs x.open_) ord E) (hn1:x.number≤100000) (hql:x.open_.length≤100000) (hE:E≤601)
    {p k:Nat} {o:Opr} {m:ONd} (ho:t.ops[k]?=some o) (hm:x.nodes[p]?=some m) (hmf:m.fin=true) (hpre:holdsB o.pre m.state=true) (hmax:HMN x.nodes m.cost) (hcb:m.cost + 1048576≤(E:Int) * 1048576) :
    ∃ y:Ors,oIn t m.cost (p:Int) x ⟨(k:Int),succ o m.state⟩=some (.next y)∧AS t gens y∧OrI t (cnS t gens) (wdS t gens) D y.nodes (qs y.open_) ord E∧y.number≤x.number + 1∧y.open_.length≤x.open_.length + 1∧KPN x.nodes y.nodes∧y.nodes[p]?=some m∧∃ (i:Nat) (m':ONd),y.nodes[i]?=some m'∧m'.state=cnS t gens (succ o m.state)∧m'.cost≤m.cost + o.cost:=by
  have hok:=h.sm.ok
  have hoo:=hok.2.2.2.2.2 k o ho
  have ho1':=hoo.1
  have ho2:=hoo.2.1
  have hN:=JR h hinv
  have hcp:=(hinv.bound p m hm).1
  have hsm:=Gd h (hinv.rch p m hm)
  have hs:=EM hok hsm ho
  unfold oIn
  dsimp only
  rw [Bi,ho,Am,Ci (by unfold inI64;omega),Am]
  rcases Oj h hx.tt hx.gg hx.tab hx.heap hx.num0 hn1 hql (by omega) hs (m.cost + o.cost) (p:Int) (k:Int) with ⟨i,n,a1,a2,a3,a4⟩|⟨i,y,a1,a2,a3,a4,a5,a6,a7,a8,a9⟩
  · rw [a4,Am,if_neg (by simp)]
    exact ⟨x,rfl,hx,hinv,by omega,by omega,fun j n hj _=>hj,hm,i,n,a1,a2,a3⟩
  · rw [a1,Am,if_neg (by simp)]
    have hAS:AS t gens y:=⟨a2,a3,a4,a5,by have:=hx.num0;omega⟩
    rcases a9 with ⟨rfl,b2,b3⟩|⟨a,b1,b2,b3,b4⟩
    · have hup:UpN x.nodes.length (⟨cnS t gens (succ o m.state),m.cost + o.cost,(p:Int),(k:Int),wdS t gens (succ o m.state),false⟩:ONd) x.nodes y.nodes:=by rw [b2];exact OL
      have hpl:=AL hm
      have hpy:y.nodes[p]?=some m:=by rw [hup.2 p (by omega)];exact hm
      refine ⟨y,rfl,hAS,?_,by omega,by omega,MX hup rfl,hpy,x.nodes.length,_,hup.1,rfl,Int.le_refl _⟩
      exact hinv.upd hok hup a8 rfl rfl (by rw [b2];simp) (by rw [b2];exact ND _ rfl) (.inl ⟨List.getElem?_eq_none (Nat.le_refl _),b3⟩) rfl rfl rfl ho hm hmf hpre rfl rfl rfl hmax (by dsimp only;omega)
    · have haf:a.fin=false:=by
        cases hb:a.fin with
        | false=>rfl
        | true=>have:=hmax i a b1 hb;omega
      have hup:UpN i (⟨cnS t gens (succ o m.state),m.cost + o.cost,(p:Int),(k:Int),wdS t gens (succ o m.state),false⟩:ONd) x.nodes y.nodes:=by rw [b4];exact OK (AL b1)
      have hip:p≠i:=fun e=>by subst e;rw [hm] at b1;obtain rfl:=Option.some.inj b1;rw [hmf] at haf;cases haf
      refine ⟨y,rfl,hAS,?_,by omega,by omega,MX hup rfl,by rw [hup.2 p hip];exact hm,i,_,hup.1,rfl,Int.le_refl _⟩
      exact hinv.upd hok hup a8 rfl rfl (by rw [b4];simp) (by rw [b4];exact KK b1 haf rfl) (.inr ⟨a,b1,b2,haf,b3⟩) rfl rfl rfl ho hm hmf hpre rfl rfl rfl hmax (by dsimp only;omega)
structure OJ (t:Tsk) (gens:List Swp) (D:Nat→Int→Prop) (ord:Nat→Nat) (E NN:Nat) (i:Nat) (m:ONd) (y:Ors):Prop where
  ob:AS t gens y
  inv:OrI t (cnS t gens) (wdS t gens) D y.nodes (qs y.open_) ord E
  num1:y.number≤NN
  qlen:y.open_.length≤NN
  hi:y.nodes[i]?=some m
  hm:HMN y.nodes m.cost
theorem Ql {t:Tsk} {gens:List Swp} (h:Sy t gens) {ord:Nat→Nat} {E NN i:Nat} {m:ONd} {y:Ors} (hj:OJ t gens (fun j _=>j≠i) ord E NN i m y) (hmf:m.fin=true) (hN:NN≤90000) (hE:E≤601) (hcb:m.cost + 1048576≤(E:Int) * 1048576) :
    ∃ y':Ors,rng (ρ:=Ctl OT (Rsl×Err)) (fun (_:Nat) (a:Suc) (y:Ors)=>oIn t m.cost (i:Int) y a) ((appS t m.state).map (sucOf t m.state)) 0 y=some (.done y')∧OJ t gens (fun _ _=>True) ord E (NN + 20) i m y':=by
  have hok:=h.sm.ok
  have hops:t.ops.length≤20:=h.sm.2.1
  have hsok:=Gd h (hj.inv.rch i m hj.hi)
  have hlen:(appl t m.state).length≤20:=Nat.le_trans (KE t m.state) hops
  rw [HJ hsok]
  obtain ⟨y',h1,h2⟩:=DP (ρ:=Ctl OT (Rsl×Err)) (f:=fun (_:Nat) (a:Suc) (y:Ors)=>oIn t m.cost (i:Int) y a) (xs:=(appl t m.state).map (sucOf t m.state)) (s₀:=y) (fun b z=>OJ t gens (fun j q=>j≠i∨q∈(appl t m.state).take b) ord E (NN + b) i m z)
    { hj with inv:={ hj.inv with rel:=fun j a q hj' hs' hq hd=>hj.inv.rel j a q hj' hs' hq (by rcases hd with hd|hd;exact hd;simp at hd) } } (fun b a z hb hz=>by
      rw [List.getElem?_map] at hb
      obtain ⟨op,hop,rfl⟩:=Option.map_eq_some_iff.1 hb
      obtain ⟨k,o,rfl,ho,hp⟩:=KD (List.mem_of_getElem? hop)
      have hml:=AL hop
      have hq:=hz.qlen
      have hnu:=hz.num1
      have e1:sucOf t m.state (k:Int)=⟨(k:Int),succ o m.state⟩:=by rw [OH,(LF ho).2]
      obtain ⟨z',z1,z2,z3,z4,z5,z6,z7,i',m',z8,z9,z10⟩:=Qk h hz.ob hz.inv (by omega) (by omega) hE ho hz.hi hmf hp hz.hm hcb
      refine ⟨z',by rw [e1];exact z1,⟨z2,?_,by omega,by omega,z7,hz.hm.kp z6⟩⟩
      refine z3.more (j₀:=i) (q₀:=(k:Int)) (fun j q hd=>?_) z7 rfl ho z8 z9 z10
      rcases hd with hd|hd
      · exact .inl (.inl hd)
      · rcases (NA hop).1 hd with hd|rfl
        · exact .inl (.inr hd)
        · by_cases e:j=i
          · exact .inr ⟨e,rfl⟩
          · exact .inl (.inl e))
  rw [List.length_map] at h2
  have hinv:=h2.inv
  have hq:=h2.qlen
  have hnu:=h2.num1
  refine ⟨y',h1,{ h2 with
    inv := { hinv with rel:=fun j s' q hj2 hs' hq2 hd=>hinv.rel j s' q hj2 hs' hq2 (by
      by_cases e:j=i
      · subst e
        rw [h2.hi] at hj2
        obtain rfl:=Option.some.inj hj2
        exact .inr (by rw [List.take_of_length_le (Nat.le_refl _)];exact hq2)
      · exact .inl e) }
    num1:=by omega
    qlen:=by omega }⟩
structure OI (t:Tsk) (gens:List Swp) (ord:Nat→Nat) (NN:Nat) (st:OT):Prop where
  ob:AS t gens st.2
  inv:OrI t (cnS t gens) (wdS t gens) (fun _ _=>True) st.2.nodes (qs st.2.open_) ord st.1.toNat
  num1:st.2.number≤NN
  qlen:st.2.open_.length≤NN
  exp0:0≤st.1
  nn:(NN:Int)≤1 + 20 * st.1
theorem OI.exp {t:Tsk} {gens:List Swp} (h:Sy t gens) {ord:Nat→Nat} {NN:Nat} {st:OT} (hi:OI t gens ord NN st):st.1≤512:=by
  have h1:=JR h hi.inv
  have h2:=hi.inv.num
  have h3:=OM st.2.nodes
  have:=hi.exp0
  omega
theorem PO {t:Tsk} {gens:List Swp} (h:Sy t gens) {ord:Nat→Nat} {NN:Nat} {st:OT} (hi:OI t gens ord NN st) :
    (∃ st':OT,(∀ lim,orbF t (some ⟨t⟩) lim st=some (.next st'))∧OI t gens ord NN st'∧st'.1=st.1∧st'.2.open_.length < st.2.open_.length) ∨
    ((∀ lim,orbF t (some ⟨t⟩) lim st=some (.ret (⟨2,[],0,st.1⟩,⟨0⟩)))∧st.2.open_.length=0) ∨
    (∃ p c,(∀ lim,orbF t (some ⟨t⟩) lim st=some (.ret (⟨1,p,c,st.1⟩,⟨0⟩)))∧p.length≤600∧(∃ s',PlanR t t.init p s' c∧holdsB t.goal s'=true)∧(∀ e∈qs st.2.open_,c≤e.key)∧∃ (i:Nat) (n:ONd),st.2.nodes[i]?=some n∧n.fin=false) ∨
    (∃ (st':OT) (ord':Nat→Nat) (NN':Nat),(∀ lim,orbF t (some ⟨t⟩) lim st=if lim≤st.1 then some (.ret (⟨3,[],0,st.1⟩,⟨0⟩)) else some (.next st'))∧OI t gens ord' NN' st'∧st'.1=st.1 + 1∧∃ (i:Nat) (n:ONd),st.2.nodes[i]?=some n∧n.fin=false):=by
  have hok:=h.sm.ok
  have hE:=hi.exp h
  have hE0:=hi.exp0
  have hnn:=hi.nn
  have hql:=hi.qlen
  have hnu:=hi.num1
  obtain ⟨exp,tt,gg,N,tab,op,num⟩:=st
  obtain ⟨⟨e1,e2,has3,has4,has5⟩,hinv,_,_,_,_⟩:=hi
  dsimp only at e1 e2 has3 has4 has5 hinv hE hE0 hnn hql hnu ⊢
  subst e1 e2
  by_cases h0:op.length=0
  · refine .inr (.inl ⟨fun lim=>?_,h0⟩)
    unfold orbF BO
    dsimp only
    rw [Am,if_pos (by omega)]
  obtain ⟨pr,p1,e,q',rfl,p3,p4,p5⟩:=OO (q:=⟨op⟩) has4 (by dsimp only;omega) (by dsimp only;omega)
  dsimp only at p4 p5
  have hem:toQ e∈qs op:=p4.mem_iff.2 List.mem_cons_self
  obtain ⟨i,n,hei,hn,hle⟩:=hinv.ent _ hem
  change e.node=(i:Int) at hei
  change n.cost≤e.cost at hle
  have hpl:=p4.length_eq
  simp only [List.length_cons,Fk] at hpl
  have hst:=Gd h (hinv.rch i n hn)
  by_cases hstale:n.fin=true∨n.cost < e.cost
  · refine .inl ⟨(exp,⟨tt,gg,N,tab,q'.l,num⟩),fun lim=>?_,⟨⟨rfl,rfl,has3,p3,has5⟩,hinv.drop p4 hei hn (hstale.imp id fun hl=>by change n.cost≠e.cost;omega),hnu,by dsimp only;omega,hE0,hnn⟩,rfl,by dsimp only;omega⟩
    unfold orbF BO
    dsimp only
    rw [Am,if_neg (by omega),p1,Am]
    dsimp only
    rw [hei,Bi,hn,Am]
    by_cases hf:n.fin=true
    · rw [if_pos hf,Am,BD]
    · rw [if_neg hf,Am,if_pos (hstale.resolve_left hf),Am,BD]
  · have hff:n.fin=false:=by
      cases hb:n.fin with
      | false=>rfl
      | true=>exact absurd (.inl hb) hstale
    have hke:n.cost=e.cost:=by
      have:¬ n.cost < e.cost:=fun hl=>hstale (.inr hl)
      omega
    have start:∀ lim,orbF tt (some ⟨tt⟩) lim (exp,⟨tt,gg,N,tab,op,num⟩)=if holdsB tt.goal n.state=true then bnd (Cl (⟨tt,gg,N,tab,q'.l,num⟩:Ors) (i:Int)) fun p=>if p.2.n≠0 then (some (.ret ((⟨0,([]:List Int),0,0⟩:Rsl),(⟨p.2.n⟩:Err)))) else (some (.ret ((⟨1,p.1,n.cost,exp⟩:Rsl),(⟨0⟩:Err)))) else if lim≤exp then (some (.ret ((⟨3,([]:List Int),0,exp⟩:Rsl),(⟨0⟩:Err)))) else (bnd (chkI (exp + 1)) fun n2=>bnd (BA (some ⟨tt⟩) n.state) fun l=>bnd (rng (ρ:=Ctl OT (Rsl×Err)) (fun (_:Nat) (a:Suc) (y:Ors)=>oIn tt n.cost (i:Int) y a) l 0 (⟨tt,gg,N.set i { n with fin:=true },tab,q'.l,num⟩:Ors)) fun r=>fin r fun (z:Ors)=>some (.next (n2,z))):=by
      intro lim
      unfold orbF BO
      dsimp only
      rw [Am,if_neg (by omega),p1,Am]
      dsimp only
      rw [hei,Bi,hn,Am,hff,Cb,Am,if_neg (by omega),Am,Cb,Am,MF,Am,Int.toNat_natCast]
      simp only [Am]
    have hleast:∀ e'∈qs op,n.cost≤e'.key:=fun e' m=>by have:=MI (p5 e' m);change e.cost≤e'.key at this;omega
    by_cases hg:holdsB tt.goal n.state=true
    · obtain ⟨l,l1,l2⟩:=hinv.path hn
      obtain ⟨p,L,g1,g2,g3,g4,y,g5,g6⟩:=NP h (x:=⟨tt,gg,N,tab,q'.l,num⟩) rfl rfl hinv hn l1 (by omega)
      refine .inr (.inr (.inl ⟨p,n.cost,fun lim=>?_,by omega,⟨L,g3,by rw [← Jr hok g5 g4 g6];exact hg⟩,hleast,i,n,hn,hff⟩))
      rw [start,if_pos hg,g1,Am,if_neg (by simp)]
    · have hgf:holdsB tt.goal n.state=false:=by simpa using hg
      have hm:=hinv.mark p4 p5 hei hn hff hke hgf rfl
      have hbd:=hinv.bound i n hn
      rw [Int.toNat_of_nonneg hE0] at hbd
      have hil:=AL hn
      have hself:(N.set i { n with fin:=true })[i]?=some { n with fin:=true }:=List.getElem?_set_self hil
      obtain ⟨y',y1,y2⟩:=Ql h (E:=exp.toNat + 1) (NN:=NN) (i:=i) (m:={ n with fin:=true }) (y:=(⟨tt,gg,N.set i { n with fin:=true },tab,q'.l,num⟩:Ors)) ⟨⟨rfl,rfl,has3.set hn rfl,p3,has5⟩,hm,hnu,by dsimp only;omega,hself,fun j a hj hja=>by
          by_cases e1:i=j
          · subst e1;rw [hself] at hj;obtain rfl:=Option.some.inj hj;exact Int.le_refl _
          · rw [List.getElem?_set_ne e1] at hj
            have:=hinv.lower j a hj hja _ hem
            change a.cost≤e.cost at this
            change a.cost≤n.cost
            omega⟩ rfl (by omega) (by omega) (by
        have:((exp.toNat + 1:Nat):Int)=exp + 1:=by omega
        rw [this]
        dsimp only
        omega)
      refine .inr (.inr (.inr ⟨(exp + 1,y'),(fun j=>if j=i then exp.toNat else ord j),NN + 20,fun lim=>?_,⟨y2.ob,?_,by have:=y2.num1;dsimp only;omega,y2.qlen,by dsimp only;omega,by dsimp only;omega⟩,rfl,i,n,hn,hff⟩))
      · rw [start,if_neg hg]
        by_cases hlim:lim≤exp
        · rw [if_pos hlim,if_pos hlim]
        · rw [if_neg hlim,if_neg hlim,Ci (by unfold inI64;omega),Am,OD hok (by have:=hst.1;have:=hok.1;omega),Am,y1,Am,BW]
      · dsimp only
        rw [show (exp + 1).toNat=exp.toNat + 1 from by omega]
        exact y2.inv
end
section
set_option linter.unusedVariables false
set_option linter.unusedSimpArgs false
open Go Go.RowKit
def ResO (t:Tsk) (gens:List Swp) (m:Int) (r:Rsl):Prop:=0≤r.expanded∧r.expanded≤m∧∃ M:List (List Int),M.Nodup∧(M.length:Int)=r.expanded∧(∀ s∈M,OR t (cnS t gens) s) ∧
  ((r.verdict=1∧r.plan.length≤600∧(∃ s',PlanR t t.init r.plan s' r.cost∧holdsB t.goal s'=true)∧(∀ C,Walk t t.init C→r.cost≤C)∧∃ s,¬ s∈M∧OR t (cnS t gens) s) ∨
   (r.verdict=2∧r.plan=[]∧r.cost=0∧(∀ C,¬ Walk t t.init C)∧∀ s,OR t (cnS t gens) s→s∈M) ∨
   (r.verdict=3∧r.plan=[]∧r.cost=0∧m≤r.expanded∧∃ s,¬ s∈M∧OR t (cnS t gens) s))
def finS (N:List ONd):List (List Int):=(N.filter (·.fin)).map (·.state)
theorem Iz {N:List ONd} {s:List Int}:s∈finS N↔∃ (i:Nat) (n:ONd),N[i]?=some n∧n.fin=true∧n.state=s:=by
  unfold finS
  rw [List.mem_map]
  constructor
  · rintro ⟨n,hn,rfl⟩
    obtain ⟨h1,h2⟩:=List.mem_filter.1 hn
    obtain ⟨i,hi⟩:=List.getElem?_of_mem h1
    exact ⟨i,n,hi,h2,rfl⟩
  · rintro ⟨i,n,hi,h2,rfl⟩
    exact ⟨n,List.mem_filter.2 ⟨List.mem_of_getElem? hi,h2⟩,rfl⟩
section
variable {t : Tsk} {gens : List Swp} {ord : Nat → Nat} {NN : Nat} {st : OT}
theorem OI.set (h:Sy t gens) (hi:OI t gens ord NN st):(finS st.2.nodes).Nodup∧((finS st.2.nodes).length:Int)=st.1∧∀ s∈finS st.2.nodes,OR t (cnS t gens) s:=by
  have hE0:=hi.exp0
  refine ⟨?_,?_,fun s hs=>?_⟩
  · have h1:(st.2.nodes.map (·.state)).Nodup:=KI fun i j s hi' hj'=>by
      rw [List.getElem?_map] at hi' hj'
      obtain ⟨n,hn,e1⟩:=Option.map_eq_some_iff.1 hi'
      obtain ⟨m,hm,e2⟩:=Option.map_eq_some_iff.1 hj'
      exact hi.inv.uniq i j n m hn hm (e1.trans e2.symm)
    exact h1.sublist ((List.filter_sublist).map _)
  · unfold finS
    rw [List.length_map]
    have:=hi.inv.num
    unfold cntN at this
    omega
  · obtain ⟨i,n,hn,_,rfl⟩:=Iz.1 hs
    exact hi.inv.rch i n hn
theorem OI.left (hi:OI t gens ord NN st) {i:Nat} {n:ONd} (hn:st.2.nodes[i]?=some n) (hf:n.fin=false):∃ s,¬ s∈finS st.2.nodes∧OR t (cnS t gens) s:=by
  refine ⟨n.state,fun hm=>?_,hi.inv.rch i n hn⟩
  obtain ⟨j,m,hm,hmf,e⟩:=Iz.1 hm
  have:=hi.inv.uniq j i m n hm hn e
  subst this
  rw [hn] at hm
  obtain rfl:=Option.some.inj hm
  rw [hf] at hmf
  cases hmf
theorem OI.len (h:Sy t gens) (hi:OI t gens ord NN st):st.2.open_.length≤90000:=by
  have h1:=hi.exp h
  have h2:=hi.qlen
  have h3:=hi.nn
  have:=hi.exp0
  omega
theorem OI.front (h:Sy t gens) (hi:OI t gens ord NN st) {C:Int} (hw:Walk t t.init C):∃ e∈qs st.2.open_,e.key≤C:=by
  obtain ⟨n,r1,r2,_,r4,_⟩:=hi.inv.root
  obtain ⟨e,e1,e2⟩:=hi.inv.front h.sm.ok (PN h hw) 0 n r1 r2
  exact ⟨e,e1,by omega⟩
end
theorem Pb {M K a q q' n:Nat} (ha:a < M) (h:(M - a) * K + q < n + 1) (hq:q' < K):(M - (a + 1)) * K + q' < n:=by
  obtain ⟨b,hb⟩:∃ b,M - a=b + 1:=⟨M - a - 1,by omega⟩
  have hb':M - (a + 1)=b:=by omega
  rw [hb,Nat.add_mul,Nat.one_mul] at h
  rw [hb']
  omega
theorem Qm {t:Tsk} {gens:List Swp} (h:Sy t gens) (lim:Int):∀ (n:Nat) (st:OT) (ord:Nat→Nat) (NN:Nat),OI t gens ord NN st→st.1≤max lim 0→(601 - st.1.toNat) * 100000 + st.2.open_.length < n→∃ r,lop (orbF t (some ⟨t⟩) lim) st=some (.ret (r,⟨0⟩))∧ResO t gens (max lim 0) r∧st.1≤r.expanded∧∀ lim',r.verdict≠3→r.expanded≤max lim' 0→lop (orbF t (some ⟨t⟩) lim') st=some (.ret (r,⟨0⟩)):=by
  intro n
  induction n with
  | zero=>intro st ord NN _ _ hn;omega
  | succ n ih =>
    intro st ord NN hi hsl hn
    have hE:=hi.exp h
    have hE0:=hi.exp0
    have hok:=h.sm.ok
    obtain ⟨m1,m2,m3⟩:=hi.set h
    rcases PO h hi with ⟨st',h1,h2,h3,h4⟩|⟨h1,h2⟩|⟨p,c,h1,h2,h3,h4,i,nd,h5,h6⟩|⟨st',ord',NN',h1,h2,h3,i,nd,h5,h6⟩
    · obtain ⟨r,f1,f2,f3,f4⟩:=ih st' ord NN h2 (by omega) (by rw [h3];omega)
      refine ⟨r,by rw [CN,h1];exact f1,f2,by omega,fun lim' hv hl=>?_⟩
      rw [CN,h1];exact f4 lim' hv hl
    · have hnil:st.2.open_=[]:=List.length_eq_zero_iff.1 h2
      have hq:qs st.2.open_=[]:=by rw [hnil];rfl
      refine ⟨⟨2,[],0,st.1⟩,by rw [CN,h1],⟨hE0,hsl,finS st.2.nodes,m1,m2,m3,.inr (.inl ⟨rfl,rfl,rfl,fun C hw=>?_,fun s hs=>?_⟩)⟩,Int.le_refl _,fun lim' _ _=>by rw [CN,h1]⟩
      · obtain ⟨e',m,_⟩:=hi.front h hw
        rw [hq] at m;simp at m
      · have hinv:=hi.inv
        rw [hq] at hinv
        obtain ⟨i,nd,i1,i2,i3⟩:=hinv.all hs
        exact Iz.2 ⟨i,nd,i1,i3,i2⟩
    · refine ⟨⟨1,p,c,st.1⟩,by rw [CN,h1],⟨hE0,hsl,finS st.2.nodes,m1,m2,m3,.inl ⟨rfl,h2,h3,fun C hw=>?_,hi.left h5 h6⟩⟩,Int.le_refl _,fun lim' _ _=>by rw [CN,h1]⟩
      obtain ⟨e',m,k⟩:=hi.front h hw
      have:=h4 e' m
      show c≤C
      omega
    · by_cases hlim:lim≤st.1
      · exact ⟨⟨3,[],0,st.1⟩,by rw [CN,h1,if_pos hlim],⟨hE0,hsl,finS st.2.nodes,m1,m2,m3,.inr (.inr ⟨rfl,rfl,rfl,by show max lim 0≤st.1;omega,hi.left h5 h6⟩)⟩,Int.le_refl _,fun lim' hv _=>absurd rfl hv⟩
      · have hmany:=h2.len h
        obtain ⟨r,f1,f2,f3,f4⟩:=ih st' ord' NN' h2 (by omega) (by
          have:st'.1.toNat=st.1.toNat + 1:=by omega
          rw [this];exact Pb (by omega) hn (by omega))
        refine ⟨r,by rw [CN,h1,if_neg hlim];exact f1,f2,by omega,fun lim' hv hl=>?_⟩
        rw [CN,h1,if_neg (by omega)];exact f4 lim' hv hl
theorem PP {t:Tsk} {gens:List Swp} (h:Sy t gens):∃ x,BM (⟨t,gens,([]:List ONd),(⟨[]⟩:MapP ByteArray Int),([]:List OEn),0⟩:Ors) t.init 0 (-1) (-1)=some (⟨0⟩,x)∧OI t gens (fun _=>0) 1 (0,x):=by
  have hok:=h.sm.ok
  have one:∀ {α:Type} {a b:α} {i:Nat},[a][i]?=some b→i=0∧b=a:=fun {α a b i} h=>by
    cases i with
    | zero=>simp at h;exact ⟨rfl,h.symm⟩
    | succ i=>simp at h
  have tab0:TabI t.vars [] ([]:List (ByteArray×Int)):=fun y _=>.inl ⟨rfl,fun i n hi=>by simp at hi⟩
  rcases Oj h (x:=(⟨t,gens,([]:List ONd),(⟨[]⟩:MapP ByteArray Int),([]:List OEn),0⟩:Ors)) rfl rfl tab0 (fun j x y _ hx=>by simp [qs] at hx) (by simp) (by simp) (by simp) (by simp) hok.2.2.2.1 0 (-1) (-1) with ⟨i,n,a1,_⟩|⟨i,y,a1,a2,a3,a4,a5,a6,a7,a8,a9⟩
  · simp at a1
  rcases a9 with ⟨rfl,b2,b3⟩|⟨a,b1,_⟩
  case inr=>simp at b1
  dsimp only at a1 a2 a3 a4 a5 a6 a7 a8 b2 b3
  rw [List.nil_append] at b2
  refine ⟨y,a1,⟨⟨a2,a3,a4,a5,by show 0≤y.number;omega⟩,?_,by show y.number≤1;omega,by dsimp only;rw [a7];simp,by simp,by simp⟩⟩
  have hn0:∀ (i:Nat) n,y.nodes[i]?=some n→i=0∧n=⟨cnS t gens t.init,0,-1,-1,wdS t gens t.init,false⟩:=fun i n hi=>by rw [b2] at hi;exact one hi
  have hq0:∀ e,e∈qs y.open_↔e=⟨0,0,((0:Nat):Int),0 + 1⟩:=fun e=>by rw [a8.mem_iff];simp [qs]
  dsimp only
  refine ⟨⟨_,by rw [b2];rfl,rfl,rfl,rfl,rfl,rfl⟩,fun i n hi=>.inl (hn0 i n hi).1,fun i n hi hf=>?_,fun i n hi hf=>?_,fun e he=>?_,fun i n hi hf=>?_,fun i n hi=>?_,fun i n hi hf=>?_,fun i n q hi hf=>?_,by rw [b2];rfl,fun i n hi=>?_,fun hE=>by simp at hE,fun i j n m hi hj _=>by rw [(hn0 i n hi).1,(hn0 j m hj).1]⟩
  · rw [(hn0 i n hi).2] at hf;cases hf
  · rw [(hn0 i n hi).2] at hf;cases hf
  · rw [(hq0 e).1 he]
    exact ⟨0,_,rfl,by rw [b2];rfl,by simp⟩
  · obtain ⟨rfl,rfl⟩:=hn0 i n hi
    exact ⟨_,(hq0 _).2 rfl,rfl,rfl⟩
  · rw [(hn0 i n hi).2]
    simp
  · rw [(hn0 i n hi).2] at hf;cases hf
  · rw [(hn0 i n hi).2] at hf;cases hf
  · rw [(hn0 i n hi).2];exact .init
theorem Mi {t:Tsk} {gens:List Swp} (hok:TaskOk t) (hs:∀ x∈gens,SymP t x):rng (ρ:=Rsl×Err) (fun (k50:Nat) (a51:Swp) (s48:Unit)=>bnd (Cr t a51) fun q87=>if q87=true then some (.next ()) else some (.ret ((⟨0,([]:List Int),0,0⟩:Rsl),(⟨2⟩:Err)))) gens 0 ()=some (.done ()):=by
  obtain ⟨⟨⟩,h1,_⟩:=DP (ρ:=Rsl×Err) (f:=fun (k50:Nat) (a51:Swp) (s48:Unit)=>bnd (Cr t a51) fun q87=>if q87=true then some (.next ()) else some (.ret ((⟨0,([]:List Int),0,0⟩:Rsl),(⟨2⟩:Err)))) (xs:=gens) (s₀:=()) (fun _ _=>True) trivial fun k x s hk _=>by
    rw [NJ,Am,Bl ⟨hok,hs x (List.mem_of_getElem? hk)⟩,BD]
    exact ⟨(),rfl,trivial⟩
  exact h1
theorem KX {t:Tsk} {gens:List Swp} (h:Sy t gens) (lim:Int):∃ r,Cj t gens lim=some (r,⟨0⟩)∧ResO t gens (max lim 0) r∧(r.verdict≠3→∀ lim',r.expanded≤max lim' 0→Cj t gens lim'=some (r,⟨0⟩)):=by
  have hok:=h.sm.ok
  obtain ⟨x,x1,x2⟩:=PP h
  have unf:∀ l,Cj t gens l=bnd (lop (orbF t (some ⟨t⟩) l) (0,x)) fun res151=>fin res151 fun (_:OT)=>none:=fun l=>by
    rw [Pa]
    unfold Cq
    rw [Dj.2 hok,Am,if_neg (by simp),Mi hok h.sy,Am,BW,PG hok,Am,if_neg (by simp),x1,Am,if_neg (by simp)]
  obtain ⟨r,f1,f2,f3,f4⟩:=Qm h lim _ _ _ _ x2 (by dsimp only;omega) (Nat.lt_succ_self _)
  refine ⟨r,by rw [unf,f1,Am,HK],f2,fun hv lim' hl=>?_⟩
  rw [unf,f4 lim' hv hl,Am,HK]
theorem IZ {t:Tsk} {gens:List Swp} (h:Sy t gens) {m:Int} {r:Rsl} (hr:ResO t gens m r) (hm:600≤m):r.verdict≠3∧r.expanded≤((statesL t.vars).length:Int):=by
  obtain ⟨_,_,M,m1,m2,m3,hc⟩:=hr
  have hM:M.length≤(statesL t.vars).length:=Gc m1 fun s hs=>Fd.2 (Gd h (m3 s hs))
  refine ⟨fun hv=>?_,by omega⟩
  have:=h.sm.many
  rcases hc with h1|h1|⟨_,_,_,h4,_⟩<;>omega
theorem MY {t:Tsk} {gens:List Swp} (h:Sy t gens) {m:Int} {r:Rsl} (hr:ResO t gens m r) (hv:r.verdict≠3) {b:Int} (hbw:b < Inf→Walk t t.init b) (hbl:∀ C,Walk t t.init C→b≤C):CB t r b=some true:=by
  obtain ⟨_,_,M,_,_,_,⟨h1,h2,⟨s',h3,h4⟩,h5,_⟩|⟨h1,h2,h3,h4,_⟩|⟨h1,_⟩⟩:=hr
  · exact NB h.sm.mid hbw hbl h1 (by omega) h3 h4 h5
  · exact NC hbw h1 h2 h3 h4
  · exact absurd h1 hv
end
end Go.Proofs.YtecegaabajeolaaGreat

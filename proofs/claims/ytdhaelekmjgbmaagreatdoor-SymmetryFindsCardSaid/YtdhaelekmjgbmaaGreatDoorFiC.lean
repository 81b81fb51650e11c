/- Own text: what the proof of symmetryFinds_holds uses, part 3: rules, models and their proofs, plain laws. -/
import Derived.Test.YtdhaelekmjgbmaaGreatDoorFiB
set_option linter.unusedVariables false
set_option linter.unusedSimpArgs false
namespace Go.Proofs.YtdhaelekmjgbmaaGreatDoor
open Go Go.RowKit
section
open Go Go.RowKit
attribute [local irreducible] ewp owp hwp hwq Ev Evg Fn retPost Res1
structure Fnd where
  t:Tsk
  list:List Fct
  signs:List (List ByteArray)
  x:Swp
  taken:List (List Bool)
  vars:List Bool
  steps:Int
  most:Int
  full:Bool
instance:Ow Fnd where
  R w F M v x:=∃ (g:Nat) (L:Lab) (c0 c1 c2 c3 c4 c5 c6 c7 c8 c9 c10:Value),v=.pointer (some ⟨g,0,none⟩)∧Blk w g 67 [c0,c1,c2,c3,c4,c5,c6,c7,c8,c9,c10,.int .i64 x.steps,.int .i64 x.most,.bool x.full]∧M g∧L g=0∧Vb w F c0 x.t.vars∧Vb w F c1 x.t.init∧Vb w F c2 x.t.goal∧Vb w F c3 x.t.ops∧Vb w F c4 x.list∧NRm ByteArray w F (fun k=>M k∧L k=1) 80 9 c5 x.signs∧RwM w F (fun k=>M k∧L k=2) 3 c6 x.x.vars∧NRm Int w F (fun k=>M k∧L k=3) 24 3 c7 x.x.vals∧Vb w F c8 x.x.ops∧NRm Bool w F (fun k=>M k∧L k=4) 65 4 c9 x.taken∧RwM w F (fun k=>M k∧L k=5) 4 c10 x.vars∧inI64 x.steps∧inI64 x.most
  agree:=by rintro w w' F M v x ⟨g,L,c0,c1,c2,c3,c4,c5,c6,c7,c8,c9,c10,rfl,hb,hM,hL,h0,h1,h2,h3,h4,h5,h6,h7,h8,h9,h10,h11,h12⟩ a1 a2;exact ⟨g,L,c0,c1,c2,c3,c4,c5,c6,c7,c8,c9,c10,rfl,hb.keep (a2 g hM),hM,hL,h0.agree a1,h1.agree a1,h2.agree a1,h3.agree a1,h4.agree a1,h5.agree a1 fun k hk=>a2 k hk.1,h6.agree a1 fun k hk=>a2 k hk.1,h7.agree a1 fun k hk=>a2 k hk.1,h8.agree a1,h9.agree a1 fun k hk=>a2 k hk.1,h10.agree a1 fun k hk=>a2 k hk.1,h11,h12⟩
  mono:=by rintro w F M F' M' v x ⟨g,L,c0,c1,c2,c3,c4,c5,c6,c7,c8,c9,c10,rfl,hb,hM,hL,h0,h1,h2,h3,h4,h5,h6,h7,h8,h9,h10,h11,h12⟩ a1 a2 a3;exact ⟨g,L,c0,c1,c2,c3,c4,c5,c6,c7,c8,c9,c10,rfl,hb,a2 g hM,hL,h0.mono a1,h1.mono a1,h2.mono a1,h3.mono a1,h4.mono a1,h5.mono a1 (fun k hk=>⟨a2 k hk.1,hk.2⟩) fun k hf hm=>a3 k hf hm.1,h6.mono a1 (fun k hk=>⟨a2 k hk.1,hk.2⟩) fun k hf hm=>a3 k hf hm.1,h7.mono a1 (fun k hk=>⟨a2 k hk.1,hk.2⟩) fun k hf hm=>a3 k hf hm.1,h8.mono a1,h9.mono a1 (fun k hk=>⟨a2 k hk.1,hk.2⟩) fun k hf hm=>a3 k hf hm.1,h10.mono a1 (fun k hk=>⟨a2 k hk.1,hk.2⟩) fun k hf hm=>a3 k hf hm.1,h11,h12⟩
instance:OwP Fnd:=⟨by rintro w F M v x ⟨g,L,c0,c1,c2,c3,c4,c5,c6,c7,c8,c9,c10,rfl,_⟩;exact ⟨g,rfl⟩⟩
theorem Fnd.kp {T:Nat→Prop} {i:Nat} {w w':World} {O O':Lab} {p q:Nat} {x:Fnd} {u:Value} (h:Ob i w O (.pointer (some ⟨p,0,none⟩)) x) (hS:St T w O w' O') (hi:¬ T i) (hc:w.cell? ⟨p,q,none⟩=some u):w'.cell? ⟨p,q,none⟩=some u:=by
  obtain ⟨⟨g,L,c0,c1,c2,c3,c4,c5,c6,c7,c8,c9,c10,hv,hb,hM,_⟩,_⟩:=h
  obtain rfl:p=g:=by injection hv with hv;injection hv with hv;injection hv
  have e:=(hS.same p hM.1 (by rw [hM.2];exact hi)).1
  rw [← hc];unfold World.cell?;rw [e]
theorem Fnd.pk_list {i:Nat} {w:World} {O:Lab} {p:Nat} {x:Fnd} (h:Ob i w O (.pointer (some ⟨p,0,none⟩)) x):∃ A c,w.cell? ⟨p,4,none⟩=some (.slice A x.list.length c)∧Vb w (Fr 0 w O) (.slice A x.list.length c) x.list:=by
  obtain ⟨⟨g,L,c0,c1,c2,c3,c4,c5,c6,c7,c8,c9,c10,hv,hb,hM,hL,h0,h1,h2,h3,h4,h5,h6,h7,h8,h9,h10,h11,h12⟩,_⟩:=h
  obtain rfl:p=g:=by injection hv with hv;injection hv with hv;injection hv
  obtain ⟨A,c,e⟩:=h4.form
  exact ⟨A,c,by rw [← e];exact hb.cell (i:=4) rfl,by rw [← e];exact h4⟩
theorem Fnd.opn {i:Nat} {w:World} {O:Lab} {p:Nat} {x:Fnd} (h:Ob i w O (.pointer (some ⟨p,0,none⟩)) x) (l0 l1 l2 l3 l4 l5:Nat) (hl:l0≠0∧l1≠0∧l2≠0∧l3≠0∧l4≠0∧l5≠0):∃ (O':Lab) (c0 c1 c2 c3 c4 c5 c6 c7 c8 c9 c10:Value),St (eT i) w O w O'∧(∀ k,Fr i w O k→∃ q,q∈[l0,l1,l2,l3,l4,l5]∧Fr q w O' k)∧Lc l0 w O' p 67 [c0,c1,c2,c3,c4,c5,c6,c7,c8,c9,c10,.int .i64 x.steps,.int .i64 x.most,.bool x.full]∧Vb w (Fr 0 w O') c0 x.t.vars∧Vb w (Fr 0 w O') c1 x.t.init∧Vb w (Fr 0 w O') c2 x.t.goal∧Vb w (Fr 0 w O') c3 x.t.ops∧Vb w (Fr 0 w O') c4 x.list∧NR ByteArray l1 w O' 80 9 c5 x.signs none∧Rw l2 w O' 3 c6 x.x.vars∧NR Int l3 w O' 24 3 c7 x.x.vals none∧Vb w (Fr 0 w O') c8 x.x.ops∧NR Bool l4 w O' 65 4 c9 x.taken none∧Rw l5 w O' 4 c10 x.vars∧inI64 x.steps∧inI64 x.most:=by
  obtain ⟨⟨g,L,c0,c1,c2,c3,c4,c5,c6,c7,c8,c9,c10,hv,hb,hM,hL,h0,h1,h2,h3,h4,h5,h6,h7,h8,h9,h10,h11,h12⟩,hi⟩:=h
  obtain rfl:p=g:=by injection hv with hv;injection hv with hv;injection hv
  exact ⟨part O i L [l0,l1,l2,l3,l4,l5],c0,c1,c2,c3,c4,c5,c6,c7,c8,c9,c10,Kp hi,Jh (by simp),⟨hb,(EE (j:=0) rfl p ⟨hM,hL⟩).2⟩,h0.mono (De hi),h1.mono (De hi),h2.mono (De hi),h3.mono (De hi),h4.mono (De hi),h5.nr (De hi) (EE (j:=1) rfl) hl.2.1,h6.rw (De hi) (EE (j:=2) rfl) hl.2.2.1,h7.nr (De hi) (EE (j:=3) rfl) hl.2.2.2.1,h8.mono (De hi),h9.nr (De hi) (EE (j:=4) rfl) hl.2.2.2.2.1,h10.rw (De hi) (EE (j:=5) rfl) hl.2.2.2.2.2,h11,h12⟩
theorem Fnd.shut {w:World} {O:Lab} {p:Nat} {x:Fnd} {l0 l1 l2 l3 l4 l5:Nat} {c0 c1 c2 c3 c4 c5 c6 c7 c8 c9 c10:Value} (hd:¬ 0∈[l0,l1,l2,l3,l4,l5]∧[l0,l1,l2,l3,l4,l5].idxOf l0=0∧[l0,l1,l2,l3,l4,l5].idxOf l1=1∧[l0,l1,l2,l3,l4,l5].idxOf l2=2∧[l0,l1,l2,l3,l4,l5].idxOf l3=3∧[l0,l1,l2,l3,l4,l5].idxOf l4=4∧[l0,l1,l2,l3,l4,l5].idxOf l5=5) (hb:Lc l0 w O p 67 [c0,c1,c2,c3,c4,c5,c6,c7,c8,c9,c10,.int .i64 x.steps,.int .i64 x.most,.bool x.full]) (h0:Vb w (Fr 0 w O) c0 x.t.vars) (h1:Vb w (Fr 0 w O) c1 x.t.init) (h2:Vb w (Fr 0 w O) c2 x.t.goal) (h3:Vb w (Fr 0 w O) c3 x.t.ops) (h4:Vb w (Fr 0 w O) c4 x.list) (h5:NR ByteArray l1 w O 80 9 c5 x.signs none) (h6:Rw l2 w O 3 c6 x.x.vars) (h7:NR Int l3 w O 24 3 c7 x.x.vals none) (h8:Vb w (Fr 0 w O) c8 x.x.ops) (h9:NR Bool l4 w O 65 4 c9 x.taken none) (h10:Rw l5 w O 4 c10 x.vars) (h11:inI64 x.steps) (h12:inI64 x.most):∃ O',St (·∈[l0,l1,l2,l3,l4,l5]) w O w O'∧(∀ k,Fr 0 w O k→Fr 0 w O' k)∧(∀ q,q∈[l0,l1,l2,l3,l4,l5]→∀ k,Fr q w O k→Fr l0 w O' k)∧Ob l0 w O' (.pointer (some ⟨p,0,none⟩)) x:=by
  have hb1:l0≠0:=fun e=>hd.1 (by simp [e])
  have hg:=DZ (i:=l0) hd.2.1 (by simp) p ⟨hb.1.lt,hb.2⟩
  exact ⟨whole O l0 [l0,l1,l2,l3,l4,l5],Ji,Ct hd.1,Ig,⟨p,fun k=>[l0,l1,l2,l3,l4,l5].idxOf (O k),c0,c1,c2,c3,c4,c5,c6,c7,c8,c9,c10,rfl,hb.1,hg.1,hg.2,h0.mono (Ct hd.1),h1.mono (Ct hd.1),h2.mono (Ct hd.1),h3.mono (Ct hd.1),h4.mono (Ct hd.1),h5.m (Ct hd.1) (DZ hd.2.2.1 (by simp)) (fun k a b=>frNe0 hb1 k a b.1),h6.m (Ct hd.1) (DZ hd.2.2.2.1 (by simp)) (fun k a b=>frNe0 hb1 k a b.1),h7.m (Ct hd.1) (DZ hd.2.2.2.2.1 (by simp)) (fun k a b=>frNe0 hb1 k a b.1),h8.mono (Ct hd.1),h9.m (Ct hd.1) (DZ hd.2.2.2.2.2.1 (by simp)) (fun k a b=>frNe0 hb1 k a b.1),h10.m (Ct hd.1) (DZ hd.2.2.2.2.2.2 (by simp)) (fun k a b=>frNe0 hb1 k a b.1),h11,h12⟩,hb1⟩
noncomputable def BW (x0:Fnd) (x1:Fct) (x2:Fct):Option (Bool×Fnd) :=
  bnd (atI x0.x.vals x1.var) fun a75=>bnd (atI a75 x1.val) fun a90=>bnd (atI x0.taken x2.var) fun a106=>bnd (atI a106 x2.val) fun a121=>bnd (atI x0.x.vars x1.var) fun a136=>if 0≤a136 then (some (false,(⟨(⟨x0.t.vars,x0.t.init,x0.t.goal,x0.t.ops⟩:Tsk),x0.list,x0.signs,(⟨x0.x.vars,(x0.x.vals.set (x1.var:Int).toNat (a75.set (x1.val:Int).toNat x2.val)),x0.x.ops⟩:Swp),(x0.taken.set (x2.var:Int).toNat (a106.set (x2.val:Int).toNat true)),x0.vars,x0.steps,x0.most,x0.full⟩:Fnd))) else (bnd (atI x0.x.vars x1.var) fun a154=>bnd (atI x0.vars x2.var) fun a168=>some (true,(⟨(⟨x0.t.vars,x0.t.init,x0.t.goal,x0.t.ops⟩:Tsk),x0.list,x0.signs,(⟨(x0.x.vars.set (x1.var:Int).toNat x2.var),(x0.x.vals.set (x1.var:Int).toNat (a75.set (x1.val:Int).toNat x2.val)),x0.x.ops⟩:Swp),(x0.taken.set (x2.var:Int).toNat (a106.set (x2.val:Int).toNat true)),(x0.vars.set (x2.var:Int).toNat true),x0.steps,x0.most,x0.full⟩:Fnd)))
theorem EK {w:World} {O:Lab} {p0 i0:Nat} {x0:Fnd} (r0:Ob i0 w O (.pointer (some ⟨p0,0,none⟩)) x0) {vx1:Value} {x1:Fct} (e2:Vb w (Fr 0 w O) vx1 x1) {vx2:Value} {x2:Fct} (f2:Vb w (Fr 0 w O) vx2 x2) {r:Bool×Fnd} (hm:BW x0 x1 x2=some r) :
    Fn Tryz.prog 39 [(.pointer (some ⟨p0,0,none⟩)),vx1,vx2] w fun v w'=>∃ O',St (eT i0) w O w' O'∧Ob i0 w' O' (.pointer (some ⟨p0,0,none⟩)) r.2∧Vb w' (Fr 0 w' O') v r.1:=by
 obtain ⟨O0,hE,g2,c4⟩:=ent1 (w:=w) (O:=O) r0.2
 have r0':=Ob.leave r0 g2 c4 (j:=2) (by decide)
 have hB:Bm w O0 w O0:=Bm.refl
 replace e2:=e2.mono g2
 obtain ⟨s5,rfl,rfl,r5,r6⟩:=e2
 replace f2:=f2.mono g2
 obtain ⟨t5,rfl,rfl,r8,r9⟩:=f2
 refine AP Tryz.func39 rfl Tryz.ntmps39 rfl ?_
 unfold BW at hm
 refine Ab (Aa (BC 3 O0 rfl rfl fun d4 e4 h3 h2 n0=>?_))
 replace n0:Lc 3 e4 h3 d4 26 [(.int .i64 x1.var),(.int .i64 x1.val)]:=n0
 refine BC 4 h3 rfl rfl fun f4 i2 g4 c2 h0=>?_
 replace h0:Lc 4 i2 g4 f4 26 [(.int .i64 x2.var),(.int .i64 x2.val)]:=h0
 refine Am rfl rfl (o_z ?_)
 refine Ab ?_
 replace r0':=(r0'.st h2).st c2
 obtain ⟨i3,u5,v5,w5,x5,y5,z5,a6,b6,c6,d6,e6,d2,h4,j0,y0,z0,a1,b1,c1,d1,m0,m1,e1,f1,o0,j3,k3⟩:=Fnd.opn r0' 2 5 6 7 8 9 (by decide)
 obtain ⟨f6,g6,rfl⟩:=y0.form
 obtain ⟨h6,i6,rfl⟩:=z0.form
 obtain ⟨j6,k6,rfl⟩:=a1.form
 obtain ⟨l6,m6,rfl⟩:=b1.form
 obtain ⟨n6,o6,rfl⟩:=c1.form
 obtain ⟨p6,q6,rfl⟩:=d1.form
 obtain ⟨s6,t6,rfl⟩:=m0.form
 obtain ⟨i4,j4,rfl⟩:=m1.form
 obtain ⟨u6,v6,rfl⟩:=e1.form
 obtain ⟨k4,m4,rfl⟩:=f1.form
 obtain ⟨w6,x6,rfl⟩:=o0.form
 refine Bc [] i3 ?_
 refine Az (fuel:=1) [] [(0,true),(1,true),(2,true),(3,true),(4,true),(5,true),(6,true),(7,true),(8,true),(9,true),(10,true),(11,true),(12,true),(13,true)] (by kernel_rfl) rfl ?_
 refine AH rfl rfl rfl (BR rfl rfl rfl (AM rfl rfl rfl (AM rfl rfl rfl (AK (hc:=fun w' ⟨O',hq⟩=>Blk.cell (i:=7) ((j0.st hq (by decide)).1) rfl) rfl rfl rfl ?_))))
 refine AM rfl rfl rfl ?_
 replace n0:=(n0.st c2).st d2
 refine AK (hc:=fun w' ⟨O',hq⟩=>Blk.cell (i:=0) ((n0.st hq (by decide)).1) rfl) rfl rfl rfl ?_
 obtain ⟨s0,n4,hm⟩:=bs hm
 obtain ⟨o4,j2⟩:=AO n4
 obtain ⟨y6,z6,q0,k2⟩:=m1.at j2
 refine Bl (hA:=q0) (hj:=(Int.toNat_of_nonneg o4).symm) (hlt:=k2) rfl rfl rfl rfl ?_
 obtain ⟨p4,q4,n1,m2⟩:=NR.peek m1 q0 j2
 replace m2:Vb i2 (FrS [7] i2 i3) (.slice p4 s0.length q4) s0:=m2
 refine AK (hc:=fun w' ⟨O',hq⟩=>NR.stay m1 q0 hq (by decide) n1) rfl rfl rfl ?_
 refine AM rfl rfl rfl (AK (hc:=fun w' ⟨O',hq⟩=>Blk.cell (i:=1) ((n0.st hq (by decide)).1) rfl) rfl rfl rfl ?_)
 refine AM rfl rfl rfl ?_
 replace h0:=h0.st d2
 refine AK (hc:=fun w' ⟨O',hq⟩=>Blk.cell (i:=1) ((h0.st hq (by decide)).1) rfl) rfl rfl rfl ?_
 obtain ⟨r4,s4,hm⟩:=bs hm
 obtain ⟨t4,m3⟩:=AO s4
 obtain ⟨a7,b7,u4,o1,n3,n2,v4,rfl,w4⟩:=m2.elem m3
 refine Bl (hA:=o1) (hj:=(Int.toNat_of_nonneg t4).symm) (hlt:=n2) rfl rfl rfl rfl ?_
 refine As ?_
 refine Au (i:=14) (by kernel_rfl) rfl ?_
 refine Hh (off:=0) (a:=s0) (f:=r4) (f':=x2.val) m1 q0 j2 n1 o1 m3 rfl rfl rfl (Nat.le_of_ble_eq_true rfl) (allOne rfl) (by decide) (by rintro w' O' ce ⟨rfl,_⟩;exact ⟨rfl,r9⟩) fun g1 h1 b0 e0=>?_
 replace e0:NR Int 7 g1 h1 24 3 (.slice i4 x0.x.vals.length j4) (x0.x.vals.set (x1.var:Int).toNat (s0.set (x1.val:Int).toNat x2.val)) none:=e0
 refine BK (by kernel_rfl) ?_
 refine AZ (by kernel_rfl) ?_
 refine Ab (Bc [] h1 ?_)
 refine Az (fuel:=1) [] [(0,true),(1,true),(2,true),(3,true),(4,true),(5,true),(6,true),(7,true),(8,true),(9,true),(10,true)] (by kernel_rfl) rfl ?_
 refine AH rfl rfl rfl (BR rfl rfl rfl (AM rfl rfl rfl ?_))
 replace j0:=j0.st b0
 refine AK (hc:=fun w' ⟨O',hq⟩=>Blk.cell (i:=9) ((j0.st hq (by decide)).1) rfl) rfl rfl rfl ?_
 refine AM rfl rfl rfl ?_
 replace h0:=h0.st b0
 refine AK (hc:=fun w' ⟨O',hq⟩=>Blk.cell (i:=0) ((h0.st hq (by decide)).1) rfl) rfl rfl rfl ?_
 obtain ⟨f0,o2,hm⟩:=bs hm
 obtain ⟨p2,i1⟩:=AO o2
 replace f1:=f1.st b0
 obtain ⟨x4,y4,g0,p1⟩:=f1.at i1
 refine Bl (hA:=g0) (hj:=(Int.toNat_of_nonneg p2).symm) (hlt:=p1) rfl rfl rfl rfl ?_
 obtain ⟨q2,r2,t0,j1⟩:=NR.peek f1 g0 i1
 replace j1:Vb g1 (FrS [8] g1 h1) (.slice q2 f0.length r2) f0:=j1
 refine AK (hc:=fun w' ⟨O',hq⟩=>NR.stay f1 g0 hq (by decide) t0) rfl rfl rfl ?_
 refine AM rfl rfl rfl (AK (hc:=fun w' ⟨O',hq⟩=>Blk.cell (i:=1) ((h0.st hq (by decide)).1) rfl) rfl rfl rfl ?_)
 obtain ⟨s2,t2,hm⟩:=bs hm
 obtain ⟨u2,q1⟩:=AO t2
 obtain ⟨z4,a5,o3,u0,p3,r1,q3,rfl⟩:=j1.elem q1
 refine Bl (hA:=u0) (hj:=(Int.toNat_of_nonneg u2).symm) (hlt:=r1) rfl rfl rfl rfl ?_
 refine As ?_
 refine Au (i:=11) (by kernel_rfl) rfl ?_
 refine Hh (off:=0) (a:=f0) (f:=s2) (f':=true) f1 g0 i1 t0 u0 q1 rfl rfl rfl (Nat.le_of_ble_eq_true rfl) (allOne rfl) (by decide) (by rintro w' O' ce rfl;exact rfl) fun s1 t1 a0 k0=>?_
 replace k0:NR Bool 8 s1 t1 65 4 (.slice k4 x0.taken.length m4) (x0.taken.set (x2.var:Int).toNat (f0.set (x2.val:Int).toNat true)) none:=k0
 refine BK (by kernel_rfl) ?_
 refine AZ (by kernel_rfl) ?_
 refine Ab (Ab (Dx (·=s1) [(0,true),(1,true),(2,true),(3,true),(4,true),(5,true),(6,true),(7,true),(8,true),(9,true)] (by kernel_rfl) rfl (by kernel_rfl) rfl ?_))
 refine AH rfl rfl rfl (BR rfl rfl rfl (AM rfl rfl rfl (AM rfl rfl rfl ?_)))
 replace j0:=j0.st a0
 refine CT (hc:=Blk.cell (i:=6) (j0.1) rfl) rfl rfl rfl ?_
 refine AM rfl rfl rfl ?_
 replace n0:=(n0.st b0).st a0
 refine CT (hc:=Blk.cell (i:=0) (n0.1) rfl) rfl rfl rfl ?_
 obtain ⟨b5,v2,hm⟩:=bs hm
 obtain ⟨w2,y2⟩:=AO v2
 replace m0:=(m0.st b0).st a0
 obtain ⟨c5,d5,r3,u1,v1,w1,rfl,e5⟩:=m0.elem y2
 refine Bl (hA:=u1) (hj:=(Int.toNat_of_nonneg w2).symm) (hlt:=v1) rfl rfl rfl rfl ?_
 refine CT (hc:=cat0 w1) rfl rfl rfl ?_
 refine Qj rfl rfl rfl rfl (fun k1=>?_) fun k1=>?_
 ·
  replace hm:=ip hm k1
  refine h_z ?_
  refine Ah rfl (Ab (Aa (Am rfl rfl (o_z ?_))))
  refine AF ?_
  replace y0:=(y0.st b0).st a0
  replace z0:=(z0.st b0).st a0
  replace a1:=(a1.st b0).st a0
  replace b1:=(b1.st b0).st a0
  replace c1:=(c1.st b0).st a0
  replace d1:=(d1.st b0).st a0
  replace e1:=(e1.st b0).st a0
  replace o0:=(o0.st b0).st a0
  replace e0:=e0.st a0
  obtain ⟨f5,z2,s3,t3,a3⟩:=Fnd.shut (x:=(⟨(⟨x0.t.vars,x0.t.init,x0.t.goal,x0.t.ops⟩:Tsk),x0.list,x0.signs,(⟨x0.x.vars,(x0.x.vals.set (x1.var:Int).toNat (s0.set (x1.val:Int).toNat x2.val)),x0.x.ops⟩:Swp),(x0.taken.set (x2.var:Int).toNat (f0.set (x2.val:Int).toNat true)),x0.vars,x0.steps,x0.most,x0.full⟩:Fnd)) (l0:=2) (l1:=5) (l2:=6) (l3:=7) (l4:=8) (l5:=9) (by decide) (by have q:=j0;rw [← ((by simp:(x0.x.vals.set (x1.var:Int).toNat (s0.set (x1.val:Int).toNat x2.val)).length=x0.x.vals.length).trans rfl),← ((by simp:(x0.taken.set (x2.var:Int).toNat (f0.set (x2.val:Int).toNat true)).length=x0.taken.length).trans rfl)] at q;exact q) y0 z0 a1 b1 c1 d1 m0 e0.relen e1 k0.relen o0 j3 k3
  obtain rfl:=sm hm
  replace hB:=(((((hB.st h2).st c2).st d2).st b0).st a0).st z2
  obtain ⟨O',hS',hz,hl⟩:=hE.leave (fun q=>if q=2 then i0 else 0) rfl hB
  exact ret1v rfl (AC rfl) ⟨O',hS',(Ob.leave a3 hz (hl 2 (by decide) (by decide)) r0.2),vBool⟩
 replace hm:=im hm k1
 refine h_z ?_
 refine Ae rfl (AI (Ab (Bc [(16,[6])] t1 ?_)))
 refine Az (fuel:=5) [] [(0,true),(1,true),(2,true),(3,true),(4,true),(5,true),(6,true),(7,true),(8,true),(9,true),(10,true),(13,true),(14,true),(15,true)] (by kernel_rfl) rfl ?_
 refine AH rfl rfl rfl (BR rfl rfl rfl (AM rfl rfl rfl (AM rfl rfl rfl (AK (hc:=fun w' ⟨O',hq⟩=>Blk.cell (i:=6) ((j0.st hq (by decide)).1) rfl) rfl rfl rfl ?_))))
 refine AM rfl rfl rfl (AK (hc:=fun w' ⟨O',hq⟩=>Blk.cell (i:=0) ((n0.st hq (by decide)).1) rfl) rfl rfl rfl ?_)
 refine AH rfl rfl rfl (BR rfl rfl rfl (AM rfl rfl rfl (AK (hc:=fun w' ⟨O',hq⟩=>Blk.cell (i:=10) ((j0.st hq (by decide)).1) rfl) rfl rfl rfl ?_)))
 refine AM rfl rfl rfl ?_
 replace h0:=h0.st a0
 refine AK (hc:=fun w' ⟨O',hq⟩=>Blk.cell (i:=0) ((h0.st hq (by decide)).1) rfl) rfl rfl rfl ?_
 obtain ⟨g5,b3,hm⟩:=bs hm
 obtain ⟨c3,y1⟩:=AO b3
 obtain ⟨h5,i5,u3,v0,v3,z1,w3,rfl,j5⟩:=m0.elemF y1
 refine Bl (hA:=v0) (hj:=(Int.toNat_of_nonneg c3).symm) (hlt:=z1) rfl rfl rfl rfl ?_
 refine As ?_
 refine Az (fuel:=3) [6] [(11,true),(12,true)] (by kernel_rfl) rfl ?_
 refine AM rfl rfl rfl (AK (hc:=fun w' ⟨O',hq⟩=>Blk.cell (i:=0) ((h0.st hq (by decide)).1) rfl) rfl rfl rfl ?_)
 refine As ?_
 refine Au (i:=16) (by kernel_rfl) rfl ?_
 refine EB rfl m0 (a:=x2.var) (vInt r8) v0 rfl rfl (Aw y1) fun k5 c0 m0=>?_
 have hZ:=c0.lst [6] (fun _ h=>by cases h;decide)
 refine Ay [] hZ (by kernel_rfl) ?_
 refine Az (fuel:=1) [] [(17,true)] (by kernel_rfl) rfl ?_
 obtain ⟨m5,d3,hm⟩:=bs hm
 obtain ⟨e3,a2⟩:=AO d3
 replace o0:=((o0.st b0).st a0).st c0
 obtain ⟨n5,o5,x3,w0,y3,b2,z3,rfl⟩:=o0.elemF a2
 refine Bl (hA:=w0) (hj:=(Int.toNat_of_nonneg e3).symm) (hlt:=b2) rfl rfl rfl rfl ?_
 refine As ?_
 refine Au (i:=18) (by kernel_rfl) rfl ?_
 refine EB rfl o0 (a:=true) vBool w0 rfl rfl (Aw a2) fun p5 d0 o0=>?_
 refine BK (by kernel_rfl) ?_
 refine AZ (by kernel_rfl) ?_
 refine Ab (Aa (Am rfl rfl (o_z ?_)))
 refine AF ?_
 replace j0:=(j0.st c0).st d0
 replace y0:=(((y0.st b0).st a0).st c0).st d0
 replace z0:=(((z0.st b0).st a0).st c0).st d0
 replace a1:=(((a1.st b0).st a0).st c0).st d0
 replace b1:=(((b1.st b0).st a0).st c0).st d0
 replace c1:=(((c1.st b0).st a0).st c0).st d0
 replace d1:=(((d1.st b0).st a0).st c0).st d0
 replace m0:=m0.st d0
 replace e1:=(((e1.st b0).st a0).st c0).st d0
 replace e0:=((e0.st a0).st c0).st d0
 replace k0:=(k0.st c0).st d0
 obtain ⟨q5,f3,a4,b4,g3⟩:=Fnd.shut (x:=(⟨(⟨x0.t.vars,x0.t.init,x0.t.goal,x0.t.ops⟩:Tsk),x0.list,x0.signs,(⟨(x0.x.vars.set (x1.var:Int).toNat x2.var),(x0.x.vals.set (x1.var:Int).toNat (s0.set (x1.val:Int).toNat x2.val)),x0.x.ops⟩:Swp),(x0.taken.set (x2.var:Int).toNat (f0.set (x2.val:Int).toNat true)),(x0.vars.set (x2.var:Int).toNat true),x0.steps,x0.most,x0.full⟩:Fnd)) (l0:=2) (l1:=5) (l2:=6) (l3:=7) (l4:=8) (l5:=9) (by decide) (by have q:=j0;rw [← ((by simp:(x0.x.vars.set (x1.var:Int).toNat x2.var).length=x0.x.vars.length).trans rfl),← ((by simp:(x0.x.vals.set (x1.var:Int).toNat (s0.set (x1.val:Int).toNat x2.val)).length=x0.x.vals.length).trans rfl),← ((by simp:(x0.taken.set (x2.var:Int).toNat (f0.set (x2.val:Int).toNat true)).length=x0.taken.length).trans rfl),← ((by simp:(x0.vars.set (x2.var:Int).toNat true).length=x0.vars.length).trans rfl)] at q;exact q) y0 z0 a1 b1 c1 d1 m0.relen e0.relen e1 k0.relen o0.relen j3 k3
 obtain rfl:=sm hm
 replace hB:=(((((((hB.st h2).st c2).st d2).st b0).st a0).st c0).st d0).st f3
 obtain ⟨O',hS',hz,hl⟩:=hE.leave (fun q=>if q=2 then i0 else 0) rfl hB
 exact ret1v rfl (AC rfl) ⟨O',hS',(Ob.leave g3 hz (hl 2 (by decide) (by decide)) r0.2),vBool⟩
noncomputable def BB (x0:Fnd) (x1:Fct) (x2:Fct) (x3:Bool):Option Fnd :=
  bnd (atI x0.x.vals x1.var) fun a76=>bnd (atI a76 x1.val) fun a91=>bnd (atI x0.taken x2.var) fun a107=>bnd (atI a107 x2.val) fun a122=>if x3=true then (bnd (atI x0.x.vars x1.var) fun a138=>bnd (atI x0.vars x2.var) fun a152=>some (⟨(⟨x0.t.vars,x0.t.init,x0.t.goal,x0.t.ops⟩:Tsk),x0.list,x0.signs,(⟨(x0.x.vars.set (x1.var:Int).toNat (-1)),(x0.x.vals.set (x1.var:Int).toNat (a76.set (x1.val:Int).toNat (-1))),x0.x.ops⟩:Swp),(x0.taken.set (x2.var:Int).toNat (a107.set (x2.val:Int).toNat false)),(x0.vars.set (x2.var:Int).toNat false),x0.steps,x0.most,x0.full⟩:Fnd)) else (some (⟨(⟨x0.t.vars,x0.t.init,x0.t.goal,x0.t.ops⟩:Tsk),x0.list,x0.signs,(⟨x0.x.vars,(x0.x.vals.set (x1.var:Int).toNat (a76.set (x1.val:Int).toNat (-1))),x0.x.ops⟩:Swp),(x0.taken.set (x2.var:Int).toNat (a107.set (x2.val:Int).toNat false)),x0.vars,x0.steps,x0.most,x0.full⟩:Fnd))
theorem Eb {w:World} {O:Lab} {p0 i0:Nat} {x0:Fnd} (r0:Ob i0 w O (.pointer (some ⟨p0,0,none⟩)) x0) {vx1:Value} {x1:Fct} (a2:Vb w (Fr 0 w O) vx1 x1) {vx2:Value} {x2:Fct} (b2:Vb w (Fr 0 w O) vx2 x2) {x3:Bool} {r:Fnd} (hm:BB x0 x1 x2 x3=some r) :
    Fn Tryz.prog 43 [(.pointer (some ⟨p0,0,none⟩)),vx1,vx2,(.bool x3)] w fun v w'=>∃ O',St (eT i0) w O w' O'∧Ob i0 w' O' (.pointer (some ⟨p0,0,none⟩)) r:=by
 obtain ⟨O0,hE,c2,w3⟩:=ent1 (w:=w) (O:=O) r0.2
 have r0':=Ob.leave r0 c2 w3 (j:=2) (by decide)
 have hB:Bm w O0 w O0:=Bm.refl
 replace a2:=a2.mono c2
 obtain ⟨g5,rfl,rfl,r6,r7⟩:=a2
 replace b2:=b2.mono c2
 obtain ⟨h5,rfl,rfl,r9,i5⟩:=b2
 refine AP Tryz.func43 rfl Tryz.ntmps43 rfl ?_
 unfold BB at hm
 refine Ab (Aa (BC 3 O0 rfl rfl fun y3 z3 b3 d2 n0=>?_))
 replace n0:Lc 3 z3 b3 y3 26 [(.int .i64 x1.var),(.int .i64 x1.val)]:=n0
 refine BC 4 b3 rfl rfl fun a4 e2 b4 y1 o0=>?_
 replace o0:Lc 4 e2 b4 a4 26 [(.int .i64 x2.var),(.int .i64 x2.val)]:=o0
 refine o_z ?_
 refine Ab ?_
 replace r0':=(r0'.st d2).st y1
 obtain ⟨c3,j5,k5,m5,n5,o5,p5,q5,r5,s5,t5,u5,z1,c4,g0,y0,z0,a1,b1,c1,d1,k0,m1,e1,f1,m0,d3,e3⟩:=Fnd.opn r0' 2 5 6 7 8 9 (by decide)
 obtain ⟨v5,w5,rfl⟩:=y0.form
 obtain ⟨x5,y5,rfl⟩:=z0.form
 obtain ⟨z5,a6,rfl⟩:=a1.form
 obtain ⟨b6,c6,rfl⟩:=b1.form
 obtain ⟨d6,e6,rfl⟩:=c1.form
 obtain ⟨f6,g6,rfl⟩:=d1.form
 obtain ⟨h6,i6,rfl⟩:=k0.form
 obtain ⟨d4,e4,rfl⟩:=m1.form
 obtain ⟨j6,k6,rfl⟩:=e1.form
 obtain ⟨f4,g4,rfl⟩:=f1.form
 obtain ⟨l6,m6,rfl⟩:=m0.form
 refine Bc [] c3 ?_
 refine Az (fuel:=1) [] [(0,true),(1,true),(2,true),(3,true),(4,true),(5,true),(6,true),(7,true),(8,true),(9,true),(10,true),(11,true)] (by kernel_rfl) rfl ?_
 refine AH rfl rfl rfl (BR rfl rfl rfl (AM rfl rfl rfl (AM rfl rfl rfl (AK (hc:=fun w' ⟨O',hq⟩=>Blk.cell (i:=7) ((g0.st hq (by decide)).1) rfl) rfl rfl rfl ?_))))
 refine AM rfl rfl rfl ?_
 replace n0:=(n0.st y1).st z1
 refine AK (hc:=fun w' ⟨O',hq⟩=>Blk.cell (i:=0) ((n0.st hq (by decide)).1) rfl) rfl rfl rfl ?_
 obtain ⟨s0,h4,hm⟩:=bs hm
 obtain ⟨i4,f2⟩:=AO h4
 obtain ⟨n6,o6,q0,g2⟩:=m1.at f2
 refine Bl (hA:=q0) (hj:=(Int.toNat_of_nonneg i4).symm) (hlt:=g2) rfl rfl rfl rfl ?_
 obtain ⟨j4,k4,n1,h2⟩:=NR.peek m1 q0 f2
 replace h2:Vb e2 (FrS [7] e2 c3) (.slice j4 s0.length k4) s0:=h2
 refine AK (hc:=fun w' ⟨O',hq⟩=>NR.stay m1 q0 hq (by decide) n1) rfl rfl rfl ?_
 refine AM rfl rfl rfl (AK (hc:=fun w' ⟨O',hq⟩=>Blk.cell (i:=1) ((n0.st hq (by decide)).1) rfl) rfl rfl rfl ?_)
 obtain ⟨m4,n4,hm⟩:=bs hm
 obtain ⟨o4,f3⟩:=AO n4
 obtain ⟨p6,q6,p4,o1,g3,i2,h3,rfl,q4⟩:=h2.elem f3
 refine Bl (hA:=o1) (hj:=(Int.toNat_of_nonneg o4).symm) (hlt:=i2) rfl rfl rfl rfl ?_
 refine As ?_
 refine Au (i:=12) (by kernel_rfl) rfl ?_
 refine Hh (off:=0) (a:=s0) (f:=m4) (f':=(-1)) m1 q0 f2 n1 o1 f3 rfl rfl rfl (Nat.le_of_ble_eq_true rfl) (allOne rfl) (by decide) (by rintro w' O' ce ⟨rfl,_⟩;exact ⟨rfl,(show inI64 (-1) from by decide)⟩) fun g1 h1 b0 e0=>?_
 replace e0:NR Int 7 g1 h1 24 3 (.slice d4 x0.x.vals.length e4) (x0.x.vals.set (x1.var:Int).toNat (s0.set (x1.val:Int).toNat (-1))) none:=e0
 refine BK (by kernel_rfl) ?_
 refine AZ (by kernel_rfl) ?_
 refine Ab (Bc [] h1 ?_)
 refine Az (fuel:=1) [] [(0,true),(1,true),(2,true),(3,true),(4,true),(5,true),(6,true),(7,true),(8,true),(9,true),(10,true)] (by kernel_rfl) rfl ?_
 refine AH rfl rfl rfl (BR rfl rfl rfl (AM rfl rfl rfl ?_))
 replace g0:=g0.st b0
 refine AK (hc:=fun w' ⟨O',hq⟩=>Blk.cell (i:=9) ((g0.st hq (by decide)).1) rfl) rfl rfl rfl ?_
 refine AM rfl rfl rfl ?_
 replace o0:=(o0.st z1).st b0
 refine AK (hc:=fun w' ⟨O',hq⟩=>Blk.cell (i:=0) ((o0.st hq (by decide)).1) rfl) rfl rfl rfl ?_
 obtain ⟨f0,j2,hm⟩:=bs hm
 obtain ⟨k2,i1⟩:=AO j2
 replace f1:=f1.st b0
 obtain ⟨r4,s4,h0,p1⟩:=f1.at i1
 refine Bl (hA:=h0) (hj:=(Int.toNat_of_nonneg k2).symm) (hlt:=p1) rfl rfl rfl rfl ?_
 obtain ⟨m2,n2,t0,j1⟩:=NR.peek f1 h0 i1
 replace j1:Vb g1 (FrS [8] g1 h1) (.slice m2 f0.length n2) f0:=j1
 refine AK (hc:=fun w' ⟨O',hq⟩=>NR.stay f1 h0 hq (by decide) t0) rfl rfl rfl ?_
 refine AM rfl rfl rfl (AK (hc:=fun w' ⟨O',hq⟩=>Blk.cell (i:=1) ((o0.st hq (by decide)).1) rfl) rfl rfl rfl ?_)
 obtain ⟨o2,p2,hm⟩:=bs hm
 obtain ⟨q2,q1⟩:=AO p2
 obtain ⟨t4,u4,i3,u0,j3,r1,k3,rfl⟩:=j1.elem q1
 refine Bl (hA:=u0) (hj:=(Int.toNat_of_nonneg q2).symm) (hlt:=r1) rfl rfl rfl rfl ?_
 refine As ?_
 refine Au (i:=11) (by kernel_rfl) rfl ?_
 refine Hh (off:=0) (a:=f0) (f:=o2) (f':=false) f1 h0 i1 t0 u0 q1 rfl rfl rfl (Nat.le_of_ble_eq_true rfl) (allOne rfl) (by decide) (by rintro w' O' ce rfl;exact rfl) fun r2 s1 a0 j0=>?_
 replace j0:NR Bool 8 r2 s1 65 4 (.slice f4 x0.taken.length g4) (x0.taken.set (x2.var:Int).toNat (f0.set (x2.val:Int).toNat false)) none:=j0
 refine BK (by kernel_rfl) ?_
 refine AZ (by kernel_rfl) ?_
 refine Ab (Aa (Aj rfl rfl (o_z ?_)))
 refine Bp rfl (fun k1=>?_) (fun k1=>?_)
 ·
  replace hm:=ip hm k1
  refine Bc [(14,[6])] s1 ?_
  refine Az (fuel:=5) [] [(0,true),(1,true),(2,true),(3,true),(4,true),(5,true),(6,true),(7,true),(8,true),(9,true),(10,true),(13,true)] (by kernel_rfl) rfl ?_
  refine AH rfl rfl rfl (BR rfl rfl rfl (AM rfl rfl rfl (AM rfl rfl rfl ?_)))
  replace g0:=g0.st a0
  refine AK (hc:=fun w' ⟨O',hq⟩=>Blk.cell (i:=6) ((g0.st hq (by decide)).1) rfl) rfl rfl rfl ?_
  refine AM rfl rfl rfl ?_
  replace n0:=(n0.st b0).st a0
  refine AK (hc:=fun w' ⟨O',hq⟩=>Blk.cell (i:=0) ((n0.st hq (by decide)).1) rfl) rfl rfl rfl ?_
  refine AH rfl rfl rfl (BR rfl rfl rfl (AM rfl rfl rfl (AK (hc:=fun w' ⟨O',hq⟩=>Blk.cell (i:=10) ((g0.st hq (by decide)).1) rfl) rfl rfl rfl ?_)))
  obtain ⟨v4,s2,hm⟩:=bs hm
  obtain ⟨t2,t1⟩:=AO s2
  replace k0:=(k0.st b0).st a0
  obtain ⟨w4,x4,m3,v0,n3,u1,o3,rfl,y4⟩:=k0.elemF t1
  refine Bl (hA:=v0) (hj:=(Int.toNat_of_nonneg t2).symm) (hlt:=u1) rfl rfl rfl rfl ?_
  refine As ?_
  refine Az (fuel:=3) [6] [(11,true),(12,true)] (by kernel_rfl) rfl ?_
  refine AM rfl rfl rfl ?_
  replace o0:=o0.st a0
  refine AK (hc:=fun w' ⟨O',hq⟩=>Blk.cell (i:=0) ((o0.st hq (by decide)).1) rfl) rfl rfl rfl ?_
  refine As ?_
  refine Au (i:=14) (by kernel_rfl) rfl ?_
  refine EB rfl k0 (a:=(-1)) (vInt (show inI64 (-1) from by decide)) v0 rfl rfl (Aw t1) fun z4 c0 k0=>?_
  have hZ:=c0.lst [6] (fun _ h=>by cases h;decide)
  refine Ay [] hZ (by kernel_rfl) ?_
  refine Az (fuel:=1) [] [(15,true)] (by kernel_rfl) rfl ?_
  obtain ⟨a5,u2,hm⟩:=bs hm
  obtain ⟨v2,v1⟩:=AO u2
  replace m0:=((m0.st b0).st a0).st c0
  obtain ⟨b5,c5,p3,w0,q3,w1,r3,rfl⟩:=m0.elemF v1
  refine Bl (hA:=w0) (hj:=(Int.toNat_of_nonneg v2).symm) (hlt:=w1) rfl rfl rfl rfl ?_
  refine As ?_
  refine Au (i:=16) (by kernel_rfl) rfl ?_
  refine EB rfl m0 (a:=false) vBool w0 rfl rfl (Aw v1) fun d5 d0 m0=>?_
  refine BK (by kernel_rfl) ?_
  refine AZ (by kernel_rfl) ?_
  replace g0:=(g0.st c0).st d0
  replace y0:=(((y0.st b0).st a0).st c0).st d0
  replace z0:=(((z0.st b0).st a0).st c0).st d0
  replace a1:=(((a1.st b0).st a0).st c0).st d0
  replace b1:=(((b1.st b0).st a0).st c0).st d0
  replace c1:=(((c1.st b0).st a0).st c0).st d0
  replace d1:=(((d1.st b0).st a0).st c0).st d0
  replace k0:=k0.st d0
  replace e1:=(((e1.st b0).st a0).st c0).st d0
  replace e0:=((e0.st a0).st c0).st d0
  replace j0:=(j0.st c0).st d0
  obtain ⟨e5,w2,s3,t3,y2⟩:=Fnd.shut (x:=(⟨(⟨x0.t.vars,x0.t.init,x0.t.goal,x0.t.ops⟩:Tsk),x0.list,x0.signs,(⟨(x0.x.vars.set (x1.var:Int).toNat (-1)),(x0.x.vals.set (x1.var:Int).toNat (s0.set (x1.val:Int).toNat (-1))),x0.x.ops⟩:Swp),(x0.taken.set (x2.var:Int).toNat (f0.set (x2.val:Int).toNat false)),(x0.vars.set (x2.var:Int).toNat false),x0.steps,x0.most,x0.full⟩:Fnd)) (l0:=2) (l1:=5) (l2:=6) (l3:=7) (l4:=8) (l5:=9) (by decide) (by have q:=g0;rw [← ((by simp:(x0.x.vars.set (x1.var:Int).toNat (-1)).length=x0.x.vars.length).trans rfl),← ((by simp:(x0.x.vals.set (x1.var:Int).toNat (s0.set (x1.val:Int).toNat (-1))).length=x0.x.vals.length).trans rfl),← ((by simp:(x0.taken.set (x2.var:Int).toNat (f0.set (x2.val:Int).toNat false)).length=x0.taken.length).trans rfl),← ((by simp:(x0.vars.set (x2.var:Int).toNat false).length=x0.vars.length).trans rfl)] at q;exact q) y0 z0 a1 b1 c1 d1 k0.relen e0.relen e1 j0.relen m0.relen d3 e3
  obtain rfl:=sm hm
  replace hB:=(((((((hB.st d2).st y1).st z1).st b0).st a0).st c0).st d0).st w2
  obtain ⟨O',hS',hz,hl⟩:=hE.leave (fun q=>if q=2 then i0 else 0) rfl hB
  exact ret0n rfl  ⟨O',hS',(Ob.leave y2 hz (hl 2 (by decide) (by decide)) r0.2)⟩
 replace hm:=im' hm k1
 refine AI ?_
 replace g0:=g0.st a0
 replace y0:=(y0.st b0).st a0
 replace z0:=(z0.st b0).st a0
 replace a1:=(a1.st b0).st a0
 replace b1:=(b1.st b0).st a0
 replace c1:=(c1.st b0).st a0
 replace d1:=(d1.st b0).st a0
 replace k0:=(k0.st b0).st a0
 replace e1:=(e1.st b0).st a0
 replace m0:=(m0.st b0).st a0
 replace e0:=e0.st a0
 obtain ⟨f5,z2,u3,v3,a3⟩:=Fnd.shut (x:=(⟨(⟨x0.t.vars,x0.t.init,x0.t.goal,x0.t.ops⟩:Tsk),x0.list,x0.signs,(⟨x0.x.vars,(x0.x.vals.set (x1.var:Int).toNat (s0.set (x1.val:Int).toNat (-1))),x0.x.ops⟩:Swp),(x0.taken.set (x2.var:Int).toNat (f0.set (x2.val:Int).toNat false)),x0.vars,x0.steps,x0.most,x0.full⟩:Fnd)) (l0:=2) (l1:=5) (l2:=6) (l3:=7) (l4:=8) (l5:=9) (by decide) (by have q:=g0;rw [← ((by simp:(x0.x.vals.set (x1.var:Int).toNat (s0.set (x1.val:Int).toNat (-1))).length=x0.x.vals.length).trans rfl),← ((by simp:(x0.taken.set (x2.var:Int).toNat (f0.set (x2.val:Int).toNat false)).length=x0.taken.length).trans rfl)] at q;exact q) y0 z0 a1 b1 c1 d1 k0 e0.relen e1 j0.relen m0 d3 e3
 obtain rfl:=sm hm
 replace hB:=(((((hB.st d2).st y1).st z1).st b0).st a0).st z2
 obtain ⟨O',hS',hz,hl⟩:=hE.leave (fun q=>if q=2 then i0 else 0) rfl hB
 exact ret0n rfl  ⟨O',hS',(Ob.leave a3 hz (hl 2 (by decide) (by decide)) r0.2)⟩
noncomputable def BH (x0:Fnd) (x1:Fct) (x2:ByteArray):Option Fnd :=
  bnd (atI x0.signs x1.var) fun a67=>bnd (atI a67 x1.val) fun a82=>bnd (catI x2 (⟨#[59]⟩:ByteArray)) fun n94=>bnd (catI a82 n94) fun n96=>bnd (atI a67 x1.val) fun a98=>some (⟨(⟨x0.t.vars,x0.t.init,x0.t.goal,x0.t.ops⟩:Tsk),x0.list,(x0.signs.set (x1.var:Int).toNat (a67.set (x1.val:Int).toNat n96)),(⟨x0.x.vars,x0.x.vals,x0.x.ops⟩:Swp),x0.taken,x0.vars,x0.steps,x0.most,x0.full⟩:Fnd)
theorem Fc {w:World} {O:Lab} {p0 i0:Nat} {x0:Fnd} (d0:Ob i0 w O (.pointer (some ⟨p0,0,none⟩)) x0) {vx1:Value} {x1:Fct} (c1:Vb w (Fr 0 w O) vx1 x1) {x2:ByteArray} (zx2:x2.size≤9223372036854775807) {r:Fnd} (hm:BH x0 x1 x2=some r) :
    Fn Tryz.prog 37 [(.pointer (some ⟨p0,0,none⟩)),vx1,(.string x2)] w fun v w'=>∃ O',St (eT i0) w O w' O'∧Ob i0 w' O' (.pointer (some ⟨p0,0,none⟩)) r:=by
 obtain ⟨O0,hE,p1,a2⟩:=ent1 (w:=w) (O:=O) d0.2
 have d0':=Ob.leave d0 p1 a2 (j:=2) (by decide)
 have hB:Bm w O0 w O0:=Bm.refl
 replace c1:=c1.mono p1
 obtain ⟨w2,rfl,rfl,r5,r6⟩:=c1
 refine AP Tryz.func37 rfl Tryz.ntmps37 rfl ?_
 unfold BH at hm
 refine Ab (Aa (BC 3 O0 rfl rfl fun g7 w8 O9 q1 f0=>?_))
 replace f0:Lc 3 w8 O9 g7 26 [(.int .i64 x1.var),(.int .i64 x1.val)]:=f0
 refine o_z ?_
 replace d0':=d0'.st q1
 obtain ⟨r1,y2,z2,a3,b3,c3,d3,e3,f3,g3,h3,i3,s1,b2,n0,o0,q0,r0,s0,t0,h0,u0,v0,w0,y0,z0,c2,d2⟩:=Fnd.opn d0' 2 4 5 6 7 8 (by decide)
 obtain ⟨j3,k3,rfl⟩:=o0.form
 obtain ⟨m3,n3,rfl⟩:=q0.form
 obtain ⟨o3,p3,rfl⟩:=r0.form
 obtain ⟨q3,r3,rfl⟩:=s0.form
 obtain ⟨s3,t3,rfl⟩:=t0.form
 obtain ⟨e2,f2,rfl⟩:=h0.form
 obtain ⟨u3,v3,rfl⟩:=u0.form
 obtain ⟨w3,x3,rfl⟩:=v0.form
 obtain ⟨y3,z3,rfl⟩:=w0.form
 obtain ⟨a4,b4,rfl⟩:=y0.form
 obtain ⟨c4,d4,rfl⟩:=z0.form
 refine Bc [] r1 ?_
 refine Az (fuel:=1) [] [(0,true),(1,true),(2,true),(3,true),(4,true),(5,true),(6,true),(7,true),(8,true),(9,true),(10,true),(11,true),(12,true),(13,true),(14,true),(15,true)] (by kernel_rfl) rfl ?_
 refine AH rfl rfl rfl (BR rfl rfl rfl (AM rfl rfl rfl (AK (hc:=fun w' ⟨O',hq⟩=>Blk.cell (i:=5) ((n0.st hq (by decide)).1) rfl) rfl rfl rfl ?_)))
 refine AM rfl rfl rfl ?_
 replace f0:=f0.st s1
 refine AK (hc:=fun w' ⟨O',hq⟩=>Blk.cell (i:=0) ((f0.st hq (by decide)).1) rfl) rfl rfl rfl ?_
 obtain ⟨g0,g2,hm⟩:=bs hm
 obtain ⟨h2,d1⟩:=AO g2
 obtain ⟨e4,f4,b0,e1⟩:=h0.at d1
 refine Bl (hA:=b0) (hj:=(Int.toNat_of_nonneg h2).symm) (hlt:=e1) rfl rfl rfl rfl ?_
 obtain ⟨i2,j2,j0,a1⟩:=NR.peek h0 b0 d1
 replace a1:Vb w8 (FrS [4] w8 r1) (.slice i2 g0.length j2) g0:=a1
 refine AK (hc:=fun w' ⟨O',hq⟩=>NR.stay h0 b0 hq (by decide) j0) rfl rfl rfl ?_
 refine AM rfl rfl rfl (AK (hc:=fun w' ⟨O',hq⟩=>Blk.cell (i:=1) ((f0.st hq (by decide)).1) rfl) rfl rfl rfl ?_)
 obtain ⟨g4,k2,hm⟩:=bs hm
 obtain ⟨m2,n2⟩:=AO k2
 obtain ⟨h4,i4,o2,f1,g1,h1,i1,rfl,j4⟩:=a1.elem n2
 refine Bl (hA:=f1) (hj:=(Int.toNat_of_nonneg m2).symm) (hlt:=h1) rfl rfl rfl rfl ?_
 refine AK (hc:=fun w' ⟨O',hq⟩=>cat0 (AL (hq.agreeS (by decide) (by decide)) g1 i1)) rfl rfl rfl ?_
 refine AH rfl rfl rfl ?_
 obtain ⟨k4,p2,hm⟩:=bs hm
 refine FL (he:=p2) rfl rfl rfl rfl ?_
 obtain ⟨b1,t1,hm⟩:=bs hm
 refine FL (he:=t1) rfl rfl rfl rfl ?_
 obtain ⟨q2,r2,hm⟩:=bs hm
 obtain ⟨j1,k0⟩:=AO r2
 obtain ⟨s2,t2,u1,c0,v1,m0,w1,rfl,u2⟩:=a1.elem k0
 refine Bl (hA:=c0) (hj:=(Int.toNat_of_nonneg j1).symm) (hlt:=m0) rfl rfl rfl rfl ?_
 refine As ?_
 refine Au (i:=16) (by kernel_rfl) rfl ?_
 refine Hh (off:=0) (a:=g0) (f:=q2) (f':=b1) h0 b0 d1 j0 c0 k0 rfl rfl rfl (Nat.le_of_ble_eq_true rfl) (allOne rfl) (by decide) (by rintro w' O' ce ⟨rfl,_⟩;exact ⟨rfl,(IE t1)⟩) fun k1 m1 a0 e0=>?_
 replace e0:NR ByteArray 4 k1 m1 80 9 (.slice e2 x0.signs.length f2) (x0.signs.set (x1.var:Int).toNat (g0.set (x1.val:Int).toNat b1)) none:=e0
 refine BK (by kernel_rfl) ?_
 refine AZ (by kernel_rfl) ?_
 replace n0:=n0.st a0
 replace o0:=o0.st a0
 replace q0:=q0.st a0
 replace r0:=r0.st a0
 replace s0:=s0.st a0
 replace t0:=t0.st a0
 replace u0:=u0.st a0
 replace v0:=v0.st a0
 replace w0:=w0.st a0
 replace y0:=y0.st a0
 replace z0:=z0.st a0
 obtain ⟨v2,n1,y1,z1,o1⟩:=Fnd.shut (x:=(⟨(⟨x0.t.vars,x0.t.init,x0.t.goal,x0.t.ops⟩:Tsk),x0.list,(x0.signs.set (x1.var:Int).toNat (g0.set (x1.val:Int).toNat b1)),(⟨x0.x.vars,x0.x.vals,x0.x.ops⟩:Swp),x0.taken,x0.vars,x0.steps,x0.most,x0.full⟩:Fnd)) (l0:=2) (l1:=4) (l2:=5) (l3:=6) (l4:=7) (l5:=8) (by decide) (by have q:=n0;rw [← ((by simp:(x0.signs.set (x1.var:Int).toNat (g0.set (x1.val:Int).toNat b1)).length=x0.signs.length).trans rfl)] at q;exact q) o0 q0 r0 s0 t0 e0.relen u0 v0 w0 y0 z0 c2 d2
 obtain rfl:=sm hm
 replace hB:=(((hB.st q1).st s1).st a0).st n1
 obtain ⟨O',hS',hz,hl⟩:=hE.leave (fun q=>if q=2 then i0 else 0) rfl hB
 exact ret0n rfl  ⟨O',hS',(Ob.leave o1 hz (hl 2 (by decide) (by decide)) d0.2)⟩
noncomputable def BV (x0:Fnd) (x1:Fct) (x2:Fct):Option Bool :=
  bnd (bnd (atI x0.taken x2.var) fun a79=>bnd (atI a79 x2.val) fun a94=>if a94=true then (some true) else (bnd (atI x0.signs x1.var) fun a111=>bnd (atI a111 x1.val) fun a126=>bnd (atI x0.signs x2.var) fun a138=>bnd (atI a138 x2.val) fun a153=>if a126≠a153 then (some true) else (some false)):Option Bool) fun y20=>if y20=true then (some false) else (bnd (atI x0.x.vars x1.var) fun a236=>if 0≤a236 then (bnd (if a236=x2.var then (some true) else (some false):Option Bool) fun y249=>some y249) else (bnd (bnd (atI x0.vars x2.var) fun a272=>if (!a272)=true then (bnd (atI x0.t.vars x1.var) fun a284=>bnd (atI x0.t.vars x2.var) fun a296=>if a284=a296 then (some true) else (some false)) else (some false):Option Bool) fun y268=>some y268))
theorem Fd {w:World} {O:Lab} {p0 i0:Nat} {x0:Fnd} (a1:Ob i0 w O (.pointer (some ⟨p0,0,none⟩)) x0) {vx1:Value} {x1:Fct} (r3:Vb w (Fr 0 w O) vx1 x1) {vx2:Value} {x2:Fct} (s3:Vb w (Fr 0 w O) vx2 x2) {r:Bool} (hm:BV x0 x1 x2=some r) :
    Fn Tryz.prog 40 [(.pointer (some ⟨p0,0,none⟩)),vx1,vx2] w fun v w'=>∃ O',St (eT i0) w O w' O'∧Ob i0 w' O' (.pointer (some ⟨p0,0,none⟩)) x0∧Vb w' (Fr 0 w' O') v r:=by
 obtain ⟨O0,hE,t3,b7⟩:=ent1 (w:=w) (O:=O) a1.2
 have a1':=Ob.leave a1 t3 b7 (j:=2) (by decide)
 have hB:Bm w O0 w O0:=Bm.refl
 replace r3:=r3.mono t3
 obtain ⟨qA,rfl,rfl,r5,r6⟩:=r3
 replace s3:=s3.mono t3
 obtain ⟨rA,rfl,rfl,r8,r9⟩:=s3
 refine AP Tryz.func40 rfl Tryz.ntmps40 rfl ?_
 unfold BV at hm
 refine Ab (Aa (BC 3 O0 rfl rfl fun u3 c7 z5 u1 h0=>?_))
 replace h0:Lc 3 c7 z5 u3 26 [(.int .i64 x1.var),(.int .i64 x1.val)]:=h0
 refine BC 4 z5 rfl rfl fun v3 b1 d7 c1 e0=>?_
 replace e0:Lc 4 b1 d7 v3 26 [(.int .i64 x2.var),(.int .i64 x2.val)]:=e0
 refine Am rfl rfl (o_z ?_)
 refine Ab (Ab ?_)
 obtain ⟨e7,b0,hm⟩:=bs hm
 refine Ax (fun l' w'=>∃ (f7:Unit) (O':Lab),subs l' [(0,(.pointer (some ⟨p0,0,none⟩))),(4,(.pointer (some ⟨u3,0,none⟩))),(5,(.pointer (some ⟨v3,0,none⟩))),(46,(.bool e7))]∧Bm w O0 w' O'∧Ob 2 w' O' (.pointer (some ⟨p0,0,none⟩)) x0∧Lc 3 w' O' u3 26 [(.int .i64 x1.var),(.int .i64 x1.val)]∧Lc 4 w' O' v3 26 [(.int .i64 x2.var),(.int .i64 x2.val)]) ?_ ?_
 ·
  refine Dx (·=b1) [(0,true),(1,true),(2,true),(3,true),(4,true),(5,true),(6,true),(7,true),(8,true),(9,true),(10,true),(11,true),(12,true),(13,true),(14,true),(15,true),(16,true),(17,true),(18,true),(19,true),(20,true),(21,true),(22,true),(23,true),(24,true),(25,true),(26,true),(27,true),(28,true),(29,true),(30,true),(31,true),(32,true),(33,true),(34,true),(35,true),(36,true),(37,true),(38,true)] (by kernel_rfl) rfl (by kernel_rfl) rfl ?_
  refine AH rfl rfl rfl (BR rfl rfl rfl ?_)
  replace a1':=(a1'.st u1).st c1
  obtain ⟨w3,sA,tA,uA,vA,wA,xA,yA,zA,aB,bB,cB,r1,g7,s1,h3,i3,j3,k3,m3,d1,n3,o3,p3,t1,q3,x3,y3⟩:=Fnd.opn a1' 2 5 6 7 8 9 (by decide)
  obtain ⟨dB,eB,rfl⟩:=h3.form
  obtain ⟨fB,gB,rfl⟩:=i3.form
  obtain ⟨iB,jB,rfl⟩:=j3.form
  obtain ⟨kB,lB,rfl⟩:=k3.form
  obtain ⟨mB,nB,rfl⟩:=m3.form
  obtain ⟨oB,pB,rfl⟩:=d1.form
  obtain ⟨qB,rB,rfl⟩:=n3.form
  obtain ⟨sB,tB,rfl⟩:=o3.form
  obtain ⟨uB,vB,rfl⟩:=p3.form
  obtain ⟨wB,xB,rfl⟩:=t1.form
  obtain ⟨yB,zB,rfl⟩:=q3.form
  refine AM rfl rfl rfl (CT (hc:=Blk.cell (i:=9) (s1.1) rfl) rfl rfl rfl ?_)
  refine AM rfl rfl rfl ?_
  replace e0:=e0.st r1
  refine CT (hc:=Blk.cell (i:=0) (e0.1) rfl) rfl rfl rfl ?_
  obtain ⟨a6,h7,b0⟩:=bs b0
  obtain ⟨i7,b6⟩:=AO h7
  obtain ⟨aC,bC,v1,z3⟩:=t1.at b6
  refine Bl (hA:=v1) (hj:=(Int.toNat_of_nonneg i7).symm) (hlt:=z3) rfl rfl rfl rfl ?_
  obtain ⟨j7,k7,a4,b4⟩:=NR.peek t1 v1 b6
  replace b4:Vb b1 (FrS [8] b1 w3) (.slice j7 a6.length k7) a6:=b4
  refine CT (hc:=a4) rfl rfl rfl ?_
  refine AM rfl rfl rfl (CT (hc:=Blk.cell (i:=1) (e0.1) rfl) rfl rfl rfl ?_)
  obtain ⟨l7,m7,b0⟩:=bs b0
  obtain ⟨n7,o7⟩:=AO m7
  obtain ⟨cC,dC,c6,w1,y1,z1,rfl⟩:=b4.elem' o7
  refine Bl (hA:=w1) (hj:=(Int.toNat_of_nonneg n7).symm) (hlt:=y1) rfl rfl rfl rfl ?_
  refine CT (hc:=cat0 z1) rfl rfl rfl ?_
  refine AH rfl rfl rfl ?_
  rcases Bool.eq_false_or_eq_true l7 with v0|v0
  ·
   try rw [v0]
   replace b0:=ip b0 v0
   refine AB rfl rfl rfl rfl rfl (AB rfl rfl rfl rfl rfl (AB rfl rfl rfl rfl rfl (AB rfl rfl rfl rfl rfl (AB rfl rfl rfl rfl rfl (AB rfl rfl rfl rfl rfl (AB rfl rfl rfl rfl rfl (AB rfl rfl rfl rfl rfl (AB rfl rfl rfl rfl rfl (AB rfl rfl rfl rfl rfl (AB rfl rfl rfl rfl rfl (AB rfl rfl rfl rfl rfl (AB rfl rfl rfl rfl rfl (AB rfl rfl rfl rfl rfl (AB rfl rfl rfl rfl rfl ?_))))))))))))))
   refine AB rfl rfl rfl rfl rfl (AB rfl rfl rfl rfl rfl (AB rfl rfl rfl rfl rfl (AB rfl rfl rfl rfl rfl (AB rfl rfl rfl rfl rfl (AB rfl rfl rfl rfl rfl (AB rfl rfl rfl rfl rfl (AB rfl rfl rfl rfl rfl (AB rfl rfl rfl rfl rfl (AB rfl rfl rfl rfl rfl (Ce rfl rfl rfl rfl (h_z ?_)))))))))))
   obtain ⟨p7,g1,d6,e6,c4⟩:=Fnd.shut (x:=x0) (l0:=2) (l1:=5) (l2:=6) (l3:=7) (l4:=8) (l5:=9) (by decide) s1 h3 i3 j3 k3 m3 d1 n3 o3 p3 t1 q3 x3 y3
   obtain rfl:=sm b0
   exact ⟨(),_,⟨rfl,rfl,rfl,rfl,trivial⟩,(((hB.st u1).st c1).st r1).st g1,c4,((h0.st c1).st r1).st g1,e0.st g1⟩
  try rw [v0]
  replace b0:=im' b0 v0
  refine Al rfl (Ak rfl rfl (BS rfl rfl (Al rfl (Ak rfl rfl (Id rfl rfl (Al rfl (Ak rfl rfl (BD rfl rfl (Al rfl (Ak rfl rfl (Bt (hc:=Blk.cell (i:=5) (s1.1) rfl) rfl rfl ?_)))))))))))
  refine Al rfl (Ak rfl rfl (BD rfl rfl (Al rfl (Ak rfl rfl ?_))))
  replace h0:=(h0.st c1).st r1
  refine Bt (hc:=Blk.cell (i:=0) (h0.1) rfl) rfl rfl ?_
  refine Al rfl (Ak rfl rfl ?_)
  obtain ⟨a2,d4,b0⟩:=bs b0
  obtain ⟨e4,b2⟩:=AO d4
  obtain ⟨q7,r7,e1,c2⟩:=d1.at b2
  refine DM (hA:=e1) (hj:=(Int.toNat_of_nonneg e4).symm) (hlt:=c2) rfl rfl rfl ?_
  refine Al rfl (Ak rfl rfl ?_)
  obtain ⟨f4,g4,d2,h1⟩:=NR.peek d1 e1 b2
  replace h1:Vb b1 (FrS [5] b1 w3) (.slice f4 a2.length g4) a2:=h1
  refine Bt (hc:=d2) rfl rfl ?_
  refine Al rfl (Ak rfl rfl (BD rfl rfl (Al rfl (Ak rfl rfl (Bt (hc:=Blk.cell (i:=1) (h0.1) rfl) rfl rfl ?_)))))
  refine Al rfl (Ak rfl rfl ?_)
  obtain ⟨s7,h4,b0⟩:=bs b0
  obtain ⟨i4,j4⟩:=AO h4
  obtain ⟨t7,u7,f6,e2,f2,g2,rfl,v7⟩:=h1.elem' j4
  refine DM (hA:=e2) (hj:=(Int.toNat_of_nonneg i4).symm) (hlt:=f2) rfl rfl rfl ?_
  refine Al rfl (Ak rfl rfl (Bt (hc:=cat0 g2) rfl rfl ?_))
  refine Al rfl (Ak rfl rfl (BS rfl rfl (Al rfl (Ak rfl rfl (Id rfl rfl (Al rfl (Ak rfl rfl (BD rfl rfl (Al rfl (Ak rfl rfl (Bt (hc:=Blk.cell (i:=5) (s1.1) rfl) rfl rfl ?_)))))))))))
  refine Al rfl (Ak rfl rfl (BD rfl rfl (Al rfl (Ak rfl rfl (Bt (hc:=Blk.cell (i:=0) (e0.1) rfl) rfl rfl ?_)))))
  refine Al rfl (Ak rfl rfl ?_)
  obtain ⟨h2,k4,b0⟩:=bs b0
  obtain ⟨m4,i2⟩:=AO k4
  obtain ⟨w7,x7,f1,j2⟩:=d1.at i2
  refine DM (hA:=f1) (hj:=(Int.toNat_of_nonneg m4).symm) (hlt:=j2) rfl rfl rfl ?_
  refine Al rfl (Ak rfl rfl ?_)
  obtain ⟨n4,o4,k2,i1⟩:=NR.peek d1 f1 i2
  replace i1:Vb b1 (FrS [5] b1 w3) (.slice n4 h2.length o4) h2:=i1
  refine Bt (hc:=k2) rfl rfl ?_
  refine Al rfl (Ak rfl rfl (BD rfl rfl (Al rfl (Ak rfl rfl (Bt (hc:=Blk.cell (i:=1) (e0.1) rfl) rfl rfl ?_)))))
  refine Al rfl (Ak rfl rfl ?_)
  obtain ⟨y7,p4,b0⟩:=bs b0
  obtain ⟨q4,r4⟩:=AO p4
  obtain ⟨z7,a8,g6,m2,n2,o2,rfl,b8⟩:=i1.elem' r4
  refine DM (hA:=m2) (hj:=(Int.toNat_of_nonneg q4).symm) (hlt:=n2) rfl rfl rfl ?_
  refine Al rfl (Ak rfl rfl (Bt (hc:=cat0 o2) rfl rfl ?_))
  refine Al rfl (Ak rfl rfl (Bn (fun _ _=>RP rfl rfl) rfl (fun j1=>?_) (fun j1=>?_)))
  ·
   replace b0:=ip b0 j1
   refine Cb rfl rfl rfl rfl (h_z ?_)
   obtain ⟨c8,k1,h6,i6,s4⟩:=Fnd.shut (x:=x0) (l0:=2) (l1:=5) (l2:=6) (l3:=7) (l4:=8) (l5:=9) (by decide) s1 h3 i3 j3 k3 m3 d1 n3 o3 p3 t1 q3 x3 y3
   obtain rfl:=sm b0
   exact ⟨(),_,⟨rfl,rfl,rfl,rfl,trivial⟩,(((hB.st u1).st c1).st r1).st k1,s4,h0.st k1,e0.st k1⟩
  replace b0:=im b0 j1
  refine Cb rfl rfl rfl rfl (h_z ?_)
  obtain ⟨d8,m1,j6,k6,t4⟩:=Fnd.shut (x:=x0) (l0:=2) (l1:=5) (l2:=6) (l3:=7) (l4:=8) (l5:=9) (by decide) s1 h3 i3 j3 k3 m3 d1 n3 o3 p3 t1 q3 x3 y3
  obtain rfl:=sm b0
  exact ⟨(),_,⟨rfl,rfl,rfl,rfl,trivial⟩,(((hB.st u1).st c1).st r1).st m1,t4,h0.st m1,e0.st m1⟩
 replace hB:=(hB.st u1).st c1
 replace h0:=h0.st c1
 rintro e8 p2 ⟨f7,f8,q2,hB,r2,h0,e0⟩
 refine AE _ q2 ?_
 refine Bp rfl (fun n1=>?_) (fun n1=>?_)
 ·
  replace hm:=ip hm n1
  refine Ab (Aa (Am rfl rfl (o_z ?_)))
  refine AF ?_
  obtain rfl:=sm hm
  obtain ⟨O',hS',hz,hl⟩:=hE.leave (fun q=>if q=2 then i0 else 0) rfl hB
  exact ret1v rfl (AC rfl) ⟨O',hS',(Ob.leave r2 hz (hl 2 (by decide) (by decide)) a1.2),vBool⟩
 replace hm:=im' hm n1
 refine AI (Ab (Ab (Dx (·=p2) [(0,true),(1,true),(2,true),(3,true),(4,true),(5,true),(6,true),(7,true),(8,true),(9,true)] (by kernel_rfl) rfl (by kernel_rfl) rfl ?_)))
 refine AH rfl rfl rfl (BR rfl rfl rfl ?_)
 obtain ⟨g8,h8,i8,j8,k8,l8,m8,n8,o8,p8,q8,s8,c0,l6,f0,g0,m0,n0,o0,q0,r0,j0,s0,t0,u0,k0,w0,y0⟩:=Fnd.opn r2 2 5 6 7 8 9 (by decide)
 obtain ⟨t8,u8,rfl⟩:=g0.form
 obtain ⟨v8,w8,rfl⟩:=m0.form
 obtain ⟨x8,y8,rfl⟩:=n0.form
 obtain ⟨z8,a9,rfl⟩:=o0.form
 obtain ⟨b9,c9,rfl⟩:=q0.form
 obtain ⟨d9,e9,rfl⟩:=r0.form
 obtain ⟨f9,g9,rfl⟩:=j0.form
 obtain ⟨h9,i9,rfl⟩:=s0.form
 obtain ⟨j9,k9,rfl⟩:=t0.form
 obtain ⟨l9,m9,rfl⟩:=u0.form
 obtain ⟨n9,o9,rfl⟩:=k0.form
 refine AM rfl rfl rfl (AM rfl rfl rfl (CT (hc:=Blk.cell (i:=6) (f0.1) rfl) rfl rfl rfl ?_))
 refine AM rfl rfl rfl ?_
 replace h0:=h0.st c0
 refine CT (hc:=Blk.cell (i:=0) (h0.1) rfl) rfl rfl rfl ?_
 obtain ⟨p9,u4,hm⟩:=bs hm
 obtain ⟨v4,w4⟩:=AO u4
 obtain ⟨q9,s9,m6,s2,t2,u2,rfl,t9⟩:=j0.elem w4
 refine Bl (hA:=s2) (hj:=(Int.toNat_of_nonneg v4).symm) (hlt:=t2) rfl rfl rfl rfl ?_
 refine CT (hc:=cat0 u2) rfl rfl rfl ?_
 refine Eh rfl rfl rfl (h_z ?_)
 refine Ab (Aa (Aj rfl rfl (IA rfl rfl rfl (fun o1=>?_) fun o1=>?_)))
 ·
  replace hm:=ip hm o1
  refine o_z ?_
  refine Ah rfl (Ab ?_)
  obtain ⟨x4,d0,hm⟩:=bs hm
  refine Ax (fun l' w'=>∃ (y4:Unit) (O':Lab),subs l' [(6,(.bool x4))]∧Bm w O0 w' O'∧Ob 2 w' O' (.pointer (some ⟨p0,0,none⟩)) x0) ?_ ?_
  ·
   refine Aa (Aj rfl rfl (AS rfl rfl ?_))
   replace e0:=e0.st c0
   refine AJ (hc:=Blk.cell (i:=0) (e0.1) rfl) rfl rfl ?_
   refine FK rfl rfl rfl (fun p1=>?_) fun p1=>?_
   ·
    replace d0:=ip d0 p1
    refine Am rfl rfl (o_z ?_)
    obtain ⟨u9,z4,n6,o6,a5⟩:=Fnd.shut (x:=x0) (l0:=2) (l1:=5) (l2:=6) (l3:=7) (l4:=8) (l5:=9) (by decide) f0 g0 m0 n0 o0 q0 r0 j0 s0 t0 u0 k0 w0 y0
    obtain rfl:=sm d0
    exact ⟨(),_,⟨rfl,trivial⟩,(hB.st c0).st z4,a5⟩
   replace d0:=im d0 p1
   refine Am rfl rfl (o_z ?_)
   obtain ⟨v9,b5,p6,q6,c5⟩:=Fnd.shut (x:=x0) (l0:=2) (l1:=5) (l2:=6) (l3:=7) (l4:=8) (l5:=9) (by decide) f0 g0 m0 n0 o0 q0 r0 j0 s0 t0 u0 k0 w0 y0
   obtain rfl:=sm d0
   exact ⟨(),_,⟨rfl,trivial⟩,(hB.st c0).st b5,c5⟩
  replace hB:=hB.st c0
  rintro w9 x9 ⟨y4,y9,v2,hB,d5⟩
  refine AE _ v2 ?_
  refine AF ?_
  obtain rfl:=sm hm
  obtain ⟨O',hS',hz,hl⟩:=hE.leave (fun q=>if q=2 then i0 else 0) rfl hB
  exact ret1v rfl (AC rfl) ⟨O',hS',(Ob.leave d5 hz (hl 2 (by decide) (by decide)) a1.2),vBool⟩
 replace hm:=im hm o1
 refine o_z ?_
 refine Ae rfl (AI (Ab ?_))
 obtain ⟨e5,a0,hm⟩:=bs hm
 refine Ax (fun l' w'=>∃ (f5:Unit) (O':Lab),subs l' [(6,(.bool e5))]∧Bm w O0 w' O'∧Ob 2 w' O' (.pointer (some ⟨p0,0,none⟩)) x0) ?_ ?_
 ·
  refine Dx (·=p2) [(0,true),(1,true),(2,true),(3,true),(4,true),(5,true),(6,true),(7,true),(8,true),(9,true),(10,true),(11,true),(12,true),(13,true),(14,true),(15,true),(16,true),(17,true),(18,true),(19,true),(20,true),(21,true),(22,true),(23,true),(24,true),(25,true),(26,true),(27,true),(28,true),(29,true),(30,true)] (by kernel_rfl) rfl (by kernel_rfl) rfl ?_
  refine AH rfl rfl rfl (BR rfl rfl rfl (AM rfl rfl rfl (CT (hc:=Blk.cell (i:=10) (f0.1) rfl) rfl rfl rfl ?_)))
  refine AM rfl rfl rfl ?_
  replace e0:=e0.st c0
  refine CT (hc:=Blk.cell (i:=0) (e0.1) rfl) rfl rfl rfl ?_
  obtain ⟨g5,h5,a0⟩:=bs a0
  obtain ⟨i5,j5⟩:=AO h5
  obtain ⟨z9,aA,s6,w2,y2,z2,rfl⟩:=k0.elem j5
  refine Bl (hA:=w2) (hj:=(Int.toNat_of_nonneg i5).symm) (hlt:=y2) rfl rfl rfl rfl ?_
  refine CT (hc:=cat0 z2) rfl rfl rfl ?_
  refine Ro rfl rfl rfl (AH rfl rfl rfl ?_)
  rcases Bool.eq_false_or_eq_true (!g5) with z0|z0
  ·
   try rw [z0]
   replace a0:=ip a0 z0
   refine Al rfl (Ak rfl rfl (BS rfl rfl (Al rfl (Ak rfl rfl (Id rfl rfl (Al rfl (Ak rfl rfl (BD rfl rfl (Al rfl (Ak rfl rfl (BD rfl rfl (Al rfl (Ak rfl rfl (Bt (hc:=Blk.cell (i:=0) (f0.1) rfl) rfl rfl ?_))))))))))))))
   refine Al rfl (Ak rfl rfl (BD rfl rfl (Al rfl (Ak rfl rfl (Bt (hc:=Blk.cell (i:=0) (h0.1) rfl) rfl rfl ?_)))))
   refine Al rfl (Ak rfl rfl ?_)
   obtain ⟨bA,k5,a0⟩:=bs a0
   obtain ⟨m5,n5⟩:=AO k5
   obtain ⟨cA,dA,t6,a3,b3,c3,rfl,eA⟩:=g0.elem' n5
   refine DM (hA:=a3) (hj:=(Int.toNat_of_nonneg m5).symm) (hlt:=b3) rfl rfl rfl ?_
   refine Al rfl (Ak rfl rfl (Bt (hc:=cat0 c3) rfl rfl ?_))
   refine Al rfl (Ak rfl rfl (BS rfl rfl (Al rfl (Ak rfl rfl (Id rfl rfl (Al rfl (Ak rfl rfl (BD rfl rfl (Al rfl (Ak rfl rfl (BD rfl rfl (Al rfl (Ak rfl rfl (Bt (hc:=Blk.cell (i:=0) (f0.1) rfl) rfl rfl ?_))))))))))))))
   refine Al rfl (Ak rfl rfl (BD rfl rfl (Al rfl (Ak rfl rfl (Bt (hc:=Blk.cell (i:=0) (e0.1) rfl) rfl rfl ?_)))))
   refine Al rfl (Ak rfl rfl ?_)
   obtain ⟨fA,o5,a0⟩:=bs a0
   obtain ⟨p5,q5⟩:=AO o5
   obtain ⟨gA,iA,u6,d3,e3,f3,rfl,jA⟩:=g0.elem' q5
   refine DM (hA:=d3) (hj:=(Int.toNat_of_nonneg p5).symm) (hlt:=e3) rfl rfl rfl ?_
   refine Al rfl (Ak rfl rfl (Bt (hc:=cat0 f3) rfl rfl ?_))
   refine Al rfl (Ak rfl rfl (Bn (fun _ _=>LB rfl rfl) rfl (fun q1=>?_) (fun q1=>?_)))
   ·
    replace a0:=ip a0 q1
    refine Ce rfl rfl rfl rfl (Eh rfl rfl rfl (h_z ?_))
    obtain ⟨kA,s5,v6,w6,t5⟩:=Fnd.shut (x:=x0) (l0:=2) (l1:=5) (l2:=6) (l3:=7) (l4:=8) (l5:=9) (by decide) f0 g0 m0 n0 o0 q0 r0 j0 s0 t0 u0 k0 w0 y0
    obtain rfl:=sm a0
    exact ⟨(),_,⟨rfl,trivial⟩,(hB.st c0).st s5,t5⟩
   replace a0:=im a0 q1
   refine Ce rfl rfl rfl rfl (Eh rfl rfl rfl (h_z ?_))
   obtain ⟨lA,u5,x6,y6,v5⟩:=Fnd.shut (x:=x0) (l0:=2) (l1:=5) (l2:=6) (l3:=7) (l4:=8) (l5:=9) (by decide) f0 g0 m0 n0 o0 q0 r0 j0 s0 t0 u0 k0 w0 y0
   obtain rfl:=sm a0
   exact ⟨(),_,⟨rfl,trivial⟩,(hB.st c0).st u5,v5⟩
  try rw [z0]
  replace a0:=im' a0 z0
  refine AB rfl rfl rfl rfl rfl (AB rfl rfl rfl rfl rfl (AB rfl rfl rfl rfl rfl (AB rfl rfl rfl rfl rfl (AB rfl rfl rfl rfl rfl (AB rfl rfl rfl rfl rfl (AB rfl rfl rfl rfl rfl (AB rfl rfl rfl rfl rfl (AB rfl rfl rfl rfl rfl (AB rfl rfl rfl rfl rfl (AB rfl rfl rfl rfl rfl (AB rfl rfl rfl rfl rfl (AB rfl rfl rfl rfl rfl (AB rfl rfl rfl rfl rfl (AB rfl rfl rfl rfl rfl ?_))))))))))))))
  refine AB rfl rfl rfl rfl rfl (AB rfl rfl rfl rfl rfl (AB rfl rfl rfl rfl rfl (AB rfl rfl rfl rfl rfl (Cb rfl rfl rfl rfl (Eh rfl rfl rfl (h_z ?_))))))
  obtain ⟨mA,w5,z6,a7,x5⟩:=Fnd.shut (x:=x0) (l0:=2) (l1:=5) (l2:=6) (l3:=7) (l4:=8) (l5:=9) (by decide) f0 g0 m0 n0 o0 q0 r0 j0 s0 t0 u0 k0 w0 y0
  obtain rfl:=sm a0
  exact ⟨(),_,⟨rfl,trivial⟩,(hB.st c0).st w5,x5⟩
 replace hB:=hB.st c0
 rintro nA oA ⟨f5,pA,g3,hB,y5⟩
 refine AE _ g3 ?_
 refine AF ?_
 obtain rfl:=sm hm
 obtain ⟨O',hS',hz,hl⟩:=hE.leave (fun q=>if q=2 then i0 else 0) rfl hB
 exact ret1v rfl (AC rfl) ⟨O',hS',(Ob.leave y5 hz (hl 2 (by decide) (by decide)) a1.2),vBool⟩
end
section
open Go.Shelf
def Tryz.laysS_f71_ren:Go.Shelf.Ren:=⟨fun|6=>71|15=>83|14=>87|28=>100|29=>101|20=>103|21=>104|22=>105|23=>106|24=>107|25=>108|26=>109|27=>110|46=>122|47=>117|48=>118|49=>123|50=>124|57=>131|n=>n,fun|22=>27|24=>26|25=>117|3=>3|39=>100|0=>0|53=>122|55=>125|4=>4|46=>142|45=>141|50=>147|5=>5|9=>9|66=>162|70=>166|76=>174|77=>175|n=>n,fun|n=>n⟩
theorem Tryz.laysS_f71:Go.Proofs.SlLaysF0.n6 Tryz.prog Tryz.laysS_f71_ren:={
  mixed:=by kernel_rfl
  f6:=⟨Tryz.f71.name,by decide,Tryz.func71.trans (congrArg some (by kernel_rfl))⟩
  f14:=⟨Tryz.f87.name,by decide,Tryz.func87.trans (congrArg some (by kernel_rfl))⟩
  f15:=Tryz.func83.trans (congrArg some (by kernel_rfl))
  f20:=⟨Tryz.f103.name,by decide,Tryz.func103.trans (congrArg some (by kernel_rfl))⟩
  f21:=⟨Tryz.f104.name,by decide,Tryz.func104.trans (congrArg some (by kernel_rfl))⟩
  f22:=⟨Tryz.f105.name,by decide,Tryz.func105.trans (congrArg some (by kernel_rfl))⟩
  f23:=⟨Tryz.f106.name,by decide,Tryz.func106.trans (congrArg some (by kernel_rfl))⟩
  f24:=⟨Tryz.f107.name,by decide,Tryz.func107.trans (congrArg some (by kernel_rfl))⟩
  f25:=⟨Tryz.f108.name,by decide,Tryz.func108.trans (congrArg some (by kernel_rfl))⟩
  f26:=⟨Tryz.f109.name,by decide,Tryz.func109.trans (congrArg some (by kernel_rfl))⟩
  f27:=⟨Tryz.f110.name,by decide,Tryz.func110.trans (congrArg some (by kernel_rfl))⟩
  f28:=Tryz.func100.trans (congrArg some (by kernel_rfl))
  f29:=Tryz.func101.trans (congrArg some (by kernel_rfl))
  f46:=⟨Tryz.f122.name,by decide,Tryz.func122.trans (congrArg some (by kernel_rfl))⟩
  f47:=Tryz.func117.trans (congrArg some (by kernel_rfl))
  f48:=Tryz.func118.trans (congrArg some (by kernel_rfl))
  f49:=⟨Tryz.f123.name,by decide,Tryz.func123.trans (congrArg some (by kernel_rfl))⟩
  f50:=⟨Tryz.f124.name,by decide,Tryz.func124.trans (congrArg some (by kernel_rfl))⟩
  f57:=⟨Tryz.f131.name,by decide,Tryz.func131.trans (congrArg some (by kernel_rfl))⟩
  t0:=Tryz.underlying0
  a0:=Tryz.isAgg0
  z0:=Tryz.sizeOf0
  v0:=Tryz.zeroValue0
  t3:=Tryz.underlying3
  a3:=Tryz.isAgg3
  z3:=Tryz.sizeOf3
  v3:=Tryz.zeroValue3
  t4:=Tryz.underlying4
  a4:=Tryz.isAgg4
  z4:=Tryz.sizeOf4
  v4:=Tryz.zeroValue4
  t5:=Tryz.underlying5
  a5:=Tryz.isAgg5
  z5:=Tryz.sizeOf5
  v5:=Tryz.zeroValue5
  t9:=Tryz.underlying9
  a9:=Tryz.isAgg9
  z9:=Tryz.sizeOf9
  v9:=Tryz.zeroValue9
  t22:=Tryz.underlying27
  a22:=Tryz.isAgg27
  z22:=Tryz.sizeOf27
  v22:=Tryz.zeroValue27
  t25:=Tryz.underlying117
  a25:=Tryz.isAgg117
  z25:=Tryz.sizeOf117
  v25:=Tryz.zeroValue117
  t39:=Tryz.underlying100
  a39:=Tryz.isAgg100
  z39:=Tryz.sizeOf100
  v39:=Tryz.zeroValue100
  t45:=Tryz.underlying141
  a45:=Tryz.isAgg141
  z45:=Tryz.sizeOf141
  v45:=Tryz.zeroValue141
  t46:=Tryz.underlying142
  a46:=Tryz.isAgg142
  z46:=Tryz.sizeOf142
  v46:=Tryz.zeroValue142
  t50:=Tryz.underlying147
  a50:=Tryz.isAgg147
  z50:=Tryz.sizeOf147
  v50:=Tryz.zeroValue147
  t53:=Tryz.underlying122
  a53:=Tryz.isAgg122
  z53:=Tryz.sizeOf122
  v53:=Tryz.zeroValue122
  t55:=Tryz.underlying125
  a55:=Tryz.isAgg125
  z55:=Tryz.sizeOf125
  v55:=Tryz.zeroValue125
  t66:=Tryz.underlying162
  a66:=Tryz.isAgg162
  z66:=Tryz.sizeOf162
  v66:=Tryz.zeroValue162
  t70:=Tryz.underlying166
  a70:=Tryz.isAgg166
  z70:=Tryz.sizeOf166
  v70:=Tryz.zeroValue166
  t76:=Tryz.underlying174
  a76:=Tryz.isAgg174
  z76:=Tryz.sizeOf174
  v76:=Tryz.zeroValue174
  t77:=Tryz.underlying175
  a77:=Tryz.isAgg175
  z77:=Tryz.sizeOf175
  v77:=Tryz.zeroValue175 }
open Go.RowKit Go.Lib Go.Sort in
theorem Tryz.sortF_eq {α:Type} [Inhabited α] (k:Nat) (aE:∀ w,(isAgg 26).run Tryz.prog w=.ok true w) (zE:∀ w,(Go.sizeOf 26).run Tryz.prog w=.ok k w) (enc:α→List Value) (hk:∀ x,(enc x).length=k) (h1:∀ x,∀ v∈enc x,v.oneCell'=true) (cf:α→α→Int) (hO:SWO (ltOf cf)) (g:Nat) (cb:Array Value) (blk off cap:Nat) (d:Array α) (w:World) (eg:∀ args w,(callFunc g args).run Tryz.prog w=.ok (.enter g args) w) (hcmp:CmpLays Tryz.prog g cb enc k cf blk off d.size w) (hH:HoldsK enc k w blk off d) (hblk:blk < w.heap.size) (hsz:d.size < 4611686018427387904) :
    Calls Tryz.prog 71 #[.slice (some ⟨blk,off,none⟩) d.size cap,.func (.func g) #[] cb] w fun e w' =>
      e=.returned (.tuple #[])∧∃ n os,w'=sortWorldK enc k w blk off n (pdq (ltOf cf) d 0 d.size (Lib.bitLen d.size) true true) os:=AnyQ.slices_SortFunc_eq Tryz.laysS_f71 k aE zE enc hk h1 cf hO g cb blk off cap d w eg hcmp hH hblk hsz
open Go.RowKit Go.Lib Go.Sort in
theorem Tryz.sortF_none {α:Type} [Inhabited α] (p:Option Addr) (cap:Nat) (fv:Value) (w:World) :
    Calls Tryz.prog 71 #[.slice p 0 cap,fv] w fun e w'=>e=.returned (.tuple #[])∧w'=w:=AnyF.slices_SortFunc_none Tryz.laysS_f71 p cap fv w
end
section
open Go Go.RowKit Go.Lib Go.Sort
instance:Inhabited Fct:=⟨⟨0,0⟩⟩
def encF (x:Fct):List Value:=[.int .i64 x.var,.int .i64 x.val]
def cfF (x y:Fct):Int:=Lib.compareInt x.var y.var
theorem ltF (x y:Fct):ltOf cfF x y=decide (x.var < y.var):=by
  unfold ltOf cfF Lib.compareInt
  by_cases h:x.var < y.var
  · simp [h]
  · by_cases h2:y.var < x.var<;>simp [h,h2]
theorem swoF:SWO (ltOf cfF) where
  irrefl x:=by rw [ltF];simp
  trans x y z h1 h2:=by rw [ltF] at *;simp at *;omega
  ntrans x y z h1 h2:=by rw [ltF] at *;simp at *;omega
theorem compareI (a b:Int) (W:World):Calls Tryz.prog 64 #[.int .i64 a,.int .i64 b] W fun e w'=>e=.returned (.int .i64 (Lib.compareInt a b))∧w'=W:=by
  go_enter Tryz.func64,Tryz.ntmps64
  go_wp2
  · go_ret
    have h:a < b:=by assumption
    exact ⟨by simp [Lib.compareInt,h],rfl⟩
  · go_ret
    have h:b < a:=by assumption
    have h2:¬ a < b:=by omega
    exact ⟨by simp [Lib.compareInt,h,h2],rfl⟩
  · go_ret
    have h1:b≤a:=by assumption
    have h2:a≤b:=by assumption
    have h3:¬ a < b:=by omega
    have h4:¬ b < a:=by omega
    exact ⟨by simp [Lib.compareInt,h3,h4],rfl⟩
theorem closureF (x y:Fct) (W:World):Calls Tryz.prog 72 #[.agg #[.int .i64 x.var,.int .i64 x.val],.agg #[.int .i64 y.var,.int .i64 y.val]] W fun e w'=>e=.returned (.int .i64 (cfF x y))∧∃ q os',w'=grow (W.drewN q) os':=by
  have hcon:=fun W'=>compareI x.var y.var W'
  unfold cfF
  generalize Lib.compareInt x.var y.var=r at hcon ⊢
  go_enter Tryz.func72,Tryz.ntmps72
  go_wp2_with (go_at_call 64;refine (hcon _).mono ?_;rintro e w' ⟨rfl,rfl⟩)
  go_ret
  exact ⟨rfl,0,_,by rw [alloc_eq_grow,alloc_eq_grow,grow_grow];rfl⟩
theorem cmpLaysF (blk off size:Nat) (w:World):CmpLays Tryz.prog 72 #[] encF 2 cfF blk off size w:=fun _ _ _ _ x y=>closureF x y _
def AY (xs:List Fct):List Fct:=(pdq (ltOf cfF) xs.toArray 0 xs.length (Lib.bitLen xs.length) true true).toList
theorem MW (xs:List Fct):PermIn 0 xs.toArray.size xs.toArray (AY xs).toArray∧SortedIn (ltOf cfF) 0 xs.toArray.size (AY xs).toArray:=by
  have:=pdq_sorts (ltOf cfF) swoF xs.toArray 0 xs.toArray.size (Lib.bitLen xs.length) true true (Nat.zero_le _) (Nat.le_refl _) (Or.inl rfl)
  simpa [AY] using this
theorem DU (xs:List Fct):(AY xs).Perm xs:=by
  obtain ⟨⟨hsz,_,hperm⟩,_⟩:=MW xs
  have e1:(AY xs).toArray.extract 0 xs.toArray.size=(AY xs).toArray:=by rw [← hsz];exact Array.extract_size
  rw [e1,Array.extract_size] at hperm
  simpa using hperm
theorem CJ (xs:List Fct):(AY xs).length=xs.length:=(DU xs).length_eq
theorem ML (xs:List Fct):(AY xs).Pairwise fun x y=>x.var≤y.var:=by
  obtain ⟨_,hs⟩:=MW xs
  have hl:=CJ xs
  rw [List.pairwise_iff_getElem]
  intro i j hi hj hij
  have:=hs i j (Nat.zero_le _) hij (by simp;omega)
  rw [getElem!_pos _ j (by simpa using hj),getElem!_pos _ i (by simpa using hi),ltF] at this
  simpa using this
theorem flatF:∀ (xs:List Fct),(flatK encF 2 xs.toArray).toList=xs.flatMap encF:=fun xs=>by
  apply List.ext_getElem?
  intro t
  have key:∀ (l:List Fct) (t:Nat),(l.flatMap encF)[t]?=(l[t / 2]?).bind fun x=>(encF x)[t % 2]?:=by
    intro l
    induction l with
    | nil=>intro t;simp
    | cons x l ih =>
      intro t
      rw [List.flatMap_cons]
      match t with
      | 0=>rfl
      | 1=>rfl
      | t + 2 =>
        rw [List.getElem?_append_right (by simp [encF]),show t + 2 - (encF x).length=t from by simp [encF],ih]
        rw [show (t + 2) / 2=t / 2 + 1 from by omega,show (t + 2) % 2=t % 2 from by omega]
        simp
  rw [key]
  by_cases ht:t < xs.length * 2
  · have h1:t / 2 < xs.length:=by omega
    have hsz:t < (flatK encF 2 xs.toArray).size:=by simpa using ht
    rw [Array.getElem?_toList,Array.getElem?_eq_getElem hsz,List.getElem?_eq_getElem h1,Option.bind_some]
    have:=get_flatK encF 2 xs.toArray t (by simpa using ht)
    rw [getElem!_pos (flatK encF 2 xs.toArray) t hsz,getElem!_pos xs.toArray (t / 2) (by simpa using h1)] at this
    rw [this]
    have h2:t % 2 < (encF xs[t / 2]).length:=by simp [encF];omega
    rw [List.getElem?_eq_getElem h2,List.getElem_toArray,getElem!_pos (encF xs[t / 2]) (t % 2) h2]
  · have h1:(flatK encF 2 xs.toArray).size≤t:=by rw [size_flatK];simpa using (by omega:xs.length * 2≤t)
    have h2:xs[t / 2]?=none:=List.getElem?_eq_none (by omega)
    rw [Array.getElem?_toList,Array.getElem?_eq_none h1,h2]
    rfl
theorem JT {w:World} {F:Nat→Prop}:∀ {xs:List Fct} {cells:List Value},Chunks w F cells xs→cells=xs.flatMap encF∧∀ x∈xs,inI64 x.var∧inI64 x.val
  | [],_,h=>⟨h,fun _ hx=>by simp at hx⟩
  | x :: xs,cells,⟨cs,rest,he,hr,hc⟩=>by
    obtain ⟨h1,h2⟩:=JT hc
    obtain ⟨h3,h4⟩:=hr
    refine ⟨by rw [he,h3,h1];rfl,fun y hy=>?_⟩
    rcases List.mem_cons.1 hy with rfl|hy
    · exact h4
    · exact h2 y hy
theorem JU {w:World} {F:Nat→Prop}:∀ {xs:List Fct},(∀ x∈xs,inI64 x.var∧inI64 x.val)→Chunks w F (xs.flatMap encF) xs
  | [],_=>rfl
  | x :: xs,h=>⟨encF x,xs.flatMap encF,rfl,⟨rfl,h x (by simp)⟩,JU fun y hy=>h y (by simp [hy])⟩
theorem Et (xs:List Fct):(xs.flatMap encF).length=xs.length * 2:=by rw [← flatF,Array.length_toList,size_flatK];simp
theorem Hz {i:Nat} {w:World} {O:Lab} {v:Value} {xs:List Fct} (hR:Rw i w O 26 v xs) (hl:xs.length < 4611686018427387904) :
    Fn Tryz.prog 71 [v,.func (.func 72) #[] #[]] w fun _ w'=>∃ O',St (eT i) w O w' O'∧Rw i w' O' 26 v (AY xs):=by
  intro d
  rcases Nat.eq_zero_or_pos xs.length with h0|h0
  · have hx:xs=[]:=List.eq_nil_of_length_eq_zero h0
    subst hx
    obtain ⟨p,c,rfl⟩:=hR.form
    have hs:AY []=[]:=List.eq_nil_of_length_eq_zero (CJ [])
    exact (Tryz.sortF_none (α:=Fct) p c _ (dr w d)).mono fun e w' ⟨he,hw⟩=>⟨_,w,d,he,hw,O,St.refl _ _ _,by rw [hs];exact hR⟩
  · obtain ⟨g,cap,cells,sp,rfl,hg,hFg,hb,hc,hlen,hnc,hcm,htot⟩:=hR.1.open h0
    obtain ⟨rfl,hin⟩:=JT hc
    have hfl:=flatF xs
    have hH:HoldsK encF 2 (dr w d) g 0 xs.toArray:=fun j hj=>by
      have hj':j < xs.length * 2:=by simpa using hj
      refine ⟨?_,by rw [Nat.zero_add];exact hb.frozen j⟩
      rw [Nat.zero_add]
      refine hb.cell ?_
      rw [List.getElem?_append_left (by rw [Et];exact hj'),← hfl,Array.getElem?_toList,Array.getElem?_eq_getElem hj,getElem!_pos _ j hj]
      rfl
    have aE:∀ w,(isAgg 26).run Tryz.prog w=.ok true w:=fun w=>FZ w
    have zE:∀ w,(Go.sizeOf 26).run Tryz.prog w=.ok 2 w:=fun w=>DB w
    have eg:∀ args w,(callFunc 72 args).run Tryz.prog w=.ok (.enter 72 args) w:=enters_of Tryz.func72 (by kernel_rfl) rfl
    have hcall:=Tryz.sortF_eq 2 aE zE encF (fun _=>rfl) (fun x v hv=>by simp [encF] at hv;rcases hv with rfl|rfl<;>rfl) cfF swoF 72 #[] g 0 cap xs.toArray (dr w d) eg (cmpLaysF g 0 _ _) hH hb.lt (by simpa using hl)
    have e1:xs.toArray.size=xs.length:=by simp
    rw [e1] at hcall
    refine hcall.mono fun e w' ⟨he,n,os,hw⟩=>⟨_,w',w'.drawn,he,rfl,upO O w.heap.size (fun _=>0),?_,?_⟩
    · subst hw
      refine ⟨rfl,rfl,rfl,?_,fun k hk hne=>⟨?_,DP hk⟩⟩
      · show w.heap.size≤((w.heap.modify g _) ++ os).size
        simp
      · have hkg:g≠k:=fun e=>hne (by rw [← e];exact hR.2.1 g rfl)
        show ((w.heap.modify g _) ++ os)[k]?=_
        rw [Array.getElem?_append_left (by simpa using hk),Array.getElem?_modify,if_neg hkg]
    · have hpd:pdq (ltOf cfF) xs.toArray 0 xs.length (Lib.bitLen xs.length) true true=(AY xs).toArray:=by simp [AY]
      rw [hpd] at hw
      have hsl:=CJ xs
      have hf2:=flatF (AY xs)
      have hblk:Blk w' g 26 ((AY xs).flatMap encF ++ sp):=by
        subst hw
        unfold Blk at hb ⊢
        have hsz:g < w.heap.size:=Blk.lt hb
        show ((w.heap.modify g _) ++ os)[g]?=_
        rw [Array.getElem?_append_left (by simpa using hsz),Array.getElem?_modify,if_pos rfl,hb]
        simp only [Option.map_some,Go.Sort.onCells]
        congr 2
        apply Array.ext
        · simp only [Go.Sort.putCells,Array.size_mapIdx,List.size_toArray,List.length_append,Et,hsl]
        · intro i h1 h2
          simp only [Go.Sort.putCells,Array.getElem_mapIdx,Nat.zero_add,Nat.sub_zero,Nat.zero_le,true_and]
          have e2:(flatK encF 2 (AY xs).toArray).size=xs.length * 2:=by rw [size_flatK];simp [hsl]
          by_cases hi:i < xs.length * 2
          · rw [if_pos (by rw [e2];exact hi)]
            simp only [List.getElem_toArray]
            rw [List.getElem_append_left (by rw [Et,hsl];exact hi)]
            rw [getElem!_pos _ _ (by rw [e2];exact hi)]
            have:=congrArg (·[i]?) hf2
            simp only [Array.getElem?_toList] at this
            rw [Array.getElem?_eq_getElem (by rw [e2];exact hi),List.getElem?_eq_getElem (by rw [Et,hsl];exact hi)] at this
            exact Option.some.inj this
          · rw [if_neg (by rw [e2];exact hi)]
            simp only [List.getElem_toArray]
            rw [List.getElem_append_right (by rw [Et];omega),List.getElem_append_right (by rw [Et,hsl];omega)]
            simp only [Et,hsl]
      have hS:∀ k,Fr 0 w O k→Fr 0 w' (upO O w.heap.size fun _=>0) k:=fun k hk=>⟨by subst hw;show k < ((w.heap.modify g _) ++ os).size;have:=hk.1;simp;omega,(DP hk.1).trans hk.2⟩
      have:=Own.close (w:=w') (base:=0) (F:=Fr 0 w O) (cap:=cap) (Nat.zero_le _) hFg hblk (JU (F:=Fr 0 w O) (w:=w') fun x hx=>hin x ((DU xs).mem_iff.1 hx)) (by rw [hsl];exact hnc) hcm (by rw [List.length_append,Et] at htot ⊢;rw [hsl];exact htot)
      rw [hsl] at this
      exact this.rw hS (fun g' hg'=>by
        have:g=g':=by simpa [Value.ownBlock] using hg'
        subst this
        exact (DP hb.lt).trans (hR.2.1 g rfl)) hR.2.2
end
section
open Go Go.RowKit
attribute [local irreducible] ewp owp hwp hwq Ev Evg Fn retPost Res1
noncomputable def BX (x0:Swp) (x1:List Fct):Option (List Fct) :=
  bnd (rng (ρ:=(List Fct)) (fun (k29:Nat) (a30:Fct) (s27:(List Fct))=>bnd (atI x0.vars a30.var) fun a60=>bnd (atI x0.vals a30.var) fun a72=>bnd (atI a72 a30.val) fun a87=>bnd (appI 16 s27 [(⟨a60,a87⟩:Fct)]) fun u105=>some (.next u105)) x1 0 ([]:List Fct)) fun res25=>fin res25 fun (s120:(List Fct))=>bnd (if s120.length < 4611686018427387904 then some (AY s120) else none) fun u127=>some u127
theorem DA {w:World} {A:Nat→Prop} (hA:∀ k,A k→k < w.heap.size) {vx0:Value} {x0:Swp} (v0:Vb w A vx0 x0) {vx1:Value} {x1:List Fct} (d0:Vb w A vx1 x1) {r:(List Fct)} (hm:BX x0 x1=some r) :
    Fn Tryz.prog 54 [vx0,vx1] w fun v w'=>Ext w w'∧Vb w' (upA A w w') v r:=by
 obtain ⟨O,hB,j2⟩:=enter hA
 replace v0:=v0.mono j2
 obtain ⟨w3,rfl,v4,v5,v6,rfl,h7,g0,j0⟩:=v0
 obtain ⟨A8,c9,rfl⟩:=h7.form
 obtain ⟨w0,y0,rfl⟩:=g0.form
 obtain ⟨z0,a1,rfl⟩:=j0.form
 replace d0:=d0.mono j2
 obtain ⟨k2,l2,rfl⟩:=d0.form
 refine AP Tryz.func54 rfl Tryz.ntmps54 rfl ?_
 unfold BX at hm
 refine Ab (Aa (BC 2 O rfl rfl fun b1 o2 m2 p0 h0=>?_))
 replace h0:Lc 2 o2 m2 b1 43 [(.slice A8 x0.vars.length c9),(.slice w0 x0.vals.length y0),(.slice z0 x0.ops.length a1)]:=h0
 refine Am rfl rfl (o_z ?_)
 refine Ab (Aa (Am rfl rfl (o_z ?_)))
 refine Ab (Ab (Aa (Aj rfl rfl (AX rfl rfl ?_))))
 replace d0:=d0.st p0
 have c1:x1.length≤9223372036854775807:=Nat.le_trans d0.len.2.1 d0.len.2.2
 have x3:inI64 (x1.length:Int):=rngNat c1
 refine Aj rfl rfl (o_z ?_)
 obtain ⟨q0,d1,hm⟩:=bs hm
 refine Ax (aft q0 (fun (i0:(List Fct)) (e0:(Option Addr×Nat))=>[(5,(.slice e0.1 i0.length e0.2))]) (fun i0 e0 w'=>∃ O':Lab,Bs w A w' O'∧Rw 5 w' O' 26 (.slice e0.1 i0.length e0.2) i0)) ?_ ?_
 ·
  refine AG ?_
  replace hB:=hB.st p0
  replace h7:=h7.st p0
  replace g0:=g0.st p0
  replace j0:=j0.st p0
  refine Bk (σ:=(List Fct)) (X:=(Option Addr×Nat)) (x1.length) d1 rfl c1 (fun (i0:(List Fct)) (e0:(Option Addr×Nat))=>[(2,(.pointer (some ⟨b1,0,none⟩))),(5,(.slice e0.1 i0.length e0.2)),(8,(.slice k2 x1.length l2))]) _ (fun i0 e0 w'=>∃ O':Lab,Bs w A w' O'∧Lc 2 w' O' b1 43 [(.slice A8 x0.vars.length c9),(.slice w0 x0.vals.length y0),(.slice z0 x0.ops.length a1)]∧Vb w' (Fr 0 w' O') (.slice A8 x0.vars.length c9) x0.vars∧Vb w' (Fr 0 w' O') (.slice w0 x0.vals.length y0) x0.vals∧Vb w' (Fr 0 w' O') (.slice z0 x0.ops.length a1) x0.ops∧Rw 5 w' O' 26 (.slice e0.1 i0.length e0.2) i0∧Vb w' (Fr 0 w' O') (.slice k2 x1.length l2) x1) _ (none,0) ⟨m2,hB,h0,h7,g0,j0,(Rw.nil 5 (by decide)),d0⟩ ⟨rfl,rfl,rfl,rfl,rfl,trivial⟩ (fun _ _=>⟨rfl,rfl⟩) (fun _ _=>⟨rfl,trivial⟩) (fun _ _ _ ⟨O',hB,h0,h7,g0,j0,f0,d0⟩=>⟨O',hB,f0⟩) ⟨rfl,rfl,rfl⟩ ⟨rfl,rfl⟩ ?_
  rintro p2 n2 i0 e0 y3 q2 r0 ⟨r2,hB,h0,h7,g0,j0,f0,d0⟩ a0 e1 f1
  have rk29:inI64 (p2:Int):=rngK r0 c1
  refine Ab (Aa ?_)
  obtain ⟨z3,a4,s2,g1,h1,i1,rfl,b4,c4⟩:=d0.elem' r0
  refine Bv (hA:=g1) (hj:=rfl) (hlt:=h1) rfl rfl rfl ?_
  refine Ba (hl:=rfl) (hc:=i1) rfl rfl ?_
  refine Bd 3 r2 rfl fun t2 d4 j1 k0 l0=>?_
  refine AD l0 rfl rfl rfl (AU rfl) (allOne rfl) fun u2 m0 l0=>?_
  replace l0:Lc 3 u2 j1 t2 26 [(.int .i64 n2.var),(.int .i64 n2.val)]:=l0
  refine o_z ?_
  refine Bc [(19,[5])] j1 ?_
  refine Az (fuel:=3) [] [(0,true),(1,true),(2,true),(3,true),(4,true),(5,true),(6,true),(7,true),(8,true),(9,true),(10,true),(11,true),(12,true),(13,true),(14,true),(15,true),(16,true),(17,true)] (by kernel_rfl) rfl ?_
  refine AH rfl rfl rfl (AM rfl rfl rfl ?_)
  replace h0:=(h0.st k0).st m0
  refine AK (hc:=fun w' ⟨O',hq⟩=>Blk.cell (i:=0) ((h0.st hq (by decide)).1) rfl) rfl rfl rfl ?_
  refine AM rfl rfl rfl (AK (hc:=fun w' ⟨O',hq⟩=>Blk.cell (i:=0) ((l0.st hq (by decide)).1) rfl) rfl rfl rfl ?_)
  obtain ⟨k1,v2,a0⟩:=bs a0
  obtain ⟨w2,x2⟩:=AO v2
  replace h7:=(h7.st k0).st m0
  obtain ⟨e4,f4,y2,l1,m1,n1,o1,rfl,z2⟩:=h7.elem x2
  refine Bl (hA:=l1) (hj:=(Int.toNat_of_nonneg w2).symm) (hlt:=n1) rfl rfl rfl rfl ?_
  refine AK (hc:=fun w' ⟨O',hq⟩=>cat0 (AL (hq.agree (i:=0) (by decide)) m1 o1)) rfl rfl rfl ?_
  refine AM rfl rfl rfl (AK (hc:=fun w' ⟨O',hq⟩=>Blk.cell (i:=1) ((h0.st hq (by decide)).1) rfl) rfl rfl rfl ?_)
  refine AM rfl rfl rfl (AK (hc:=fun w' ⟨O',hq⟩=>Blk.cell (i:=0) ((l0.st hq (by decide)).1) rfl) rfl rfl rfl ?_)
  obtain ⟨g4,a3,a0⟩:=bs a0
  obtain ⟨b3,c3⟩:=AO a3
  replace g0:=(g0.st k0).st m0
  obtain ⟨h4,i4,d3,p1,q1,r1,s1,j4,rfl,u0⟩:=g0.elem c3
  replace u0:=Vb.of_slice u0
  obtain ⟨k4,l4,rfl⟩:=u0.form
  refine Bl (hA:=p1) (hj:=(Int.toNat_of_nonneg b3).symm) (hlt:=r1) rfl rfl rfl rfl ?_
  refine AK (hc:=fun w' ⟨O',hq⟩=>cat0 (AL (hq.agree (i:=0) (by decide)) q1 s1)) rfl rfl rfl ?_
  refine AM rfl rfl rfl (AK (hc:=fun w' ⟨O',hq⟩=>Blk.cell (i:=1) ((l0.st hq (by decide)).1) rfl) rfl rfl rfl ?_)
  obtain ⟨t1,e3,a0⟩:=bs a0
  obtain ⟨f3,g3⟩:=AO e3
  obtain ⟨m4,n4,h3,u1,v1,w1,y1,rfl,i3⟩:=u0.elem g3
  refine Bl (hA:=u1) (hj:=(Int.toNat_of_nonneg f3).symm) (hlt:=w1) rfl rfl rfl rfl ?_
  refine AK (hc:=fun w' ⟨O',hq⟩=>cat0 (AL (hq.agree (i:=0) (by decide)) v1 y1)) rfl rfl rfl ?_
  refine Ft rfl rfl rfl rfl ?_
  refine As ?_
  refine Au (i:=18) (by kernel_rfl) rfl ?_
  refine Bi 4 (by decide) j1 (xs:=([(⟨k1,t1⟩:Fct)]:List Fct)) rfl rfl rfl rfl ⟨(Vb.ofAgg (cs:=[(.int .i64 k1),(.int .i64 t1)]) (x:=(⟨k1,t1⟩:Fct)) rfl ⟨rfl,z2,i3⟩),trivial⟩ (by decide) (by decide) rfl fun o4 j3 k3 b0 z1=>?_
  have hZ:=b0.lst [] (fun _ h=>h.elim)
  refine Ay [(19,[5])] hZ (by kernel_rfl) ?_
  refine Au (i:=19) (by kernel_rfl) rfl ?_
  obtain ⟨l3,n0,a0⟩:=bs a0
  obtain ⟨n0,a2,b2⟩:=AT n0
  replace f0:=((f0.st k0).st m0).st b0
  refine BP rfl f0 (z1.rd) rfl rfl (by decide) a2 b2 rfl fun c2 d2 m3 n3 c0 s0=>?_
  rw [← n0] at s0 ⊢
  have hZ:=c0.lst [5] (fun _ h=>by cases h;decide)
  refine Ay [] hZ (by kernel_rfl) ?_
  refine Az (fuel:=0) [] [(20,true)] (by kernel_rfl) rfl ?_
  refine Eh rfl rfl rfl (As ?_)
  refine AZ (by kernel_rfl) ?_
  obtain rfl:=sm a0
  exact show Exists _ from ⟨_,(c2,d2),rfl,⟨rfl,rfl,rfl,rfl,rfl,trivial⟩,_,(((hB.st k0).st m0).st b0).st c0,(h0.st b0).st c0,(h7.st b0).st c0,(g0.st b0).st c0,(((j0.st k0).st m0).st b0).st c0,s0,(((d0.st k0).st m0).st b0).st c0⟩
 replace hB:=hB.st p0
 rintro o3 p3 ⟨q3,r3,rfl,t0,s3,hB,f0⟩
 replace hm:=AV hm
 refine AE _ t0 ?_
 refine Ab (Aa (Aj rfl rfl ?_))
 obtain ⟨t3,o0,hm⟩:=bs hm
 obtain ⟨e2,o0⟩:=DH o0
 refine Om (Hz f0 e2) rfl rfl fun u3 f2 v3 g2 f0=>?_
 rw [o0] at f0
 refine o_z ?_
 refine Ab (Aa (Aj rfl rfl (Am rfl rfl (o_z ?_))))
 refine AF ?_
 obtain ⟨h2,i2,f0⟩:=f0.freeze
 obtain rfl:=sm hm
 replace hB:=(hB.st g2).st i2
 exact ret1v rfl (AC rfl) ⟨hB.ext,(Vb.mono (F:=Fr 0 f2 h2) f0 hB.out)⟩
noncomputable def CN (x0:Swp) (x1:Opr):Option Opr :=
  bnd (BX x0 x1.pre) fun q42=>bnd (some q42:Option (List Fct)) fun y44=>bnd (rng (ρ:=Opr) (fun (k88:Nat) (a89:Eff) (s86:(List Eff))=>bnd (atI x0.vars a89.var) fun a123=>bnd (atI x0.vals a89.var) fun a135=>bnd (atI a135 a89.val) fun a150=>bnd (BX x0 a89.cond) fun q162=>bnd (appI 40 s86 [(⟨q162,a123,a150⟩:Eff)]) fun u177=>some (.next u177)) x1.effs 0 ([]:List Eff)) fun res84=>fin res84 fun (s194:(List Eff))=>some (⟨(⟨#[]⟩:ByteArray),x1.cost,y44,s194⟩:Opr)
theorem Fk {w:World} {A:Nat→Prop} (hA:∀ k,A k→k < w.heap.size) {vx0:Value} {x0:Swp} (b3:Vb w A vx0 x0) {vx1:Value} {x1:Opr} (c3:Vb w A vx1 x1) {r:Opr} (hm:CN x0 x1=some r) :
    Fn Tryz.prog 56 [vx0,vx1] w fun v w'=>Ext w w'∧Vb w' (upA A w w') v r:=by
 obtain ⟨O,hB,o4⟩:=enter hA
 replace b3:=b3.mono o4
 obtain ⟨s6,rfl,v4,v5,v6,rfl,h7,j0,l0⟩:=b3
 obtain ⟨A8,c9,rfl⟩:=h7.form
 obtain ⟨l1,m1,rfl⟩:=j0.form
 obtain ⟨n1,o1,rfl⟩:=l0.form
 replace c3:=c3.mono o4
 obtain ⟨f5,rfl,t6,u6,rfl,v0,t0,g5,w6⟩:=c3
 obtain ⟨d3,e3,rfl⟩:=v0.form
 obtain ⟨y1,z1,rfl⟩:=t0.form
 refine AP Tryz.func56 rfl Tryz.ntmps56 rfl ?_
 unfold CN at hm
 refine Ab (Aa (BC 2 O rfl rfl fun a2 h5 p4 o0 m0=>?_))
 replace m0:Lc 2 h5 p4 a2 43 [(.slice A8 x0.vars.length c9),(.slice l1 x0.vals.length m1),(.slice n1 x0.ops.length o1)]:=m0
 refine BC 3 p4 rfl rfl fun f3 i5 q4 k0 w0=>?_
 replace w0:Lc 3 i5 q4 f3 35 [(.string x1.name),(.int .i64 x1.cost),(.slice d3 x1.pre.length e3),(.slice y1 x1.effs.length z1)]:=w0
 refine Bd 4 q4 rfl fun p1 x6 g3 h0 q0=>?_
 refine o_z ?_
 refine Ab ?_
 obtain ⟨a3,r4,hm⟩:=bs hm
 obtain ⟨s0,b2,hm⟩:=bs hm
 refine Ax (fun l' w'=>∃ (a0:Nat×(Option Addr×Nat)) (O':Lab),subs l' [(2,(.pointer (some ⟨a2,0,none⟩))),(3,(.pointer (some ⟨f3,0,none⟩))),(4,(.pointer (some ⟨p1,0,none⟩))),(5,(.pointer (some ⟨a0.1,0,none⟩)))]∧Bs w A w' O'∧Lc 2 w' O' a2 43 [(.slice A8 x0.vars.length c9),(.slice l1 x0.vals.length m1),(.slice n1 x0.ops.length o1)]∧Vb w' (Fr 0 w' O') (.slice A8 x0.vars.length c9) x0.vars∧Vb w' (Fr 0 w' O') (.slice l1 x0.vals.length m1) x0.vals∧Vb w' (Fr 0 w' O') (.slice n1 x0.ops.length o1) x0.ops∧Lc 3 w' O' f3 35 [(.string x1.name),(.int .i64 x1.cost),(.slice d3 x1.pre.length e3),(.slice y1 x1.effs.length z1)]∧Vb w' (Fr 0 w' O') (.slice d3 x1.pre.length e3) x1.pre∧Vb w' (Fr 0 w' O') (.slice y1 x1.effs.length z1) x1.effs∧Lc 4 w' O' p1 35 [(.string (⟨#[]⟩:ByteArray)),(.int .i64 0),(.slice none 0 0),(.slice none 0 0)]∧Lc 5 w' O' a0.1 35 [(.string (⟨#[]⟩:ByteArray)),(.int .i64 x1.cost),(.slice a0.2.1 s0.length a0.2.2),(.slice none 0 0)]∧Vb w' (Fr 0 w' O') (.slice a0.2.1 s0.length a0.2.2) s0) ?_ ?_
 ·
  refine Bc [] g3 ?_
  refine Az (fuel:=4) [] [(0,true),(1,true),(2,true),(3,true),(4,true)] (by kernel_rfl) rfl ?_
  refine AM rfl rfl rfl ?_
  replace w0:=w0.st h0
  refine AK (hc:=fun w' ⟨O',hq⟩=>Blk.cell (i:=1) ((w0.st hq (by decide)).1) rfl) rfl rfl rfl ?_
  replace m0:=(m0.st k0).st h0
  refine Cl (hl:=rfl) (hb:=fun w' ⟨O',hq⟩=>((m0.st hq (by decide)).1).cellsAt) rfl rfl rfl ?_
  refine AM rfl rfl rfl (AK (hc:=fun w' ⟨O',hq⟩=>Blk.cell (i:=2) ((w0.st hq (by decide)).1) rfl) rfl rfl rfl ?_)
  refine As ?_
  refine Dk (i:=5) (j:=7) (by kernel_rfl) rfl rfl ?_ ?_
  ·
   replace h7:=((h7.st o0).st k0).st h0
   replace j0:=((j0.st o0).st k0).st h0
   replace l0:=((l0.st o0).st k0).st h0
   replace v0:=((v0.st o0).st k0).st h0
   refine BQ (O:=g3) (R:=fun w' F v=>Vb w' F v a3) (DA Fr.lt (Vb.ofAgg (cs:=[(.slice A8 x0.vars.length c9),(.slice l1 x0.vals.length m1),(.slice n1 x0.ops.length o1)]) (x:=x0) rfl ⟨_,_,_,rfl,h7,j0,l0⟩) v0 r4) rfl rfl fun y6 z6 j5 b1 s4=>?_
   obtain ⟨t4,u4,rfl⟩:=s4.form
   have hZ:=b1.lst [] (fun _ h=>h.elim)
   refine Ay [] hZ (by kernel_rfl) ?_
   refine Az (fuel:=2) [] [(6,true)] (by kernel_rfl) rfl ?_
   refine Ft rfl rfl rfl rfl ?_
   refine As ?_
   refine Au (i:=7) (by kernel_rfl) rfl ?_
   refine Bd 5 j5 rfl fun w4 a7 k5 z0 c2=>?_
   have hZ:=z0.lst [] (fun _ h=>h.elim)
   refine Ay [] hZ (by kernel_rfl) ?_
   refine Au (i:=8) (by kernel_rfl) rfl ?_
   refine AD c2 rfl rfl rfl (AU rfl) (allOne rfl) fun l5 c1 c2=>?_
   replace c2:Lc 5 l5 k5 w4 35 [(.string (⟨#[]⟩:ByteArray)),(.int .i64 x1.cost),(.slice t4 a3.length u4),(.slice none 0 0)]:=c2
   refine BK (by kernel_rfl) ?_
   refine AZ (by kernel_rfl) ?_
   obtain rfl:=sm b2
   exact ⟨(w4,(t4,u4)),_,⟨rfl,rfl,rfl,rfl,trivial⟩,(((((hB.st o0).st k0).st h0).st b1).st z0).st c1,((m0.st b1).st z0).st c1,((h7.st b1).st z0).st c1,((j0.st b1).st z0).st c1,((l0.st b1).st z0).st c1,((w0.st b1).st z0).st c1,((v0.st b1).st z0).st c1,(((((t0.st o0).st k0).st h0).st b1).st z0).st c1,((q0.st b1).st z0).st c1,c2,(s4.st z0).st c1⟩
  refine Bd 5 g3 rfl fun x4 b7 m5 d1 q1=>?_
  have hZ:=d1.lst [] (fun _ h=>h.elim)
  refine Ay [] hZ (by kernel_rfl) ?_
  refine Au (i:=5) (by kernel_rfl) rfl ?_
  replace h7:=(((h7.st o0).st k0).st h0).st d1
  replace j0:=(((j0.st o0).st k0).st h0).st d1
  replace l0:=(((l0.st o0).st k0).st h0).st d1
  replace v0:=(((v0.st o0).st k0).st h0).st d1
  refine BQ (O:=m5) (R:=fun w' F v=>Vb w' F v a3) (DA Fr.lt (Vb.ofAgg (cs:=[(.slice A8 x0.vars.length c9),(.slice l1 x0.vals.length m1),(.slice n1 x0.ops.length o1)]) (x:=x0) rfl ⟨_,_,_,rfl,h7,j0,l0⟩) v0 r4) rfl rfl fun c7 d7 n5 a1 y4=>?_
  obtain ⟨z4,a5,rfl⟩:=y4.form
  have hZ:=a1.lst [] (fun _ h=>h.elim)
  refine Ay [] hZ (by kernel_rfl) ?_
  refine Az (fuel:=1) [] [(6,true)] (by kernel_rfl) rfl ?_
  refine Ft rfl rfl rfl rfl ?_
  refine As ?_
  refine Au (i:=8) (by kernel_rfl) rfl ?_
  replace q1:=q1.st a1
  refine AD q1 rfl rfl rfl (AU rfl) (allOne rfl) fun o5 e1 q1=>?_
  replace q1:Lc 5 o5 n5 x4 35 [(.string (⟨#[]⟩:ByteArray)),(.int .i64 x1.cost),(.slice z4 a3.length a5),(.slice none 0 0)]:=q1
  refine BK (by kernel_rfl) ?_
  refine AZ (by kernel_rfl) ?_
  obtain rfl:=sm b2
  exact ⟨(x4,(z4,a5)),_,⟨rfl,rfl,rfl,rfl,trivial⟩,(((((hB.st o0).st k0).st h0).st d1).st a1).st e1,((m0.st d1).st a1).st e1,(h7.st a1).st e1,(j0.st a1).st e1,(l0.st a1).st e1,((w0.st d1).st a1).st e1,(v0.st a1).st e1,(((((t0.st o0).st k0).st h0).st d1).st a1).st e1,((q0.st d1).st a1).st e1,q1,y4.st e1⟩
 replace hB:=((hB.st o0).st k0).st h0
 replace h7:=((h7.st o0).st k0).st h0
 replace j0:=((j0.st o0).st k0).st h0
 replace l0:=((l0.st o0).st k0).st h0
 replace v0:=((v0.st o0).st k0).st h0
 replace t0:=((t0.st o0).st k0).st h0
 replace m0:=(m0.st k0).st h0
 replace w0:=w0.st h0
 rintro e7 f7 ⟨a0,p5,h3,hB,m0,h7,j0,l0,w0,v0,t0,q0,r0,g1⟩
 refine AE _ h3 ?_
 refine Ab (Ab (Aa (AS rfl rfl (AJ (hc:=Blk.cell (i:=3) (w0.1) rfl) rfl rfl ?_))))
 refine AX rfl rfl ?_
 have i3:x1.effs.length≤9223372036854775807:=Nat.le_trans t0.len.2.1 t0.len.2.2
 have g7:inI64 (x1.effs.length:Int):=rngNat i3
 refine Aj rfl rfl (o_z ?_)
 obtain ⟨d2,j3,hm⟩:=bs hm
 refine Ax (aft d2 (fun (f1:(List Eff)) (y0:(Option Addr×Nat))=>[(4,(.pointer (some ⟨p1,0,none⟩))),(5,(.pointer (some ⟨a0.1,0,none⟩)))]) (fun f1 y0 w'=>∃ O':Lab,Bs w A w' O'∧Lc 4 w' O' p1 35 [(.string (⟨#[]⟩:ByteArray)),(.int .i64 0),(.slice none 0 0),(.slice none 0 0)]∧Lc 5 w' O' a0.1 35 [(.string (⟨#[]⟩:ByteArray)),(.int .i64 x1.cost),(.slice a0.2.1 s0.length a0.2.2),(.slice y0.1 f1.length y0.2)]∧Vb w' (Fr 0 w' O') (.slice a0.2.1 s0.length a0.2.2) s0∧Rw 8 w' O' 32 (.slice y0.1 f1.length y0.2) f1)) ?_ ?_
 ·
  refine AG (Bk (σ:=(List Eff)) (X:=(Option Addr×Nat)) (x1.effs.length) j3 rfl i3 (fun (f1:(List Eff)) (y0:(Option Addr×Nat))=>[(2,(.pointer (some ⟨a2,0,none⟩))),(4,(.pointer (some ⟨p1,0,none⟩))),(5,(.pointer (some ⟨a0.1,0,none⟩))),(16,(.slice y1 x1.effs.length z1))]) _ (fun f1 y0 w'=>∃ O':Lab,Bs w A w' O'∧Lc 2 w' O' a2 43 [(.slice A8 x0.vars.length c9),(.slice l1 x0.vals.length m1),(.slice n1 x0.ops.length o1)]∧Vb w' (Fr 0 w' O') (.slice A8 x0.vars.length c9) x0.vars∧Vb w' (Fr 0 w' O') (.slice l1 x0.vals.length m1) x0.vals∧Vb w' (Fr 0 w' O') (.slice n1 x0.ops.length o1) x0.ops∧Lc 4 w' O' p1 35 [(.string (⟨#[]⟩:ByteArray)),(.int .i64 0),(.slice none 0 0),(.slice none 0 0)]∧Lc 5 w' O' a0.1 35 [(.string (⟨#[]⟩:ByteArray)),(.int .i64 x1.cost),(.slice a0.2.1 s0.length a0.2.2),(.slice y0.1 f1.length y0.2)]∧Vb w' (Fr 0 w' O') (.slice a0.2.1 s0.length a0.2.2) s0∧Rw 8 w' O' 32 (.slice y0.1 f1.length y0.2) f1∧Vb w' (Fr 0 w' O') (.slice y1 x1.effs.length z1) x1.effs) _ (none,0) ⟨p5,hB,m0,h7,j0,l0,q0,r0,g1,(Rw.nil 8 (by decide)),t0⟩ ⟨rfl,rfl,rfl,rfl,rfl,rfl,trivial⟩ (fun _ _=>⟨rfl,rfl⟩) (fun _ _=>⟨rfl,rfl,trivial⟩) (fun _ _ _ ⟨O',hB,m0,h7,j0,l0,q0,r0,g1,b0,t0⟩=>⟨O',hB,q0,r0,g1,b0⟩) ⟨rfl,rfl,rfl⟩ ⟨rfl,rfl⟩ ?_)
  rintro q5 k3 f1 y0 i7 r5 e2 ⟨s5,hB,m0,h7,j0,l0,q0,r0,g1,b0,t0⟩ c0 l3 m3
  have rk88:inI64 (q5:Int):=rngK e2 i3
  refine Ab (Aa ?_)
  obtain ⟨t5,u5,b5,f2,g2,h2,w5,rfl,h1,x5,y5⟩:=t0.elem' e2
  obtain ⟨n3,o3,rfl⟩:=h1.form
  refine Bv (hA:=f2) (hj:=rfl) (hlt:=g2) rfl rfl rfl ?_
  refine Ba (hl:=rfl) (hc:=h2) rfl rfl ?_
  refine Bd 6 s5 rfl fun p3 z5 r1 d0 p0=>?_
  refine AD p0 rfl rfl rfl (AU rfl) (allOne rfl) fun q3 e0 p0=>?_
  replace p0:Lc 6 q3 r1 p3 32 [(.slice n3 k3.cond.length o3),(.int .i64 k3.var),(.int .i64 k3.val)]:=p0
  refine o_z ?_
  refine Bc [(24,[8])] r1 ?_
  refine Az (fuel:=6) [] [(0,true),(1,true),(2,true),(3,true),(4,true),(6,true),(7,true),(8,true),(9,true),(10,true),(11,true),(12,true),(13,true),(14,true),(15,true),(16,true),(17,true),(18,true),(19,true),(20,true),(21,true)] (by kernel_rfl) rfl ?_
  refine AM rfl rfl rfl ?_
  replace r0:=(r0.st d0).st e0
  refine AK (hc:=fun w' ⟨O',hq⟩=>Blk.cell (i:=3) ((r0.st hq (by decide)).1) rfl) rfl rfl rfl ?_
  replace m0:=(m0.st d0).st e0
  refine Cl (hl:=rfl) (hb:=fun w' ⟨O',hq⟩=>((m0.st hq (by decide)).1).cellsAt) rfl rfl rfl ?_
  refine AM rfl rfl rfl (AK (hc:=fun w' ⟨O',hq⟩=>Blk.cell (i:=0) ((p0.st hq (by decide)).1) rfl) rfl rfl rfl ?_)
  refine AM rfl rfl rfl (AK (hc:=fun w' ⟨O',hq⟩=>Blk.cell (i:=0) ((m0.st hq (by decide)).1) rfl) rfl rfl rfl ?_)
  refine AM rfl rfl rfl (AK (hc:=fun w' ⟨O',hq⟩=>Blk.cell (i:=1) ((p0.st hq (by decide)).1) rfl) rfl rfl rfl ?_)
  obtain ⟨s1,r3,c0⟩:=bs c0
  obtain ⟨s3,t3⟩:=AO r3
  replace h7:=(h7.st d0).st e0
  obtain ⟨a6,b6,c5,i2,j2,k2,l2,rfl,u3⟩:=h7.elem t3
  refine Bl (hA:=i2) (hj:=(Int.toNat_of_nonneg s3).symm) (hlt:=k2) rfl rfl rfl rfl ?_
  refine AK (hc:=fun w' ⟨O',hq⟩=>cat0 (AL (hq.agree (i:=0) (by decide)) j2 l2)) rfl rfl rfl ?_
  refine AM rfl rfl rfl (AK (hc:=fun w' ⟨O',hq⟩=>Blk.cell (i:=1) ((m0.st hq (by decide)).1) rfl) rfl rfl rfl ?_)
  refine AM rfl rfl rfl (AK (hc:=fun w' ⟨O',hq⟩=>Blk.cell (i:=1) ((p0.st hq (by decide)).1) rfl) rfl rfl rfl ?_)
  obtain ⟨c6,v3,c0⟩:=bs c0
  obtain ⟨w3,x3⟩:=AO v3
  replace j0:=(j0.st d0).st e0
  obtain ⟨d6,e6,d5,m2,n2,o2,p2,f6,rfl,i1⟩:=j0.elem x3
  replace i1:=Vb.of_slice i1
  obtain ⟨g6,h6,rfl⟩:=i1.form
  refine Bl (hA:=m2) (hj:=(Int.toNat_of_nonneg w3).symm) (hlt:=o2) rfl rfl rfl rfl ?_
  refine AK (hc:=fun w' ⟨O',hq⟩=>cat0 (AL (hq.agree (i:=0) (by decide)) n2 p2)) rfl rfl rfl ?_
  refine AM rfl rfl rfl (AK (hc:=fun w' ⟨O',hq⟩=>Blk.cell (i:=2) ((p0.st hq (by decide)).1) rfl) rfl rfl rfl ?_)
  obtain ⟨t1,y3,c0⟩:=bs c0
  obtain ⟨z3,a4⟩:=AO y3
  obtain ⟨i6,j6,e5,q2,r2,s2,t2,rfl,b4⟩:=i1.elem a4
  refine Bl (hA:=q2) (hj:=(Int.toNat_of_nonneg z3).symm) (hlt:=s2) rfl rfl rfl rfl ?_
  refine AK (hc:=fun w' ⟨O',hq⟩=>cat0 (AL (hq.agree (i:=0) (by decide)) r2 t2)) rfl rfl rfl ?_
  refine As ?_
  refine Au (i:=5) (by kernel_rfl) rfl ?_
  obtain ⟨j1,c4,c0⟩:=bs c0
  replace l0:=(l0.st d0).st e0
  replace h1:=(h1.st d0).st e0
  refine BQ (O:=r1) (R:=fun w' F v=>Vb w' F v j1) (DA Fr.lt (Vb.ofAgg (cs:=[(.slice A8 x0.vars.length c9),(.slice l1 x0.vals.length m1),(.slice n1 x0.ops.length o1)]) (x:=x0) rfl ⟨_,_,_,rfl,h7,j0,l0⟩) h1 c4) rfl rfl fun k6 l6 d4 f0 u2=>?_
  obtain ⟨e4,f4,rfl⟩:=u2.form
  have hZ:=f0.lst [] (fun _ h=>h.elim)
  refine Ay [(24,[8])] hZ (by kernel_rfl) ?_
  refine Az (fuel:=4) [] [(22,true)] (by kernel_rfl) rfl ?_
  refine Ft rfl rfl rfl rfl ?_
  refine As ?_
  refine Au (i:=23) (by kernel_rfl) rfl ?_
  refine Bi 7 (by decide) d4 (xs:=([(⟨j1,s1,t1⟩:Eff)]:List Eff)) rfl rfl rfl rfl ⟨(Vb.ofAgg (cs:=[(.slice e4 j1.length f4),(.int .i64 s1),(.int .i64 t1)]) (x:=(⟨j1,s1,t1⟩:Eff)) rfl ⟨_,rfl,u2,u3,b4⟩),trivial⟩ (by decide) (by decide) rfl fun m6 n6 o6 g0 g4=>?_
  have hZ:=g0.lst [] (fun _ h=>h.elim)
  refine Ay [(24,[8])] hZ (by kernel_rfl) ?_
  refine Au (i:=24) (by kernel_rfl) rfl ?_
  obtain ⟨h4,u1,c0⟩:=bs c0
  obtain ⟨u1,i4,j4⟩:=AT u1
  replace b0:=(((b0.st d0).st e0).st f0).st g0
  refine BP rfl b0 (g4.rd) rfl rfl (by decide) i4 j4 rfl fun v2 w2 p6 k4 i0 x2=>?_
  rw [← u1] at x2 ⊢
  have hZ:=i0.lst [8] (fun _ h=>by cases h;decide)
  refine Ay [] hZ (by kernel_rfl) ?_
  refine Az (fuel:=1) [] [(25,true)] (by kernel_rfl) rfl ?_
  refine AM rfl rfl rfl (As ?_)
  refine Au (i:=26) (by kernel_rfl) rfl ?_
  replace r0:=((r0.st f0).st g0).st i0
  refine AD r0 rfl rfl rfl (AU rfl) (allOne rfl) fun l4 n0 r0=>?_
  replace r0:Lc 5 l4 k4 a0.1 35 [(.string (⟨#[]⟩:ByteArray)),(.int .i64 x1.cost),(.slice a0.2.1 s0.length a0.2.2),(.slice v2 h4.length w2)]:=r0
  refine BK (by kernel_rfl) ?_
  refine AZ (by kernel_rfl) ?_
  obtain rfl:=sm c0
  exact show Exists _ from ⟨_,(v2,w2),rfl,⟨rfl,rfl,rfl,rfl,rfl,rfl,trivial⟩,_,(((((hB.st d0).st e0).st f0).st g0).st i0).st n0,(((m0.st f0).st g0).st i0).st n0,(((h7.st f0).st g0).st i0).st n0,(((j0.st f0).st g0).st i0).st n0,(((l0.st f0).st g0).st i0).st n0,(((((q0.st d0).st e0).st f0).st g0).st i0).st n0,r0,(((((g1.st d0).st e0).st f0).st g0).st i0).st n0,x2.st n0,(((((t0.st d0).st e0).st f0).st g0).st i0).st n0⟩
 rintro q6 r6 ⟨k1,u0,rfl,y2,m4,hB,q0,r0,g1,b0⟩
 replace hm:=AV hm
 refine AE _ y2 ?_
 refine Ab (Aa (Ba (hl:=rfl) (hc:=(r0.1).cellsAt) rfl rfl ?_))
 refine AD q0 rfl rfl rfl (AU rfl) (allOne rfl) fun z2 v1 q0=>?_
 replace q0:Lc 4 z2 m4 p1 35 [(.string (⟨#[]⟩:ByteArray)),(.int .i64 x1.cost),(.slice a0.2.1 s0.length a0.2.2),(.slice u0.1 k1.length u0.2)]:=q0
 refine o_z ?_
 refine AF ?_
 replace b0:=b0.st v1
 obtain ⟨n4,w1,b0⟩:=b0.freeze
 obtain rfl:=sm hm
 replace hB:=(hB.st v1).st w1
 replace q0:=q0.st w1
 replace g1:=(g1.st v1).st w1
 exact ret1v rfl (CK (cs:=[(.string (⟨#[]⟩:ByteArray)),(.int .i64 x1.cost),(.slice a0.2.1 s0.length a0.2.2),(.slice u0.1 k1.length u0.2)]) rfl rfl q0.1.cellsAt) ⟨hB.ext,(Vb.mono (F:=Fr 0 z2 n4) (Vb.ofAgg (cs:=[(.string (⟨#[]⟩:ByteArray)),(.int .i64 x1.cost),(.slice a0.2.1 s0.length a0.2.2),(.slice u0.1 k1.length u0.2)]) (x:=(⟨(⟨#[]⟩:ByteArray),x1.cost,s0,k1⟩:Opr)) rfl ⟨_,_,rfl,g1,b0,g5,(show (⟨#[]⟩:ByteArray).size≤9223372036854775807 from by decide)⟩) hB.out)⟩
noncomputable def Dy (x0:Tsk) (x1:Swp):Option Bool :=
  bnd (bnd (DI x0 x1) fun q47=>if q47=true then bnd (BU x1.ops (x0.ops.length:Int)) fun q56=>if q56=true then bnd (BX x1 x0.goal) fun q63=>bnd (Bo q63 x0.goal) fun q72=>if q72=true then some false else some true else some true else some true:Option Bool) fun y43=>if y43=true then (some false) else (bnd (rng (ρ:=Bool) (fun (k90:Nat) (a91:Opr) (s88:Unit)=>bnd (x1.ops[k90]?) fun a125=>bnd (atI x0.ops a125) fun a135=>bnd (CN x1 a91) fun q156=>bnd (Cm q156 a135) fun q174=>if q174=true then some (.next ()) else some (.ret false)) x0.ops 0 ()) fun res86=>fin res86 fun (s185:Unit)=>some true)
theorem HP {w:World} {A:Nat→Prop} (hA:∀ k,A k→k < w.heap.size) {vx0:Value} {x0:Tsk} (w2:Vb w A vx0 x0) {vx1:Value} {x1:Swp} (x2:Vb w A vx1 x1) {r:Bool} (hm:Dy x0 x1=some r) :
    Fn Tryz.prog 27 [vx0,vx1] w fun v w'=>Ext w w'∧Vb w' (upA A w w') v r:=by
 obtain ⟨O,hB,d4⟩:=enter hA
 replace w2:=w2.mono d4
 obtain ⟨i6,rfl,v4,v5,v6,v7,rfl,h8,t0,m0,h0⟩:=w2
 obtain ⟨A9,p1,rfl⟩:=h8.form
 obtain ⟨q1,r1,rfl⟩:=t0.form
 obtain ⟨s1,t1,rfl⟩:=m0.form
 obtain ⟨j1,k1,rfl⟩:=h0.form
 replace x2:=x2.mono d4
 obtain ⟨p4,rfl,j6,k6,l6,rfl,n0,o0,i0⟩:=x2
 obtain ⟨d1,e1,rfl⟩:=n0.form
 obtain ⟨f1,g1,rfl⟩:=o0.form
 obtain ⟨h1,i1,rfl⟩:=i0.form
 refine AP Tryz.func27 rfl Tryz.ntmps27 rfl ?_
 unfold Dy at hm
 refine Ab (Aa (BC 2 O rfl rfl fun u1 q4 e4 s0 e0=>?_))
 replace e0:Lc 2 q4 e4 u1 30 [(.slice A9 x0.vars.length p1),(.slice q1 x0.init.length r1),(.slice s1 x0.goal.length t1),(.slice j1 x0.ops.length k1)]:=e0
 refine BC 3 e4 rfl rfl fun v1 t2 w1 p0 l0=>?_
 replace l0:Lc 3 t2 w1 v1 43 [(.slice d1 x1.vars.length e1),(.slice f1 x1.vals.length g1),(.slice h1 x1.ops.length i1)]:=l0
 refine Am rfl rfl (o_z ?_)
 refine Ab (Ab ?_)
 obtain ⟨r4,a0,hm⟩:=bs hm
 refine Ax (fun l' w'=>∃ (s4:Unit) (O':Lab),subs l' [(2,(.pointer (some ⟨u1,0,none⟩))),(3,(.pointer (some ⟨v1,0,none⟩))),(29,(.bool r4))]∧Bs w A w' O'∧Lc 2 w' O' u1 30 [(.slice A9 x0.vars.length p1),(.slice q1 x0.init.length r1),(.slice s1 x0.goal.length t1),(.slice j1 x0.ops.length k1)]∧Vb w' (Fr 0 w' O') (.slice A9 x0.vars.length p1) x0.vars∧Vb w' (Fr 0 w' O') (.slice q1 x0.init.length r1) x0.init∧Vb w' (Fr 0 w' O') (.slice s1 x0.goal.length t1) x0.goal∧Vb w' (Fr 0 w' O') (.slice j1 x0.ops.length k1) x0.ops∧Lc 3 w' O' v1 43 [(.slice d1 x1.vars.length e1),(.slice f1 x1.vals.length g1),(.slice h1 x1.ops.length i1)]∧Vb w' (Fr 0 w' O') (.slice d1 x1.vars.length e1) x1.vars∧Vb w' (Fr 0 w' O') (.slice f1 x1.vals.length g1) x1.vals∧Vb w' (Fr 0 w' O') (.slice h1 x1.ops.length i1) x1.ops) ?_ ?_
 ·
  refine Bc [] w1 ?_
  refine Az (fuel:=21) [] [(0,true),(1,true)] (by kernel_rfl) rfl ?_
  replace e0:=e0.st p0
  refine Cl (hl:=rfl) (hb:=fun w' ⟨O',hq⟩=>((e0.st hq (by decide)).1).cellsAt) rfl rfl rfl ?_
  refine Cl (hl:=rfl) (hb:=fun w' ⟨O',hq⟩=>((l0.st hq (by decide)).1).cellsAt) rfl rfl rfl ?_
  refine As ?_
  refine Au (i:=2) (by kernel_rfl) rfl ?_
  obtain ⟨f4,t4,a0⟩:=bs a0
  replace h8:=(h8.st s0).st p0
  replace t0:=(t0.st s0).st p0
  replace m0:=(m0.st s0).st p0
  replace h0:=(h0.st s0).st p0
  replace n0:=(n0.st s0).st p0
  replace o0:=(o0.st s0).st p0
  replace i0:=(i0.st s0).st p0
  refine Bf (O:=w1) (A:=All t2) (R:=fun w' F v=>Vb w' F v f4) (Jm (fun _ h=>h) (Vb.mono (F:=Fr 0 t2 w1) (Vb.ofAgg (cs:=[(.slice A9 x0.vars.length p1),(.slice q1 x0.init.length r1),(.slice s1 x0.goal.length t1),(.slice j1 x0.ops.length k1)]) (x:=x0) rfl ⟨_,_,_,_,rfl,h8,t0,m0,h0⟩) Fr.lt) (Vb.mono (F:=Fr 0 t2 w1) (Vb.ofAgg (cs:=[(.slice d1 x1.vars.length e1),(.slice f1 x1.vals.length g1),(.slice h1 x1.ops.length i1)]) (x:=x1) rfl ⟨_,_,_,rfl,n0,o0,i0⟩) Fr.lt) t4) rfl rfl fun m6 g4 h4 b0 u4=>?_
  obtain rfl:=u4.bool
  have hZ:=b0.lst [] (fun _ h=>h.elim)
  cases f4
  case false =>
   replace a0:=iF a0
   refine Ay [] hZ (by kernel_rfl) ?_
   refine Az (fuel:=13) [] [(3,true),(4,true),(5,true),(6,true),(7,true),(8,true),(9,true)] (by kernel_rfl) rfl ?_
   refine LK rfl rfl rfl (AH rfl rfl rfl (AB rfl rfl rfl rfl rfl (AB rfl rfl rfl rfl rfl (AB rfl rfl rfl rfl rfl (AB rfl rfl rfl rfl rfl (AB rfl rfl rfl rfl rfl (As ?_)))))))
   refine Au (i:=10) (by kernel_rfl) rfl ?_
   refine An rfl rfl rfl rfl (Ay [] ((St.refl nT _ _).lst [] (fun _ h=>h.elim)) (by kernel_rfl) ?_)
   refine Az (fuel:=4) [] [(11,true),(12,true),(13,true),(14,true),(15,true),(16,true),(18,true),(19,true)] (by kernel_rfl) rfl ?_
   refine AB rfl rfl rfl rfl rfl (Ce rfl rfl rfl rfl (AH rfl rfl rfl (AB rfl rfl rfl rfl rfl (AB rfl rfl rfl rfl rfl (AB rfl rfl rfl rfl rfl (AB rfl rfl rfl rfl rfl (AB rfl rfl rfl rfl rfl (As ?_))))))))
   refine Au (i:=17) (by kernel_rfl) rfl ?_
   refine An rfl rfl rfl rfl (Ay [] ((St.refl nT _ _).lst [] (fun _ h=>h.elim)) (by kernel_rfl) ?_)
   refine Au (i:=20) (by kernel_rfl) rfl ?_
   refine An rfl rfl rfl rfl (Ay [] ((St.refl nT _ _).lst [] (fun _ h=>h.elim)) (by kernel_rfl) ?_)
   refine Az (fuel:=0) [] [(21,true),(22,true)] (by kernel_rfl) rfl ?_
   refine AB rfl rfl rfl rfl rfl (Ce rfl rfl rfl rfl (As ?_))
   refine AZ (by kernel_rfl) ?_
   obtain rfl:=sm a0
   exact ⟨(),_,⟨rfl,rfl,rfl,trivial⟩,((hB.st s0).st p0).st b0,e0.st b0,h8.st b0,t0.st b0,m0.st b0,h0.st b0,l0.st b0,n0.st b0,o0.st b0,i0.st b0⟩
  replace a0:=iT a0
  refine Ay [] hZ (by kernel_rfl) ?_
  refine Az (fuel:=13) [] [(3,true),(4,true),(5,true),(6,true),(7,true),(8,true),(9,true)] (by kernel_rfl) rfl ?_
  refine LJ rfl rfl rfl (AH rfl rfl rfl (Al rfl (Ak rfl rfl (BD rfl rfl (Al rfl (Ak rfl rfl ?_))))))
  replace l0:=l0.st b0
  refine Da (hc:=fun w' ⟨O',hq⟩=>Blk.cell (i:=2) ((l0.st hq (by decide)).1) rfl) rfl rfl ?_
  refine Al rfl (Ak rfl rfl (BD rfl rfl (Al rfl (Ak rfl rfl ?_))))
  replace e0:=e0.st b0
  refine Da (hc:=fun w' ⟨O',hq⟩=>Blk.cell (i:=3) ((e0.st hq (by decide)).1) rfl) rfl rfl ?_
  refine Al rfl (Ak rfl rfl (Ie rfl rfl ?_))
  replace h0:=h0.st b0
  have w4:x0.ops.length≤9223372036854775807:=Nat.le_trans h0.len.2.1 h0.len.2.2
  have x4:inI64 (x0.ops.length:Int):=rngNat w4
  refine As ?_
  refine Au (i:=10) (by kernel_rfl) rfl ?_
  refine Ar rfl rfl ?_
  obtain ⟨i4,y4,a0⟩:=bs a0
  replace i0:=i0.st b0
  refine Bf (O:=h4) (A:=All g4) (R:=fun w' F v=>Vb w' F v i4) (Ea (fun _ h=>h) (Vb.mono (F:=Fr 0 g4 h4) i0 Fr.lt) x4 y4) rfl rfl fun n6 o6 z4 j0 a5=>?_
  obtain rfl:=a5.bool
  have hZ:=j0.lst [] (fun _ h=>h.elim)
  cases i4
  case false =>
   replace a0:=iF a0
   refine Ay [] hZ (by kernel_rfl) ?_
   refine Az (fuel:=4) [] [(11,true),(12,true),(13,true),(14,true),(15,true),(16,true),(18,true),(19,true)] (by kernel_rfl) rfl ?_
   refine Al rfl (Ak rfl rfl (Kn rfl rfl (Cb rfl rfl rfl rfl (AH rfl rfl rfl (AB rfl rfl rfl rfl rfl (AB rfl rfl rfl rfl rfl (AB rfl rfl rfl rfl rfl (AB rfl rfl rfl rfl rfl (AB rfl rfl rfl rfl rfl (As ?_))))))))))
   refine Au (i:=17) (by kernel_rfl) rfl ?_
   refine An rfl rfl rfl rfl (Ay [] ((St.refl nT _ _).lst [] (fun _ h=>h.elim)) (by kernel_rfl) ?_)
   refine Au (i:=20) (by kernel_rfl) rfl ?_
   refine An rfl rfl rfl rfl (Ay [] ((St.refl nT _ _).lst [] (fun _ h=>h.elim)) (by kernel_rfl) ?_)
   refine Az (fuel:=0) [] [(21,true),(22,true)] (by kernel_rfl) rfl ?_
   refine AB rfl rfl rfl rfl rfl (Ce rfl rfl rfl rfl (As ?_))
   refine AZ (by kernel_rfl) ?_
   obtain rfl:=sm a0
   exact ⟨(),_,⟨rfl,rfl,rfl,trivial⟩,(((hB.st s0).st p0).st b0).st j0,e0.st j0,(h8.st b0).st j0,(t0.st b0).st j0,(m0.st b0).st j0,h0.st j0,l0.st j0,(n0.st b0).st j0,(o0.st b0).st j0,i0.st j0⟩
  replace a0:=iT a0
  refine Ay [] hZ (by kernel_rfl) ?_
  refine Az (fuel:=4) [] [(11,true),(12,true),(13,true),(14,true),(15,true),(16,true),(18,true),(19,true)] (by kernel_rfl) rfl ?_
  refine Al rfl (Ak rfl rfl (Km rfl rfl (Cb rfl rfl rfl rfl (AH rfl rfl rfl (Al rfl (Ak rfl rfl ?_))))))
  replace l0:=l0.st j0
  refine Fu (hl:=rfl) (hb:=fun w' ⟨O',hq⟩=>((l0.st hq (by decide)).1).cellsAt) rfl rfl ?_
  refine Al rfl (Ak rfl rfl (BD rfl rfl (Al rfl (Ak rfl rfl ?_))))
  replace e0:=e0.st j0
  refine Da (hc:=fun w' ⟨O',hq⟩=>Blk.cell (i:=2) ((e0.st hq (by decide)).1) rfl) rfl rfl ?_
  refine Al rfl (Ak rfl rfl (BD rfl rfl (Al rfl (Ak rfl rfl (Da (hc:=fun w' ⟨O',hq⟩=>Blk.cell (i:=2) ((e0.st hq (by decide)).1) rfl) rfl rfl ?_)))))
  refine As ?_
  refine Au (i:=17) (by kernel_rfl) rfl ?_
  refine Ar rfl rfl ?_
  obtain ⟨b5,c5,a0⟩:=bs a0
  replace m0:=(m0.st b0).st j0
  replace n0:=(n0.st b0).st j0
  replace o0:=(o0.st b0).st j0
  replace i0:=i0.st j0
  refine BQ (O:=z4) (R:=fun w' F v=>Vb w' F v b5) (DA Fr.lt (Vb.ofAgg (cs:=[(.slice d1 x1.vars.length e1),(.slice f1 x1.vals.length g1),(.slice h1 x1.ops.length i1)]) (x:=x1) rfl ⟨_,_,_,rfl,n0,o0,i0⟩) m0 c5) rfl rfl fun p6 y2 z2 r0 j4=>?_
  obtain ⟨q6,r6,rfl⟩:=j4.form
  have hZ:=r0.lst [] (fun _ h=>h.elim)
  refine Ay [] hZ (by kernel_rfl) ?_
  refine Au (i:=20) (by kernel_rfl) rfl ?_
  refine Ar rfl rfl ?_
  obtain ⟨k4,d5,a0⟩:=bs a0
  replace m0:=m0.st r0
  refine Bf (O:=z2) (A:=All y2) (R:=fun w' F v=>Vb w' F v k4) (Cg (fun _ h=>h) (Vb.mono (F:=Fr 0 y2 z2) j4 Fr.lt) (Vb.mono (F:=Fr 0 y2 z2) m0 Fr.lt) d5) rfl rfl fun s6 t6 u6 q0 e5=>?_
  obtain rfl:=e5.bool
  have hZ:=q0.lst [] (fun _ h=>h.elim)
  cases k4
  case false =>
   replace a0:=iF a0
   refine Ay [] hZ (by kernel_rfl) ?_
   refine Az (fuel:=0) [] [(21,true),(22,true)] (by kernel_rfl) rfl ?_
   refine Al rfl (Ak rfl rfl (Kn rfl rfl (Cb rfl rfl rfl rfl (As ?_))))
   refine AZ (by kernel_rfl) ?_
   obtain rfl:=sm a0
   exact ⟨(),_,⟨rfl,rfl,rfl,trivial⟩,(((((hB.st s0).st p0).st b0).st j0).st r0).st q0,(e0.st r0).st q0,(((h8.st b0).st j0).st r0).st q0,(((t0.st b0).st j0).st r0).st q0,m0.st q0,((h0.st j0).st r0).st q0,(l0.st r0).st q0,(n0.st r0).st q0,(o0.st r0).st q0,(i0.st r0).st q0⟩
  replace a0:=iT a0
  refine Ay [] hZ (by kernel_rfl) ?_
  refine Az (fuel:=0) [] [(21,true),(22,true)] (by kernel_rfl) rfl ?_
  refine Al rfl (Ak rfl rfl (Km rfl rfl (Cb rfl rfl rfl rfl (As ?_))))
  refine AZ (by kernel_rfl) ?_
  obtain rfl:=sm a0
  exact ⟨(),_,⟨rfl,rfl,rfl,trivial⟩,(((((hB.st s0).st p0).st b0).st j0).st r0).st q0,(e0.st r0).st q0,(((h8.st b0).st j0).st r0).st q0,(((t0.st b0).st j0).st r0).st q0,m0.st q0,((h0.st j0).st r0).st q0,(l0.st r0).st q0,(n0.st r0).st q0,(o0.st r0).st q0,(i0.st r0).st q0⟩
 replace hB:=(hB.st s0).st p0
 replace h8:=(h8.st s0).st p0
 replace t0:=(t0.st s0).st p0
 replace m0:=(m0.st s0).st p0
 replace h0:=(h0.st s0).st p0
 replace n0:=(n0.st s0).st p0
 replace o0:=(o0.st s0).st p0
 replace i0:=(i0.st s0).st p0
 replace e0:=e0.st p0
 rintro w6 x6 ⟨s4,f5,a3,hB,e0,h8,t0,m0,h0,l0,n0,o0,i0⟩
 refine AE _ a3 ?_
 refine Bp rfl (fun b3=>?_) (fun b3=>?_)
 ·
  replace hm:=ip hm b3
  refine Ab (Aa (Am rfl rfl (o_z ?_)))
  refine AF ?_
  obtain rfl:=sm hm
  exact ret1v rfl (AC rfl) ⟨hB.ext,vBool⟩
 replace hm:=im' hm b3
 refine AI (Ab (Ab (Aa (AS rfl rfl (AJ (hc:=Blk.cell (i:=3) (e0.1) rfl) rfl rfl ?_)))))
 refine AX rfl rfl ?_
 have c3:x0.ops.length≤9223372036854775807:=Nat.le_trans h0.len.2.1 h0.len.2.2
 have y6:inI64 (x0.ops.length:Int):=rngNat c3
 refine Aj rfl rfl (o_z ?_)
 obtain ⟨y1,d3,hm⟩:=bs hm
 refine Ax (aft y1 (fun (u2:Unit) (v2:Unit)=>[]) (fun u2 v2 w'=>∃ O':Lab,Bs w A w' O')) ?_ ?_
 ·
  refine AG (Bk (σ:=Unit) (X:=Unit) (x0.ops.length) d3 rfl c3 (fun (u2:Unit) (v2:Unit)=>[(2,(.pointer (some ⟨u1,0,none⟩))),(3,(.pointer (some ⟨v1,0,none⟩))),(31,(.slice j1 x0.ops.length k1))]) _ (fun u2 v2 w'=>∃ O':Lab,Bs w A w' O'∧Lc 2 w' O' u1 30 [(.slice A9 x0.vars.length p1),(.slice q1 x0.init.length r1),(.slice s1 x0.goal.length t1),(.slice j1 x0.ops.length k1)]∧Vb w' (Fr 0 w' O') (.slice A9 x0.vars.length p1) x0.vars∧Vb w' (Fr 0 w' O') (.slice q1 x0.init.length r1) x0.init∧Vb w' (Fr 0 w' O') (.slice s1 x0.goal.length t1) x0.goal∧Vb w' (Fr 0 w' O') (.slice j1 x0.ops.length k1) x0.ops∧Lc 3 w' O' v1 43 [(.slice d1 x1.vars.length e1),(.slice f1 x1.vals.length g1),(.slice h1 x1.ops.length i1)]∧Vb w' (Fr 0 w' O') (.slice d1 x1.vars.length e1) x1.vars∧Vb w' (Fr 0 w' O') (.slice f1 x1.vals.length g1) x1.vals∧Vb w' (Fr 0 w' O') (.slice h1 x1.ops.length i1) x1.ops) _ () ⟨f5,hB,e0,h8,t0,m0,h0,l0,n0,o0,i0⟩ ⟨rfl,rfl,rfl,rfl,rfl,trivial⟩ (fun _ _=>⟨rfl,rfl⟩) (fun _ _=>trivial) (fun _ _ _ ⟨O',hB,e0,h8,t0,m0,h0,l0,n0,o0,i0⟩=>⟨O',hB⟩) ⟨rfl,rfl,rfl⟩ ⟨rfl,rfl⟩ ?_)
  rintro g5 y0 u2 v2 z6 h5 z1 ⟨i5,hB,e0,h8,t0,m0,h0,l0,n0,o0,i0⟩ c0 l1 e3
  have rk90:inI64 (g5:Int):=rngK z1 c3
  refine Ab (Aa (Aj rfl rfl ?_))
  obtain ⟨j5,k5,l4,a2,b2,c2,l5,m5,rfl,z0,a1,f3,g3⟩:=h0.elem' z1
  obtain ⟨d2,e2,rfl⟩:=z0.form
  obtain ⟨f2,g2,rfl⟩:=a1.form
  refine Bv (hA:=a2) (hj:=rfl) (hlt:=b2) rfl rfl rfl ?_
  refine Ba (hl:=rfl) (hc:=c2) rfl rfl ?_
  refine Bd 4 i5 rfl fun h3 n5 m1 f0 v0=>?_
  refine Am rfl rfl (AD v0 rfl rfl rfl (AU rfl) (allOne rfl) fun i3 g0 v0=>?_)
  replace v0:Lc 4 i3 m1 h3 35 [(.string y0.name),(.int .i64 y0.cost),(.slice d2 y0.pre.length e2),(.slice f2 y0.effs.length g2)]:=v0
  refine o_z ?_
  refine Ab (Bc [] m1 ?_)
  refine Az (fuel:=3) [] [(0,true),(1,true),(3,true),(4,true),(5,true),(6,true),(7,true),(8,true),(9,true),(10,true),(11,true)] (by kernel_rfl) rfl ?_
  replace l0:=(l0.st f0).st g0
  refine Cl (hl:=rfl) (hb:=fun w' ⟨O',hq⟩=>((l0.st hq (by decide)).1).cellsAt) rfl rfl rfl ?_
  refine Cl (hl:=rfl) (hb:=fun w' ⟨O',hq⟩=>((v0.st hq (by decide)).1).cellsAt) rfl rfl rfl ?_
  refine AM rfl rfl rfl ?_
  replace e0:=(e0.st f0).st g0
  refine AK (hc:=fun w' ⟨O',hq⟩=>Blk.cell (i:=3) ((e0.st hq (by decide)).1) rfl) rfl rfl rfl ?_
  refine AM rfl rfl rfl (AK (hc:=fun w' ⟨O',hq⟩=>Blk.cell (i:=2) ((l0.st hq (by decide)).1) rfl) rfl rfl rfl ?_)
  refine AH rfl rfl rfl ?_
  obtain ⟨o5,j3,c0⟩:=bs c0
  replace i0:=(i0.st f0).st g0
  obtain ⟨p5,q5,m4,h2,i2,j2,k2,rfl,r5⟩:=i0.elem j3
  refine Bl (hA:=h2) (hj:=rfl) (hlt:=j2) rfl rfl rfl rfl ?_
  refine AK (hc:=fun w' ⟨O',hq⟩=>cat0 (AL (hq.agree (i:=0) (by decide)) i2 k2)) rfl rfl rfl ?_
  obtain ⟨w0,k3,c0⟩:=bs c0
  obtain ⟨l3,m3⟩:=AO k3
  replace h0:=(h0.st f0).st g0
  obtain ⟨s5,t5,n4,l2,m2,n2,o2,u5,w5,rfl,b1,c1,n3,o3⟩:=h0.elem m3
  obtain ⟨p3,q3,rfl⟩:=b1.form
  obtain ⟨r3,s3,rfl⟩:=c1.form
  refine Bl (hA:=l2) (hj:=(Int.toNat_of_nonneg l3).symm) (hlt:=n2) rfl rfl rfl rfl ?_
  refine Cl (hl:=rfl) (hb:=fun w' ⟨O',hq⟩=>(AL (hq.agree (i:=0) (by decide)) m2 o2)) rfl rfl rfl ?_
  refine As ?_
  refine Au (i:=2) (by kernel_rfl) rfl ?_
  obtain ⟨u0,t3,c0⟩:=bs c0
  replace n0:=(n0.st f0).st g0
  replace o0:=(o0.st f0).st g0
  replace z0:=(z0.st f0).st g0
  replace a1:=(a1.st f0).st g0
  refine BQ (O:=m1) (R:=fun w' F v=>Vb w' F v u0) (Fk Fr.lt (Vb.ofAgg (cs:=[(.slice d1 x1.vars.length e1),(.slice f1 x1.vals.length g1),(.slice h1 x1.ops.length i1)]) (x:=x1) rfl ⟨_,_,_,rfl,n0,o0,i0⟩) (Vb.ofAgg (cs:=[(.string y0.name),(.int .i64 y0.cost),(.slice d2 y0.pre.length e2),(.slice f2 y0.effs.length g2)]) (x:=y0) rfl ⟨_,_,rfl,z0,a1,f3,g3⟩) t3) rfl rfl fun x5 n1 o1 d0 u3=>?_
  obtain ⟨o4,rfl,y5,z5,rfl,p2,q2,v3,w3⟩:=u3
  obtain ⟨x3,y3,rfl⟩:=p2.form
  obtain ⟨z3,a4,rfl⟩:=q2.form
  have hZ:=d0.lst [] (fun _ h=>h.elim)
  refine Ay [] hZ (by kernel_rfl) ?_
  refine Au (i:=12) (by kernel_rfl) rfl ?_
  obtain ⟨r2,b4,c0⟩:=bs c0
  replace b1:=b1.st d0
  replace c1:=c1.st d0
  refine Bf (O:=o1) (A:=All n1) (R:=fun w' F v=>Vb w' F v r2) (GA (fun _ h=>h) (Vb.mono (F:=Fr 0 n1 o1) (Vb.ofAgg (cs:=[(.string u0.name),(.int .i64 u0.cost),(.slice x3 u0.pre.length y3),(.slice z3 u0.effs.length a4)]) (x:=u0) rfl ⟨_,_,rfl,p2,q2,v3,w3⟩) Fr.lt) (Vb.mono (F:=Fr 0 n1 o1) (Vb.ofAgg (cs:=[(.string w0.name),(.int .i64 w0.cost),(.slice p3 w0.pre.length q3),(.slice r3 w0.effs.length s3)]) (x:=w0) rfl ⟨_,_,rfl,b1,c1,n3,o3⟩) Fr.lt) b4) rfl rfl fun a6 b6 c6 k0 c4=>?_
  obtain rfl:=c4.bool
  have hZ:=k0.lst [] (fun _ h=>h.elim)
  cases r2
  case false =>
   replace c0:=iF c0
   refine Ay [] hZ (by kernel_rfl) ?_
   refine Az (fuel:=0) [] [(13,true)] (by kernel_rfl) rfl ?_
   refine LK rfl rfl rfl (As ?_)
   refine AZ (by kernel_rfl) ?_
   refine Ah rfl (Ab (Aa (Am rfl rfl (o_z ?_))))
   refine AF ?_
   obtain rfl:=sm c0
   obtain rfl:=l1 _ rfl
   obtain rfl:=sm (Cq hm)
   replace hB:=(((hB.st f0).st g0).st d0).st k0
   exact ret1v rfl (AC rfl) ⟨hB.ext,vBool⟩
  replace c0:=iT c0
  refine Ay [] hZ (by kernel_rfl) ?_
  refine Az (fuel:=0) [] [(13,true)] (by kernel_rfl) rfl ?_
  refine LJ rfl rfl rfl (As ?_)
  refine AZ (by kernel_rfl) ?_
  refine Ae rfl (AI ?_)
  obtain rfl:=sm c0
  exact show Exists _ from ⟨_,(),rfl,⟨rfl,rfl,rfl,rfl,rfl,trivial⟩,_,(((hB.st f0).st g0).st d0).st k0,(e0.st d0).st k0,(((h8.st f0).st g0).st d0).st k0,(((t0.st f0).st g0).st d0).st k0,(((m0.st f0).st g0).st d0).st k0,(h0.st d0).st k0,(l0.st d0).st k0,(n0.st d0).st k0,(o0.st d0).st k0,(i0.st d0).st k0⟩
 rintro d6 e6 ⟨f6,g6,rfl,s2,h6,hB⟩
 replace hm:=AV hm
 refine AE _ s2 ?_
 refine Ab (Aa (Am rfl rfl (o_z ?_)))
 refine AF ?_
 obtain rfl:=sm hm
 exact ret1v rfl (AC rfl) ⟨hB.ext,vBool⟩
noncomputable def CO (x0:Tsk) (x1:Swp):Option Bool :=
  bnd (bnd (Do x0) fun q47=>if q47.n=0 then (bnd (Dy x0 x1) fun q56=>if q56=true then some true else some false) else (some false):Option Bool) fun y43=>some y43
theorem GC {w:World} {A:Nat→Prop} (hA:∀ k,A k→k < w.heap.size) {vx0:Value} {x0:Tsk} (m0:Vb w A vx0 x0) {vx1:Value} {x1:Swp} (n0:Vb w A vx1 x1) {r:Bool} (hm:CO x0 x1=some r) :
    Fn Tryz.prog 12 [vx0,vx1] w fun v w'=>Ext w w'∧Vb w' (upA A w w') v r:=by
 obtain ⟨O,hB,c1⟩:=enter hA
 replace m0:=m0.mono c1
 obtain ⟨y1,rfl,v4,v5,v6,v7,rfl,h8,f0,g0,h0⟩:=m0
 obtain ⟨A9,o0,rfl⟩:=h8.form
 obtain ⟨p0,q0,rfl⟩:=f0.form
 obtain ⟨r0,s0,rfl⟩:=g0.form
 obtain ⟨t0,u0,rfl⟩:=h0.form
 replace n0:=n0.mono c1
 obtain ⟨m1,rfl,z1,a2,b2,rfl,j0,k0,l0⟩:=n0
 obtain ⟨d1,e1,rfl⟩:=j0.form
 obtain ⟨f1,g1,rfl⟩:=k0.form
 obtain ⟨h1,i1,rfl⟩:=l0.form
 refine AP Tryz.func12 rfl Tryz.ntmps12 rfl ?_
 unfold CO at hm
 refine Ab (Aa (BC 2 O rfl rfl fun n1 o1 j1 d0 e0=>?_))
 replace e0:Lc 2 o1 j1 n1 30 [(.slice A9 x0.vars.length o0),(.slice p0 x0.init.length q0),(.slice r0 x0.goal.length s0),(.slice t0 x0.ops.length u0)]:=e0
 refine BC 3 j1 rfl rfl fun p1 v0 w0 b0 i0=>?_
 replace i0:Lc 3 v0 w0 p1 43 [(.slice d1 x1.vars.length e1),(.slice f1 x1.vals.length g1),(.slice h1 x1.ops.length i1)]:=i0
 refine Am rfl rfl (o_z ?_)
 refine Ab ?_
 obtain ⟨q1,a0,hm⟩:=bs hm
 refine Ax (fun l' w'=>∃ (r1:Unit) (O':Lab),subs l' [(4,(.bool q1))]∧Bs w A w' O') ?_ ?_
 ·
  refine Aa ?_
  replace e0:=e0.st b0
  refine Ba (hl:=rfl) (hc:=(e0.1).cellsAt) rfl rfl ?_
  obtain ⟨s1,t1,a0⟩:=bs a0
  replace h8:=(h8.st d0).st b0
  replace f0:=(f0.st d0).st b0
  replace g0:=(g0.st d0).st b0
  replace h0:=(h0.st d0).st b0
  refine Bf (O:=w0) (A:=All v0) (R:=fun w' F v=>Vb w' F v s1) (Ih (fun _ h=>h) (Vb.mono (F:=Fr 0 v0 w0) (Vb.ofAgg (cs:=[(.slice A9 x0.vars.length o0),(.slice p0 x0.init.length q0),(.slice r0 x0.goal.length s0),(.slice t0 x0.ops.length u0)]) (x:=x0) rfl ⟨_,_,_,_,rfl,h8,f0,g0,h0⟩) Fr.lt) t1) rfl rfl fun c2 y0 z0 c0 u1=>?_
  obtain ⟨rfl,d2⟩:=u1.err
  refine Ql rfl rfl (fun a1=>?_) fun a1=>?_
  ·
   replace a0:=ip a0 a1
   refine Aj rfl rfl (Ar rfl rfl ?_)
   replace e0:=e0.st c0
   refine Ba (hl:=rfl) (hc:=(e0.1).cellsAt) rfl rfl ?_
   refine Ar rfl rfl ?_
   replace i0:=i0.st c0
   refine Ba (hl:=rfl) (hc:=(i0.1).cellsAt) rfl rfl ?_
   refine Ar rfl rfl ?_
   obtain ⟨k1,v1,a0⟩:=bs a0
   replace h8:=h8.st c0
   replace f0:=f0.st c0
   replace g0:=g0.st c0
   replace h0:=h0.st c0
   replace j0:=((j0.st d0).st b0).st c0
   replace k0:=((k0.st d0).st b0).st c0
   replace l0:=((l0.st d0).st b0).st c0
   refine Bf (O:=z0) (A:=All y0) (R:=fun w' F v=>Vb w' F v k1) (HP (fun _ h=>h) (Vb.mono (F:=Fr 0 y0 z0) (Vb.ofAgg (cs:=[(.slice A9 x0.vars.length o0),(.slice p0 x0.init.length q0),(.slice r0 x0.goal.length s0),(.slice t0 x0.ops.length u0)]) (x:=x0) rfl ⟨_,_,_,_,rfl,h8,f0,g0,h0⟩) Fr.lt) (Vb.mono (F:=Fr 0 y0 z0) (Vb.ofAgg (cs:=[(.slice d1 x1.vars.length e1),(.slice f1 x1.vals.length g1),(.slice h1 x1.ops.length i1)]) (x:=x1) rfl ⟨_,_,_,rfl,j0,k0,l0⟩) Fr.lt) v1) rfl rfl fun e2 f2 g2 l1 w1=>?_
   obtain rfl:=w1.bool
   cases k1
   case false =>
    replace a0:=iF a0
    refine By rfl rfl rfl (Am rfl rfl (o_z ?_))
    obtain rfl:=sm a0
    exact ⟨(),_,⟨rfl,trivial⟩,(((hB.st d0).st b0).st c0).st l1⟩
   replace a0:=iT a0
   refine By rfl rfl rfl (Am rfl rfl (o_z ?_))
   obtain rfl:=sm a0
   exact ⟨(),_,⟨rfl,trivial⟩,(((hB.st d0).st b0).st c0).st l1⟩
  replace a0:=im a0 a1
  refine Aj rfl rfl (An rfl rfl rfl rfl (An rfl rfl rfl rfl (An rfl rfl rfl rfl (Bz rfl rfl rfl (Am rfl rfl (o_z ?_))))))
  obtain rfl:=sm a0
  exact ⟨(),_,⟨rfl,trivial⟩,((hB.st d0).st b0).st c0⟩
 replace hB:=(hB.st d0).st b0
 rintro h2 i2 ⟨r1,j2,b1,hB⟩
 refine AE _ b1 ?_
 refine AF ?_
 obtain rfl:=sm hm
 exact ret1v rfl (AC rfl) ⟨hB.ext,vBool⟩
noncomputable def BE (x0:Tsk) (x1:List Swp):Option Err :=
  bnd (Do x0) fun q27=>if q27.n≠0 then (some (⟨q27.n⟩:Err)) else (bnd (rng (ρ:=Err) (fun (k42:Nat) (a43:Swp) (s40:Unit)=>bnd (Dy x0 a43) fun q79=>if q79=true then some (.next ()) else some (.ret (⟨2⟩:Err))) x1 0 ()) fun res38=>fin res38 fun (s90:Unit)=>some (⟨0⟩:Err))
theorem Ec {w:World} {A:Nat→Prop} (hA:∀ k,A k→k < w.heap.size) {vx0:Value} {x0:Tsk} (f1:Vb w A vx0 x0) {vx1:Value} {x1:List Swp} (e0:Vb w A vx1 x1) {r:Err} (hm:BE x0 x1=some r) :
    Fn Tryz.prog 19 [vx0,vx1] w fun v w'=>Ext w w'∧Vb w' (upA A w w') v r:=by
 obtain ⟨O,hB,r1⟩:=enter hA
 replace f1:=f1.mono r1
 obtain ⟨o2,rfl,v4,v5,v6,v7,rfl,h8,b0,c0,d0⟩:=f1
 obtain ⟨A9,n0,rfl⟩:=h8.form
 obtain ⟨o0,p0,rfl⟩:=b0.form
 obtain ⟨q0,r0,rfl⟩:=c0.form
 obtain ⟨s0,t0,rfl⟩:=d0.form
 replace e0:=e0.mono r1
 obtain ⟨s1,t1,rfl⟩:=e0.form
 refine AP Tryz.func19 rfl Tryz.ntmps19 rfl ?_
 unfold BE at hm
 refine Ab (Aa (BC 2 O rfl rfl fun g1 h1 i1 j0 f0=>?_))
 replace f0:Lc 2 h1 i1 g1 30 [(.slice A9 x0.vars.length n0),(.slice o0 x0.init.length p0),(.slice q0 x0.goal.length r0),(.slice s0 x0.ops.length t0)]:=f0
 refine Am rfl rfl (o_z ?_)
 refine Ab (Ab (Aa (Ba (hl:=rfl) (hc:=(f0.1).cellsAt) rfl rfl ?_)))
 obtain ⟨c2,d2,hm⟩:=bs hm
 replace h8:=h8.st j0
 replace b0:=b0.st j0
 replace c0:=c0.st j0
 replace d0:=d0.st j0
 refine Bf (O:=i1) (A:=All h1) (R:=fun w' F v=>Vb w' F v c2) (Ih (fun _ h=>h) (Vb.mono (F:=Fr 0 h1 i1) (Vb.ofAgg (cs:=[(.slice A9 x0.vars.length n0),(.slice o0 x0.init.length p0),(.slice q0 x0.goal.length r0),(.slice s0 x0.ops.length t0)]) (x:=x0) rfl ⟨_,_,_,_,rfl,h8,b0,c0,d0⟩) Fr.lt) d2) rfl rfl fun p2 q2 e2 i0 f2=>?_
 obtain ⟨rfl,g2⟩:=f2.err
 refine Am rfl rfl (o_z ?_)
 refine Ab (Aa (Aj rfl rfl (GS rfl rfl (fun j1=>?_) fun j1=>?_)))
 ·
  replace hm:=ip hm j1
  refine o_z ?_
  refine Ah rfl (Ab (Aa (Aj rfl rfl (Am rfl rfl (o_z ?_)))))
  refine AF ?_
  obtain rfl:=sm hm
  replace hB:=(hB.st j0).st i0
  exact ret1v rfl (AC rfl) ⟨hB.ext,(vErr g2)⟩
 replace hm:=im hm j1
 refine o_z ?_
 refine Ae rfl (AI (Ab (Ab (Aa (Aj rfl rfl (AX rfl rfl ?_))))))
 replace e0:=(e0.st j0).st i0
 have k1:x1.length≤9223372036854775807:=Nat.le_trans e0.len.2.1 e0.len.2.2
 have r2:inI64 (x1.length:Int):=rngNat k1
 refine Aj rfl rfl (o_z ?_)
 obtain ⟨u0,l1,hm⟩:=bs hm
 refine Ax (aft u0 (fun (y0:Unit) (z0:Unit)=>[]) (fun y0 z0 w'=>∃ O':Lab,Bs w A w' O')) ?_ ?_
 ·
  refine AG ?_
  replace hB:=(hB.st j0).st i0
  replace h8:=h8.st i0
  replace b0:=b0.st i0
  replace c0:=c0.st i0
  replace d0:=d0.st i0
  replace f0:=f0.st i0
  refine Bk (σ:=Unit) (X:=Unit) (x1.length) l1 rfl k1 (fun (y0:Unit) (z0:Unit)=>[(2,(.pointer (some ⟨g1,0,none⟩))),(13,(.slice s1 x1.length t1))]) _ (fun y0 z0 w'=>∃ O':Lab,Bs w A w' O'∧Lc 2 w' O' g1 30 [(.slice A9 x0.vars.length n0),(.slice o0 x0.init.length p0),(.slice q0 x0.goal.length r0),(.slice s0 x0.ops.length t0)]∧Vb w' (Fr 0 w' O') (.slice A9 x0.vars.length n0) x0.vars∧Vb w' (Fr 0 w' O') (.slice o0 x0.init.length p0) x0.init∧Vb w' (Fr 0 w' O') (.slice q0 x0.goal.length r0) x0.goal∧Vb w' (Fr 0 w' O') (.slice s0 x0.ops.length t0) x0.ops∧Vb w' (Fr 0 w' O') (.slice s1 x1.length t1) x1) _ () ⟨e2,hB,f0,h8,b0,c0,d0,e0⟩ ⟨rfl,rfl,rfl,rfl,trivial⟩ (fun _ _=>⟨rfl,rfl⟩) (fun _ _=>trivial) (fun _ _ _ ⟨O',hB,f0,h8,b0,c0,d0,e0⟩=>⟨O',hB⟩) ⟨rfl,rfl,rfl⟩ ⟨rfl,rfl⟩ ?_
  rintro h2 l0 y0 z0 s2 i2 v0 ⟨j2,hB,f0,h8,b0,c0,d0,e0⟩ a0 m0 m1
  have rk42:inI64 (h2:Int):=rngK v0 k1
  refine Ab (Aa ?_)
  obtain ⟨t2,u2,k2,n1,o1,p1,v2,w2,x2,rfl,a1,b1,c1⟩:=e0.elem' v0
  obtain ⟨u1,v1,rfl⟩:=a1.form
  obtain ⟨w1,y1,rfl⟩:=b1.form
  obtain ⟨z1,a2,rfl⟩:=c1.form
  refine Bv (hA:=n1) (hj:=rfl) (hlt:=o1) rfl rfl rfl ?_
  refine Ba (hl:=rfl) (hc:=p1) rfl rfl ?_
  refine Bd 3 j2 rfl fun l2 y2 d1 g0 w0=>?_
  refine AD w0 rfl rfl rfl (AU rfl) (allOne rfl) fun e1 h0 w0=>?_
  replace w0:Lc 3 e1 d1 l2 43 [(.slice u1 l0.vars.length v1),(.slice w1 l0.vals.length y1),(.slice z1 l0.ops.length a2)]:=w0
  refine o_z ?_
  refine Ab (Aa ?_)
  replace f0:=(f0.st g0).st h0
  refine Ba (hl:=rfl) (hc:=(f0.1).cellsAt) rfl rfl ?_
  refine Ba (hl:=rfl) (hc:=(w0.1).cellsAt) rfl rfl ?_
  obtain ⟨b2,m2,a0⟩:=bs a0
  replace h8:=(h8.st g0).st h0
  replace b0:=(b0.st g0).st h0
  replace c0:=(c0.st g0).st h0
  replace d0:=(d0.st g0).st h0
  replace a1:=(a1.st g0).st h0
  replace b1:=(b1.st g0).st h0
  replace c1:=(c1.st g0).st h0
  refine Bf (O:=d1) (A:=All e1) (R:=fun w' F v=>Vb w' F v b2) (HP (fun _ h=>h) (Vb.mono (F:=Fr 0 e1 d1) (Vb.ofAgg (cs:=[(.slice A9 x0.vars.length n0),(.slice o0 x0.init.length p0),(.slice q0 x0.goal.length r0),(.slice s0 x0.ops.length t0)]) (x:=x0) rfl ⟨_,_,_,_,rfl,h8,b0,c0,d0⟩) Fr.lt) (Vb.mono (F:=Fr 0 e1 d1) (Vb.ofAgg (cs:=[(.slice u1 l0.vars.length v1),(.slice w1 l0.vals.length y1),(.slice z1 l0.ops.length a2)]) (x:=l0) rfl ⟨_,_,_,rfl,a1,b1,c1⟩) Fr.lt) m2) rfl rfl fun z2 a3 b3 k0 n2=>?_
  obtain rfl:=n2.bool
  cases b2
  case false =>
   replace a0:=iF a0
   refine CD rfl rfl (o_z ?_)
   refine Ah rfl (Ab (Aa (ND rfl rfl ?_)))
   refine Am rfl rfl (o_z ?_)
   refine AF ?_
   obtain rfl:=sm a0
   obtain rfl:=m0 _ rfl
   obtain rfl:=sm (Cq hm)
   replace hB:=((hB.st g0).st h0).st k0
   exact ret1v rfl (AC rfl) ⟨hB.ext,(vErr (by decide))⟩
  replace a0:=iT a0
  refine CC rfl rfl (o_z ?_)
  refine Ae rfl (AI ?_)
  obtain rfl:=sm a0
  exact show Exists _ from ⟨_,(),rfl,⟨rfl,rfl,rfl,rfl,trivial⟩,_,((hB.st g0).st h0).st k0,f0.st k0,h8.st k0,b0.st k0,c0.st k0,d0.st k0,((e0.st g0).st h0).st k0⟩
 replace hB:=(hB.st j0).st i0
 rintro c3 d3 ⟨e3,f3,rfl,q1,g3,hB⟩
 replace hm:=AV hm
 refine AE _ q1 ?_
 refine Ab (Aa (Am rfl rfl (o_z ?_)))
 refine AF ?_
 obtain rfl:=sm hm
 exact ret1v rfl (AC rfl) ⟨hB.ext,(vErr (show inI64 0 from by decide))⟩
noncomputable def Dg (x0:Tsk) (x1:Swp) (x2:List Int):Option ((List Int)×Err) :=
  bnd (BE x0 [x1]) fun q52=>if q52.n≠0 then (some (([]:List Int),(⟨q52.n⟩:Err))) else (bnd (Gb x0.vars x2) fun q61=>if q61=true then bnd (Ez x1 x2) fun q68=>some (q68,(⟨0⟩:Err)) else some (([]:List Int),(⟨2⟩:Err)))
theorem Jo {w:World} {A:Nat→Prop} (hA:∀ k,A k→k < w.heap.size) {vx0:Value} {x0:Tsk} (q0:Vb w A vx0 x0) {vx1:Value} {x1:Swp} (r0:Vb w A vx1 x1) {vx2:Value} {x2:List Int} (e0:Vb w A vx2 x2) {r:(List Int)×Err} (hm:Dg x0 x1 x2=some r) :
    Fn Tryz.prog 17 [vx0,vx1,vx2] w fun v w'=>Ext w w'∧T2 w' (upA A w w') v r:=by
 obtain ⟨O,hB,s0⟩:=enter hA
 replace q0:=q0.mono s0
 obtain ⟨j2,rfl,v5,v6,v7,v8,rfl,h9,l0,m0,n0⟩:=q0
 obtain ⟨b1,c1,rfl⟩:=h9.form
 obtain ⟨d1,e1,rfl⟩:=l0.form
 obtain ⟨f1,g1,rfl⟩:=m0.form
 obtain ⟨h1,i1,rfl⟩:=n0.form
 replace r0:=r0.mono s0
 obtain ⟨q1,rfl,k2,l2,m2,rfl,g0,h0,i0⟩:=r0
 obtain ⟨t0,u0,rfl⟩:=g0.form
 obtain ⟨v0,w0,rfl⟩:=h0.form
 obtain ⟨y0,z0,rfl⟩:=i0.form
 replace e0:=e0.mono s0
 obtain ⟨n2,o2,rfl⟩:=e0.form
 refine AP Tryz.func17 rfl Tryz.ntmps17 rfl ?_
 unfold Dg at hm
 refine Ab (Aa (BC 2 O rfl rfl fun r1 s1 j1 c0 f0=>?_))
 replace f0:Lc 2 s1 j1 r1 30 [(.slice b1 x0.vars.length c1),(.slice d1 x0.init.length e1),(.slice f1 x0.goal.length g1),(.slice h1 x0.ops.length i1)]:=f0
 refine BC 3 j1 rfl rfl fun t1 u1 k1 b0 k0=>?_
 replace k0:Lc 3 u1 k1 t1 43 [(.slice t0 x1.vars.length u0),(.slice v0 x1.vals.length w0),(.slice y0 x1.ops.length z0)]:=k0
 refine Am rfl rfl (Am rfl rfl (o_z ?_))
 refine Ab (Ab (Aa ?_))
 replace f0:=f0.st b0
 refine Ba (hl:=rfl) (hc:=(f0.1).cellsAt) rfl rfl ?_
 refine Ba (hl:=rfl) (hc:=(k0.1).cellsAt) rfl rfl ?_
 replace g0:=(g0.st c0).st b0
 replace h0:=(h0.st c0).st b0
 replace i0:=(i0.st c0).st b0
 refine Bi 4 (by decide) k1 (xs:=([x1]:List Swp)) rfl rfl rfl rfl ⟨(Vb.ofAgg (cs:=[(.slice t0 x1.vars.length u0),(.slice v0 x1.vals.length w0),(.slice y0 x1.ops.length z0)]) (x:=x1) rfl ⟨_,_,_,rfl,g0,h0,i0⟩),trivial⟩ (by decide) (by decide) rfl fun p2 l1 m1 a0 v1=>?_
 obtain ⟨w1,y1,hm⟩:=bs hm
 replace h9:=((h9.st c0).st b0).st a0
 replace l0:=((l0.st c0).st b0).st a0
 replace m0:=((m0.st c0).st b0).st a0
 replace n0:=((n0.st c0).st b0).st a0
 refine Bf (O:=m1) (A:=All l1) (R:=fun w' F v=>Vb w' F v w1) (Ec (fun _ h=>h) (Vb.mono (F:=Fr 0 l1 m1) (Vb.ofAgg (cs:=[(.slice b1 x0.vars.length c1),(.slice d1 x0.init.length e1),(.slice f1 x0.goal.length g1),(.slice h1 x0.ops.length i1)]) (x:=x0) rfl ⟨_,_,_,_,rfl,h9,l0,m0,n0⟩) Fr.lt) (v1).all y1) rfl rfl fun q2 o0 p0 d0 z1=>?_
 obtain ⟨rfl,a2⟩:=z1.err
 refine Am rfl rfl (o_z ?_)
 refine Ab (Aa (Aj rfl rfl (GS rfl rfl (fun a1=>?_) fun a1=>?_)))
 ·
  replace hm:=ip hm a1
  refine o_z ?_
  refine Ah rfl (Ab (Aa (Aj rfl rfl (Am rfl rfl (Am rfl rfl (o_z ?_))))))
  refine AF ?_
  obtain rfl:=sm hm
  replace hB:=(((hB.st c0).st b0).st a0).st d0
  exact ret2 rfl (AC rfl) (AC rfl) ⟨hB.ext,_,_,rfl,(Vb.mono (F:=Fr 0 o0 p0) (Vb.nil _ _) hB.out),(vErr a2)⟩
 replace hm:=im hm a1
 refine o_z ?_
 refine Ae rfl (AI (Ab (Ab (Aa (AS rfl rfl ?_)))))
 replace f0:=(f0.st a0).st d0
 refine AJ (hc:=Blk.cell (i:=0) (f0.1) rfl) rfl rfl ?_
 refine Aj rfl rfl ?_
 obtain ⟨n1,b2,hm⟩:=bs hm
 replace e0:=(((e0.st c0).st b0).st a0).st d0
 replace h9:=h9.st d0
 refine Bf (O:=p0) (A:=All o0) (R:=fun w' F v=>Vb w' F v n1) (Lo (fun _ h=>h) (Vb.mono (F:=Fr 0 o0 p0) h9 Fr.lt) (Vb.mono (F:=Fr 0 o0 p0) e0 Fr.lt) b2) rfl rfl fun r2 c2 o1 j0 d2=>?_
 obtain rfl:=d2.bool
 cases n1
 case false =>
  replace hm:=iF hm
  refine CD rfl rfl (o_z ?_)
  refine Ah rfl (Ab (Aa (ND rfl rfl ?_)))
  refine Am rfl rfl (Am rfl rfl (o_z ?_))
  refine AF ?_
  obtain rfl:=sm hm
  replace hB:=((((hB.st c0).st b0).st a0).st d0).st j0
  exact ret2 rfl (AC rfl) (AC rfl) ⟨hB.ext,_,_,rfl,(Vb.mono (F:=Fr 0 c2 o1) (Vb.nil _ _) hB.out),(vErr (by decide))⟩
 replace hm:=iT hm
 refine CC rfl rfl (o_z ?_)
 refine Ae rfl (AI (Ab (Aa ?_)))
 replace k0:=((k0.st a0).st d0).st j0
 refine Ba (hl:=rfl) (hc:=(k0.1).cellsAt) rfl rfl ?_
 refine Aj rfl rfl ?_
 obtain ⟨e2,f2,hm⟩:=bs hm
 replace e0:=e0.st j0
 replace g0:=((g0.st a0).st d0).st j0
 replace h0:=((h0.st a0).st d0).st j0
 replace i0:=((i0.st a0).st d0).st j0
 refine BQ (O:=o1) (R:=fun w' F v=>Vb w' F v e2) (Jn Fr.lt (Vb.ofAgg (cs:=[(.slice t0 x1.vars.length u0),(.slice v0 x1.vals.length w0),(.slice y0 x1.ops.length z0)]) (x:=x1) rfl ⟨_,_,_,rfl,g0,h0,i0⟩) e0 f2) rfl rfl fun s2 g2 h2 i2 p1=>?_
 obtain ⟨t2,u2,rfl⟩:=p1.form
 refine Am rfl rfl (Am rfl rfl (o_z ?_))
 refine AF ?_
 obtain rfl:=sm hm
 replace hB:=(((((hB.st c0).st b0).st a0).st d0).st j0).st i2
 exact ret2 rfl (AC rfl) (AC rfl) ⟨hB.ext,_,_,rfl,(Vb.mono (F:=Fr 0 g2 h2) p1 hB.out),(vErr (show inI64 0 from by decide))⟩
noncomputable def DS  : Option Bool :=
  bnd (Dg (⟨([2,2]:List Int),([0,0]:List Int),([]:List Fct),[(⟨(⟨#[]⟩:ByteArray),0,([]:List Fct),[(⟨([]:List Fct),0,1⟩:Eff)]⟩:Opr),(⟨(⟨#[]⟩:ByteArray),0,([]:List Fct),[(⟨([]:List Fct),1,1⟩:Eff)]⟩:Opr)]⟩:Tsk) (⟨([1,0]:List Int),[([0,1]:List Int),([0,1]:List Int)],([1,0]:List Int)⟩:Swp) ([1,0]:List Int)) fun q103=>bnd (bnd (CO (⟨([2,2]:List Int),([0,0]:List Int),([]:List Fct),[(⟨(⟨#[]⟩:ByteArray),0,([]:List Fct),[(⟨([]:List Fct),0,1⟩:Eff)]⟩:Opr),(⟨(⟨#[]⟩:ByteArray),0,([]:List Fct),[(⟨([]:List Fct),1,1⟩:Eff)]⟩:Opr)]⟩:Tsk) (⟨([1,0]:List Int),[([0,1]:List Int),([0,1]:List Int)],([1,0]:List Int)⟩:Swp)) fun q121=>if q121=true then if q103.2.n=0 then (bnd (DE q103.1 ([0,1]:List Int)) fun q135=>if q135=true then some true else some false) else (some false) else some false:Option Bool) fun y117=>some y117
theorem HQ {w:World} {A:Nat→Prop} (hA:∀ k,A k→k < w.heap.size)  {r:Bool} (hm:DS  = some r) :
    Fn Tryz.prog 5 [] w fun v w'=>Ext w w'∧Vb w' (upA A w w') v r:=by
 obtain ⟨O,hB,x3⟩:=enter hA
 refine AP Tryz.func5 rfl Tryz.ntmps5 rfl ?_
 unfold DS at hm
 refine Ab (Aa (Am rfl rfl (o_z ?_)))
 refine Ab (Aa (Bi 2 (by decide) O (xs:=(([2,2]:List Int):List Int)) rfl rfl rfl rfl ⟨(vInt (show inI64 (2) from by decide)),(vInt (show inI64 (2) from by decide)),trivial⟩ (by decide) (by decide) rfl fun g1 w2 O3 S4 h5=>?_))
 refine Bi 3 (by decide) O3 (xs:=(([0,0]:List Int):List Int)) rfl rfl rfl rfl ⟨(vInt (show inI64 (0) from by decide)),(vInt (show inI64 (0) from by decide)),trivial⟩ (by decide) (by decide) rfl fun g7 w8 O9 q1 r0=>?_
 refine EH rfl rfl rfl ?_
 refine Bi 4 (by decide) O9 (xs:=([(⟨([]:List Fct),0,1⟩:Eff)]:List Eff)) rfl rfl rfl rfl ⟨(Vb.ofAgg (cs:=[(.slice none 0 0),(.int .i64 0),(.int .i64 1)]) (x:=(⟨([]:List Fct),0,1⟩:Eff)) rfl ⟨_,rfl,(Vb.nil _ _),(show inI64 (0) from by decide),(show inI64 (1) from by decide)⟩),trivial⟩ (by decide) (by decide) rfl fun t2 y3 u2 i1 j1=>?_
 refine EH rfl rfl rfl ?_
 refine EH rfl rfl rfl ?_
 refine Bi 5 (by decide) u2 (xs:=([(⟨([]:List Fct),1,1⟩:Eff)]:List Eff)) rfl rfl rfl rfl ⟨(Vb.ofAgg (cs:=[(.slice none 0 0),(.int .i64 1),(.int .i64 1)]) (x:=(⟨([]:List Fct),1,1⟩:Eff)) rfl ⟨_,rfl,(Vb.nil _ _),(show inI64 (1) from by decide),(show inI64 (1) from by decide)⟩),trivial⟩ (by decide) (by decide) rfl fun v2 z3 a4 b1 r1=>?_
 refine EH rfl rfl rfl ?_
 replace j1:=j1.st b1
 obtain ⟨b4,c1,j1⟩:=j1.freeze
 replace r1:=r1.st c1
 obtain ⟨x2,d1,r1⟩:=r1.freeze
 replace j1:=j1.st d1
 refine Bi 6 (by decide) x2 (xs:=([(⟨(⟨#[]⟩:ByteArray),0,([]:List Fct),[(⟨([]:List Fct),0,1⟩:Eff)]⟩:Opr),(⟨(⟨#[]⟩:ByteArray),0,([]:List Fct),[(⟨([]:List Fct),1,1⟩:Eff)]⟩:Opr)]:List Opr)) rfl rfl rfl rfl ⟨(Vb.ofAgg (cs:=[(.string (⟨#[]⟩:ByteArray)),(.int .i64 0),(.slice none 0 0),(.slice (some ⟨t2,0,none⟩) [(⟨([]:List Fct),0,1⟩:Eff)].length 1)]) (x:=(⟨(⟨#[]⟩:ByteArray),0,([]:List Fct),[(⟨([]:List Fct),0,1⟩:Eff)]⟩:Opr)) rfl ⟨_,_,rfl,(Vb.nil _ _),j1,(show inI64 0 from by decide),(show (⟨#[]⟩:ByteArray).size≤9223372036854775807 from by decide)⟩),(Vb.ofAgg (cs:=[(.string (⟨#[]⟩:ByteArray)),(.int .i64 0),(.slice none 0 0),(.slice (some ⟨v2,0,none⟩) [(⟨([]:List Fct),1,1⟩:Eff)].length 1)]) (x:=(⟨(⟨#[]⟩:ByteArray),0,([]:List Fct),[(⟨([]:List Fct),1,1⟩:Eff)]⟩:Opr)) rfl ⟨_,_,rfl,(Vb.nil _ _),r1,(show inI64 0 from by decide),(show (⟨#[]⟩:ByteArray).size≤9223372036854775807 from by decide)⟩),trivial⟩ (by decide) (by decide) rfl fun a2 c4 y2 k1 s0=>?_
 refine EH rfl rfl rfl ?_
 refine Bd 7 y2 rfl fun z2 d4 r2 e1 t0=>?_
 refine AD t0 rfl rfl rfl (AU rfl) (allOne rfl) fun a3 f1 t0=>?_
 replace t0:Lc 7 a3 r2 z2 30 [(.slice (some ⟨g1,0,none⟩) ([2,2]:List Int).length 2),(.slice (some ⟨g7,0,none⟩) ([0,0]:List Int).length 2),(.slice none 0 0),(.slice (some ⟨a2,0,none⟩) [(⟨(⟨#[]⟩:ByteArray),0,([]:List Fct),[(⟨([]:List Fct),0,1⟩:Eff)]⟩:Opr),(⟨(⟨#[]⟩:ByteArray),0,([]:List Fct),[(⟨([]:List Fct),1,1⟩:Eff)]⟩:Opr)].length 2)]:=t0
 refine o_z ?_
 refine Ab (Aa (Bi 8 (by decide) r2 (xs:=(([1,0]:List Int):List Int)) rfl rfl rfl rfl ⟨(vInt (show inI64 (1) from by decide)),(vInt (show inI64 (0) from by decide)),trivial⟩ (by decide) (by decide) rfl fun b2 e4 b3 z0 u0=>?_))
 refine Bi 9 (by decide) b3 (xs:=(([0,1]:List Int):List Int)) rfl rfl rfl rfl ⟨(vInt (show inI64 (0) from by decide)),(vInt (show inI64 (1) from by decide)),trivial⟩ (by decide) (by decide) rfl fun f4 g4 c3 v0 l1=>?_
 refine Bi 10 (by decide) c3 (xs:=(([0,1]:List Int):List Int)) rfl rfl rfl rfl ⟨(vInt (show inI64 (0) from by decide)),(vInt (show inI64 (1) from by decide)),trivial⟩ (by decide) (by decide) rfl fun h4 i4 j4 m0 s1=>?_
 replace l1:=l1.st m0
 obtain ⟨k4,n0,l1⟩:=l1.freeze
 replace s1:=s1.st n0
 obtain ⟨d3,o0,s1⟩:=s1.freeze
 replace l1:=l1.st o0
 refine Bi 11 (by decide) d3 (xs:=([([0,1]:List Int),([0,1]:List Int)]:List (List Int))) rfl rfl rfl rfl ⟨l1,s1,trivial⟩ (by decide) (by decide) rfl fun c2 l4 e3 w0 x0=>?_
 refine Bi 12 (by decide) e3 (xs:=(([1,0]:List Int):List Int)) rfl rfl rfl rfl ⟨(vInt (show inI64 (1) from by decide)),(vInt (show inI64 (0) from by decide)),trivial⟩ (by decide) (by decide) rfl fun d2 m4 f3 p0 y0=>?_
 refine EH rfl rfl rfl ?_
 refine Bd 13 f3 rfl fun g3 n4 s2 k0 h1=>?_
 refine AD h1 rfl rfl rfl (AU rfl) (allOne rfl) fun h3 l0 h1=>?_
 replace h1:Lc 13 h3 s2 g3 43 [(.slice (some ⟨b2,0,none⟩) ([1,0]:List Int).length 2),(.slice (some ⟨c2,0,none⟩) [([0,1]:List Int),([0,1]:List Int)].length 2),(.slice (some ⟨d2,0,none⟩) ([1,0]:List Int).length 2)]:=h1
 refine o_z ?_
 refine Ab (Aa ?_)
 replace t0:=((((((((t0.st z0).st v0).st m0).st n0).st o0).st w0).st p0).st k0).st l0
 refine Ba (hl:=rfl) (hc:=(t0.1).cellsAt) rfl rfl ?_
 refine Ba (hl:=rfl) (hc:=(h1.1).cellsAt) rfl rfl ?_
 refine Bi 14 (by decide) s2 (xs:=(([1,0]:List Int):List Int)) rfl rfl rfl rfl ⟨(vInt (show inI64 (1) from by decide)),(vInt (show inI64 (0) from by decide)),trivial⟩ (by decide) (by decide) rfl fun o4 p4 q4 e0 t1=>?_
 replace h5:=(((((((((((((((((h5.st q1).st i1).st b1).st c1).st d1).st k1).st e1).st f1).st z0).st v0).st m0).st n0).st o0).st w0).st p0).st k0).st l0).st e0
 obtain ⟨r4,f0,h5⟩:=h5.freeze
 replace r0:=(((((((((((((((((r0.st i1).st b1).st c1).st d1).st k1).st e1).st f1).st z0).st v0).st m0).st n0).st o0).st w0).st p0).st k0).st l0).st e0).st f0
 obtain ⟨s4,g0,r0⟩:=r0.freeze
 replace s0:=(((((((((((((s0.st e1).st f1).st z0).st v0).st m0).st n0).st o0).st w0).st p0).st k0).st l0).st e0).st f0).st g0
 obtain ⟨t4,h0,s0⟩:=s0.freeze
 replace u0:=(((((((((((u0.st v0).st m0).st n0).st o0).st w0).st p0).st k0).st l0).st e0).st f0).st g0).st h0
 obtain ⟨u4,i0,u0⟩:=u0.freeze
 replace x0:=(((((((x0.st p0).st k0).st l0).st e0).st f0).st g0).st h0).st i0
 obtain ⟨v4,j0,x0⟩:=x0.freeze
 replace y0:=(((((((y0.st k0).st l0).st e0).st f0).st g0).st h0).st i0).st j0
 obtain ⟨w4,b0,y0⟩:=y0.freeze
 replace t1:=(((((t1.st f0).st g0).st h0).st i0).st j0).st b0
 obtain ⟨e2,c0,t1⟩:=t1.freeze
 obtain ⟨f2,g2,hm⟩:=bs hm
 replace h5:=(((((h5.st g0).st h0).st i0).st j0).st b0).st c0
 replace r0:=((((r0.st h0).st i0).st j0).st b0).st c0
 replace s0:=(((s0.st i0).st j0).st b0).st c0
 replace u0:=((u0.st j0).st b0).st c0
 replace x0:=(x0.st b0).st c0
 replace y0:=y0.st c0
 refine BQ (O:=e2) (R:=fun w' F v=>T2 w' F v f2) (Jo Fr.lt (Vb.ofAgg (cs:=[(.slice (some ⟨g1,0,none⟩) ([2,2]:List Int).length 2),(.slice (some ⟨g7,0,none⟩) ([0,0]:List Int).length 2),(.slice none 0 0),(.slice (some ⟨a2,0,none⟩) [(⟨(⟨#[]⟩:ByteArray),0,([]:List Fct),[(⟨([]:List Fct),0,1⟩:Eff)]⟩:Opr),(⟨(⟨#[]⟩:ByteArray),0,([]:List Fct),[(⟨([]:List Fct),1,1⟩:Eff)]⟩:Opr)].length 2)]) (x:=(⟨([2,2]:List Int),([0,0]:List Int),([]:List Fct),[(⟨(⟨#[]⟩:ByteArray),0,([]:List Fct),[(⟨([]:List Fct),0,1⟩:Eff)]⟩:Opr),(⟨(⟨#[]⟩:ByteArray),0,([]:List Fct),[(⟨([]:List Fct),1,1⟩:Eff)]⟩:Opr)]⟩:Tsk)) rfl ⟨_,_,_,_,rfl,h5,r0,(Vb.nil _ _),s0⟩) (Vb.ofAgg (cs:=[(.slice (some ⟨b2,0,none⟩) ([1,0]:List Int).length 2),(.slice (some ⟨c2,0,none⟩) [([0,1]:List Int),([0,1]:List Int)].length 2),(.slice (some ⟨d2,0,none⟩) ([1,0]:List Int).length 2)]) (x:=(⟨([1,0]:List Int),[([0,1]:List Int),([0,1]:List Int)],([1,0]:List Int)⟩:Swp)) rfl ⟨_,_,_,rfl,u0,x0,y0⟩) t1 g2) rfl rfl fun i3 m1 n1 d0 h2=>?_
 obtain ⟨j3,k3,rfl,a1,i2⟩:=h2
 obtain ⟨l3,m3,rfl⟩:=a1.form
 obtain ⟨rfl,n3⟩:=i2.err
 refine Aj rfl rfl (DN rfl rfl rfl (DN rfl rfl rfl (Am rfl rfl (Am rfl rfl (o_z ?_)))))
 refine Ab ?_
 obtain ⟨j2,a0,hm⟩:=bs hm
 refine Ax (fun l' w'=>∃ (k2:Unit) (O':Lab),subs l' [(0,(.bool j2))]∧Bs w A w' O') ?_ ?_
 ·
  refine Aa ?_
  replace t0:=((((((((t0.st e0).st f0).st g0).st h0).st i0).st j0).st b0).st c0).st d0
  refine Ba (hl:=rfl) (hc:=(t0.1).cellsAt) rfl rfl ?_
  replace h1:=((((((((h1.st e0).st f0).st g0).st h0).st i0).st j0).st b0).st c0).st d0
  refine Ba (hl:=rfl) (hc:=(h1.1).cellsAt) rfl rfl ?_
  obtain ⟨u1,l2,a0⟩:=bs a0
  replace h5:=h5.st d0
  replace r0:=r0.st d0
  replace s0:=s0.st d0
  replace u0:=u0.st d0
  replace x0:=x0.st d0
  replace y0:=y0.st d0
  refine Bf (O:=n1) (A:=All m1) (R:=fun w' F v=>Vb w' F v u1) (GC (fun _ h=>h) (Vb.mono (F:=Fr 0 m1 n1) (Vb.ofAgg (cs:=[(.slice (some ⟨g1,0,none⟩) ([2,2]:List Int).length 2),(.slice (some ⟨g7,0,none⟩) ([0,0]:List Int).length 2),(.slice none 0 0),(.slice (some ⟨a2,0,none⟩) [(⟨(⟨#[]⟩:ByteArray),0,([]:List Fct),[(⟨([]:List Fct),0,1⟩:Eff)]⟩:Opr),(⟨(⟨#[]⟩:ByteArray),0,([]:List Fct),[(⟨([]:List Fct),1,1⟩:Eff)]⟩:Opr)].length 2)]) (x:=(⟨([2,2]:List Int),([0,0]:List Int),([]:List Fct),[(⟨(⟨#[]⟩:ByteArray),0,([]:List Fct),[(⟨([]:List Fct),0,1⟩:Eff)]⟩:Opr),(⟨(⟨#[]⟩:ByteArray),0,([]:List Fct),[(⟨([]:List Fct),1,1⟩:Eff)]⟩:Opr)]⟩:Tsk)) rfl ⟨_,_,_,_,rfl,h5,r0,(Vb.nil _ _),s0⟩) Fr.lt) (Vb.mono (F:=Fr 0 m1 n1) (Vb.ofAgg (cs:=[(.slice (some ⟨b2,0,none⟩) ([1,0]:List Int).length 2),(.slice (some ⟨c2,0,none⟩) [([0,1]:List Int),([0,1]:List Int)].length 2),(.slice (some ⟨d2,0,none⟩) ([1,0]:List Int).length 2)]) (x:=(⟨([1,0]:List Int),[([0,1]:List Int),([0,1]:List Int)],([1,0]:List Int)⟩:Swp)) rfl ⟨_,_,_,rfl,u0,x0,y0⟩) Fr.lt) l2) rfl rfl fun o3 p3 m2 q0 n2=>?_
  obtain rfl:=n2.bool
  cases u1
  case false =>
   replace a0:=iF a0
   refine Aj rfl rfl (An rfl rfl rfl rfl (An rfl rfl rfl rfl (Bz rfl rfl rfl (Aj rfl rfl (An rfl rfl rfl rfl (An rfl rfl rfl rfl (An rfl rfl rfl rfl (Bz rfl rfl rfl (Am rfl rfl (o_z ?_))))))))))
   obtain rfl:=sm a0
   exact ⟨(),_,⟨rfl,trivial⟩,(((((((((((((((((((((((((((hB.st S4).st q1).st i1).st b1).st c1).st d1).st k1).st e1).st f1).st z0).st v0).st m0).st n0).st o0).st w0).st p0).st k0).st l0).st e0).st f0).st g0).st h0).st i0).st j0).st b0).st c0).st d0).st q0⟩
  replace a0:=iT a0
  refine Aj rfl rfl (Ar rfl rfl (Aj rfl rfl (Ar rfl rfl (Ql rfl rfl (fun o1=>?_) fun o1=>?_))))
  ·
   replace a0:=ip a0 o1
   refine By rfl rfl rfl (Aj rfl rfl (Ar rfl rfl (Aj rfl rfl (Ar rfl rfl (Bi 15 (by decide) m2 (xs:=(([0,1]:List Int):List Int)) rfl rfl rfl rfl ⟨(vInt (show inI64 (0) from by decide)),(vInt (show inI64 (1) from by decide)),trivial⟩ (by decide) (by decide) rfl fun q3 v1 w1 p1 o2=>?_)))))
   refine Ar rfl rfl ?_
   obtain ⟨x1,p2,a0⟩:=bs a0
   replace a1:=(a1.st q0).st p1
   refine Bf (O:=w1) (A:=All v1) (R:=fun w' F v=>Vb w' F v x1) (FN (fun _ h=>h) (Vb.mono (F:=Fr 0 v1 w1) a1 Fr.lt) (o2).all p2) rfl rfl fun r3 s3 t3 y1 q2=>?_
   obtain rfl:=q2.bool
   cases x1
   case false =>
    replace a0:=iF a0
    refine By rfl rfl rfl (Am rfl rfl (o_z ?_))
    obtain rfl:=sm a0
    exact ⟨(),_,⟨rfl,trivial⟩,(((((((((((((((((((((((((((((hB.st S4).st q1).st i1).st b1).st c1).st d1).st k1).st e1).st f1).st z0).st v0).st m0).st n0).st o0).st w0).st p0).st k0).st l0).st e0).st f0).st g0).st h0).st i0).st j0).st b0).st c0).st d0).st q0).st p1).st y1⟩
   replace a0:=iT a0
   refine By rfl rfl rfl (Am rfl rfl (o_z ?_))
   obtain rfl:=sm a0
   exact ⟨(),_,⟨rfl,trivial⟩,(((((((((((((((((((((((((((((hB.st S4).st q1).st i1).st b1).st c1).st d1).st k1).st e1).st f1).st z0).st v0).st m0).st n0).st o0).st w0).st p0).st k0).st l0).st e0).st f0).st g0).st h0).st i0).st j0).st b0).st c0).st d0).st q0).st p1).st y1⟩
  replace a0:=im a0 o1
  refine By rfl rfl rfl (Aj rfl rfl (An rfl rfl rfl rfl (An rfl rfl rfl rfl (An rfl rfl rfl rfl (Bz rfl rfl rfl (Am rfl rfl (o_z ?_)))))))
  obtain rfl:=sm a0
  exact ⟨(),_,⟨rfl,trivial⟩,(((((((((((((((((((((((((((hB.st S4).st q1).st i1).st b1).st c1).st d1).st k1).st e1).st f1).st z0).st v0).st m0).st n0).st o0).st w0).st p0).st k0).st l0).st e0).st f0).st g0).st h0).st i0).st j0).st b0).st c0).st d0).st q0⟩
 replace hB:=((((((((((((((((((((((((((hB.st S4).st q1).st i1).st b1).st c1).st d1).st k1).st e1).st f1).st z0).st v0).st m0).st n0).st o0).st w0).st p0).st k0).st l0).st e0).st f0).st g0).st h0).st i0).st j0).st b0).st c0).st d0
 rintro u3 v3 ⟨k2,w3,z1,hB⟩
 refine AE _ z1 ?_
 refine AF ?_
 obtain rfl:=sm hm
 exact ret1v rfl (AC rfl) ⟨hB.ext,vBool⟩
end
section
open Go Go.RowKit
attribute [local irreducible] ewp owp hwp hwq Ev Evg Fn retPost Res1
noncomputable def Ci (x0:Fnd):Option ((List Int)×Bool) :=
  bnd (mkI 1 (false:Bool) (x0.t.ops.length:Int)) fun u59=>bnd (rng (ρ:=(List Int)×Bool) (fun (k83:Nat) (a84:Opr) (s81:(List Int)×(List Bool))=>bnd (CN x0.x a84) fun q181=>bnd (some (q181.pre,q181.effs):Option ((List Fct)×(List Eff))) fun y183=>bnd (rng (ρ:=Ctl ((List Int)×(List Bool)) ((List Int)×Bool)) (fun (k318:Nat) (a319:Opr) (s316:Int)=>bnd (bnd (s81.2[k318]?) fun a359=>if (!a359)=true then (bnd (Cm (⟨q181.name,q181.cost,y183.1,y183.2⟩:Opr) a319) fun q369=>if q369=true then some true else some false) else (some false):Option Bool) fun y355=>if y355=true then (some (.brk (k318:Int))) else (some (.next s316))) x0.t.ops 0 (-1)) fun res314=>fin res314 fun (s385:Int)=>if s385 < 0 then (some (.ret (([]:List Int),false))) else (bnd (atI s81.2 s385) fun a388=>bnd (appI 8 s81.1 [s385]) fun u401=>some (.next (u401,(s81.2.set (s385:Int).toNat true))))) x0.t.ops 0 (([]:List Int),u59)) fun res79=>fin res79 fun (s417:(List Int)×(List Bool))=>some (s417.1,true)
theorem FT {w:World} {O:Lab} {p0 i0:Nat} {x0:Fnd} (e4:Ob i0 w O (.pointer (some ⟨p0,0,none⟩)) x0) {r:(List Int)×Bool} (hm:Ci x0=some r) :
    Fn Tryz.prog 84 [(.pointer (some ⟨p0,0,none⟩))] w fun v w'=>∃ O',St (eT i0) w O w' O'∧∃ v0 v1:Value,Ob i0 w' O' (.pointer (some ⟨p0,0,none⟩)) x0∧v=.tuple #[v0,v1]∧Vb w' (Fr 0 w' O') v0 r.1∧Vb w' (Fr 0 w' O') v1 r.2:=by
 obtain ⟨O0,hE,d9,e9⟩:=ent1 (w:=w) (O:=O) e4.2
 have e4':=Ob.leave e4 d9 e9 (j:=2) (by decide)
 have hB:Bm w O0 w O0:=Bm.refl
 refine AP Tryz.func84 rfl Tryz.ntmps84 rfl ?_
 unfold Ci at hm
 refine Ab (Aa (Am rfl rfl (Am rfl rfl (o_z ?_))))
 refine Ab (Aa (Am rfl rfl (o_z ?_)))
 refine Ab (Aa (Aj rfl rfl (Eg rfl rfl ?_)))
 obtain ⟨O2,v6,cE,dE,eE,fE,gE,iE,jE,kE,lE,mE,S3,nE,h4,h7,o6,p6,n0,q6,r6,s6,t6,u6,w6,x6,f9,g9⟩:=Fnd.opn e4' 2 3 4 5 6 7 (by decide)
 obtain ⟨A8,c9,rfl⟩:=h7.form
 obtain ⟨oE,pE,rfl⟩:=o6.form
 obtain ⟨qE,rE,rfl⟩:=p6.form
 obtain ⟨s2,t2,rfl⟩:=n0.form
 obtain ⟨sE,tE,rfl⟩:=q6.form
 obtain ⟨uE,vE,rfl⟩:=r6.form
 obtain ⟨wE,xE,rfl⟩:=s6.form
 obtain ⟨yE,zE,rfl⟩:=t6.form
 obtain ⟨aF,bF,rfl⟩:=u6.form
 obtain ⟨cF,dF,rfl⟩:=w6.form
 obtain ⟨eF,fF,rfl⟩:=x6.form
 refine AS rfl rfl (AS rfl rfl (AJ (hc:=Blk.cell (i:=3) (h4.1) rfl) rfl rfl ?_))
 refine AX rfl rfl ?_
 have h9:x0.t.ops.length≤9223372036854775807:=Nat.le_trans n0.len.2.1 n0.len.2.2
 have gF:inI64 (x0.t.ops.length:Int):=rngNat h9
 obtain ⟨u2,i9,hm⟩:=bs hm
 obtain ⟨v2,j9,k9,l9,m9⟩:=CL i9
 refine DG 8 (by decide) O2 (z0:=(false:Bool)) rfl rfl rfl rfl rfl j9 vBool k9 l9 rfl fun w2 hF jF i2 y6=>?_
 rw [← m9] at y6 ⊢
 refine Am rfl rfl (o_z ?_)
 refine Ab (Ab (Aa (Aj rfl rfl (Eg rfl rfl (AS rfl rfl (AS rfl rfl ?_))))))
 replace h4:=h4.st i2
 refine AJ (hc:=Blk.cell (i:=3) (h4.1) rfl) rfl rfl ?_
 refine AX rfl rfl ?_
 replace n0:=n0.st i2
 have b7:x0.t.ops.length≤9223372036854775807:=Nat.le_trans n0.len.2.1 n0.len.2.2
 have kF:inI64 (x0.t.ops.length:Int):=rngNat b7
 refine Aj rfl rfl (o_z ?_)
 replace h7:=h7.st i2
 replace o6:=o6.st i2
 replace p6:=p6.st i2
 replace q6:=q6.st i2
 replace r6:=r6.st i2
 replace s6:=s6.st i2
 replace t6:=t6.st i2
 replace u6:=u6.st i2
 replace w6:=w6.st i2
 replace x6:=x6.st i2
 obtain ⟨n9,z6,o9,p9,n2⟩:=Fnd.shut (x:=x0) (l0:=2) (l1:=3) (l2:=4) (l3:=5) (l4:=6) (l5:=7) (by decide) h4 h7 o6 p6 n0 q6 r6 s6 t6 u6 w6 x6 f9 g9
 obtain ⟨f4,c7,hm⟩:=bs hm
 refine Ax (aft f4 (fun (g1:(List Int)×(List Bool)) (f1:(Option Addr×Nat))=>[(4,(.slice f1.1 g1.1.length f1.2))]) (fun g1 f1 w'=>∃ O':Lab,Bm w O0 w' O'∧Rw 12 w' O' 3 (.slice f1.1 g1.1.length f1.2) g1.1∧Ob 2 w' O' (.pointer (some ⟨p0,0,none⟩)) x0)) ?_ ?_
 ·
  refine AG ?_
  replace hB:=((hB.st S3).st i2).st z6
  replace n0:=n0.st z6
  replace y6:=y6.st z6
  refine Bk (σ:=(List Int)×(List Bool)) (X:=(Option Addr×Nat)) (x0.t.ops.length) c7 rfl b7 (fun (g1:(List Int)×(List Bool)) (f1:(Option Addr×Nat))=>[(0,(.pointer (some ⟨p0,0,none⟩))),(4,(.slice f1.1 g1.1.length f1.2)),(5,(.slice (some ⟨w2,0,none⟩) u2.length v2)),(23,(.slice s2 x0.t.ops.length t2))]) _ (fun g1 f1 w'=>∃ O':Lab,Bm w O0 w' O'∧Ob 2 w' O' (.pointer (some ⟨p0,0,none⟩)) x0∧Rw 12 w' O' 3 (.slice f1.1 g1.1.length f1.2) g1.1∧Rw 8 w' O' 4 (.slice (some ⟨w2,0,none⟩) u2.length v2) g1.2∧Vb w' (Fr 0 w' O') (.slice s2 x0.t.ops.length t2) x0.t.ops) _ (none,0) ⟨n9,hB,n2,(Rw.nil 12 (by decide)),y6,n0⟩ ⟨rfl,rfl,rfl,rfl,rfl,rfl,trivial⟩ (fun _ _=>⟨rfl,rfl⟩) (fun _ _=>⟨rfl,trivial⟩) (fun _ _ _ ⟨O',hB,n2,c1,b0,n0⟩=>⟨O',hB,c1,n2⟩) ⟨rfl,rfl,rfl⟩ ⟨rfl,rfl⟩ ?_
  rintro g4 j2 g1 f1 lF q9 i4 ⟨r9,hB,n2,c1,b0,n0⟩ o0 s3 d7
  have rk83:inI64 (g4:Int):=rngK i4 b7
  refine Ab (Aa ?_)
  obtain ⟨s9,t9,t8,j4,k4,m4,u9,v9,rfl,s1,t1,n4,o4⟩:=n0.elem' i4
  obtain ⟨t3,u3,rfl⟩:=s1.form
  obtain ⟨v3,w3,rfl⟩:=t1.form
  refine Bv (hA:=j4) (hj:=rfl) (hlt:=k4) rfl rfl rfl ?_
  refine Ba (hl:=rfl) (hc:=m4) rfl rfl ?_
  refine Bd 9 r9 rfl fun e7 w9 f7 t0 u1=>?_
  refine AD u1 rfl rfl rfl (AU rfl) (allOne rfl) fun g7 u0 u1=>?_
  replace u1:Lc 9 g7 f7 e7 35 [(.string j2.name),(.int .i64 j2.cost),(.slice t3 j2.pre.length u3),(.slice v3 j2.effs.length w3)]:=u1
  refine o_z ?_
  refine Ab ?_
  replace n2:=(n2.st t0).st u0
  obtain ⟨x3,x9,y9,z9,aA,bA,cA,dA,eA,fA,gA,iA,w0,u8,w1,x1,y1,z1,a2,b2,c2,j1,k1,m1,d2,e2,p4,q4⟩:=Fnd.opn n2 2 3 4 5 6 7 (by decide)
  obtain ⟨jA,kA,rfl⟩:=x1.form
  obtain ⟨lA,mA,rfl⟩:=y1.form
  obtain ⟨nA,oA,rfl⟩:=z1.form
  obtain ⟨pA,qA,rfl⟩:=a2.form
  obtain ⟨rA,sA,rfl⟩:=b2.form
  obtain ⟨tA,uA,rfl⟩:=c2.form
  obtain ⟨r4,s4,rfl⟩:=j1.form
  obtain ⟨t4,u4,rfl⟩:=k1.form
  obtain ⟨v4,w4,rfl⟩:=m1.form
  obtain ⟨vA,wA,rfl⟩:=d2.form
  obtain ⟨xA,yA,rfl⟩:=e2.form
  obtain ⟨f0,x4,o0⟩:=bs o0
  obtain ⟨g0,h3,o0⟩:=bs o0
  refine Ax (fun l' w'=>∃ (a0:Nat×(Option Addr×Nat)×(Option Addr×Nat)) (O':Lab),subs l' [(0,(.pointer (some ⟨p0,0,none⟩))),(4,(.slice f1.1 g1.1.length f1.2)),(5,(.slice (some ⟨w2,0,none⟩) u2.length v2)),(8,(.pointer (some ⟨a0.1,0,none⟩))),(23,(.slice s2 x0.t.ops.length t2)),(24,(.int .i64 (x0.t.ops.length:Int))),(25,(.int .i64 (g4:Int)))]∧Bm w O0 w' O'∧Ob 2 w' O' (.pointer (some ⟨p0,0,none⟩)) x0∧Rw 12 w' O' 3 (.slice f1.1 g1.1.length f1.2) g1.1∧Rw 8 w' O' 4 (.slice (some ⟨w2,0,none⟩) u2.length v2) g1.2∧Lc 10 w' O' a0.1 35 [(.string f0.name),(.int .i64 f0.cost),(.slice a0.2.1.1 g0.1.length a0.2.1.2),(.slice a0.2.2.1 g0.2.length a0.2.2.2)]∧Vb w' (FrS [2] w' O') (.slice a0.2.1.1 g0.1.length a0.2.1.2) g0.1∧Vb w' (FrS [2] w' O') (.slice a0.2.2.1 g0.2.length a0.2.2.2) g0.2∧Vb w' (Fr 0 w' O') (.slice s2 x0.t.ops.length t2) x0.t.ops∧f0.name.size≤9223372036854775807∧inI64 f0.cost) ?_ ?_
  ·
   refine Bc [] x3 ?_
   refine Az (fuel:=3) [] [(0,true),(1,true),(2,true),(3,true),(4,true)] (by kernel_rfl) rfl ?_
   refine AH rfl rfl rfl (BR rfl rfl rfl (AM rfl rfl rfl (Cl (hl:=rfl) (hb:=fun w' ⟨O',hq⟩=>(If 6 3 ((w1.st hq (by decide)).1).cellsAt)) rfl rfl rfl ?_)))
   replace u1:=u1.st w0
   refine Cl (hl:=rfl) (hb:=fun w' ⟨O',hq⟩=>((u1.st hq (by decide)).1).cellsAt) rfl rfl rfl ?_
   refine As ?_
   refine Dk (i:=5) (j:=6) (by kernel_rfl) rfl rfl ?_ ?_
   ·
    replace s1:=((s1.st t0).st u0).st w0
    replace t1:=((t1.st t0).st u0).st w0
    refine IF (O:=x3) (ls:=[4,5]) (R:=fun w' F v=>Vb w' F v f0) (Fk FrS.lt (Vb.ofAgg (cs:=[(.slice r4 x0.x.vars.length s4),(.slice t4 x0.x.vals.length u4),(.slice v4 x0.x.ops.length w4)]) (x:=x0.x) rfl ⟨_,_,_,rfl,(j1.lend [4,5] (by decide)),(Vb.subS k1.lend (by decide)),(m1.lend [4,5])⟩) ((Vb.ofAgg (cs:=[(.string j2.name),(.int .i64 j2.cost),(.slice t3 j2.pre.length u3),(.slice v3 j2.effs.length w3)]) (x:=j2) rfl ⟨_,_,rfl,s1,t1,n4,o4⟩).lend [4,5]) x4) rfl rfl fun zA aB i7 y0 j7=>?_
    obtain ⟨v8,rfl,bB,cB,rfl,q1,r1,k7,l7⟩:=j7
    obtain ⟨y4,z4,rfl⟩:=q1.form
    obtain ⟨a5,b5,rfl⟩:=r1.form
    have hZ:=y0.lst [] (fun _ h=>h.elim)
    refine Ay [] hZ (by kernel_rfl) ?_
    refine Au (i:=6) (by kernel_rfl) rfl ?_
    refine Bd 10 i7 rfl fun c5 dB m7 h0 o2=>?_
    have hZ:=h0.lst [] (fun _ h=>h.elim)
    replace q1:=q1.stS h0 id (fun _ _=>id)
    replace r1:=r1.stS h0 id (fun _ _=>id)
    refine Ay [] hZ (by kernel_rfl) ?_
    refine Au (i:=7) (by kernel_rfl) rfl ?_
    refine AD o2 rfl rfl rfl (AU rfl) (allOne rfl) fun n7 q0 o2=>?_
    replace o2:Lc 10 n7 m7 c5 35 [(.string f0.name),(.int .i64 f0.cost),(.slice y4 f0.pre.length z4),(.slice a5 f0.effs.length b5)]:=o2
    replace q1:=q1.stS q0 (by decide) (by decide)
    replace r1:=r1.stS q0 (by decide) (by decide)
    refine BK (by kernel_rfl) ?_
    refine AZ (by kernel_rfl) ?_
    replace w1:=((w1.st y0).st h0).st q0
    replace x1:=((x1.st y0).st h0).st q0
    replace y1:=((y1.st y0).st h0).st q0
    replace z1:=((z1.st y0).st h0).st q0
    replace a2:=((a2.st y0).st h0).st q0
    replace b2:=((b2.st y0).st h0).st q0
    replace c2:=((c2.st y0).st h0).st q0
    replace j1:=((j1.st y0).st h0).st q0
    replace k1:=((k1.st y0).st h0).st q0
    replace m1:=((m1.st y0).st h0).st q0
    replace d2:=((d2.st y0).st h0).st q0
    replace e2:=((e2.st y0).st h0).st q0
    obtain ⟨eB,f2,i3,j3,o7⟩:=Fnd.shut (x:=x0) (l0:=2) (l1:=3) (l2:=4) (l3:=5) (l4:=6) (l5:=7) (by decide) w1 x1 y1 z1 a2 b2 c2 j1 k1 m1 d2 e2 p4 q4
    replace q1:=q1.shutS f2 i3 j3 [2] (by decide)
    replace r1:=r1.shutS f2 i3 j3 [2] (by decide)
    obtain rfl:=sm h3
    exact ⟨(c5,(y4,z4),(a5,b5)),_,⟨rfl,rfl,rfl,rfl,rfl,rfl,rfl,trivial⟩,((((((hB.st t0).st u0).st w0).st y0).st h0).st q0).st f2,o7,((((((c1.st t0).st u0).st w0).st y0).st h0).st q0).st f2,((((((b0.st t0).st u0).st w0).st y0).st h0).st q0).st f2,o2.st f2,q1,r1,((((((n0.st t0).st u0).st w0).st y0).st h0).st q0).st f2,l7,k7⟩
   refine Bd 10 x3 rfl fun d5 fB p7 j0 g2=>?_
   have hZ:=j0.lst [] (fun _ h=>h.elim)
   refine Ay [] hZ (by kernel_rfl) ?_
   refine Au (i:=5) (by kernel_rfl) rfl ?_
   replace s1:=(((s1.st t0).st u0).st w0).st j0
   replace t1:=(((t1.st t0).st u0).st w0).st j0
   replace j1:=j1.st j0
   replace k1:=k1.st j0
   replace m1:=m1.st j0
   refine IF (O:=p7) (ls:=[4,5]) (R:=fun w' F v=>Vb w' F v f0) (Fk FrS.lt (Vb.ofAgg (cs:=[(.slice r4 x0.x.vars.length s4),(.slice t4 x0.x.vals.length u4),(.slice v4 x0.x.ops.length w4)]) (x:=x0.x) rfl ⟨_,_,_,rfl,(j1.lend [4,5] (by decide)),(Vb.subS k1.lend (by decide)),(m1.lend [4,5])⟩) ((Vb.ofAgg (cs:=[(.string j2.name),(.int .i64 j2.cost),(.slice t3 j2.pre.length u3),(.slice v3 j2.effs.length w3)]) (x:=j2) rfl ⟨_,_,rfl,s1,t1,n4,o4⟩).lend [4,5]) x4) rfl rfl fun gB iB q7 r0 r7=>?_
   obtain ⟨w8,rfl,jB,kB,rfl,k2,m2,s7,t7⟩:=r7
   obtain ⟨e5,f5,rfl⟩:=k2.form
   obtain ⟨g5,h5,rfl⟩:=m2.form
   have hZ:=r0.lst [] (fun _ h=>h.elim)
   refine Ay [] hZ (by kernel_rfl) ?_
   refine Au (i:=7) (by kernel_rfl) rfl ?_
   replace g2:=g2.st r0
   refine AD g2 rfl rfl rfl (AU rfl) (allOne rfl) fun u7 s0 g2=>?_
   replace g2:Lc 10 u7 q7 d5 35 [(.string f0.name),(.int .i64 f0.cost),(.slice e5 f0.pre.length f5),(.slice g5 f0.effs.length h5)]:=g2
   replace k2:=k2.stS s0 (by decide) (by decide)
   replace m2:=m2.stS s0 (by decide) (by decide)
   refine BK (by kernel_rfl) ?_
   refine AZ (by kernel_rfl) ?_
   replace w1:=((w1.st j0).st r0).st s0
   replace x1:=((x1.st j0).st r0).st s0
   replace y1:=((y1.st j0).st r0).st s0
   replace z1:=((z1.st j0).st r0).st s0
   replace a2:=((a2.st j0).st r0).st s0
   replace b2:=((b2.st j0).st r0).st s0
   replace c2:=((c2.st j0).st r0).st s0
   replace j1:=(j1.st r0).st s0
   replace k1:=(k1.st r0).st s0
   replace m1:=(m1.st r0).st s0
   replace d2:=((d2.st j0).st r0).st s0
   replace e2:=((e2.st j0).st r0).st s0
   obtain ⟨lB,h2,k3,m3,v7⟩:=Fnd.shut (x:=x0) (l0:=2) (l1:=3) (l2:=4) (l3:=5) (l4:=6) (l5:=7) (by decide) w1 x1 y1 z1 a2 b2 c2 j1 k1 m1 d2 e2 p4 q4
   replace k2:=k2.shutS h2 k3 m3 [2] (by decide)
   replace m2:=m2.shutS h2 k3 m3 [2] (by decide)
   obtain rfl:=sm h3
   exact ⟨(d5,(e5,f5),(g5,h5)),_,⟨rfl,rfl,rfl,rfl,rfl,rfl,rfl,trivial⟩,((((((hB.st t0).st u0).st w0).st j0).st r0).st s0).st h2,v7,((((((c1.st t0).st u0).st w0).st j0).st r0).st s0).st h2,((((((b0.st t0).st u0).st w0).st j0).st r0).st s0).st h2,g2.st h2,k2,m2,((((((n0.st t0).st u0).st w0).st j0).st r0).st s0).st h2,t7,s7⟩
  replace hB:=((hB.st t0).st u0).st w0
  replace n0:=((n0.st t0).st u0).st w0
  replace c1:=((c1.st t0).st u0).st w0
  replace b0:=((b0.st t0).st u0).st w0
  rintro mB nB ⟨a0,oB,i5,hB,w7,c1,b0,d1,k0,m0,n0,x7,y7⟩
  refine AE _ i5 ?_
  refine Ab (Aa (Am rfl rfl (o_z ?_)))
  refine Ab (Ab (Aa (Aj rfl rfl (Eg rfl rfl ?_))))
  obtain ⟨pB,qB,rB,sB,tB,uB,vB,wB,xB,yB,zB,aC,n1,n3,j5,k5,m5,n5,a1,o5,p5,q5,r5,s5,t5,u5,z7,a8⟩:=Fnd.opn w7 2 3 4 5 6 7 (by decide)
  obtain ⟨bC,cC,rfl⟩:=k5.form
  obtain ⟨dC,eC,rfl⟩:=m5.form
  obtain ⟨fC,gC,rfl⟩:=n5.form
  obtain ⟨x2,y2,rfl⟩:=a1.form
  obtain ⟨hC,iC,rfl⟩:=o5.form
  obtain ⟨jC,kC,rfl⟩:=p5.form
  obtain ⟨lC,mC,rfl⟩:=q5.form
  obtain ⟨nC,oC,rfl⟩:=r5.form
  obtain ⟨pC,qC,rfl⟩:=s5.form
  obtain ⟨rC,sC,rfl⟩:=t5.form
  obtain ⟨tC,uC,rfl⟩:=u5.form
  replace k0:=k0.opnS n1 (by decide) n3 [2,3,4,5,6,7] (by decide)
  replace m0:=m0.opnS n1 (by decide) n3 [2,3,4,5,6,7] (by decide)
  refine AS rfl rfl (AS rfl rfl (AJ (hc:=Blk.cell (i:=3) (j5.1) rfl) rfl rfl ?_))
  refine AX rfl rfl ?_
  have y3:x0.t.ops.length≤9223372036854775807:=Nat.le_trans a1.len.2.1 a1.len.2.2
  have vC:inI64 (x0.t.ops.length:Int):=rngNat y3
  refine Aj rfl rfl (o_z ?_)
  obtain ⟨b8,i1,o3,p3,e1⟩:=Fnd.shut (x:=x0) (l0:=2) (l1:=3) (l2:=4) (l3:=5) (l4:=6) (l5:=7) (by decide) j5 k5 m5 n5 a1 o5 p5 q5 r5 s5 t5 u5 z7 a8
  replace k0:=k0.shutS i1 o3 p3 [2] (by decide)
  replace m0:=m0.shutS i1 o3 p3 [2] (by decide)
  obtain ⟨z3,v5,o0⟩:=bs o0
  refine Ax (aft z3 (fun (o1:Int) (z2:Unit)=>[(0,(.pointer (some ⟨p0,0,none⟩))),(4,(.slice f1.1 g1.1.length f1.2)),(5,(.slice (some ⟨w2,0,none⟩) u2.length v2)),(9,(.int .i64 o1)),(23,(.slice s2 x0.t.ops.length t2)),(24,(.int .i64 (x0.t.ops.length:Int))),(25,(.int .i64 (g4:Int)))]) (fun o1 z2 w'=>∃ O':Lab,Bm w O0 w' O'∧Ob 2 w' O' (.pointer (some ⟨p0,0,none⟩)) x0∧Rw 12 w' O' 3 (.slice f1.1 g1.1.length f1.2) g1.1∧Rw 8 w' O' 4 (.slice (some ⟨w2,0,none⟩) u2.length v2) g1.2∧Vb w' (Fr 0 w' O') (.slice s2 x0.t.ops.length t2) x0.t.ops∧inI64 o1)) ?_ ?_
  ·
   refine AG ?_
   replace hB:=(hB.st n1).st i1
   replace n0:=(n0.st n1).st i1
   replace c1:=(c1.st n1).st i1
   replace b0:=(b0.st n1).st i1
   replace d1:=(d1.st n1).st i1
   replace a1:=a1.st i1
   refine Bk (σ:=Int) (X:=Unit) (x0.t.ops.length) v5 rfl y3 (fun (o1:Int) (z2:Unit)=>[(0,(.pointer (some ⟨p0,0,none⟩))),(4,(.slice f1.1 g1.1.length f1.2)),(5,(.slice (some ⟨w2,0,none⟩) u2.length v2)),(8,(.pointer (some ⟨a0.1,0,none⟩))),(9,(.int .i64 o1)),(23,(.slice s2 x0.t.ops.length t2)),(24,(.int .i64 (x0.t.ops.length:Int))),(25,(.int .i64 (g4:Int))),(39,(.slice x2 x0.t.ops.length y2))]) _ (fun o1 z2 w'=>∃ O':Lab,Bm w O0 w' O'∧Ob 2 w' O' (.pointer (some ⟨p0,0,none⟩)) x0∧Rw 12 w' O' 3 (.slice f1.1 g1.1.length f1.2) g1.1∧Rw 8 w' O' 4 (.slice (some ⟨w2,0,none⟩) u2.length v2) g1.2∧Lc 10 w' O' a0.1 35 [(.string f0.name),(.int .i64 f0.cost),(.slice a0.2.1.1 g0.1.length a0.2.1.2),(.slice a0.2.2.1 g0.2.length a0.2.2.2)]∧Vb w' (FrS [2] w' O') (.slice a0.2.1.1 g0.1.length a0.2.1.2) g0.1∧Vb w' (FrS [2] w' O') (.slice a0.2.2.1 g0.2.length a0.2.2.2) g0.2∧Vb w' (Fr 0 w' O') (.slice s2 x0.t.ops.length t2) x0.t.ops∧Vb w' (Fr 0 w' O') (.slice x2 x0.t.ops.length y2) x0.t.ops∧inI64 o1) _ () ⟨b8,hB,e1,c1,b0,d1,k0,m0,n0,a1,(show inI64 (-1) from by decide)⟩ ⟨rfl,rfl,rfl,rfl,rfl,rfl,rfl,rfl,rfl,rfl,rfl,trivial⟩ (fun _ _=>⟨rfl,rfl⟩) (fun _ _=>⟨rfl,rfl,rfl,rfl,rfl,rfl,rfl,trivial⟩) (fun _ _ _ ⟨O',hB,e1,c1,b0,d1,k0,m0,n0,a1,p2⟩=>⟨O',hB,e1,c1,b0,n0,p2⟩) ⟨rfl,rfl,rfl⟩ ⟨rfl,rfl⟩ ?_
   rintro a4 p1 o1 z2 wC x8 q3 ⟨c8,hB,e1,c1,b0,d1,k0,m0,n0,a1,p2⟩ h1 a7 a3
   have rk318:inI64 (a4:Int):=rngK q3 y3
   refine Ab (Aa (Aj rfl rfl ?_))
   obtain ⟨xC,yC,y8,w5,x5,y5,zC,aD,rfl,b3,c3,d8,e8⟩:=a1.elem' q3
   obtain ⟨z5,a6,rfl⟩:=b3.form
   obtain ⟨b6,c6,rfl⟩:=c3.form
   refine Bv (hA:=w5) (hj:=rfl) (hlt:=x5) rfl rfl rfl ?_
   refine Ba (hl:=rfl) (hc:=y5) rfl rfl ?_
   refine Bd 11 c8 rfl fun f8 bD d3 c0 q2=>?_
   replace k0:=k0.stS c0 id (fun _ _=>id)
   replace m0:=m0.stS c0 id (fun _ _=>id)
   refine Am rfl rfl (AD q2 rfl rfl rfl (AU rfl) (allOne rfl) fun e3 d0 q2=>?_)
   replace q2:Lc 11 e3 d3 f8 35 [(.string p1.name),(.int .i64 p1.cost),(.slice z5 p1.pre.length a6),(.slice b6 p1.effs.length c6)]:=q2
   replace k0:=k0.stS d0 (by decide) (by decide)
   replace m0:=m0.stS d0 (by decide) (by decide)
   refine o_z ?_
   refine Ab ?_
   obtain ⟨g8,e0,h1⟩:=bs h1
   refine Ax (fun l' w'=>∃ (h8:Unit) (O':Lab),subs l' [(0,(.pointer (some ⟨p0,0,none⟩))),(4,(.slice f1.1 g1.1.length f1.2)),(5,(.slice (some ⟨w2,0,none⟩) u2.length v2)),(8,(.pointer (some ⟨a0.1,0,none⟩))),(9,(.int .i64 o1)),(10,(.int .i64 (a4:Int))),(23,(.slice s2 x0.t.ops.length t2)),(24,(.int .i64 (x0.t.ops.length:Int))),(25,(.int .i64 (g4:Int))),(39,(.slice x2 x0.t.ops.length y2)),(40,(.int .i64 (x0.t.ops.length:Int))),(41,(.int .i64 (a4:Int))),(55,(.bool g8))]∧Bm w O0 w' O'∧Ob 2 w' O' (.pointer (some ⟨p0,0,none⟩)) x0∧Rw 12 w' O' 3 (.slice f1.1 g1.1.length f1.2) g1.1∧Rw 8 w' O' 4 (.slice (some ⟨w2,0,none⟩) u2.length v2) g1.2∧Lc 10 w' O' a0.1 35 [(.string f0.name),(.int .i64 f0.cost),(.slice a0.2.1.1 g0.1.length a0.2.1.2),(.slice a0.2.2.1 g0.2.length a0.2.2.2)]∧Vb w' (FrS [2] w' O') (.slice a0.2.1.1 g0.1.length a0.2.1.2) g0.1∧Vb w' (FrS [2] w' O') (.slice a0.2.2.1 g0.2.length a0.2.2.2) g0.2∧Vb w' (Fr 0 w' O') (.slice s2 x0.t.ops.length t2) x0.t.ops∧Vb w' (Fr 0 w' O') (.slice x2 x0.t.ops.length y2) x0.t.ops) ?_ ?_
   ·
    refine Aa (Aj rfl rfl (Aj rfl rfl ?_))
    obtain ⟨i8,j8,e0⟩:=bs e0
    replace b0:=(b0.st c0).st d0
    obtain ⟨cD,dD,z8,d6,e6,f6,rfl⟩:=b0.elem j8
    refine Bv (hA:=d6) (hj:=rfl) (hlt:=e6) rfl rfl rfl ?_
    refine AJ (hc:=cat0 f6) rfl rfl ?_
    refine CU rfl rfl (Aj rfl rfl ?_)
    rcases Bool.eq_false_or_eq_true (!i8) with r2|r2
    ·
     try rw [r2]
     replace e0:=ip e0 r2
     refine Ar rfl rfl ?_
     replace d1:=(d1.st c0).st d0
     refine Ba (hl:=rfl) (hc:=(d1.1).cellsAt) rfl rfl ?_
     refine Ar rfl rfl (Ba (hl:=rfl) (hc:=(q2.1).cellsAt) rfl rfl ?_)
     refine Ar rfl rfl ?_
     obtain ⟨g6,k8,e0⟩:=bs e0
     replace b3:=(b3.st c0).st d0
     replace c3:=(c3.st c0).st d0
     refine Bf (O:=d3) (A:=All e3) (R:=fun w' F v=>Vb w' F v g6) (GA (fun _ h=>h) (Vb.mono (F:=FrS [2] e3 d3) (Vb.ofAgg (cs:=[(.string f0.name),(.int .i64 f0.cost),(.slice a0.2.1.1 g0.1.length a0.2.1.2),(.slice a0.2.2.1 g0.2.length a0.2.2.2)]) (x:=(⟨f0.name,f0.cost,g0.1,g0.2⟩:Opr)) rfl ⟨_,_,rfl,(Vb.subS k0 (by decide)),(Vb.subS m0 (by decide)),y7,x7⟩) FrS.lt) (Vb.mono (F:=Fr 0 e3 d3) (Vb.ofAgg (cs:=[(.string p1.name),(.int .i64 p1.cost),(.slice z5 p1.pre.length a6),(.slice b6 p1.effs.length c6)]) (x:=p1) rfl ⟨_,_,rfl,b3,c3,d8,e8⟩) Fr.lt) k8) rfl rfl fun eD fD gD b1 l8=>?_
     obtain rfl:=l8.bool
     replace k0:=k0.stS b1 id (fun _ _=>id)
     replace m0:=m0.stS b1 id (fun _ _=>id)
     cases g6
     case false =>
      replace e0:=iF e0
      refine By rfl rfl rfl (o_z ?_)
      obtain rfl:=sm e0
      exact ⟨(),_,⟨rfl,rfl,rfl,rfl,rfl,rfl,rfl,rfl,rfl,rfl,rfl,rfl,rfl,trivial⟩,((hB.st c0).st d0).st b1,((e1.st c0).st d0).st b1,((c1.st c0).st d0).st b1,b0.st b1,d1.st b1,k0,m0,((n0.st c0).st d0).st b1,((a1.st c0).st d0).st b1⟩
     replace e0:=iT e0
     refine By rfl rfl rfl (o_z ?_)
     obtain rfl:=sm e0
     exact ⟨(),_,⟨rfl,rfl,rfl,rfl,rfl,rfl,rfl,rfl,rfl,rfl,rfl,rfl,rfl,trivial⟩,((hB.st c0).st d0).st b1,((e1.st c0).st d0).st b1,((c1.st c0).st d0).st b1,b0.st b1,d1.st b1,k0,m0,((n0.st c0).st d0).st b1,((a1.st c0).st d0).st b1⟩
    try rw [r2]
    replace e0:=im' e0 r2
    refine An rfl rfl rfl rfl (An rfl rfl rfl rfl (An rfl rfl rfl rfl (Bz rfl rfl rfl (o_z ?_))))
    obtain rfl:=sm e0
    exact ⟨(),_,⟨rfl,rfl,rfl,rfl,rfl,rfl,rfl,rfl,rfl,rfl,rfl,rfl,rfl,trivial⟩,(hB.st c0).st d0,(e1.st c0).st d0,(c1.st c0).st d0,b0,(d1.st c0).st d0,k0,m0,(n0.st c0).st d0,(a1.st c0).st d0⟩
   replace hB:=(hB.st c0).st d0
   replace n0:=(n0.st c0).st d0
   replace c1:=(c1.st c0).st d0
   replace b0:=(b0.st c0).st d0
   replace d1:=(d1.st c0).st d0
   replace a1:=(a1.st c0).st d0
   replace e1:=(e1.st c0).st d0
   rintro hD iD ⟨h8,jD,h6,hB,e1,c1,b0,d1,k0,m0,n0,a1⟩
   refine AE _ h6 ?_
   refine Bp rfl (fun b4=>?_) (fun b4=>?_)
   ·
    replace h1:=ip h1 b4
    refine Ab (Aa (Aj rfl rfl (Am rfl rfl (o_z ?_))))
    refine Ck ?_
    obtain rfl:=sm h1
    exact show Exists _ from ⟨_,(),a3 _ rfl,⟨rfl,rfl,rfl,rfl,rfl,rfl,rfl,trivial⟩,_,hB,e1,c1,b0,n0,rk318⟩
   replace h1:=im' h1 b4
   refine AI ?_
   obtain rfl:=sm h1
   exact show Exists _ from ⟨_,(),rfl,⟨rfl,rfl,rfl,rfl,rfl,rfl,rfl,rfl,rfl,rfl,rfl,trivial⟩,_,hB,e1,c1,b0,d1,k0,m0,n0,a1,p2⟩
  replace hB:=(hB.st n1).st i1
  replace n0:=(n0.st n1).st i1
  replace c1:=(c1.st n1).st i1
  replace b0:=(b0.st n1).st i1
  rintro kD lD ⟨m8,mD,rfl,i6,nD,hB,e1,c1,b0,n0,p2⟩
  replace o0:=AV o0
  refine AE _ i6 ?_
  refine Ab (Ab (Aa (Aj rfl rfl (Dj rfl rfl rfl (fun c4=>?_) fun c4=>?_))))
  ·
   replace o0:=ip o0 c4
   refine o_z ?_
   refine Ah rfl (Ab (Aa (Am rfl rfl (Am rfl rfl (o_z ?_)))))
   refine AF ?_
   obtain rfl:=sm o0
   obtain rfl:=s3 _ rfl
   obtain rfl:=sm (Cq hm)
   obtain ⟨O',hS',hz,hl⟩:=hE.leave (fun q=>if q=2 then i0 else 0) rfl hB
   exact ret2 rfl (AC rfl) (AC rfl) ⟨O',hS',_,_,(Ob.leave e1 hz (hl 2 (by decide) (by decide)) e4.2),rfl,(Vb.mono (Vb.nil _ _) hz),vBool⟩
  replace o0:=im o0 c4
  refine o_z ?_
  refine Ae rfl (AI (Ab (Aa (Aj rfl rfl (Aj rfl rfl ?_)))))
  obtain ⟨oD,n8,o0⟩:=bs o0
  obtain ⟨o8,j6⟩:=AO n8
  obtain ⟨pD,qD,a9,r3,k6,b9,rfl⟩:=b0.elem j6
  refine Bv (hA:=r3) (hj:=(Int.toNat_of_nonneg o8).symm) (hlt:=k6) rfl rfl rfl ?_
  refine EB rfl b0 (a:=true) vBool r3 rfl rfl (Aw j6) fun rD f3 b0=>?_
  refine o_z ?_
  refine Aa (Aj rfl rfl (Aj rfl rfl ?_))
  obtain ⟨sD,d4,o0⟩:=bs o0
  obtain ⟨d4,p8,q8⟩:=AT d4
  replace c1:=c1.st f3
  refine CF rfl (a:=m8) c1 (vInt p2) (fun _=>rfl) rfl (by decide) (by decide) p8 q8 ⟨rfl,rfl⟩ fun tD r8 s8 uD vD g3 l6=>?_
  rw [← d4] at l6 ⊢
  refine Am rfl rfl (o_z ?_)
  obtain rfl:=sm o0
  exact show Exists _ from ⟨_,(r8,s8),rfl,⟨rfl,rfl,rfl,rfl,rfl,rfl,trivial⟩,_,(hB.st f3).st g3,(e1.st f3).st g3,l6,b0.st g3,(n0.st f3).st g3⟩
 replace hB:=((hB.st S3).st i2).st z6
 rintro wD xD ⟨yD,zD,rfl,m6,aE,hB,c1,n2⟩
 replace hm:=AV hm
 refine AE _ m6 ?_
 refine Ab (Aa (Aj rfl rfl (Am rfl rfl (Am rfl rfl (o_z ?_)))))
 refine AF ?_
 obtain ⟨bE,n6,c1⟩:=c1.freeze
 obtain rfl:=sm hm
 replace hB:=hB.st n6
 obtain ⟨O',hS',hz,hl⟩:=hE.leave (fun q=>if q=2 then i0 else 0) rfl hB
 replace n2:=n2.st n6
 exact ret2 rfl (AC rfl) (AC rfl) ⟨O',hS',_,_,(Ob.leave n2 hz (hl 2 (by decide) (by decide)) e4.2),rfl,(Vb.mono c1 hz),vBool⟩
noncomputable def Cx (x0:Fnd) (x1:List Int):Option Swp :=
  bnd (CB x0.x.vars) fun q65=>bnd (rng (ρ:=Swp) (fun (k94:Nat) (a95:List Int) (s92:(List (List Int)))=>bnd (CB a95) fun q120=>bnd (appI 24 s92 [q120]) fun u138=>some (.next u138)) x0.x.vals 0 ([]:List (List Int))) fun res90=>fin res90 fun (s155:(List (List Int)))=>some (⟨q65,s155,x1⟩:Swp)
theorem GD {w:World} {O:Lab} {p0 i0:Nat} {x0:Fnd} (f1:Ob i0 w O (.pointer (some ⟨p0,0,none⟩)) x0) {vx1:Value} {x1:List Int} (n0:Vb w (Fr 0 w O) vx1 x1) {r:Swp} (hm:Cx x0 x1=some r) :
    Fn Tryz.prog 85 [(.pointer (some ⟨p0,0,none⟩)),vx1] w fun v w'=>∃ O',St (eT i0) w O w' O'∧Ob i0 w' O' (.pointer (some ⟨p0,0,none⟩)) x0∧Vb w' (Fr 0 w' O') v r:=by
 obtain ⟨O0,hE,a3,e3⟩:=ent1 (w:=w) (O:=O) f1.2
 have f1':=Ob.leave f1 a3 e3 (j:=2) (by decide)
 have hB:Bm w O0 w O0:=Bm.refl
 replace n0:=n0.mono a3
 obtain ⟨A3,c4,rfl⟩:=n0.form
 refine AP Tryz.func85 rfl Tryz.ntmps85 rfl ?_
 unfold Cx at hm
 refine Ab (Aa (Bd 3 O0 rfl fun g5 w6 O7 S8 h9=>?_))
 refine o_z ?_
 refine Ab (Aa (Aj rfl rfl (Eg rfl rfl ?_)))
 replace f1':=f1'.st S8
 obtain ⟨f3,k4,m4,n4,o4,p4,q4,r4,s4,t4,u4,v4,j1,g3,m1,y1,z1,a2,b2,c2,d2,n1,g1,e2,f2,g2,h3,i3⟩:=Fnd.opn f1' 2 4 5 6 7 8 (by decide)
 obtain ⟨w4,x4,rfl⟩:=y1.form
 obtain ⟨y4,z4,rfl⟩:=z1.form
 obtain ⟨a5,b5,rfl⟩:=a2.form
 obtain ⟨c5,d5,rfl⟩:=b2.form
 obtain ⟨e5,f5,rfl⟩:=c2.form
 obtain ⟨h5,i5,rfl⟩:=d2.form
 obtain ⟨j5,k5,rfl⟩:=n1.form
 obtain ⟨b3,c3,rfl⟩:=g1.form
 obtain ⟨m5,n5,rfl⟩:=e2.form
 obtain ⟨o5,p5,rfl⟩:=f2.form
 obtain ⟨q5,r5,rfl⟩:=g2.form
 refine AS rfl rfl (AS rfl rfl (AJ (hc:=Blk.cell (i:=6) (m1.1) rfl) rfl rfl ?_))
 obtain ⟨s0,j3,hm⟩:=bs hm
 refine Fl 9 (by decide) (O:=f3) ((EX (fun _ h=>h) (n1).all j3).mono fun _ _ hh=>⟨hh.1,hh.2.ints⟩) rfl rfl fun a1 b1 s5 k3 h0 j0=>?_
 refine Aj rfl rfl (EH rfl rfl rfl ?_)
 refine Bd 10 k3 rfl fun k1 t5 m3 c0 b0=>?_
 refine AD b0 rfl rfl rfl (AU rfl) (allOne rfl) fun n3 d0 b0=>?_
 replace b0:Lc 10 n3 m3 k1 43 [(.slice a1 s0.length b1),(.slice none 0 0),(.slice A3 x1.length c4)]:=b0
 refine o_z ?_
 refine Ab (Ab (Aa (Aj rfl rfl (Eg rfl rfl (AS rfl rfl (AS rfl rfl ?_))))))
 replace m1:=((m1.st h0).st c0).st d0
 refine AJ (hc:=Blk.cell (i:=7) (m1.1) rfl) rfl rfl ?_
 refine AX rfl rfl ?_
 replace g1:=((g1.st h0).st c0).st d0
 have j2:x0.x.vals.length≤9223372036854775807:=Nat.le_trans g1.len.2.1 g1.len.2.2
 have u5:inI64 (x0.x.vals.length:Int):=rngNat j2
 refine Aj rfl rfl (o_z ?_)
 replace y1:=((y1.st h0).st c0).st d0
 replace z1:=((z1.st h0).st c0).st d0
 replace a2:=((a2.st h0).st c0).st d0
 replace b2:=((b2.st h0).st c0).st d0
 replace c2:=((c2.st h0).st c0).st d0
 replace d2:=((d2.st h0).st c0).st d0
 replace n1:=((n1.st h0).st c0).st d0
 replace e2:=((e2.st h0).st c0).st d0
 replace f2:=((f2.st h0).st c0).st d0
 replace g2:=((g2.st h0).st c0).st d0
 obtain ⟨o3,u0,k2,m2,c1⟩:=Fnd.shut (x:=x0) (l0:=2) (l1:=4) (l2:=5) (l3:=6) (l4:=7) (l5:=8) (by decide) m1 y1 z1 a2 b2 c2 d2 n1 g1 e2 f2 g2 h3 i3
 have o0:=(g1.lend).shutS u0 k2 m2 [2] (by decide)
 obtain ⟨o1,n2,hm⟩:=bs hm
 refine Ax (aft o1 (fun (z0:(List (List Int))) (t0:(Option Addr×Nat))=>[(4,(.pointer (some ⟨g5,0,none⟩))),(5,(.pointer (some ⟨k1,0,none⟩)))]) (fun z0 t0 w'=>∃ O':Lab,Bm w O0 w' O'∧Lc 3 w' O' g5 43 [(.slice none 0 0),(.slice none 0 0),(.slice none 0 0)]∧Lc 10 w' O' k1 43 [(.slice a1 s0.length b1),(.slice t0.1 z0.length t0.2),(.slice A3 x1.length c4)]∧Rw 9 w' O' 3 (.slice a1 s0.length b1) s0∧Rw 13 w' O' 24 (.slice t0.1 z0.length t0.2) z0∧Vb w' (Fr 0 w' O') (.slice A3 x1.length c4) x1∧Ob 2 w' O' (.pointer (some ⟨p0,0,none⟩)) x0)) ?_ ?_
 ·
  refine AG ?_
  replace hB:=(((((hB.st S8).st j1).st h0).st c0).st d0).st u0
  replace n0:=(((((n0.st S8).st j1).st h0).st c0).st d0).st u0
  replace h9:=((((h9.st j1).st h0).st c0).st d0).st u0
  replace j0:=((j0.st c0).st d0).st u0
  replace b0:=b0.st u0
  refine Bk (σ:=(List (List Int))) (X:=(Option Addr×Nat)) (x0.x.vals.length) n2 rfl j2 (fun (z0:(List (List Int))) (t0:(Option Addr×Nat))=>[(4,(.pointer (some ⟨g5,0,none⟩))),(5,(.pointer (some ⟨k1,0,none⟩))),(20,(.slice b3 x0.x.vals.length c3))]) _ (fun z0 t0 w'=>∃ O':Lab,Bm w O0 w' O'∧Lc 3 w' O' g5 43 [(.slice none 0 0),(.slice none 0 0),(.slice none 0 0)]∧Lc 10 w' O' k1 43 [(.slice a1 s0.length b1),(.slice t0.1 z0.length t0.2),(.slice A3 x1.length c4)]∧Rw 9 w' O' 3 (.slice a1 s0.length b1) s0∧Rw 13 w' O' 24 (.slice t0.1 z0.length t0.2) z0∧Vb w' (Fr 0 w' O') (.slice A3 x1.length c4) x1∧Vb w' (FrS [2] w' O') (.slice b3 x0.x.vals.length c3) x0.x.vals∧Ob 2 w' O' (.pointer (some ⟨p0,0,none⟩)) x0) _ (none,0) ⟨o3,hB,h9,b0,j0,(Rw.nil 13 (by decide)),n0,o0,c1⟩ ⟨rfl,rfl,rfl,rfl,rfl,trivial⟩ (fun _ _=>⟨rfl,rfl⟩) (fun _ _=>⟨rfl,rfl,trivial⟩) (fun _ _ _ ⟨O',hB,h9,b0,j0,a0,n0,o0,c1⟩=>⟨O',hB,h9,b0,j0,a0,n0,c1⟩) ⟨rfl,rfl,rfl⟩ ⟨rfl,rfl⟩ ?_
  rintro p3 v5 z0 t0 q3 r3 p1 ⟨o2,hB,h9,b0,j0,a0,n0,o0,c1⟩ k0 h2 i2
  have rk94:inI64 (p3:Int):=rngK p1 j2
  refine Ab (Aa ?_)
  obtain ⟨s3,t3,d3,q1,r1,s1,u3,rfl,d1⟩:=o0.elem' p1
  replace d1:=Vb.of_slice d1
  obtain ⟨v3,w3,rfl⟩:=d1.form
  refine Bv (hA:=q1) (hj:=rfl) (hlt:=r1) rfl rfl rfl ?_
  refine AJ (hc:=cat0 s1) rfl rfl ?_
  refine Am rfl rfl (o_z ?_)
  refine Bc [(4,[11]),(5,[13])] o2 ?_
  refine Az (fuel:=7) [] [(2,true)] (by kernel_rfl) rfl ?_
  refine AH rfl rfl rfl (As ?_)
  refine Az (fuel:=5) [11] [(0,true),(1,true)] (by kernel_rfl) rfl ?_
  refine AM rfl rfl rfl (AK (hc:=fun w' ⟨O',hq⟩=>Blk.cell (i:=1) ((b0.st hq (by decide)).1) rfl) rfl rfl rfl ?_)
  refine As ?_
  refine Au (i:=3) (by kernel_rfl) rfl ?_
  obtain ⟨p2,q2,k0⟩:=bs k0
  refine Fl 11 (by decide) (O:=o2) ((EX (fun _ h=>h) (Vb.mono (F:=FrS [2] q3 o2) d1 FrS.lt) q2).mono fun _ _ hh=>⟨hh.1,hh.2.ints⟩) rfl rfl fun x3 y3 z3 a4 e0 h1=>?_
  have hZ:=e0.lst [] (fun _ h=>h.elim)
  replace o0:=o0.stS e0 id (fun _ _=>id)
  refine Ay [(4,[11]),(5,[13])] hZ (by kernel_rfl) ?_
  refine Au (i:=4) (by kernel_rfl) rfl ?_
  obtain ⟨r2,f0,h1⟩:=h1.freeze
  have hZ:=f0.lst [11] (fun _ h=>by cases h;decide)
  replace o0:=o0.stS f0 (by decide) (by decide)
  refine Bi 12 (by decide) r2 (xs:=([p2]:List (List Int))) rfl rfl rfl rfl ⟨h1,trivial⟩ (by decide) (by decide) rfl fun b4 d4 e4 g0 s2=>?_
  replace hZ:=hZ.cmp g0 [11] (fun _ h=>h.elim) rfl
  replace o0:=o0.stS g0 id (fun _ _=>id)
  refine Ay [(5,[13])] hZ (by kernel_rfl) ?_
  refine Au (i:=5) (by kernel_rfl) rfl ?_
  obtain ⟨t2,i1,k0⟩:=bs k0
  obtain ⟨i1,u2,v2⟩:=AT i1
  replace a0:=((a0.st e0).st f0).st g0
  refine BP rfl a0 (s2.rd) rfl rfl (by decide) u2 v2 rfl fun t1 u1 f4 w2 m0 v1=>?_
  rw [← i1] at v1 ⊢
  have hZ:=m0.lst [13] (fun _ h=>by cases h;decide)
  replace o0:=o0.stS m0 (by decide) (by decide)
  refine Ay [] hZ (by kernel_rfl) ?_
  refine Az (fuel:=1) [] [(6,true)] (by kernel_rfl) rfl ?_
  refine AM rfl rfl rfl (As ?_)
  refine Au (i:=7) (by kernel_rfl) rfl ?_
  replace b0:=(((b0.st e0).st f0).st g0).st m0
  refine AD b0 rfl rfl rfl (AU rfl) (allOne rfl) fun x2 q0 b0=>?_
  replace b0:Lc 10 x2 w2 k1 43 [(.slice a1 s0.length b1),(.slice t1 t2.length u1),(.slice A3 x1.length c4)]:=b0
  replace o0:=o0.stS q0 (by decide) (by decide)
  refine BK (by kernel_rfl) ?_
  refine AZ (by kernel_rfl) ?_
  obtain rfl:=sm k0
  exact show Exists _ from ⟨_,(t1,u1),rfl,⟨rfl,rfl,rfl,rfl,rfl,trivial⟩,_,((((hB.st e0).st f0).st g0).st m0).st q0,((((h9.st e0).st f0).st g0).st m0).st q0,b0,((((j0.st e0).st f0).st g0).st m0).st q0,v1.st q0,((((n0.st e0).st f0).st g0).st m0).st q0,o0,((((c1.st e0).st f0).st g0).st m0).st q0⟩
 replace hB:=(((((hB.st S8).st j1).st h0).st c0).st d0).st u0
 replace n0:=(((((n0.st S8).st j1).st h0).st c0).st d0).st u0
 replace h9:=((((h9.st j1).st h0).st c0).st d0).st u0
 replace j0:=((j0.st c0).st d0).st u0
 replace b0:=b0.st u0
 rintro g4 h4 ⟨e1,r0,rfl,w1,y2,hB,h9,b0,j0,a0,n0,c1⟩
 replace hm:=AV hm
 refine AE _ w1 ?_
 refine Ab (Aa (Ba (hl:=rfl) (hc:=(b0.1).cellsAt) rfl rfl ?_))
 refine AD h9 rfl rfl rfl (AU rfl) (allOne rfl) fun z2 v0 h9=>?_
 replace h9:Lc 3 z2 y2 g5 43 [(.slice a1 s0.length b1),(.slice r0.1 e1.length r0.2),(.slice A3 x1.length c4)]:=h9
 refine o_z ?_
 refine AF ?_
 replace j0:=j0.st v0
 obtain ⟨i4,w0,j0⟩:=j0.freeze
 replace a0:=(a0.st v0).st w0
 obtain ⟨j4,y0,a0⟩:=a0.freeze
 obtain rfl:=sm hm
 replace hB:=((hB.st v0).st w0).st y0
 obtain ⟨O',hS',hz,hl⟩:=hE.leave (fun q=>if q=2 then i0 else 0) rfl hB
 replace n0:=((n0.st v0).st w0).st y0
 replace h9:=(h9.st w0).st y0
 replace j0:=j0.st y0
 replace c1:=((c1.st v0).st w0).st y0
 exact ret1v rfl (CK (cs:=[(.slice a1 s0.length b1),(.slice r0.1 e1.length r0.2),(.slice A3 x1.length c4)]) rfl rfl h9.1.cellsAt) ⟨O',hS',(Ob.leave c1 hz (hl 2 (by decide) (by decide)) f1.2),(Vb.mono (Vb.ofAgg (cs:=[(.slice a1 s0.length b1),(.slice r0.1 e1.length r0.2),(.slice A3 x1.length c4)]) (x:=(⟨s0,e1,x1⟩:Swp)) rfl ⟨_,_,_,rfl,j0,a0,n0⟩) hz)⟩
end
section
open Go Go.RowKit
instance:DecidableEq Fct:=fun a b=>if h:a.var=b.var∧a.val=b.val then isTrue (by cases a;cases b;cases h.1;cases h.2;rfl) else isFalse fun e=>h (by rw [e];exact ⟨rfl,rfl⟩)
def encK (a:Fct):Value:=.agg #[.int .i64 a.var,.int .i64 a.val]
theorem HA (a b:Fct) (w:World):(Op.equal 26 (encK a) (encK b)).run Tryz.prog w=.ok (decide (a=b)) w:=by
  have h1:∀ (n:Nat) (x y:Int) (w:World),(Op.equalIn (n + 1) 3 (.int .i64 x) (.int .i64 y)).run Tryz.prog w=.ok (x == y) w:=fun n x y w=>by simp [Op.equalIn,run_underlying Tryz.underlying3]
  have hs:Tryz.prog.stoodInHeld 26=false:=by kernel_rfl
  have hd:∀ n:Nat,(Op.equalIn (n + 2) 26 (encK a) (encK b)).run Tryz.prog w=.ok (decide (a=b)) w:=fun n=>by
    rw [Op.equalIn]
    simp [encK,run_underlying Tryz.underlying26,hs,Go.part,Fq (P:=Tryz.prog) (t:=3),h1]
    obtain ⟨x,y⟩:=a
    obtain ⟨u,v⟩:=b
    by_cases hx:x=u<;>by_cases hy:y=v<;>simp [hx,hy]
  exact hd 9998
theorem DT (a:Fct) (e:Bool) (w:World):(Instr.checkKey e 10000 26 (encK a)).run Tryz.prog w=.ok () w:=by
  have h1:∀ (n:Nat) (x:Int) (w:World),(Instr.checkKey e (n + 1) 3 (.int .i64 x)).run Tryz.prog w=.ok () w:=fun n x w=>MapKept.run_checkKey Tryz.underlying3 (k:=.int .i64 x) rfl e n
  have hd:∀ n:Nat,(Instr.checkKey e (n + 2) 26 (encK a)).run Tryz.prog w=.ok () w:=fun n=>by
    rw [Instr.checkKey]
    simp [encK,run_underlying Tryz.underlying26,Go.part,Fq (P:=Tryz.prog) (t:=3),h1]
  exact hd 9998
section
variable {V : Type}
def fhas:List (Fct×V)→Fct→Bool
  | [],_=>false
  | p :: r,k=>if p.1=k then true else fhas r k
def fget (z:V):List (Fct×V)→Fct→V
  | [],_=>z
  | p :: r,k=>if p.1=k then p.2 else fget z r k
def fput:List (Fct×V)→Fct→V→List (Fct×V)
  | [],k,v=>[(k,v)]
  | p :: r,k,v=>if p.1=k then (k,v) :: r else p :: fput r k v
def fidx:List (Fct×V)→Fct→Option Nat
  | [],_=>none
  | p :: r,k=>if p.1=k then some 0 else (fidx r k).map (· + 1)
def AskF (a:Fct) (es:List MapEntry) (i:Nat) (q:Option (Nat×Value)):Prop:=∀ w,(Instr.findAsking 26 (encK a) es i).run Tryz.prog w=.ok q w
theorem AskF.find {a:Fct} {es:List MapEntry} {q:Option (Nat×Value)} (h:AskF a es 0 q) (w:World):(Instr.findKey 26 (encK a) es).run Tryz.prog w=.ok q w:=by
  cases es with
  | nil =>
    have h0:=h w
    rw [Instr.findAsking] at h0
    simp [Instr.findKey,run_underlying Tryz.underlying26,Result.andThen,Instr.findNow]
    simpa using h0
  | cons e es =>
    have h0:=h w
    have hn:∀ d v,(∃ fs,d=TypeDesc.struct fs)→Instr.sameNow d (encK a) v=none:=by rintro d v ⟨fs,rfl⟩;rfl
    simp only [Instr.findKey,Sem.run_bind,run_underlying Tryz.underlying26,Result.andThen,Instr.findNow,hn _ _ ⟨_,rfl⟩]
    exact h0
theorem DV (a:Fct):∀ (es:List MapEntry) (x:List (Fct×V)) (i:Nat),es.map (·.key)=x.map (fun p=>encK p.1) →
    (fidx x a=none∧AskF a es i none∧fhas x a=false∧(∀ z,fget z x a=z)∧∀ v,fput x a v=x ++ [(a,v)]) ∨
    ∃ j e p,fidx x a=some j∧es[j]?=some e∧x[j]?=some p∧AskF a es i (some (i + j,e.val))∧e.key=encK a∧fhas x a=true∧(∀ z,fget z x a=p.2)∧∀ v,fput x a v=x.set j (a,v)
  | [],[],_,_=>.inl ⟨rfl,fun w=>by rw [Instr.findAsking];rfl,rfl,fun _=>rfl,fun _=>rfl⟩
  | [],_ :: _,_,h=>by simp at h
  | _ :: _,[],_,h=>by simp at h
  | e :: es,p :: x,i,h=>by
    rw [List.map_cons,List.map_cons] at h
    injection h with h1 h2
    by_cases hp:p.1=a
    · refine .inr ⟨0,e,p,by simp [fidx,hp],rfl,rfl,fun w=>?_,by rw [h1,hp],by simp [fhas,hp],fun z=>by simp [fget,hp],fun v=>by simp [fput,hp]⟩
      rw [Instr.findAsking]
      simp [h1,HA,hp,Result.andThen]
    · have hne:¬ a=p.1:=fun e=>hp e.symm
      rcases DV a es x (i + 1) h2 with ⟨g0,g1,g2,g3,g4⟩|⟨j,e',p',g0,g1,g2,g3,g4,g5,g6,g7⟩
      · refine .inl ⟨by simp [fidx,hp,g0],fun w=>?_,by simp [fhas,hp,g2],fun z=>by simp [fget,hp,g3],fun v=>by simp [fput,hp,g4]⟩
        rw [Instr.findAsking]
        simp [h1,HA,hne,Result.andThen]
        exact g1 w
      · refine .inr ⟨j + 1,e',p',by simp [fidx,hp,g0],by simpa using g1,by simpa using g2,fun w=>?_,g4,by simp [fhas,hp,g5],fun z=>by simp [fget,hp,g6],fun v=>by simp [fput,hp,g7]⟩
        rw [Instr.findAsking]
        simp [h1,HA,hne,Result.andThen]
        have:=g3 w
        rw [show i + 1 + j=i + (j + 1) from by omega] at this
        exact this
end
def LkF (z:Value) (w:World) (r:Nat) (a:Fct) (v:Value) (b:Bool):Prop:=∃ es ck q,w.heap[r]?=some (.map es ck)∧AskF a es.toList 0 q∧v=(match q with|some p=>p.2|none=>z)∧b=q.isSome
theorem LkF.keep {z:Value} {w w':World} {r:Nat} {a:Fct} {v:Value} {b:Bool} (h:LkF z w r a v b) (e:w'.heap[r]?=w.heap[r]?):LkF z w' r a v b:=by
  obtain ⟨es,ck,q,h1,h2⟩:=h
  exact ⟨es,ck,q,e.trans h1,h2⟩
section
variable {l : Env} {w : World} {dst : Option Tmp} {ty : TypeId} {pos : String} {aft : Array Edge}
theorem LU {t e:TypeId} [ht:TMap Tryz.prog t 26 e] {z:Value} {size bytes:Nat} [TInfo Tryz.prog e z size bytes] {x y:Operand} {r:Nat} {a:Fct} {v:Value} {b:Bool} (hx:opv l x=some (.map (some r))) (hy:opv l y=some (encK a)) (hv:LkF z w r a v b) :
    Ev Tryz.prog ⟨dst,.lookup t x y false,ty,pos,aft,none⟩ l w v:=fun _ _ d ha=>by
  obtain ⟨es,ck,q,h1,h2,h3,h4⟩:=hv
  have hb:(dr w d).heap[r]?=some (.map es ck):=h1
  subst h3
  cases q with
  | none=>simp [execOp,ha.eval hx,ha.eval hy,Instr.lookup,run_underlying ht.eq,MapKept.run_getObj_map hb,DT,h2.find,Result.andThen,FB (P:=Tryz.prog) (t:=e)]
  | some p=>simp [execOp,ha.eval hx,ha.eval hy,Instr.lookup,run_underlying ht.eq,MapKept.run_getObj_map hb,DT,h2.find,Result.andThen]
end
def putEsF (es:List MapEntry) (ck:Nat) (key v:Value):Option Nat→List MapEntry
  | none=>es ++ [{ key:=key,val:=v,born:=ck }]
  | some j=>es.modify j fun e=>{ e with key:=key,val:=v }
section
variable {n : Nat} {ops : Array Oper} {Q : Post} {rest : List Oper} {l : Env} {w : World} {d : Tmp} {ty : TypeId} {pos : String} {aft : Array Edge}
theorem JV (a:Fct) (w:World):(Instr.keyThatStays (encK a) (encK a)).run Tryz.prog w=.ok (encK a) w:=by
  simp [Instr.keyThatStays,encK,Instr.sameBits]
set_option maxRecDepth 100000 in
theorem Ov {V:Type} {t e:TypeId} [ht:TMap Tryz.prog t 26 e] {x y u:Operand} {r ck:Nat} {a:Fct} {v:Value} {es:List MapEntry} {xs:List (Fct×V)} (hb:w.heap[r]?=some (.map es.toArray ck)) (hks:es.map (·.key)=xs.map (fun p=>encK p.1)) (hx:opv l x=some (.map (some r))) (hy:opv l y=some (encK a)) (hu:opv l u=some v)
    (h:∀ w' ck',w'.os=w.os→w'.tape=w.tape→w'.output=w.output→w'.heap.size=w.heap.size→w'.heap[r]?=some (.map (putEsF es ck (encK a) v (fidx xs a)).toArray ck')→(∀ q,q≠r→w'.heap[q]?=w.heap[q]?)→owp Tryz.prog n ops Q rest l w'):owp Tryz.prog n ops Q (⟨none,.mapUpdate t x y u,ty,pos,aft,none⟩ :: rest) l w:=fun ac d ha=>by
  refine wpList_plain rfl fun K' hK=>?_
  have hbd:(dr w d).heap[r]?=some (.map es.toArray ck):=hb
  unfold Oper.wp
  rcases DV a es xs 0 hks with ⟨g0,g1,_⟩|⟨j,e',p,g0,g1,g2,g3,g4,_⟩
  · have hr:(execOp ac.eval ⟨none,.mapUpdate t x y u,ty,pos,aft,none⟩).run Tryz.prog (dr w d)=.ok .skip { (dr w d) with heap:=(dr w d).heap.setIfInBounds r (.map (es.toArray.push { key:=encK a,val:=v,born:=ck }) (ck + 1)) }:=by
      simp [execOp,ha.eval hx,ha.eval hy,ha.eval hu,Instr.mapUpdate,run_underlying ht.eq,MapKept.run_getObj_map hbd,DT,g1.find,MapKept.run_setObj_map _ hbd,Result.andThen]
    rw [hr]
    refine hK _ _ (h { w with heap:=w.heap.setIfInBounds r (.map (es.toArray.push { key:=encK a,val:=v,born:=ck }) (ck + 1)) } (ck + 1) rfl rfl rfl (by simp) ?_ (fun q hq=>(MapKept.heap_set hb).2 q hq) _ d ha)
    rw [g0]
    simpa [putEsF] using (MapKept.heap_set hb).1
  · have hj:es.toArray[j]?=some e':=by simpa using g1
    have hj':es[j]?=some e':=g1
    rw [Nat.zero_add] at g3
    have hr:(execOp ac.eval ⟨none,.mapUpdate t x y u,ty,pos,aft,none⟩).run Tryz.prog (dr w d)=.ok .skip { (dr w d) with heap:=(dr w d).heap.setIfInBounds r (.map (es.toArray.modify j fun e=>{ e with key:=encK a,val:=v }) ck) }:=by
      simp [execOp,ha.eval hx,ha.eval hy,ha.eval hu,Instr.mapUpdate,run_underlying ht.eq,MapKept.run_getObj_map hbd,DT,g3.find,hj',g4,JV,MapKept.run_setObj_map _ hbd,Result.andThen]
    rw [hr]
    refine hK _ _ (h { w with heap:=w.heap.setIfInBounds r (.map (es.toArray.modify j fun e=>{ e with key:=encK a,val:=v }) ck) } ck rfl rfl rfl (by simp) ?_ (fun q hq=>(MapKept.heap_set hb).2 q hq) _ d ha)
    rw [g0]
    have:=(MapKept.heap_set (o':=.map (es.toArray.modify j fun e=>{ e with key:=encK a,val:=v }) ck) hb).1
    simpa [putEsF] using this
end
theorem MM {V:Type} {es:List MapEntry} {xs:List (Fct×V)} (ck:Nat) (a:Fct) (v:Value) (y:V) (h:es.map (·.key)=xs.map (fun p=>encK p.1)):(putEsF es ck (encK a) v (fidx xs a)).map (·.key)=(fput xs a y).map (fun p=>encK p.1):=by
  rcases DV a es xs 0 h with ⟨g0,_,_,_,g4⟩|⟨j,e',p,g0,g1,g2,g3,g4,_,_,g7⟩
  · rw [g0,g4];simp [putEsF,h]
  · rw [g0,g7]
    simp only [putEsF,List.map_set,← h]
    apply List.ext_getElem?
    intro q
    rw [List.getElem?_map,List.getElem?_modify,List.getElem?_set]
    by_cases hq:j=q
    · subst hq
      have hlt:j < es.length:=Aw g1
      simp [g1,hlt]
    · simp [hq]
structure MapF (V:Type) where
  l:List (Fct×V)
instance {V:Type} [Rp V]:Ow (MapF V) where
  R w F M v x:=∃ (r:Nat) (es:List MapEntry) (ck:Nat),v=.map (some r)∧w.heap[r]?=some (.map es.toArray ck)∧M r∧es.map (·.key)=x.l.map (fun p=>encK p.1)∧VA w F es x.l
  agree:=by rintro w w' F M v x ⟨r,es,ck,rfl,hb,hM,hk,hv⟩ a1 a2;exact ⟨r,es,ck,rfl,(a2 r hM).trans hb,hM,hk,fun j e p h1 h2=>(hv j e p h1 h2).agree a1⟩
  mono:=by rintro w F M F' M' v x ⟨r,es,ck,rfl,hb,hM,hk,hv⟩ a1 a2 a3;exact ⟨r,es,ck,rfl,hb,a2 r hM,hk,fun j e p h1 h2=>(hv j e p h1 h2).mono a1⟩
instance {V:Type} [Rp V]:OwM (MapF V):=⟨by rintro w F M v x ⟨r,es,ck,rfl,_⟩;exact ⟨r,rfl⟩⟩
theorem VA.putF {V:Type} [Rp V] {w:World} {F:Nat→Prop} {es:List MapEntry} {xs:List (Fct×V)} {ck:Nat} {a:Fct} {v:Value} {y:V} (hk:es.map (·.key)=xs.map (fun p=>encK p.1)) (h:VA w F es xs) (hv:Vb w F v y):VA w F (putEsF es ck (encK a) v (fidx xs a)) (fput xs a y):=by
  have hlen:es.length=xs.length:=by have:=congrArg List.length hk;simpa using this
  intro q e p h1 h2
  rcases DV a es xs 0 hk with ⟨g0,_,_,_,g4⟩|⟨j,e',p',g0,g1,g2,g3,g4,_,_,g7⟩
  · rw [g0] at h1
    rw [g4] at h2
    simp only [putEsF] at h1
    by_cases hq:q < es.length
    · rw [List.getElem?_append_left hq] at h1
      rw [List.getElem?_append_left (by omega)] at h2
      exact h q e p h1 h2
    · rw [List.getElem?_append_right (by omega)] at h1
      rw [List.getElem?_append_right (by omega)] at h2
      cases hz:q - es.length with
      | zero =>
        rw [hz] at h1
        rw [show q - xs.length=0 from by omega] at h2
        simp at h1 h2
        subst h1;subst h2
        exact hv
      | succ m=>rw [hz] at h1;simp at h1
  · rw [g0] at h1
    rw [g7] at h2
    simp only [putEsF] at h1
    rw [List.getElem?_modify] at h1
    rw [List.getElem?_set] at h2
    by_cases hq:j=q
    · subst hq
      have hlt:=Aw g2
      rw [g1] at h1
      simp [hlt] at h1 h2
      subst h1;subst h2
      exact hv
    · simp [hq] at h1 h2
      exact h q e p h1 h2
section
variable {V : Type} [Rp V] {i : Nat} {w : World} {O : Lab} {r : Nat} {x : MapF V}
theorem MapF.at (h:Ob i w O (.map (some r)) x):Fr i w O r:=by
  obtain ⟨⟨r',es,ck,hv,hb,hM,_⟩,_⟩:=h
  injection hv with hv
  injection hv with hv
  subst hv
  exact hM
theorem MapF.get (h:Ob i w O (.map (some r)) x) (a:Fct) {z:Value} {z0:V} (hz:Vb w (Fr 0 w O) z z0):∃ v,LkF z w r a v (fhas x.l a)∧Vb w (Fr 0 w O) v (fget z0 x.l a):=by
  obtain ⟨⟨r',es,ck,hv,hb,hM,hk,hva⟩,_⟩:=h
  injection hv with hv
  injection hv with hv
  subst hv
  rcases DV a es x.l 0 hk with ⟨g0,g1,g2,g3,g4⟩|⟨j,e',p,g0,g1,g2,g3,g4,g5,g6,g7⟩
  · exact ⟨z,⟨_,ck,none,hb,by simpa using g1,rfl,g2⟩,by rw [g3];exact hz⟩
  · exact ⟨e'.val,⟨_,ck,some (0 + j,e'.val),hb,by simpa using g3,rfl,g5⟩,by rw [g6];exact hva j e' p g1 g2⟩
end
section
variable {n : Nat} {ops : Array Oper} {Q : Post} {rest : List Oper} {l : Env} {w : World} {d : Tmp} {ty : TypeId} {pos : String} {aft : Array Edge} {i : Nat} {O : Lab} {r : Nat}
theorem MX {V:Type} [Rp V] {x:MapF V} {t e:TypeId} [TMap Tryz.prog t 26 e] {m y u:Operand} {a:Fct} {v:Value} {b:V} (hM:Ob i w O (.map (some r)) x) (hv:Vb w (Fr 0 w O) v b) (hx:opv l m=some (.map (some r))) (hy:opv l y=some (encK a)) (hu:opv l u=some v)
    (h:∀ w',St (eT i) w O w' O→Ob i w' O (.map (some r)) (⟨fput x.l a b⟩:MapF V)→owp Tryz.prog n ops Q rest l w'):owp Tryz.prog n ops Q (⟨none,.mapUpdate t m y u,ty,pos,aft,none⟩ :: rest) l w:=by
  obtain ⟨⟨r',es,ck,hv',hb,hM',hk,hva⟩,hi⟩:=hM
  injection hv' with hv'
  injection hv' with hv'
  subst hv'
  refine Ov hb hk hx hy hu fun w' ck' e1 e2 e3 e4 e5 e6=>?_
  have hS:St (eT i) w O w' O:=⟨e1,e2,e3,by omega,fun q hq hT=>⟨e6 q fun e=>hT (by rw [e];exact hM'.2),rfl⟩⟩
  have h0:¬ (eT i) 0:=fun e=>hi e.symm
  refine h w' hS ⟨⟨r,_,ck',rfl,e5,⟨by rw [e4];exact hM'.1,hM'.2⟩,MM ck a v b hk,?_⟩,hi⟩
  have:=hva.putF (ck:=ck) hk hv (a:=a)
  exact fun j e p h1 h2=>((this j e p h1 h2).agree (hS.agree h0)).mono (hS.fr h0)
theorem LV {V:Type} [Rp V] {t:TypeId} (i:Nat) (hi:i≠0) (O:Lab) (hd:Nat.blt d n=true) (h:∀ g w' O',St nT w O w' O'→Ob i w' O' (.map (some g)) (⟨[]⟩:MapF V)→owp Tryz.prog n ops Q rest ((d,.map (some g)) :: l) w'):owp Tryz.prog n ops Q (⟨some d,.makeMap t none,ty,pos,aft,none⟩ :: rest) l w :=
  KL hd fun w' hE hs hb=>h _ w' _ (hE.st O fun _=>i) ⟨⟨w.heap.size,[],0,rfl,hb,⟨by omega,DO (Nat.le_refl _)⟩,rfl,fun j e p h1 _=>by simp at h1⟩,hi⟩
theorem NH {t e:TypeId} [TMap Tryz.prog t 26 e] {z:Value} {size bytes:Nat} [TInfo Tryz.prog e z size bytes] {x y:Operand} {r:Nat} {v:Value} {b:Bool} (a:Fct) (hv:LkF z w r a v b) (hx:opv l x=some (.map (some r))) (hy:opv l y=some (encK a)) (hd:Nat.blt d n=true) (h:owp Tryz.prog n ops Q rest ((d,v) :: l) w):owp Tryz.prog n ops Q (⟨some d,.lookup t x y false,ty,pos,aft,none⟩ :: rest) l w:=Bw (LU hx hy hv) hd h
theorem MN {j:Nat} {f:FuncId} [Callable Tryz.prog f] {xs:List Operand} {vs:List Value} {ts:Array TypeId} {O:Lab} {x:MapF Bool} (hc:Fn Tryz.prog f vs w fun v w'=>∃ O',St nT w (fun _=>0) w' O'∧Ob j w' O' v x) (hx:opvs l xs=some vs) (hd:Nat.blt d n=true)
    (h:∀ v w' O',St nT w O w' O'→Ob j w' O' v x→owp Tryz.prog n ops Q rest ((d,v) :: l) w'):owp Tryz.prog n ops Q (⟨some d,.call { callee:=.value (.func f),args:=xs.toArray,argTypes:=ts },ty,pos,aft,none⟩ :: rest) l w :=
  Dd hx hd hc fun v w' ⟨O1,hS,hM⟩=>by
    obtain ⟨⟨r,es,ck,rfl,hb,hr,hk,hv⟩,hj⟩:=hM
    have hnew:w.heap.size≤r:=by
      rcases Nat.lt_or_ge r w.heap.size with hlt|hge
      · exact absurd ((hr.2.symm.trans (hS.same r hlt fun h=>h).2)) hj
      · exact hge
    have hE:Ext w w':=⟨hS.os,hS.tape,hS.output,hS.size,fun k hk=>(hS.same k hk fun h=>h).1⟩
    refine h _ w' (upO O w.heap.size fun k=>if k=r then j else 0) (hE.st O _) ⟨⟨r,es,ck,rfl,hb,⟨hr.1,by rw [DO hnew,if_pos rfl]⟩,hk,fun q e p g1 g2=>?_⟩,hj⟩
    rw [(hv q e p g1 g2).bool]
    exact vBool
variable {S : World → Prop} {rr : List (Nat × Bool)} {i' : Nat}
theorem RT {t e:TypeId} [TMap Tryz.prog t 26 e] {z:Value} {size bytes:Nat} [TInfo Tryz.prog e z size bytes] {x y:Operand} {r:Nat} {v:Value} {b:Bool} (a:Fct) (hv:∀ w',S w'→LkF z w' r a v b) (hi:ops[i']?=some ⟨some d,.lookup t x y false,ty,pos,aft,none⟩) (hx:opv l x=some (.map (some r))) (hy:opv l y=some (encK a)) (hd:Nat.blt d n=true) (h:hwp Tryz.prog n ops Q S rr ((d,v) :: l) w):hwp Tryz.prog n ops Q S ((i',true) :: rr) l w:=Al hi (Bx (fun w' hS=>LU hx hy (hv w' hS)) hd h)
theorem RU {t e:TypeId} [TMap Tryz.prog t 26 e] {z:Value} {size bytes:Nat} [TInfo Tryz.prog e z size bytes] {x y:Operand} {r:Nat} {v:Value} {b:Bool} (a:Fct) (hv:∀ w',S w'→LkF z w' r a v b) (hx:opv l x=some (.map (some r))) (hy:opv l y=some (encK a)) (hd:Nat.blt d n=true) (h:hwp Tryz.prog n ops Q S rr ((d,v) :: l) w):hwq Tryz.prog n ops Q S ⟨some d,.lookup t x y false,ty,pos,aft,none⟩ rr l w:=Bx (fun w' hS=>LU hx hy (hv w' hS)) hd h
end
end
section
open Go Go.RowKit
attribute [local irreducible] ewp owp hwp hwq Ev Evg Fn retPost Res1
instance:TMap Tryz.prog 84 26 4:=⟨Tryz.underlying84⟩
abbrev MeT:=Fnd→Int→Option (Swp×Bool×Fnd)
def MeC (me:MeT):Prop:=∀ {w:World} {O:Lab} {p0 i0:Nat} {x0:Fnd},Ob i0 w O (.pointer (some ⟨p0,0,none⟩)) x0→∀ {x1:Int},inI64 x1→∀ {r:Swp×Bool×Fnd},me x0 x1=some r →
    Fn Tryz.prog 68 [(.pointer (some ⟨p0,0,none⟩)),(.int .i64 x1)] w fun v w'=>∃ O',St (eT i0) w O w' O'∧∃ v0 v1:Value,Ob i0 w' O' (.pointer (some ⟨p0,0,none⟩)) r.2.2∧v=.tuple #[v0,v1]∧Vb w' (Fr 0 w' O') v0 r.1∧Vb w' (Fr 0 w' O') v1 r.2.1
noncomputable def ER (me:MeT) (x0:Fnd) (x1:Int) (x2:Fct):Option (Swp×Bool×Fnd) :=
  if x0.most≤x0.steps then (some ((⟨([]:List Int),([]:List (List Int)),([]:List Int)⟩:Swp),false,(⟨(⟨x0.t.vars,x0.t.init,x0.t.goal,x0.t.ops⟩:Tsk),x0.list,x0.signs,(⟨x0.x.vars,x0.x.vals,x0.x.ops⟩:Swp),x0.taken,x0.vars,x0.steps,x0.most,true⟩:Fnd))) else (bnd (chkI (x0.steps + 1)) fun n82=>bnd (atI x0.list x1) fun a87=>bnd (BW (⟨(⟨x0.t.vars,x0.t.init,x0.t.goal,x0.t.ops⟩:Tsk),x0.list,x0.signs,(⟨x0.x.vars,x0.x.vals,x0.x.ops⟩:Swp),x0.taken,x0.vars,n82,x0.most,x0.full⟩:Fnd) a87 x2) fun q105=>bnd (chkI (x1 + 1)) fun n114=>bnd (me q105.2 n114) fun q117=>bnd (atI q117.2.2.list x1) fun a153=>bnd (BB q117.2.2 a153 x2 q105.1) fun q166=>some (q117.1,q117.2.1,q166))
theorem MY {me:MeT} (hme:MeC me) {w:World} {O:Lab} {p0 i0:Nat} {x0:Fnd} (c1:Ob i0 w O (.pointer (some ⟨p0,0,none⟩)) x0) {x1:Int} (rx1:inI64 x1) {vx2:Value} {x2:Fct} (f2:Vb w (Fr 0 w O) vx2 x2) {r:Swp×Bool×Fnd} (hm:ER me x0 x1 x2=some r) :
    Fn Tryz.prog 42 [(.pointer (some ⟨p0,0,none⟩)),(.int .i64 x1),vx2] w fun v w'=>∃ O',St (eT i0) w O w' O'∧∃ v0 v1:Value,Ob i0 w' O' (.pointer (some ⟨p0,0,none⟩)) r.2.2∧v=.tuple #[v0,v1]∧Vb w' (Fr 0 w' O') v0 r.1∧Vb w' (Fr 0 w' O') v1 r.2.1:=by
 obtain ⟨O0,hE,o3,v4⟩:=ent1 (w:=w) (O:=O) c1.2
 have c1':=Ob.leave c1 o3 v4 (j:=2) (by decide)
 have hB:Bm w O0 w O0:=Bm.refl
 replace f2:=f2.mono o3
 obtain ⟨h6,rfl,rfl,r5,r6⟩:=f2
 refine AP Tryz.func42 rfl Tryz.ntmps42 rfl ?_
 unfold ER at hm
 refine Ab (Aa (BC 3 O0 rfl rfl fun g7 w8 O9 g2 d1=>?_))
 replace d1:Lc 3 w8 O9 g7 26 [(.int .i64 x2.var),(.int .i64 x2.val)]:=d1
 refine Bd 4 O9 rfl fun p3 w4 i6 d2 b0=>?_
 refine Am rfl rfl (o_z ?_)
 refine Ab (Ab (Dx (·=w4) [(0,true),(1,true),(2,true),(3,true),(4,true),(5,true),(6,true),(7,true),(8,true)] (by kernel_rfl) rfl (by kernel_rfl) rfl ?_))
 refine AH rfl rfl rfl (BR rfl rfl rfl ?_)
 replace c1':=(c1'.st g2).st d2
 obtain ⟨e2,j6,k6,l6,m6,n6,o6,p6,q6,s6,t6,u6,u1,x4,c0,f1,g1,h1,i1,e1,j1,k1,m1,n1,o1,p1,y4,q3⟩:=Fnd.opn c1' 2 5 6 7 8 9 (by decide)
 obtain ⟨r3,s3,rfl⟩:=f1.form
 obtain ⟨t3,u3,rfl⟩:=g1.form
 obtain ⟨v3,w3,rfl⟩:=h1.form
 obtain ⟨x3,y3,rfl⟩:=i1.form
 obtain ⟨z3,a4,rfl⟩:=e1.form
 obtain ⟨b4,c4,rfl⟩:=j1.form
 obtain ⟨d4,e4,rfl⟩:=k1.form
 obtain ⟨f4,g4,rfl⟩:=m1.form
 obtain ⟨h4,i4,rfl⟩:=n1.form
 obtain ⟨j4,k4,rfl⟩:=o1.form
 obtain ⟨m4,n4,rfl⟩:=p1.form
 refine AM rfl rfl rfl (CT (hc:=Blk.cell (i:=11) (c0.1) rfl) rfl rfl rfl ?_)
 refine AH rfl rfl rfl (BR rfl rfl rfl (AM rfl rfl rfl (CT (hc:=Blk.cell (i:=12) (c0.1) rfl) rfl rfl rfl ?_)))
 refine Qj rfl rfl rfl rfl (fun h2=>?_) fun h2=>?_
 ·
  replace hm:=ip hm h2
  refine h_z ?_
  refine Ah rfl (Ab (Aa (Aj rfl rfl (Eg rfl rfl (AS rfl rfl (AD c0 rfl rfl rfl (AU rfl) (allOne rfl) fun z4 h0 c0=>?_))))))
  replace c0:Lc 2 z4 e2 p0 67 [(.slice r3 x0.t.vars.length s3),(.slice t3 x0.t.init.length u3),(.slice v3 x0.t.goal.length w3),(.slice x3 x0.t.ops.length y3),(.slice z3 x0.list.length a4),(.slice b4 x0.signs.length c4),(.slice d4 x0.x.vars.length e4),(.slice f4 x0.x.vals.length g4),(.slice h4 x0.x.ops.length i4),(.slice j4 x0.taken.length k4),(.slice m4 x0.vars.length n4),(.int .i64 x0.steps),(.int .i64 x0.most),(.bool true)]:=c0
  refine o_z ?_
  refine Ab (Aa (EH rfl rfl rfl ?_))
  replace b0:=(b0.st u1).st h0
  refine AD b0 rfl rfl rfl (AU rfl) (allOne rfl) fun a5 j0 b0=>?_
  replace b0:Lc 4 a5 e2 p3 43 [(.slice none 0 0),(.slice none 0 0),(.slice none 0 0)]:=b0
  refine Am rfl rfl (o_z ?_)
  refine AF ?_
  replace c0:=c0.st j0
  replace f1:=(f1.st h0).st j0
  replace g1:=(g1.st h0).st j0
  replace h1:=(h1.st h0).st j0
  replace i1:=(i1.st h0).st j0
  replace e1:=(e1.st h0).st j0
  replace j1:=(j1.st h0).st j0
  replace k1:=(k1.st h0).st j0
  replace m1:=(m1.st h0).st j0
  replace n1:=(n1.st h0).st j0
  replace o1:=(o1.st h0).st j0
  replace p1:=(p1.st h0).st j0
  obtain ⟨v6,o4,b5,c5,d5⟩:=Fnd.shut (x:=(⟨(⟨x0.t.vars,x0.t.init,x0.t.goal,x0.t.ops⟩:Tsk),x0.list,x0.signs,(⟨x0.x.vars,x0.x.vals,x0.x.ops⟩:Swp),x0.taken,x0.vars,x0.steps,x0.most,true⟩:Fnd)) (l0:=2) (l1:=5) (l2:=6) (l3:=7) (l4:=8) (l5:=9) (by decide) c0 f1 g1 h1 i1 e1 j1 k1 m1 n1 o1 p1 y4 q3
  obtain rfl:=sm hm
  replace hB:=(((((hB.st g2).st d2).st u1).st h0).st j0).st o4
  obtain ⟨O',hS',hz,hl⟩:=hE.leave (fun q=>if q=2 then i0 else 0) rfl hB
  replace b0:=b0.st o4
  exact ret2 rfl (CK (cs:=[(.slice none 0 0),(.slice none 0 0),(.slice none 0 0)]) rfl rfl b0.1.cellsAt) (AC rfl) ⟨O',hS',_,_,(Ob.leave d5 hz (hl 2 (by decide) (by decide)) c1.2),rfl,(Vb.mono (Vb.ofAgg (cs:=[(.slice none 0 0),(.slice none 0 0),(.slice none 0 0)]) (x:=(⟨([]:List Int),([]:List (List Int)),([]:List Int)⟩:Swp)) rfl ⟨_,_,_,rfl,(Vb.nil _ _),(Vb.nil _ _),(Vb.nil _ _)⟩) hz),vBool⟩
 replace hm:=im hm h2
 refine h_z ?_
 refine Ae rfl (AI (Ab (Aa (Aj rfl rfl (Eg rfl rfl (AS rfl rfl (AJ (hc:=Blk.cell (i:=11) (c0.1) rfl) rfl rfl ?_)))))))
 obtain ⟨p4,q4,hm⟩:=bs hm
 have e5:=(BG q4)
 refine EQ (he:=q4) rfl rfl rfl ?_
 refine Eg rfl rfl (AS rfl rfl (AD c0 rfl rfl rfl (AU rfl) (allOne rfl) fun f5 g0 c0=>?_))
 replace c0:Lc 2 f5 e2 p0 67 [(.slice r3 x0.t.vars.length s3),(.slice t3 x0.t.init.length u3),(.slice v3 x0.t.goal.length w3),(.slice x3 x0.t.ops.length y3),(.slice z3 x0.list.length a4),(.slice b4 x0.signs.length c4),(.slice d4 x0.x.vars.length e4),(.slice f4 x0.x.vals.length g4),(.slice h4 x0.x.ops.length i4),(.slice j4 x0.taken.length k4),(.slice m4 x0.vars.length n4),(.int .i64 p4),(.int .i64 x0.most),(.bool x0.full)]:=c0
 refine o_z ?_
 refine Ab (Bc [(9,[2,5,6,7,8,9])] e2 ?_)
 refine Az (fuel:=2) [] [(0,true),(1,true),(2,true),(3,true),(4,true),(5,true),(6,true),(7,true),(8,true)] (by kernel_rfl) rfl ?_
 refine AH rfl rfl rfl (AH rfl rfl rfl (BR rfl rfl rfl (AM rfl rfl rfl (AK (hc:=fun w' ⟨O',hq⟩=>Blk.cell (i:=4) ((c0.st hq (by decide)).1) rfl) rfl rfl rfl ?_))))
 refine AH rfl rfl rfl ?_
 obtain ⟨i2,g5,hm⟩:=bs hm
 obtain ⟨h5,i5⟩:=AO g5
 replace e1:=e1.st g0
 obtain ⟨w6,x6,j5,j2,k2,m2,n2,rfl,k5,m5⟩:=e1.elem i5
 refine Bl (hA:=j2) (hj:=(Int.toNat_of_nonneg h5).symm) (hlt:=m2) rfl rfl rfl rfl ?_
 refine Cl (hl:=rfl) (hb:=fun w' ⟨O',hq⟩=>(AL (hq.agree (i:=0) (by decide)) k2 n2)) rfl rfl rfl ?_
 replace d1:=((d1.st d2).st u1).st g0
 refine Cl (hl:=rfl) (hb:=fun w' ⟨O',hq⟩=>((d1.st hq (by decide)).1).cellsAt) rfl rfl rfl ?_
 refine As ?_
 refine Au (i:=9) (by kernel_rfl) rfl ?_
 replace f1:=f1.st g0
 replace g1:=g1.st g0
 replace h1:=h1.st g0
 replace i1:=i1.st g0
 replace j1:=j1.st g0
 replace k1:=k1.st g0
 replace m1:=m1.st g0
 replace n1:=n1.st g0
 replace o1:=o1.st g0
 replace p1:=p1.st g0
 obtain ⟨o2,o0,r4,s4,p2⟩:=Fnd.shut (x:=(⟨(⟨x0.t.vars,x0.t.init,x0.t.goal,x0.t.ops⟩:Tsk),x0.list,x0.signs,(⟨x0.x.vars,x0.x.vals,x0.x.ops⟩:Swp),x0.taken,x0.vars,p4,x0.most,x0.full⟩:Fnd)) (l0:=2) (l1:=5) (l2:=6) (l3:=7) (l4:=8) (l5:=9) (by decide) c0 f1 g1 h1 i1 e1 j1 k1 m1 n1 o1 p1 e5 q3
 have hZ:=o0.lst [2,5,6,7,8,9] (by decide)
 obtain ⟨n5,q2,hm⟩:=bs hm
 refine Cc (O:=o2) (EK p2 (Vb.ofAgg (cs:=[(.int .i64 i2.var),(.int .i64 i2.val)]) (x:=i2) rfl ⟨rfl,k5,m5⟩) (Vb.ofAgg (cs:=[(.int .i64 x2.var),(.int .i64 x2.val)]) (x:=x2) rfl ⟨rfl,r5,r6⟩) q2) rfl rfl fun o5 p5 r2 q0 s2=>?_
 obtain ⟨t2,u2⟩:=s2
 obtain rfl:=u2.bool
 replace hZ:=hZ.cmp q0 [2,5,6,7,8,9] (fun _ h=>by cases h;decide) rfl
 refine Ay [] hZ (by kernel_rfl) ?_
 refine Az (fuel:=0) [] [(10,true)] (by kernel_rfl) rfl ?_
 refine Eh rfl rfl rfl (As ?_)
 refine AZ (by kernel_rfl) ?_
 refine Ab (Aa (Aj rfl rfl (Aj rfl rfl ?_)))
 obtain ⟨q5,w1,hm⟩:=bs hm
 have v2:=(BG w1)
 refine EQ (he:=w1) rfl rfl rfl ?_
 obtain ⟨a0,w2,hm⟩:=bs hm
 refine Cc (O:=r2) (hme t2 v2 w2) rfl rfl fun s5 t5 y2 q1 z2=>?_
 obtain ⟨u5,v5,m0,rfl,a3,b3⟩:=z2
 obtain ⟨t4,rfl,w5,x5,y5,rfl,r0,s0,t0⟩:=a3
 obtain ⟨u0,w0,rfl⟩:=r0.form
 obtain ⟨y0,z0,rfl⟩:=s0.form
 obtain ⟨a1,b1,rfl⟩:=t0.form
 obtain rfl:=b3.bool
 refine Aj rfl rfl (DN rfl rfl rfl (DN rfl rfl rfl (Bd 10 y2 rfl fun c3 z5 r1 d0 e0=>?_)))
 refine AD e0 rfl rfl rfl (AU rfl) (allOne rfl) fun d3 f0 e0=>?_
 replace e0:Lc 10 d3 r1 c3 43 [(.slice u0 a0.1.vars.length w0),(.slice y0 a0.1.vals.length z0),(.slice a1 a0.1.ops.length b1)]:=e0
 refine Am rfl rfl (o_z ?_)
 refine Ab (Bc [] r1 ?_)
 refine Az (fuel:=1) [] [(0,true),(1,true),(2,true),(3,true),(4,true),(5,true),(6,true),(7,true),(8,true),(9,true)] (by kernel_rfl) rfl ?_
 refine AH rfl rfl rfl (AH rfl rfl rfl (BR rfl rfl rfl (AM rfl rfl rfl ?_)))
 replace m0:=(m0.st d0).st f0
 obtain ⟨a6,b6,y1,e3⟩:=Fnd.pk_list m0
 refine AK (hc:=fun w' ⟨O',hq⟩=>Fnd.kp m0 hq (by decide) y1) rfl rfl rfl ?_
 refine AH rfl rfl rfl ?_
 obtain ⟨s1,f3,hm⟩:=bs hm
 obtain ⟨g3,h3⟩:=AO f3
 obtain ⟨c6,d6,u4,z1,a2,b2,c2,rfl,i3,j3⟩:=e3.elem h3
 refine Bl (hA:=z1) (hj:=(Int.toNat_of_nonneg g3).symm) (hlt:=b2) rfl rfl rfl rfl ?_
 refine Cl (hl:=rfl) (hb:=fun w' ⟨O',hq⟩=>(AL (hq.agree (i:=0) (by decide)) a2 c2)) rfl rfl rfl ?_
 replace d1:=((((d1.st o0).st q0).st q1).st d0).st f0
 refine Cl (hl:=rfl) (hb:=fun w' ⟨O',hq⟩=>((d1.st hq (by decide)).1).cellsAt) rfl rfl rfl ?_
 refine AH rfl rfl rfl (As ?_)
 refine Au (i:=10) (by kernel_rfl) rfl ?_
 obtain ⟨e6,k3,hm⟩:=bs hm
 refine Cc (O:=r1) (Eb m0 (Vb.ofAgg (cs:=[(.int .i64 s1.var),(.int .i64 s1.val)]) (x:=s1) rfl ⟨rfl,i3,j3⟩) (Vb.ofAgg (cs:=[(.int .i64 x2.var),(.int .i64 x2.val)]) (x:=x2) rfl ⟨rfl,r5,r6⟩) k3) rfl rfl fun f6 g6 m3 k0 t1=>?_
 refine BK (by kernel_rfl) ?_
 refine AZ (by kernel_rfl) ?_
 refine Ab (Aa ?_)
 replace e0:=e0.st k0
 refine Ba (hl:=rfl) (hc:=(e0.1).cellsAt) rfl rfl ?_
 refine Aj rfl rfl ?_
 replace b0:=(((((((b0.st u1).st g0).st o0).st q0).st q1).st d0).st f0).st k0
 refine AD b0 rfl rfl rfl (AU rfl) (allOne rfl) fun n3 n0 b0=>?_
 replace b0:Lc 4 n3 m3 p3 43 [(.slice u0 a0.1.vars.length w0),(.slice y0 a0.1.vals.length z0),(.slice a1 a0.1.ops.length b1)]:=b0
 refine Am rfl rfl (o_z ?_)
 refine AF ?_
 obtain rfl:=sm hm
 replace hB:=((((((((((hB.st g2).st d2).st u1).st g0).st o0).st q0).st q1).st d0).st f0).st k0).st n0
 obtain ⟨O',hS',hz,hl⟩:=hE.leave (fun q=>if q=2 then i0 else 0) rfl hB
 replace r0:=(((r0.st d0).st f0).st k0).st n0
 replace s0:=(((s0.st d0).st f0).st k0).st n0
 replace t0:=(((t0.st d0).st f0).st k0).st n0
 replace t1:=t1.st n0
 exact ret2 rfl (CK (cs:=[(.slice u0 a0.1.vars.length w0),(.slice y0 a0.1.vals.length z0),(.slice a1 a0.1.ops.length b1)]) rfl rfl b0.1.cellsAt) (AC rfl) ⟨O',hS',_,_,(Ob.leave t1 hz (hl 2 (by decide) (by decide)) c1.2),rfl,(Vb.mono (Vb.ofAgg (cs:=[(.slice u0 a0.1.vars.length w0),(.slice y0 a0.1.vals.length z0),(.slice a1 a0.1.ops.length b1)]) (x:=a0.1) rfl ⟨_,_,_,rfl,r0,s0,t0⟩) hz),vBool⟩
noncomputable def DW (me:MeT) (x0:Fnd) (x1:Int):Option (Swp×Bool×Fnd) :=
  if x1=(x0.list.length:Int) then (bnd (Ci x0) fun q71=>bnd (if (!q71.2)=true then (some true) else (bnd (BX x0.x x0.t.goal) fun q150=>bnd (Bo q150 x0.t.goal) fun q159=>if q159=true then some false else some true):Option Bool) fun y140=>if y140=true then (some ((⟨([]:List Int),([]:List (List Int)),([]:List Int)⟩:Swp),false,x0)) else (bnd (Cx x0 q71.1) fun q183=>some (q183,true,x0))) else (bnd (rng (ρ:=Swp×Bool×Fnd) (fun (k218:Nat) (a219:Fct) (s216:Fnd)=>bnd (atI s216.list x1) fun a251=>bnd (BV s216 a251 a219) fun q264=>if q264=true then bnd (ER me s216 x1 a219) fun q273=>bnd (if q273.2.1=true then (some (true,true)) else (some (false,q273.2.2.full)):Option (Bool×Bool)) fun y305=>if y305.2=true then (some (.ret (q273.1,y305.1,q273.2.2))) else (some (.next q273.2.2)) else some (.next s216)) x0.list 0 x0) fun res214=>fin res214 fun (s381:Fnd)=>some ((⟨([]:List Int),([]:List (List Int)),([]:List Int)⟩:Swp),false,s381))
theorem Ox {me:MeT} (hme:MeC me) {w:World} {O:Lab} {p0 i0:Nat} {x0:Fnd} (c2:Ob i0 w O (.pointer (some ⟨p0,0,none⟩)) x0) {x1:Int} (rx1:inI64 x1) {r:Swp×Bool×Fnd} (hm:DW me x0 x1=some r) :
    Fn Tryz.prog 68 [(.pointer (some ⟨p0,0,none⟩)),(.int .i64 x1)] w fun v w'=>∃ O',St (eT i0) w O w' O'∧∃ v0 v1:Value,Ob i0 w' O' (.pointer (some ⟨p0,0,none⟩)) r.2.2∧v=.tuple #[v0,v1]∧Vb w' (Fr 0 w' O') v0 r.1∧Vb w' (Fr 0 w' O') v1 r.2.1:=by
 obtain ⟨O0,hE,m8,n8⟩:=ent1 (w:=w) (O:=O) c2.2
 have c2':=Ob.leave c2 m8 n8 (j:=2) (by decide)
 have hB:Bm w O0 w O0:=Bm.refl
 refine AP Tryz.func68 rfl Tryz.ntmps68 rfl ?_
 unfold DW at hm
 refine Ab (Aa (Bd 3 O0 rfl fun g3 w4 O5 S6 h7=>?_))
 refine Am rfl rfl (o_z ?_)
 refine Ab (Ab (Aa (Aj rfl rfl (Aj rfl rfl (Eg rfl rfl ?_)))))
 replace c2':=c2'.st S6
 obtain ⟨O8,sC,tC,uC,vC,wC,xC,yC,zC,aD,bD,cD,S9,o8,z4,e5,f5,g5,h5,q0,i5,j5,k5,m5,n5,o5,r7,s7⟩:=Fnd.opn c2' 2 4 5 6 7 8 (by decide)
 obtain ⟨dD,eD,rfl⟩:=e5.form
 obtain ⟨fD,gD,rfl⟩:=f5.form
 obtain ⟨hD,iD,rfl⟩:=g5.form
 obtain ⟨jD,kD,rfl⟩:=h5.form
 obtain ⟨a5,b5,rfl⟩:=q0.form
 obtain ⟨lD,mD,rfl⟩:=i5.form
 obtain ⟨nD,oD,rfl⟩:=j5.form
 obtain ⟨pD,qD,rfl⟩:=k5.form
 obtain ⟨rD,sD,rfl⟩:=m5.form
 obtain ⟨tD,uD,rfl⟩:=n5.form
 obtain ⟨vD,wD,rfl⟩:=o5.form
 refine AS rfl rfl (AJ (hc:=Blk.cell (i:=4) (z4.1) rfl) rfl rfl ?_)
 refine AX rfl rfl ?_
 have p8:x0.list.length≤9223372036854775807:=Nat.le_trans q0.len.2.1 q0.len.2.2
 have xD:inI64 (x0.list.length:Int):=rngNat p8
 refine FK rfl rfl rfl (fun p5=>?_) fun p5=>?_
 ·
  replace hm:=ip hm p5
  refine o_z ?_
  refine Ah rfl (Ab (Aa (Aj rfl rfl ?_)))
  obtain ⟨q8,k2,r8,s8,t8⟩:=Fnd.shut (x:=x0) (l0:=2) (l1:=4) (l2:=5) (l3:=6) (l4:=7) (l5:=8) (by decide) z4 e5 f5 g5 h5 q0 i5 j5 k5 m5 n5 o5 r7 s7
  obtain ⟨c5,u8,hm⟩:=bs hm
  refine Cc (O:=q8) (FT t8 u8) rfl rfl fun yD zD aE m2 v8=>?_
  obtain ⟨bE,cE,w8,rfl,n2,x8⟩:=v8
  obtain ⟨t7,u7,rfl⟩:=n2.form
  obtain rfl:=x8.bool
  refine Aj rfl rfl (DN rfl rfl rfl (DN rfl rfl rfl (Am rfl rfl (Am rfl rfl (o_z ?_)))))
  refine Ab (Ab ?_)
  obtain ⟨v7,dE,eE,fE,y8,z8,a9,b9,c9,d9,e9,f9,t1,g9,d2,o2,p2,u1,b1,c1,d1,s0,t0,u0,e1,f1,r2,s2⟩:=Fnd.opn w8 2 4 5 6 7 8 (by decide)
  obtain ⟨gE,iE,rfl⟩:=o2.form
  obtain ⟨jE,kE,rfl⟩:=p2.form
  obtain ⟨lE,h9,rfl⟩:=u1.form
  obtain ⟨i9,j9,rfl⟩:=b1.form
  obtain ⟨k9,l9,rfl⟩:=c1.form
  obtain ⟨m9,n9,rfl⟩:=d1.form
  obtain ⟨q5,r5,rfl⟩:=s0.form
  obtain ⟨s5,t5,rfl⟩:=t0.form
  obtain ⟨u5,v5,rfl⟩:=u0.form
  obtain ⟨o9,p9,rfl⟩:=e1.form
  obtain ⟨q9,r9,rfl⟩:=f1.form
  obtain ⟨w5,e0,hm⟩:=bs hm
  refine Ax (fun l' w'=>∃ (x5:Unit) (O':Lab),subs l' [(0,(.pointer (some ⟨p0,0,none⟩))),(4,(.pointer (some ⟨g3,0,none⟩))),(6,(.slice t7 c5.1.length u7)),(44,(.bool w5))]∧Bm w O0 w' O'∧Ob 2 w' O' (.pointer (some ⟨p0,0,none⟩)) x0∧Lc 3 w' O' g3 43 [(.slice none 0 0),(.slice none 0 0),(.slice none 0 0)]∧Vb w' (Fr 0 w' O') (.slice t7 c5.1.length u7) c5.1) ?_ ?_
  ·
   refine Bc [] v7 ?_
   refine Az (fuel:=4) [] [(0,true),(1,true),(2,true),(3,true),(4,true),(5,true),(6,true),(7,true),(8,true),(9,true),(10,true),(11,true),(13,true),(14,true),(15,true),(16,true),(17,true)] (by kernel_rfl) rfl ?_
   refine AH rfl rfl rfl (Ro rfl rfl rfl (AH rfl rfl rfl ?_))
   rcases Bool.eq_false_or_eq_true (!c5.2) with w1|w1
   ·
    try simp only [w1]
    replace e0:=ip e0 w1
    refine AB rfl rfl rfl rfl rfl (AB rfl rfl rfl rfl rfl (AB rfl rfl rfl rfl rfl (AB rfl rfl rfl rfl rfl (AB rfl rfl rfl rfl rfl (AB rfl rfl rfl rfl rfl (AB rfl rfl rfl rfl rfl (AB rfl rfl rfl rfl rfl (AB rfl rfl rfl rfl rfl (AB rfl rfl rfl rfl rfl (AB rfl rfl rfl rfl rfl (AB rfl rfl rfl rfl rfl (AB rfl rfl rfl rfl rfl (AB rfl rfl rfl rfl rfl (As ?_))))))))))))))
    refine Au (i:=12) (by kernel_rfl) rfl ?_
    refine An rfl rfl rfl rfl (Ay [] ((St.refl nT _ _).lst [] (fun _ h=>h.elim)) (by kernel_rfl) ?_)
    refine Au (i:=18) (by kernel_rfl) rfl ?_
    refine An rfl rfl rfl rfl (Ay [] ((St.refl nT _ _).lst [] (fun _ h=>h.elim)) (by kernel_rfl) ?_)
    refine Az (fuel:=0) [] [(19,true),(20,true)] (by kernel_rfl) rfl ?_
    refine AB rfl rfl rfl rfl rfl (Ce rfl rfl rfl rfl (As ?_))
    refine AZ (by kernel_rfl) ?_
    obtain ⟨s9,t2,w7,x7,y5⟩:=Fnd.shut (x:=x0) (l0:=2) (l1:=4) (l2:=5) (l3:=6) (l4:=7) (l5:=8) (by decide) d2 o2 p2 u1 b1 c1 d1 s0 t0 u0 e1 f1 r2 s2
    obtain rfl:=sm e0
    exact ⟨(),_,⟨rfl,rfl,rfl,rfl,trivial⟩,(((((hB.st S6).st S9).st k2).st m2).st t1).st t2,y5,((((h7.st S9).st k2).st m2).st t1).st t2,(n2.st t1).st t2⟩
   try simp only [w1]
   replace e0:=im' e0 w1
   refine Al rfl (Ak rfl rfl (BS rfl rfl (Al rfl (Ak rfl rfl (Id rfl rfl (Al rfl (Ak rfl rfl (BD rfl rfl (Al rfl (Ak rfl rfl (Fu (hl:=rfl) (hb:=fun w' ⟨O',hq⟩=>(If 6 3 ((d2.st hq (by decide)).1).cellsAt)) rfl rfl ?_)))))))))))
   refine Al rfl (Ak rfl rfl (BS rfl rfl (Al rfl (Ak rfl rfl (Id rfl rfl (Al rfl (Ak rfl rfl (BD rfl rfl (Al rfl (Ak rfl rfl (BD rfl rfl (Al rfl (Ak rfl rfl (Da (hc:=fun w' ⟨O',hq⟩=>Blk.cell (i:=2) ((d2.st hq (by decide)).1) rfl) rfl rfl ?_))))))))))))))
   refine Al rfl (Ak rfl rfl (BS rfl rfl (Al rfl (Ak rfl rfl (Id rfl rfl (Al rfl (Ak rfl rfl (BD rfl rfl (Al rfl (Ak rfl rfl (BD rfl rfl (Al rfl (Ak rfl rfl (Da (hc:=fun w' ⟨O',hq⟩=>Blk.cell (i:=2) ((d2.st hq (by decide)).1) rfl) rfl rfl ?_))))))))))))))
   refine As ?_
   refine Au (i:=12) (by kernel_rfl) rfl ?_
   refine Ar rfl rfl ?_
   obtain ⟨z5,a6,e0⟩:=bs e0
   refine IF (O:=v7) (ls:=[5,6]) (R:=fun w' F v=>Vb w' F v z5) (DA FrS.lt (Vb.ofAgg (cs:=[(.slice q5 x0.x.vars.length r5),(.slice s5 x0.x.vals.length t5),(.slice u5 x0.x.ops.length v5)]) (x:=x0.x) rfl ⟨_,_,_,rfl,(s0.lend [5,6] (by decide)),(Vb.subS t0.lend (by decide)),(u0.lend [5,6])⟩) (u1.lend [5,6]) a6) rfl rfl fun t9 u2 v2 b0 o3=>?_
   obtain ⟨u9,v9,rfl⟩:=o3.form
   have hZ:=b0.lst [] (fun _ h=>h.elim)
   refine Ay [] hZ (by kernel_rfl) ?_
   refine Au (i:=18) (by kernel_rfl) rfl ?_
   refine Ar rfl rfl ?_
   obtain ⟨p3,b6,e0⟩:=bs e0
   replace u1:=u1.st b0
   refine Bf (O:=v2) (A:=All u2) (R:=fun w' F v=>Vb w' F v p3) (Cg (fun _ h=>h) (Vb.mono (F:=FrS [5,6] u2 v2) o3 FrS.lt) (Vb.mono (F:=Fr 0 u2 v2) u1 Fr.lt) b6) rfl rfl fun w9 x9 y9 a0 c6=>?_
   obtain rfl:=c6.bool
   have hZ:=a0.lst [] (fun _ h=>h.elim)
   cases p3
   case false =>
    replace e0:=iF e0
    refine Ay [] hZ (by kernel_rfl) ?_
    refine Az (fuel:=0) [] [(19,true),(20,true)] (by kernel_rfl) rfl ?_
    refine Al rfl (Ak rfl rfl (Kn rfl rfl (Cb rfl rfl rfl rfl (As ?_))))
    refine AZ (by kernel_rfl) ?_
    replace d2:=(d2.st b0).st a0
    replace o2:=(o2.st b0).st a0
    replace p2:=(p2.st b0).st a0
    replace u1:=u1.st a0
    replace b1:=(b1.st b0).st a0
    replace c1:=(c1.st b0).st a0
    replace d1:=(d1.st b0).st a0
    replace s0:=(s0.st b0).st a0
    replace t0:=(t0.st b0).st a0
    replace u0:=(u0.st b0).st a0
    replace e1:=(e1.st b0).st a0
    replace f1:=(f1.st b0).st a0
    obtain ⟨z9,w2,y7,z7,d6⟩:=Fnd.shut (x:=x0) (l0:=2) (l1:=4) (l2:=5) (l3:=6) (l4:=7) (l5:=8) (by decide) d2 o2 p2 u1 b1 c1 d1 s0 t0 u0 e1 f1 r2 s2
    obtain rfl:=sm e0
    exact ⟨(),_,⟨rfl,rfl,rfl,rfl,trivial⟩,(((((((hB.st S6).st S9).st k2).st m2).st t1).st b0).st a0).st w2,d6,((((((h7.st S9).st k2).st m2).st t1).st b0).st a0).st w2,(((n2.st t1).st b0).st a0).st w2⟩
   replace e0:=iT e0
   refine Ay [] hZ (by kernel_rfl) ?_
   refine Az (fuel:=0) [] [(19,true),(20,true)] (by kernel_rfl) rfl ?_
   refine Al rfl (Ak rfl rfl (Km rfl rfl (Cb rfl rfl rfl rfl (As ?_))))
   refine AZ (by kernel_rfl) ?_
   replace d2:=(d2.st b0).st a0
   replace o2:=(o2.st b0).st a0
   replace p2:=(p2.st b0).st a0
   replace u1:=u1.st a0
   replace b1:=(b1.st b0).st a0
   replace c1:=(c1.st b0).st a0
   replace d1:=(d1.st b0).st a0
   replace s0:=(s0.st b0).st a0
   replace t0:=(t0.st b0).st a0
   replace u0:=(u0.st b0).st a0
   replace e1:=(e1.st b0).st a0
   replace f1:=(f1.st b0).st a0
   obtain ⟨aA,x2,a8,b8,e6⟩:=Fnd.shut (x:=x0) (l0:=2) (l1:=4) (l2:=5) (l3:=6) (l4:=7) (l5:=8) (by decide) d2 o2 p2 u1 b1 c1 d1 s0 t0 u0 e1 f1 r2 s2
   obtain rfl:=sm e0
   exact ⟨(),_,⟨rfl,rfl,rfl,rfl,trivial⟩,(((((((hB.st S6).st S9).st k2).st m2).st t1).st b0).st a0).st x2,e6,((((((h7.st S9).st k2).st m2).st t1).st b0).st a0).st x2,(((n2.st t1).st b0).st a0).st x2⟩
  replace hB:=((((hB.st S6).st S9).st k2).st m2).st t1
  replace h7:=(((h7.st S9).st k2).st m2).st t1
  replace n2:=n2.st t1
  rintro bA cA ⟨x5,q3,r3,hB,e2,h7,n2⟩
  refine AE _ r3 ?_
  refine Bp rfl (fun y2=>?_) (fun y2=>?_)
  ·
   replace hm:=ip hm y2
   refine Ab (Aa (EH rfl rfl rfl ?_))
   refine AD h7 rfl rfl rfl (AU rfl) (allOne rfl) fun f6 s3 h7=>?_
   replace h7:Lc 3 f6 q3 g3 43 [(.slice none 0 0),(.slice none 0 0),(.slice none 0 0)]:=h7
   refine Am rfl rfl (o_z ?_)
   refine AF ?_
   obtain rfl:=sm hm
   replace hB:=hB.st s3
   obtain ⟨O',hS',hz,hl⟩:=hE.leave (fun q=>if q=2 then i0 else 0) rfl hB
   replace e2:=e2.st s3
   exact ret2 rfl (CK (cs:=[(.slice none 0 0),(.slice none 0 0),(.slice none 0 0)]) rfl rfl h7.1.cellsAt) (AC rfl) ⟨O',hS',_,_,(Ob.leave e2 hz (hl 2 (by decide) (by decide)) c2.2),rfl,(Vb.mono (Vb.ofAgg (cs:=[(.slice none 0 0),(.slice none 0 0),(.slice none 0 0)]) (x:=(⟨([]:List Int),([]:List (List Int)),([]:List Int)⟩:Swp)) rfl ⟨_,_,_,rfl,(Vb.nil _ _),(Vb.nil _ _),(Vb.nil _ _)⟩) hz),vBool⟩
  replace hm:=im' hm y2
  refine AI (Ab (Aa (Aj rfl rfl (Aj rfl rfl ?_))))
  obtain ⟨o0,g6,hm⟩:=bs hm
  refine Cc (O:=q3) (GD e2 n2 g6) rfl rfl fun dA eA h6 t3 i6=>?_
  obtain ⟨z2,j6⟩:=i6
  obtain ⟨c8,rfl,fA,gA,iA,rfl,f2,g2,h2⟩:=j6
  obtain ⟨a3,b3,rfl⟩:=f2.form
  obtain ⟨c3,d3,rfl⟩:=g2.form
  obtain ⟨e3,f3,rfl⟩:=h2.form
  replace h7:=h7.st t3
  refine AD h7 rfl rfl rfl (AU rfl) (allOne rfl) fun k6 y1 h7=>?_
  replace h7:Lc 3 k6 h6 g3 43 [(.slice a3 o0.vars.length b3),(.slice c3 o0.vals.length d3),(.slice e3 o0.ops.length f3)]:=h7
  refine Am rfl rfl (o_z ?_)
  refine AF ?_
  obtain rfl:=sm hm
  replace hB:=(hB.st t3).st y1
  obtain ⟨O',hS',hz,hl⟩:=hE.leave (fun q=>if q=2 then i0 else 0) rfl hB
  replace z2:=z2.st y1
  replace f2:=f2.st y1
  replace g2:=g2.st y1
  replace h2:=h2.st y1
  exact ret2 rfl (CK (cs:=[(.slice a3 o0.vars.length b3),(.slice c3 o0.vals.length d3),(.slice e3 o0.ops.length f3)]) rfl rfl h7.1.cellsAt) (AC rfl) ⟨O',hS',_,_,(Ob.leave z2 hz (hl 2 (by decide) (by decide)) c2.2),rfl,(Vb.mono (Vb.ofAgg (cs:=[(.slice a3 o0.vars.length b3),(.slice c3 o0.vals.length d3),(.slice e3 o0.ops.length f3)]) (x:=o0) rfl ⟨_,_,_,rfl,f2,g2,h2⟩) hz),vBool⟩
 replace hm:=im hm p5
 refine o_z ?_
 refine Ae rfl (AI (Ab (Ab (Aa (Aj rfl rfl (Eg rfl rfl (AS rfl rfl (AJ (hc:=Blk.cell (i:=4) (z4.1) rfl) rfl rfl ?_))))))))
 refine AX rfl rfl ?_
 have h3:x0.list.length≤9223372036854775807:=Nat.le_trans q0.len.2.1 q0.len.2.2
 have jA:inI64 (x0.list.length:Int):=rngNat h3
 refine Aj rfl rfl (o_z ?_)
 obtain ⟨l6,z1,d8,e8,m6⟩:=Fnd.shut (x:=x0) (l0:=2) (l1:=4) (l2:=5) (l3:=6) (l4:=7) (l5:=8) (by decide) z4 e5 f5 g5 h5 q0 i5 j5 k5 m5 n5 o5 r7 s7
 obtain ⟨i3,u3,hm⟩:=bs hm
 refine Ax (aft i3 (fun (m1:Fnd) (i2:Unit)=>[(4,(.pointer (some ⟨g3,0,none⟩)))]) (fun m1 i2 w'=>∃ O':Lab,Bm w O0 w' O'∧Lc 3 w' O' g3 43 [(.slice none 0 0),(.slice none 0 0),(.slice none 0 0)]∧Ob 2 w' O' (.pointer (some ⟨p0,0,none⟩)) m1)) ?_ ?_
 ·
  refine AG ?_
  replace hB:=((hB.st S6).st S9).st z1
  replace h7:=(h7.st S9).st z1
  replace q0:=q0.st z1
  refine Bk (σ:=Fnd) (X:=Unit) (x0.list.length) u3 rfl h3 (fun (m1:Fnd) (i2:Unit)=>[(0,(.pointer (some ⟨p0,0,none⟩))),(1,(.int .i64 x1)),(4,(.pointer (some ⟨g3,0,none⟩))),(52,(.slice a5 x0.list.length b5))]) _ (fun m1 i2 w'=>∃ O':Lab,Bm w O0 w' O'∧Ob 2 w' O' (.pointer (some ⟨p0,0,none⟩)) m1∧Lc 3 w' O' g3 43 [(.slice none 0 0),(.slice none 0 0),(.slice none 0 0)]∧Vb w' (Fr 0 w' O') (.slice a5 x0.list.length b5) x0.list) _ () ⟨l6,hB,m6,h7,q0⟩ ⟨rfl,rfl,rfl,rfl,rfl,rfl,trivial⟩ (fun _ _=>⟨rfl,rfl⟩) (fun _ _=>⟨rfl,trivial⟩) (fun _ _ _ ⟨O',hB,m0,h7,q0⟩=>⟨O',hB,h7,m0⟩) ⟨rfl,rfl,rfl⟩ ⟨rfl,rfl⟩ ?_
  rintro v3 g1 m1 i2 kA f8 q2 ⟨n6,hB,m0,h7,q0⟩ c0 j2 d5
  have rk218:inI64 (v3:Int):=rngK q2 h3
  refine Ab (Aa ?_)
  obtain ⟨lA,mA,g8,w3,x3,y3,rfl,z3,a4⟩:=q0.elem' q2
  refine Bv (hA:=w3) (hj:=rfl) (hlt:=x3) rfl rfl rfl ?_
  refine Ba (hl:=rfl) (hc:=y3) rfl rfl ?_
  refine Bd 9 n6 rfl fun o6 nA j3 j0 h1=>?_
  refine AD h1 rfl rfl rfl (AU rfl) (allOne rfl) fun p6 k0 h1=>?_
  replace h1:Lc 9 p6 j3 o6 26 [(.int .i64 g1.var),(.int .i64 g1.val)]:=h1
  refine o_z ?_
  refine Ab (Ab (Bc [(9,[2])] j3 ?_))
  refine Az (fuel:=2) [] [(0,true),(1,true),(2,true),(3,true),(4,true),(5,true),(6,true),(7,true),(8,true)] (by kernel_rfl) rfl ?_
  refine AH rfl rfl rfl (AH rfl rfl rfl (BR rfl rfl rfl (AM rfl rfl rfl ?_)))
  replace m0:=(m0.st j0).st k0
  obtain ⟨oA,pA,b4,q6⟩:=Fnd.pk_list m0
  refine AK (hc:=fun w' ⟨O',hq⟩=>Fnd.kp m0 hq (by decide) b4) rfl rfl rfl ?_
  refine AH rfl rfl rfl ?_
  obtain ⟨k3,r6,c0⟩:=bs c0
  obtain ⟨s6,t6⟩:=AO r6
  obtain ⟨qA,rA,h8,c4,d4,e4,f4,rfl,u6,v6⟩:=q6.elem t6
  refine Bl (hA:=c4) (hj:=(Int.toNat_of_nonneg s6).symm) (hlt:=e4) rfl rfl rfl rfl ?_
  refine Cl (hl:=rfl) (hb:=fun w' ⟨O',hq⟩=>(AL (hq.agree (i:=0) (by decide)) d4 f4)) rfl rfl rfl ?_
  refine Cl (hl:=rfl) (hb:=fun w' ⟨O',hq⟩=>((h1.st hq (by decide)).1).cellsAt) rfl rfl rfl ?_
  refine As ?_
  refine Au (i:=9) (by kernel_rfl) rfl ?_
  obtain ⟨w6,x6,c0⟩:=bs c0
  refine Cc (O:=j3) (Fd m0 (Vb.ofAgg (cs:=[(.int .i64 k3.var),(.int .i64 k3.val)]) (x:=k3) rfl ⟨rfl,u6,v6⟩) (Vb.ofAgg (cs:=[(.int .i64 g1.var),(.int .i64 g1.val)]) (x:=g1) rfl ⟨rfl,z3,a4⟩) x6) rfl rfl fun sA tA y6 h0 z6=>?_
  obtain ⟨g4,a7⟩:=z6
  obtain rfl:=a7.bool
  have hZ:=h0.lst [2] (fun _ h=>by cases h;decide)
  cases w6
  case false =>
   replace c0:=iF c0
   refine Ay [] hZ (by kernel_rfl) ?_
   refine Az (fuel:=0) [] [(10,true)] (by kernel_rfl) rfl ?_
   refine LK rfl rfl rfl (As ?_)
   refine AZ (by kernel_rfl) ?_
   refine Ah rfl (Ck ?_)
   obtain rfl:=sm c0
   exact show Exists _ from ⟨_,(),rfl,⟨rfl,rfl,rfl,rfl,rfl,rfl,trivial⟩,_,((hB.st j0).st k0).st h0,g4,((h7.st j0).st k0).st h0,((q0.st j0).st k0).st h0⟩
  replace c0:=iT c0
  refine Ay [] hZ (by kernel_rfl) ?_
  refine Az (fuel:=0) [] [(10,true)] (by kernel_rfl) rfl ?_
  refine LJ rfl rfl rfl (As ?_)
  refine AZ (by kernel_rfl) ?_
  refine Ae rfl (AI (Ab (Aa (Aj rfl rfl (Aj rfl rfl ?_)))))
  replace h1:=h1.st h0
  refine Ba (hl:=rfl) (hc:=(h1.1).cellsAt) rfl rfl ?_
  obtain ⟨d0,b7,c0⟩:=bs c0
  refine Cc (O:=y6) (MY hme g4 rx1 (Vb.ofAgg (cs:=[(.int .i64 g1.var),(.int .i64 g1.val)]) (x:=g1) rfl ⟨rfl,z3,a4⟩) b7) rfl rfl fun uA vA c7 w0 d7=>?_
  obtain ⟨wA,xA,n0,rfl,e7,f7⟩:=d7
  obtain ⟨i8,rfl,yA,zA,aB,rfl,y0,z0,a1⟩:=e7
  obtain ⟨n1,o1,rfl⟩:=y0.form
  obtain ⟨p1,q1,rfl⟩:=z0.form
  obtain ⟨r1,s1,rfl⟩:=a1.form
  obtain rfl:=f7.bool
  refine Aj rfl rfl (DN rfl rfl rfl (DN rfl rfl rfl (Bd 10 c7 rfl fun m3 bB g7 f0 i1=>?_)))
  refine AD i1 rfl rfl rfl (AU rfl) (allOne rfl) fun i7 g0 i1=>?_
  replace i1:Lc 10 i7 g7 m3 43 [(.slice n1 d0.1.vars.length o1),(.slice p1 d0.1.vals.length q1),(.slice r1 d0.1.ops.length s1)]:=i1
  refine Am rfl rfl (o_z ?_)
  refine Ab ?_
  obtain ⟨h4,r0,c0⟩:=bs c0
  refine Ax (fun l' w'=>∃ (j7:Unit) (O':Lab),subs l' [(0,(.pointer (some ⟨p0,0,none⟩))),(1,(.int .i64 x1)),(4,(.pointer (some ⟨g3,0,none⟩))),(10,(.pointer (some ⟨m3,0,none⟩))),(11,(.bool h4.1)),(52,(.slice a5 x0.list.length b5)),(53,(.int .i64 (x0.list.length:Int))),(54,(.int .i64 (v3:Int))),(82,(.bool h4.2))]∧Bm w O0 w' O'∧Ob 2 w' O' (.pointer (some ⟨p0,0,none⟩)) d0.2.2∧Lc 3 w' O' g3 43 [(.slice none 0 0),(.slice none 0 0),(.slice none 0 0)]∧Lc 10 w' O' m3 43 [(.slice n1 d0.1.vars.length o1),(.slice p1 d0.1.vals.length q1),(.slice r1 d0.1.ops.length s1)]∧Vb w' (Fr 0 w' O') (.slice n1 d0.1.vars.length o1) d0.1.vars∧Vb w' (Fr 0 w' O') (.slice p1 d0.1.vals.length q1) d0.1.vals∧Vb w' (Fr 0 w' O') (.slice r1 d0.1.ops.length s1) d0.1.ops∧Vb w' (Fr 0 w' O') (.slice a5 x0.list.length b5) x0.list) ?_ ?_
  ·
   refine Aa (Aj rfl rfl (Aj rfl rfl ?_))
   rcases Bool.eq_false_or_eq_true d0.2.1 with a2|a2
   ·
    try simp only [a2]
    replace r0:=ip r0 a2
    refine An rfl rfl rfl rfl (An rfl rfl rfl rfl (An rfl rfl rfl rfl (An rfl rfl rfl rfl (By rfl rfl rfl (o_z ?_)))))
    obtain rfl:=sm r0
    exact ⟨(),_,⟨rfl,rfl,rfl,rfl,rfl,rfl,rfl,rfl,rfl,trivial⟩,(((((hB.st j0).st k0).st h0).st w0).st f0).st g0,(n0.st f0).st g0,(((((h7.st j0).st k0).st h0).st w0).st f0).st g0,i1,(y0.st f0).st g0,(z0.st f0).st g0,(a1.st f0).st g0,(((((q0.st j0).st k0).st h0).st w0).st f0).st g0⟩
   try simp only [a2]
   replace r0:=im' r0 a2
   refine Ar rfl rfl (Aj rfl rfl (Ar rfl rfl (Eg rfl rfl (Ar rfl rfl ?_))))
   replace n0:=(n0.st f0).st g0
   obtain ⟨cB,dB,eB,fB,gB,iB,jB,kB,lB,mB,nB,oB,j1,j8,i4,j4,k4,m4,n4,o4,p4,q4,r4,s4,t4,u4,k7,l7⟩:=Fnd.opn n0 2 4 5 6 7 8 (by decide)
   obtain ⟨pB,qB,rfl⟩:=j4.form
   obtain ⟨rB,sB,rfl⟩:=k4.form
   obtain ⟨tB,uB,rfl⟩:=m4.form
   obtain ⟨vB,wB,rfl⟩:=n4.form
   obtain ⟨xB,yB,rfl⟩:=o4.form
   obtain ⟨zB,aC,rfl⟩:=p4.form
   obtain ⟨bC,cC,rfl⟩:=q4.form
   obtain ⟨dC,eC,rfl⟩:=r4.form
   obtain ⟨fC,gC,rfl⟩:=s4.form
   obtain ⟨hC,iC,rfl⟩:=t4.form
   obtain ⟨jC,kC,rfl⟩:=u4.form
   refine AS rfl rfl (Ar rfl rfl (AJ (hc:=Blk.cell (i:=13) (i4.1) rfl) rfl rfl ?_))
   refine Bz rfl rfl rfl (o_z ?_)
   obtain ⟨lC,k1,k8,l8,m7⟩:=Fnd.shut (x:=d0.2.2) (l0:=2) (l1:=4) (l2:=5) (l3:=6) (l4:=7) (l5:=8) (by decide) i4 j4 k4 m4 n4 o4 p4 q4 r4 s4 t4 u4 k7 l7
   obtain rfl:=sm r0
   exact ⟨(),_,⟨rfl,rfl,rfl,rfl,rfl,rfl,rfl,rfl,rfl,trivial⟩,(((((((hB.st j0).st k0).st h0).st w0).st f0).st g0).st j1).st k1,m7,(((((((h7.st j0).st k0).st h0).st w0).st f0).st g0).st j1).st k1,(i1.st j1).st k1,(((y0.st f0).st g0).st j1).st k1,(((z0.st f0).st g0).st j1).st k1,(((a1.st f0).st g0).st j1).st k1,(((((((q0.st j0).st k0).st h0).st w0).st f0).st g0).st j1).st k1⟩
  replace hB:=(((((hB.st j0).st k0).st h0).st w0).st f0).st g0
  replace h7:=(((((h7.st j0).st k0).st h0).st w0).st f0).st g0
  replace q0:=(((((q0.st j0).st k0).st h0).st w0).st f0).st g0
  replace n0:=(n0.st f0).st g0
  replace y0:=(y0.st f0).st g0
  replace z0:=(z0.st f0).st g0
  replace a1:=(a1.st f0).st g0
  rintro mC nC ⟨j7,n7,v4,hB,n0,h7,i1,y0,z0,a1,q0⟩
  refine AE _ v4 ?_
  refine Bp rfl (fun n3=>?_) (fun n3=>?_)
  ·
   replace c0:=ip c0 n3
   refine Ab (Aa (Ba (hl:=rfl) (hc:=(i1.1).cellsAt) rfl rfl ?_))
   refine Aj rfl rfl (AD h7 rfl rfl rfl (AU rfl) (allOne rfl) fun o7 b2 h7=>?_)
   replace h7:Lc 3 o7 n7 g3 43 [(.slice n1 d0.1.vars.length o1),(.slice p1 d0.1.vals.length q1),(.slice r1 d0.1.ops.length s1)]:=h7
   refine Am rfl rfl (o_z ?_)
   refine AF ?_
   obtain rfl:=sm c0
   obtain rfl:=j2 _ rfl
   obtain rfl:=sm (Cq hm)
   replace hB:=hB.st b2
   obtain ⟨O',hS',hz,hl⟩:=hE.leave (fun q=>if q=2 then i0 else 0) rfl hB
   replace n0:=n0.st b2
   replace y0:=y0.st b2
   replace z0:=z0.st b2
   replace a1:=a1.st b2
   exact ret2 rfl (CK (cs:=[(.slice n1 d0.1.vars.length o1),(.slice p1 d0.1.vals.length q1),(.slice r1 d0.1.ops.length s1)]) rfl rfl h7.1.cellsAt) (AC rfl) ⟨O',hS',_,_,(Ob.leave n0 hz (hl 2 (by decide) (by decide)) c2.2),rfl,(Vb.mono (Vb.ofAgg (cs:=[(.slice n1 d0.1.vars.length o1),(.slice p1 d0.1.vals.length q1),(.slice r1 d0.1.ops.length s1)]) (x:=d0.1) rfl ⟨_,_,_,rfl,y0,z0,a1⟩) hz),vBool⟩
  replace c0:=im' c0 n3
  refine AI ?_
  obtain rfl:=sm c0
  exact show Exists _ from ⟨_,(),rfl,⟨rfl,rfl,rfl,rfl,rfl,rfl,trivial⟩,_,hB,n0,h7,q0⟩
 replace hB:=((hB.st S6).st S9).st z1
 replace h7:=(h7.st S9).st z1
 rintro oC pC ⟨qC,rC,rfl,x4,p7,hB,h7,m0⟩
 replace hm:=AV hm
 refine AE _ x4 ?_
 refine Ab (Aa (EH rfl rfl rfl ?_))
 refine AD h7 rfl rfl rfl (AU rfl) (allOne rfl) fun q7 y4 h7=>?_
 replace h7:Lc 3 q7 p7 g3 43 [(.slice none 0 0),(.slice none 0 0),(.slice none 0 0)]:=h7
 refine Am rfl rfl (o_z ?_)
 refine AF ?_
 obtain rfl:=sm hm
 replace hB:=hB.st y4
 obtain ⟨O',hS',hz,hl⟩:=hE.leave (fun q=>if q=2 then i0 else 0) rfl hB
 replace m0:=m0.st y4
 exact ret2 rfl (CK (cs:=[(.slice none 0 0),(.slice none 0 0),(.slice none 0 0)]) rfl rfl h7.1.cellsAt) (AC rfl) ⟨O',hS',_,_,(Ob.leave m0 hz (hl 2 (by decide) (by decide)) c2.2),rfl,(Vb.mono (Vb.ofAgg (cs:=[(.slice none 0 0),(.slice none 0 0),(.slice none 0 0)]) (x:=(⟨([]:List Int),([]:List (List Int)),([]:List Int)⟩:Swp)) rfl ⟨_,_,_,rfl,(Vb.nil _ _),(Vb.nil _ _),(Vb.nil _ _)⟩) hz),vBool⟩
end
section
open Go Go.RowKit
attribute [local irreducible] ewp owp hwp hwq Ev Evg Fn retPost Res1
noncomputable def mxE:Nat→MeT
  | 0=>fun _ _=>none
  | d + 1=>DW (mxE d)
theorem Qn:∀ d,MeC (mxE d)
  | 0=>fun _ _ _ _ hm=>nomatch hm
  | d + 1=>fun a0 _ r1 _ hm=>Ox (Qn d) a0 r1 hm
noncomputable def Cr (x0:Fnd) (x1:Int) (x2:Fct):Option (Swp×Bool×Fnd):=ER (mxE (x0.list.length + 1)) x0 x1 x2
theorem GY {w:World} {O:Lab} {p0 i0:Nat} {x0:Fnd} (a0:Ob i0 w O (.pointer (some ⟨p0,0,none⟩)) x0) {x1:Int} (rx1:inI64 x1) {vx2:Value} {x2:Fct} (b0:Vb w (Fr 0 w O) vx2 x2) {r:Swp×Bool×Fnd} (hm:Cr x0 x1 x2=some r) :
    Fn Tryz.prog 42 [(.pointer (some ⟨p0,0,none⟩)),(.int .i64 x1),vx2] w fun v w'=>∃ O',St (eT i0) w O w' O'∧∃ v0 v1:Value,Ob i0 w' O' (.pointer (some ⟨p0,0,none⟩)) r.2.2∧v=.tuple #[v0,v1]∧Vb w' (Fr 0 w' O') v0 r.1∧Vb w' (Fr 0 w' O') v1 r.2.1 :=
  MY (Qn _) a0 rx1 b0 hm
noncomputable def Dh (x0:List Swp) (x1:Fct):Option (MapF Bool) :=
  bnd (lop (ρ:=(MapF Bool)) (fun (s30:(List Fct)×Int×(MapF Bool))=>if s30.2.1 < (s30.1.length:Int) then (bnd (rng (ρ:=Ctl ((List Fct)×Int×(MapF Bool)) (MapF Bool)) (fun (k60:Nat) (a61:Swp) (s58:(List Fct)×(MapF Bool))=>bnd (atI s58.1 s30.2.1) fun a103=>bnd (atI a61.vars a103.var) fun a116=>bnd (atI s58.1 s30.2.1) fun a128=>bnd (atI a61.vals a128.var) fun a141=>bnd (atI s58.1 s30.2.1) fun a156=>bnd (atI a141 a156.val) fun a169=>if (!(fget false s58.2.l (⟨a116,a169⟩:Fct)))=true then (bnd (appI 16 s58.1 [(⟨a116,a169⟩:Fct)]) fun u196=>some (.next (u196,(⟨fput s58.2.l (⟨a116,a169⟩:Fct) true⟩:MapF Bool)))) else (some (.next (s58.1,s58.2)))) x0 0 (s30.1,s30.2.2)) fun res56=>fin res56 fun (s212:(List Fct)×(MapF Bool))=>bnd (chkI (s30.2.1 + 1)) fun n214=>some (.next (s212.1,n214,s212.2))) else (some (.brk (s30.1,s30.2.1,s30.2.2)))) ([x1],0,(⟨fput (⟨[]⟩:MapF Bool).l x1 true⟩:MapF Bool))) fun res28=>fin res28 fun (s221:(List Fct)×Int×(MapF Bool))=>some s221.2.2
theorem Jp {w:World} {O:Lab} {vx0:Value} {x0:List Swp} (d0:Vb w (Fr 0 w O) vx0 x0) {vx1:Value} {x1:Fct} (p2:Vb w (Fr 0 w O) vx1 x1) (j0:Nat) (hj0:j0≠0) {r:(MapF Bool)} (hm:Dh x0 x1=some r) :
    Fn Tryz.prog 41 [vx0,vx1] w fun v w'=>∃ O',St nT w O w' O'∧Ob j0 w' O' v (r:MapF Bool):=by
 obtain ⟨O0,hE,l4⟩:=ent0 (w:=w) (O:=O)
 have hB:Bm w O0 w O0:=Bm.refl
 replace d0:=d0.mono l4
 obtain ⟨A3,c4,rfl⟩:=d0.form
 replace p2:=p2.mono l4
 obtain ⟨f7,rfl,rfl,r6,r7⟩:=p2
 refine AP Tryz.func41 rfl Tryz.ntmps41 rfl ?_
 unfold Dh at hm
 refine Ab (Aa (BC 2 O0 rfl rfl fun g8 w9 m4 q2 t0=>?_))
 replace t0:Lc 2 w9 m4 g8 26 [(.int .i64 x1.var),(.int .i64 x1.val)]:=t0
 refine Am rfl rfl (o_z ?_)
 refine Ab (Aa (LV (V:=Bool) 3 (by decide) m4 rfl fun u0 g7 u4 j2 v4=>?_))
 replace t0:=t0.st j2
 refine Ba (hl:=rfl) (hc:=(t0.1).cellsAt) rfl rfl ?_
 refine RO ?_
 refine MX (a:=x1) (b:=true) v4 vBool rfl rfl rfl fun h7 k2 r2=>?_
 refine Aj rfl rfl (Am rfl rfl (o_z ?_))
 refine Ab (Aa ?_)
 replace t0:=t0.st k2
 refine Ba (hl:=rfl) (hc:=(t0.1).cellsAt) rfl rfl ?_
 refine Bi 4 (by decide) u4 (xs:=([x1]:List Fct)) rfl rfl rfl rfl ⟨(Vb.ofAgg (cs:=[(.int .i64 x1.var),(.int .i64 x1.val)]) (x:=x1) rfl ⟨rfl,r6,r7⟩),trivial⟩ (by decide) (by decide) rfl fun w4 i7 x4 l2 y4=>?_
 refine Am rfl rfl (o_z ?_)
 refine Ab (Ab (Aa (Am rfl rfl (o_z ?_))))
 obtain ⟨b1,s2,hm⟩:=bs hm
 refine Ax (aft b1 (fun (g0:(List Fct)×Int×(MapF Bool)) (o0:(Option Addr×Nat))=>[(5,(.map (some u0)))]) (fun g0 o0 w'=>∃ O':Lab,Bm w O0 w' O'∧Ob 3 w' O' (.map (some u0)) g0.2.2∧inI64 g0.2.1)) ?_ ?_
 ·
  refine AG ?_
  replace d0:=(((d0.st q2).st j2).st k2).st l2
  replace hB:=(((hB.st q2).st j2).st k2).st l2
  replace r2:=r2.st l2
  refine DQ (σ:=(List Fct)×Int×(MapF Bool)) (X:=(Option Addr×Nat)) s2 (fun (g0:(List Fct)×Int×(MapF Bool)) (o0:(Option Addr×Nat))=>[(0,(.slice A3 x0.length c4)),(5,(.map (some u0))),(6,(.slice o0.1 g0.1.length o0.2)),(7,(.int .i64 g0.2.1))]) _ (fun g0 o0 w'=>∃ O':Lab,Bm w O0 w' O'∧Vb w' (Fr 0 w' O') (.slice A3 x0.length c4) x0∧Ob 3 w' O' (.map (some u0)) g0.2.2∧Rw 4 w' O' 26 (.slice o0.1 g0.1.length o0.2) g0.1∧inI64 g0.2.1) _ ((some ⟨w4,0,none⟩),1) ⟨x4,hB,d0,r2,y4,(show inI64 (0) from by decide)⟩ ⟨rfl,rfl,rfl,rfl,trivial⟩ ?_
  rintro g0 o0 j7 z4 ⟨a5,hB,d0,m2,t2,n4⟩ b0 u2 w0
  refine Ab (Ab (Aa (Aj rfl rfl (Aj rfl rfl (AX rfl rfl ?_)))))
  have b5:g0.1.length≤9223372036854775807:=Nat.le_trans t2.len.2.1 t2.len.2.2
  have k7:inI64 (g0.1.length:Int):=rngNat b5
  refine Dj rfl rfl rfl (fun v2=>?_) fun v2=>?_
  ·
   replace b0:=ip b0 v2
   refine o_z ?_
   refine Ah rfl (AI (Ab (AG (Ab (Aa (Aj rfl rfl (AX rfl rfl ?_)))))))
   have w2:x0.length≤9223372036854775807:=Nat.le_trans d0.len.2.1 d0.len.2.2
   have l7:inI64 (x0.length:Int):=rngNat w2
   refine Aj rfl rfl (o_z ?_)
   obtain ⟨c1,x2,b0⟩:=bs b0
   refine Ax (aft c1 (fun (p0:(List Fct)×(MapF Bool)) (l0:(Option Addr×Nat))=>[(0,(.slice A3 x0.length c4)),(5,(.map (some u0))),(6,(.slice l0.1 p0.1.length l0.2)),(7,(.int .i64 g0.2.1))]) (fun p0 l0 w'=>∃ O':Lab,Bm w O0 w' O'∧Vb w' (Fr 0 w' O') (.slice A3 x0.length c4) x0∧Ob 3 w' O' (.map (some u0)) p0.2∧Rw 4 w' O' 26 (.slice l0.1 p0.1.length l0.2) p0.1)) ?_ ?_
   ·
    refine AG (Bk (σ:=(List Fct)×(MapF Bool)) (X:=(Option Addr×Nat)) (x0.length) x2 rfl w2 (fun (p0:(List Fct)×(MapF Bool)) (l0:(Option Addr×Nat))=>[(0,(.slice A3 x0.length c4)),(5,(.map (some u0))),(6,(.slice l0.1 p0.1.length l0.2)),(7,(.int .i64 g0.2.1)),(22,(.slice A3 x0.length c4))]) _ (fun p0 l0 w'=>∃ O':Lab,Bm w O0 w' O'∧Vb w' (Fr 0 w' O') (.slice A3 x0.length c4) x0∧Ob 3 w' O' (.map (some u0)) p0.2∧Rw 4 w' O' 26 (.slice l0.1 p0.1.length l0.2) p0.1) _ (o0.1,o0.2) ⟨a5,hB,d0,m2,t2⟩ ⟨rfl,rfl,rfl,rfl,rfl,rfl,rfl,trivial⟩ (fun _ _=>⟨rfl,rfl⟩) (fun _ _=>⟨rfl,rfl,rfl,rfl,trivial⟩) (fun _ _ _ ⟨O',hB,d0,q0,m0⟩=>⟨O',hB,d0,q0,m0⟩) ⟨rfl,rfl,rfl⟩ ⟨rfl,rfl⟩ ?_)
    rintro c5 y2 p0 l0 m7 d5 d1 ⟨e5,hB,d0,q0,m0⟩ a0 z2 a3
    have rk60:inI64 (c5:Int):=rngK d1 w2
    refine Ab (Aa ?_)
    obtain ⟨n7,o7,f5,b3,c3,d3,p7,q7,s7,rfl,n2,o2,g5⟩:=d0.elem' d1
    obtain ⟨h5,i5,rfl⟩:=n2.form
    obtain ⟨j5,k5,rfl⟩:=o2.form
    obtain ⟨l5,m5,rfl⟩:=g5.form
    refine Bv (hA:=b3) (hj:=rfl) (hlt:=c3) rfl rfl rfl ?_
    refine Ba (hl:=rfl) (hc:=d3) rfl rfl ?_
    refine Bd 5 e5 rfl fun n5 t7 e3 v0 n0=>?_
    refine AD n0 rfl rfl rfl (AU rfl) (allOne rfl) fun f3 e0 n0=>?_
    replace n0:Lc 5 f3 e3 n5 43 [(.slice h5 y2.vars.length i5),(.slice j5 y2.vals.length k5),(.slice l5 y2.ops.length m5)]:=n0
    refine o_z ?_
    refine Ab (Bc [] e3 ?_)
    refine Az (fuel:=2) [] [(0,true),(1,true),(2,true),(3,true),(4,true),(5,true),(6,true),(7,true),(8,true),(9,true),(10,true),(11,true),(12,true),(13,true),(14,true),(15,true),(16,true),(17,true),(18,true),(19,true),(20,true),(21,true),(22,true),(23,true),(24,true),(25,true)] (by kernel_rfl) rfl ?_
    refine AM rfl rfl rfl (AK (hc:=fun w' ⟨O',hq⟩=>Blk.cell (i:=0) ((n0.st hq (by decide)).1) rfl) rfl rfl rfl ?_)
    refine AH rfl rfl rfl (AH rfl rfl rfl ?_)
    obtain ⟨o5,g3,a0⟩:=bs a0
    obtain ⟨h3,i3⟩:=AO g3
    replace m0:=(m0.st v0).st e0
    obtain ⟨p5,q5,o4,e1,f1,g1,h1,rfl,r5,s5⟩:=m0.elemF i3
    refine Bl (hA:=e1) (hj:=(Int.toNat_of_nonneg h3).symm) (hlt:=g1) rfl rfl rfl rfl ?_
    refine AM rfl rfl rfl (AK (hc:=fun w' ⟨O',hq⟩=>cat0 (AL (hq.agree (i:=4) (by decide)) f1 h1)) rfl rfl rfl ?_)
    obtain ⟨h0,j3,a0⟩:=bs a0
    obtain ⟨k3,l3⟩:=AO j3
    replace n2:=(n2.st v0).st e0
    obtain ⟨t5,u5,p4,i1,j1,k1,l1,rfl,m3⟩:=n2.elem l3
    refine Bl (hA:=i1) (hj:=(Int.toNat_of_nonneg k3).symm) (hlt:=k1) rfl rfl rfl rfl ?_
    refine AK (hc:=fun w' ⟨O',hq⟩=>cat0 (AL (hq.agree (i:=0) (by decide)) j1 l1)) rfl rfl rfl ?_
    refine AM rfl rfl rfl (AK (hc:=fun w' ⟨O',hq⟩=>Blk.cell (i:=1) ((n0.st hq (by decide)).1) rfl) rfl rfl rfl ?_)
    refine AH rfl rfl rfl (AH rfl rfl rfl ?_)
    obtain ⟨v5,n3,a0⟩:=bs a0
    obtain ⟨o3,p3⟩:=AO n3
    obtain ⟨w5,x5,q4,m1,n1,o1,p1,rfl,y5,z5⟩:=m0.elemF p3
    refine Bl (hA:=m1) (hj:=(Int.toNat_of_nonneg o3).symm) (hlt:=o1) rfl rfl rfl rfl ?_
    refine AM rfl rfl rfl (AK (hc:=fun w' ⟨O',hq⟩=>cat0 (AL (hq.agree (i:=4) (by decide)) n1 p1)) rfl rfl rfl ?_)
    obtain ⟨a6,q3,a0⟩:=bs a0
    obtain ⟨r3,s3⟩:=AO q3
    replace o2:=(o2.st v0).st e0
    obtain ⟨b6,c6,r4,q1,r1,s1,t1,d6,rfl,r0⟩:=o2.elem s3
    replace r0:=Vb.of_slice r0
    obtain ⟨e6,f6,rfl⟩:=r0.form
    refine Bl (hA:=q1) (hj:=(Int.toNat_of_nonneg r3).symm) (hlt:=s1) rfl rfl rfl rfl ?_
    refine AK (hc:=fun w' ⟨O',hq⟩=>cat0 (AL (hq.agree (i:=0) (by decide)) r1 t1)) rfl rfl rfl ?_
    refine AH rfl rfl rfl (AH rfl rfl rfl ?_)
    obtain ⟨g6,t3,a0⟩:=bs a0
    obtain ⟨u3,v3⟩:=AO t3
    obtain ⟨h6,i6,s4,u1,v1,w1,y1,rfl,j6,k6⟩:=m0.elemF v3
    refine Bl (hA:=u1) (hj:=(Int.toNat_of_nonneg u3).symm) (hlt:=w1) rfl rfl rfl rfl ?_
    refine AM rfl rfl rfl (AK (hc:=fun w' ⟨O',hq⟩=>cat1 (AL (hq.agree (i:=4) (by decide)) v1 y1)) rfl rfl rfl ?_)
    obtain ⟨i0,w3,a0⟩:=bs a0
    obtain ⟨x3,y3⟩:=AO w3
    obtain ⟨l6,m6,t4,z1,a2,b2,c2,rfl,z3⟩:=r0.elem y3
    refine Bl (hA:=z1) (hj:=(Int.toNat_of_nonneg x3).symm) (hlt:=b2) rfl rfl rfl rfl ?_
    refine AK (hc:=fun w' ⟨O',hq⟩=>cat0 (AL (hq.agree (i:=0) (by decide)) a2 c2)) rfl rfl rfl ?_
    refine Ft rfl rfl rfl rfl ?_
    refine As ?_
    refine Au (i:=26) (by kernel_rfl) rfl ?_
    refine Bd 6 e3 rfl fun a4 n6 b4 f0 c0=>?_
    have hZ:=f0.lst [] (fun _ h=>h.elim)
    refine Ay [] hZ (by kernel_rfl) ?_
    refine Au (i:=27) (by kernel_rfl) rfl ?_
    refine AD c0 rfl rfl rfl (AU rfl) (allOne rfl) fun d4 k0 c0=>?_
    replace c0:Lc 6 d4 b4 a4 26 [(.int .i64 h0),(.int .i64 i0)]:=c0
    refine BK (by kernel_rfl) ?_
    refine AZ (by kernel_rfl) ?_
    refine Ab (Aa (Aj rfl rfl (Ba (hl:=rfl) (hc:=(c0.1).cellsAt) rfl rfl ?_)))
    replace q0:=(((q0.st v0).st e0).st f0).st k0
    obtain ⟨o6,d2,e4⟩:=MapF.get q0 (⟨h0,i0⟩:Fct) vBool
    obtain rfl:=e4.bool
    refine NH (⟨h0,i0⟩:Fct) d2 rfl rfl rfl ?_
    refine CU rfl rfl (o_z ?_)
    refine Bp rfl (fun y0=>?_) (fun y0=>?_)
    ·
     replace a0:=ip a0 y0
     refine Ab (Aa (Aj rfl rfl (Ba (hl:=rfl) (hc:=(c0.1).cellsAt) rfl rfl ?_)))
     refine MX (a:=(⟨h0,i0⟩:Fct)) (b:=true) q0 vBool rfl rfl rfl fun p6 s0 f4=>?_
     refine o_z ?_
     refine Aa (Aj rfl rfl ?_)
     replace c0:=c0.st s0
     refine Ba (hl:=rfl) (hc:=(c0.1).cellsAt) rfl rfl ?_
     obtain ⟨q6,z0,a0⟩:=bs a0
     obtain ⟨z0,g4,h4⟩:=AT z0
     replace m0:=((m0.st f0).st k0).st s0
     refine CF rfl (a:=(⟨h0,i0⟩:Fct)) m0 (Vb.ofAgg (cs:=[(.int .i64 h0),(.int .i64 i0)]) (x:=(⟨h0,i0⟩:Fct)) rfl ⟨rfl,m3,z3⟩) (fun _=>rfl) rfl (by decide) (by decide) g4 h4 ⟨rfl,rfl⟩ fun s6 i4 j4 t6 u6 a1 e2=>?_
     rw [← z0] at e2 ⊢
     refine Am rfl rfl (o_z ?_)
     obtain rfl:=sm a0
     exact show Exists _ from ⟨_,(i4,j4),rfl,⟨rfl,rfl,rfl,rfl,rfl,rfl,rfl,trivial⟩,_,(((((hB.st v0).st e0).st f0).st k0).st s0).st a1,(((((d0.st v0).st e0).st f0).st k0).st s0).st a1,f4.st a1,e2⟩
    replace a0:=im' a0 y0
    refine AI ?_
    obtain rfl:=sm a0
    exact show Exists _ from ⟨_,(l0.1,l0.2),rfl,⟨rfl,rfl,rfl,rfl,rfl,rfl,rfl,trivial⟩,_,(((hB.st v0).st e0).st f0).st k0,(((d0.st v0).st e0).st f0).st k0,q0,(m0.st f0).st k0⟩
   rintro v6 w6 ⟨x6,f2,rfl,g2,y6,hB,d0,q0,m0⟩
   replace b0:=AV b0
   refine AE _ g2 ?_
   refine Aa (Aj rfl rfl ?_)
   obtain ⟨z6,h2,b0⟩:=bs b0
   have k4:=(BG h2)
   refine EQ (he:=h2) rfl rfl rfl ?_
   refine Am rfl rfl (o_z ?_)
   obtain rfl:=sm b0
   exact show Exists _ from ⟨_,(f2.1,f2.2),rfl,⟨rfl,rfl,rfl,rfl,trivial⟩,_,hB,d0,q0,m0,k4⟩
  replace b0:=im b0 v2
  refine o_z ?_
  refine Ae rfl (Ck ?_)
  obtain rfl:=sm b0
  exact show Exists _ from ⟨_,(o0.1,o0.2),w0 _ rfl,⟨rfl,trivial⟩,_,hB,m2,n4⟩
 replace hB:=(((hB.st q2).st j2).st k2).st l2
 rintro a7 b7 ⟨c7,d7,rfl,i2,e7,hB,m2,n4⟩
 replace hm:=AV hm
 refine AE _ i2 ?_
 refine Ab (Aa (Aj rfl rfl (Am rfl rfl (o_z ?_))))
 refine AF ?_
 obtain rfl:=sm hm
 obtain ⟨O',hS',hz,hl⟩:=hE.leave (fun q=>if q=3 then j0 else 0) rfl hB
 exact ret1v rfl (AC rfl) ⟨O',hS',(Ob.leave m2 hz (hl 3 (by decide) (by decide)) hj0)⟩
noncomputable def Cj (x0:Fnd) (x1:Int) (x2:List Swp):Option ((List Swp)×Fnd) :=
  bnd (natI x1) fun N17=>bnd (rngN (ρ:=(List Swp)×Fnd) (fun (k8:Nat) (s6:Fnd)=>bnd (s6.list[k8]?) fun a25=>bnd (s6.list[k8]?) fun a40=>bnd (BW s6 a25 a40) fun q51=>some (.next q51.2)) N17 x0) fun res4=>fin res4 fun (s64:Fnd)=>bnd (rng (ρ:=(List Swp)×Fnd) (fun (k132:Nat) (a133:Fct) (s130:(List Swp)×Fnd)=>bnd (bnd (atI s130.2.list x1) fun a173=>bnd (BV s130.2 a173 a133) fun q186=>if q186=true then bnd (atI s130.2.list x1) fun a199=>bnd (Dh s130.1 a199) fun q212=>some (fget false q212.l a133) else some true:Option Bool) fun y165=>if y165=true then (some (.next (s130.1,s130.2))) else (bnd (Cr s130.2 x1 a133) fun q229=>bnd (if q229.2.1=true then (bnd (appI 72 s130.1 [q229.1]) fun u268=>some u268) else (some s130.1):Option (List Swp)) fun y261=>if q229.2.2.full=true then (some (.brk (y261,q229.2.2))) else (some (.next (y261,q229.2.2))))) s64.list 0 (x2,s64)) fun res128=>fin res128 fun (s354:(List Swp)×Fnd)=>bnd (chkI (x1 - 1)) fun n356=>bnd (lop (ρ:=(List Swp)×Fnd) (fun (s361:Int×Fnd)=>if 0≤s361.1 then (bnd (bnd (atI s361.2.list s361.1) fun a439=>if a439.val=0 then (bnd (BB s361.2 a439 a439 true) fun q465=>some q465) else (bnd (BB s361.2 a439 a439 false) fun q478=>some q478):Option Fnd) fun y379=>bnd (chkI (s361.1 - 1)) fun n490=>some (.next (n490,y379))) else (some (.brk (s361.1,s361.2)))) (n356,s354.2)) fun res359=>fin res359 fun (s497:Int×Fnd)=>some (s354.1,s497.2)
theorem GN {w:World} {O:Lab} {p0 i0:Nat} {x0:Fnd} (b4:Ob i0 w O (.pointer (some ⟨p0,0,none⟩)) x0) {x1:Int} (rx1:inI64 x1) {A2:Option Addr} {m2 c2 i1:Nat} {x2:List Swp} (v1:Rw i1 w O 43 (.slice A2 m2 c2) x2) (hne:i0≠i1) {r:(List Swp)×Fnd} (hm:Cj x0 x1 x2=some r) :
    Fn Tryz.prog 21 [(.pointer (some ⟨p0,0,none⟩)),(.int .i64 x1),(.slice A2 m2 c2)] w fun v w'=>∃ O',St (fun j=>j=i0∨j=i1) w O w' O'∧Ob i0 w' O' (.pointer (some ⟨p0,0,none⟩)) r.2∧Rw i1 w' O' 43 v r.1:=by
 obtain ⟨O0,hE,m9,qA,rA⟩:=ent2 (w:=w) (O:=O) hne b4.2 v1.2.2
 have b4':=Ob.leave b4 m9 qA (j:=2) (by decide)
 obtain rfl:m2=x2.length:=v1.len.1
 have v1':=Rw.leave v1 m9 rA (j:=3) (by decide)
 have hB:Bm w O0 w O0:=Bm.refl
 refine AP Tryz.func21 rfl Tryz.ntmps21 rfl ?_
 unfold Cj at hm
 refine Ab (Aa (Am rfl rfl (o_z ?_)))
 refine Ab (Ab (Aa (Aj rfl rfl (Aj rfl rfl (o_z ?_)))))
 obtain ⟨sA,z1,hm⟩:=bs hm
 replace z1:=KH z1
 obtain ⟨g6,tA,hm⟩:=bs hm
 refine Ax (aft g6 (fun (s6:Fnd) (x7:Unit)=>[(0,(.pointer (some ⟨p0,0,none⟩))),(1,(.int .i64 x1)),(2,(.slice A2 x2.length c2))]) (fun s6 x7 w'=>∃ O':Lab,Bm w O0 w' O'∧Ob 2 w' O' (.pointer (some ⟨p0,0,none⟩)) s6∧Rw 3 w' O' 43 (.slice A2 x2.length c2) x2)) ?_ ?_
 ·
  refine AG (Jg (σ:=Fnd) (X:=Unit) sA tA (ID z1 rx1) (fun (s6:Fnd) (x7:Unit)=>[(0,(.pointer (some ⟨p0,0,none⟩))),(1,(.int .i64 x1)),(2,(.slice A2 x2.length c2))]) _ (fun s6 x7 w'=>∃ O':Lab,Bm w O0 w' O'∧Ob 2 w' O' (.pointer (some ⟨p0,0,none⟩)) s6∧Rw 3 w' O' 43 (.slice A2 x2.length c2) x2) _ () ⟨O0,hB,b4',v1'⟩ ⟨rfl,(congrArg (fun z=>some (Value.int .i64 z)) z1),rfl,rfl,rfl,trivial⟩ (fun _ _=>⟨rfl,rfl⟩) (fun _ _=>⟨rfl,rfl,rfl,trivial⟩) (fun _ _ _ ⟨O',hB,d2,v1'⟩=>⟨O',hB,d2,v1'⟩) ⟨rfl,rfl,rfl⟩ ⟨rfl,rfl⟩ ?_)
  rintro k8 s6 x7 aH uA h6 ⟨n9,hB,d2,v1'⟩ f1 i6 j6
  have rk8:inI64 (k8:Int):=rngKN h6 (ID z1 rx1)
  refine Ab (Aa (Aj rfl rfl (Am rfl rfl (o_z ?_))))
  refine Bc [] n9 ?_
  refine Az (fuel:=1) [] [(0,true),(1,true),(2,true),(3,true),(4,true),(5,true),(6,true),(7,true),(8,true),(9,true),(10,true),(11,true),(12,true),(13,true),(14,true)] (by kernel_rfl) rfl ?_
  refine AH rfl rfl rfl (AH rfl rfl rfl (BR rfl rfl rfl (AM rfl rfl rfl ?_)))
  obtain ⟨bH,cH,k6,vA⟩:=Fnd.pk_list d2
  refine AK (hc:=fun w' ⟨O',hq⟩=>Fnd.kp d2 hq (by decide) k6) rfl rfl rfl ?_
  refine AH rfl rfl rfl ?_
  obtain ⟨l6,wA,f1⟩:=bs f1
  obtain ⟨dH,eH,xA,m6,n6,o6,p6,rfl,yA,zA⟩:=vA.elem wA
  refine Bl (hA:=m6) (hj:=rfl) (hlt:=o6) rfl rfl rfl rfl ?_
  refine Cl (hl:=rfl) (hb:=fun w' ⟨O',hq⟩=>(AL (hq.agree (i:=0) (by decide)) n6 p6)) rfl rfl rfl ?_
  refine AH rfl rfl rfl (BR rfl rfl rfl (AM rfl rfl rfl ?_))
  obtain ⟨fH,gH,q6,aB⟩:=Fnd.pk_list d2
  refine AK (hc:=fun w' ⟨O',hq⟩=>Fnd.kp d2 hq (by decide) q6) rfl rfl rfl ?_
  refine AH rfl rfl rfl ?_
  obtain ⟨r6,bB,f1⟩:=bs f1
  obtain ⟨hH,iH,cB,t6,u6,v6,w6,rfl,dB,eB⟩:=aB.elem bB
  refine Bl (hA:=t6) (hj:=rfl) (hlt:=v6) rfl rfl rfl rfl ?_
  refine Cl (hl:=rfl) (hb:=fun w' ⟨O',hq⟩=>(AL (hq.agree (i:=0) (by decide)) u6 w6)) rfl rfl rfl ?_
  refine As ?_
  refine Au (i:=15) (by kernel_rfl) rfl ?_
  obtain ⟨jH,fB,f1⟩:=bs f1
  refine Cc (O:=n9) (EK d2 (Vb.ofAgg (cs:=[(.int .i64 l6.var),(.int .i64 l6.val)]) (x:=l6) rfl ⟨rfl,yA,zA⟩) (Vb.ofAgg (cs:=[(.int .i64 r6.var),(.int .i64 r6.val)]) (x:=r6) rfl ⟨rfl,dB,eB⟩) fB) rfl rfl fun kH lH mH o9 gB=>?_
  obtain ⟨iB,jB⟩:=gB
  obtain rfl:=jB.bool
  refine BK (by kernel_rfl) ?_
  refine AZ (by kernel_rfl) ?_
  obtain rfl:=sm f1
  exact show Exists _ from ⟨_,(),rfl,⟨rfl,rfl,rfl,rfl,rfl,trivial⟩,_,hB.st o9,iB,v1'.st o9⟩
 rintro nH oH ⟨g1,pH,rfl,x6,qH,hB,d2,v1'⟩
 replace hm:=AV hm
 refine AE _ x6 ?_
 refine Ab (Ab (Aa (Aj rfl rfl (Eg rfl rfl ?_))))
 obtain ⟨rH,sH,tH,uH,vH,wH,xH,yH,kB,lB,mB,nB,y6,oB,p9,q9,r9,s9,t9,v0,u9,v9,c4,d4,e4,f4,z6,a7⟩:=Fnd.opn d2 2 4 5 6 7 8 (by decide)
 obtain ⟨zH,aI,rfl⟩:=q9.form
 obtain ⟨bI,cI,rfl⟩:=r9.form
 obtain ⟨dI,eI,rfl⟩:=s9.form
 obtain ⟨fI,gI,rfl⟩:=t9.form
 obtain ⟨z3,a4,rfl⟩:=v0.form
 obtain ⟨hI,iI,rfl⟩:=u9.form
 obtain ⟨jI,kI,rfl⟩:=v9.form
 obtain ⟨pB,qB,rfl⟩:=c4.form
 obtain ⟨rB,sB,rfl⟩:=d4.form
 obtain ⟨tB,uB,rfl⟩:=e4.form
 obtain ⟨vB,wB,rfl⟩:=f4.form
 refine AS rfl rfl (AJ (hc:=Blk.cell (i:=4) (p9.1) rfl) rfl rfl ?_)
 refine AX rfl rfl ?_
 have t2:g1.list.length≤9223372036854775807:=Nat.le_trans v0.len.2.1 v0.len.2.2
 have xB:inI64 (g1.list.length:Int):=rngNat t2
 refine Aj rfl rfl (o_z ?_)
 obtain ⟨b7,e2,w9,x9,c7⟩:=Fnd.shut (x:=g1) (l0:=2) (l1:=4) (l2:=5) (l3:=6) (l4:=7) (l5:=8) (by decide) p9 q9 r9 s9 t9 v0 u9 v9 c4 d4 e4 f4 z6 a7
 obtain ⟨u2,g4,hm⟩:=bs hm
 refine Ax (aft u2 (fun (h0:(List Swp)×Fnd) (f0:(Option Addr×Nat))=>[(0,(.pointer (some ⟨p0,0,none⟩))),(1,(.int .i64 x1)),(2,(.slice f0.1 h0.1.length f0.2))]) (fun h0 f0 w'=>∃ O':Lab,Bm w O0 w' O'∧Ob 2 w' O' (.pointer (some ⟨p0,0,none⟩)) h0.2∧Rw 3 w' O' 43 (.slice f0.1 h0.1.length f0.2) h0.1)) ?_ ?_
 ·
  refine AG ?_
  replace hB:=(hB.st y6).st e2
  replace v1':=(v1'.st y6).st e2
  replace v0:=v0.st e2
  refine Bk (σ:=(List Swp)×Fnd) (X:=(Option Addr×Nat)) (g1.list.length) g4 rfl t2 (fun (h0:(List Swp)×Fnd) (f0:(Option Addr×Nat))=>[(0,(.pointer (some ⟨p0,0,none⟩))),(1,(.int .i64 x1)),(2,(.slice f0.1 h0.1.length f0.2)),(38,(.slice z3 g1.list.length a4))]) _ (fun h0 f0 w'=>∃ O':Lab,Bm w O0 w' O'∧Ob 2 w' O' (.pointer (some ⟨p0,0,none⟩)) h0.2∧Rw 3 w' O' 43 (.slice f0.1 h0.1.length f0.2) h0.1∧Vb w' (Fr 0 w' O') (.slice z3 g1.list.length a4) g1.list) _ (A2,c2) ⟨b7,hB,c7,v1',v0⟩ ⟨rfl,rfl,rfl,rfl,rfl,rfl,trivial⟩ (fun _ _=>⟨rfl,rfl⟩) (fun _ _=>⟨rfl,rfl,rfl,trivial⟩) (fun _ _ _ ⟨O',hB,z0,d0,v0⟩=>⟨O',hB,z0,d0⟩) ⟨rfl,rfl,rfl⟩ ⟨rfl,rfl⟩ ?_
  rintro v2 q0 h0 f0 yB y9 s2 ⟨d7,hB,z0,d0,v0⟩ c0 e6 f2
  have rk132:inI64 (v2:Int):=rngK s2 t2
  refine Ab (Aa ?_)
  obtain ⟨zB,aC,z9,h4,i4,j4,rfl,k4,m4⟩:=v0.elem' s2
  refine Bv (hA:=h4) (hj:=rfl) (hlt:=i4) rfl rfl rfl ?_
  refine Ba (hl:=rfl) (hc:=j4) rfl rfl ?_
  refine Bd 9 d7 rfl fun w2 bC y2 w0 r0=>?_
  refine AD r0 rfl rfl rfl (AU rfl) (allOne rfl) fun e7 y0 r0=>?_
  replace r0:Lc 9 e7 y2 w2 26 [(.int .i64 q0.var),(.int .i64 q0.val)]:=r0
  refine o_z ?_
  refine Ab (Ab ?_)
  obtain ⟨f7,e0,c0⟩:=bs c0
  refine Ax (fun l' w'=>∃ (g7:Unit) (O':Lab),subs l' [(0,(.pointer (some ⟨p0,0,none⟩))),(1,(.int .i64 x1)),(2,(.slice f0.1 h0.1.length f0.2)),(9,(.pointer (some ⟨w2,0,none⟩))),(38,(.slice z3 g1.list.length a4)),(39,(.int .i64 (g1.list.length:Int))),(40,(.int .i64 (v2:Int))),(67,(.bool f7))]∧Bm w O0 w' O'∧Ob 2 w' O' (.pointer (some ⟨p0,0,none⟩)) h0.2∧Rw 3 w' O' 43 (.slice f0.1 h0.1.length f0.2) h0.1∧Lc 9 w' O' w2 26 [(.int .i64 q0.var),(.int .i64 q0.val)]∧Vb w' (Fr 0 w' O') (.slice z3 g1.list.length a4) g1.list) ?_ ?_
  ·
   refine Bc [(9,[2])] y2 ?_
   refine Az (fuel:=15) [] [(0,true),(1,true),(2,true),(3,true),(4,true),(5,true),(6,true),(7,true),(8,true)] (by kernel_rfl) rfl ?_
   refine AH rfl rfl rfl (AH rfl rfl rfl (BR rfl rfl rfl (AM rfl rfl rfl ?_)))
   replace z0:=(z0.st w0).st y0
   obtain ⟨cC,dC,n4,h7⟩:=Fnd.pk_list z0
   refine AK (hc:=fun w' ⟨O',hq⟩=>Fnd.kp z0 hq (by decide) n4) rfl rfl rfl ?_
   refine AH rfl rfl rfl ?_
   obtain ⟨z2,i7,e0⟩:=bs e0
   obtain ⟨j7,k7⟩:=AO i7
   obtain ⟨eC,fC,aA,o4,p4,q4,r4,rfl,l7,m7⟩:=h7.elem k7
   refine Bl (hA:=o4) (hj:=(Int.toNat_of_nonneg j7).symm) (hlt:=q4) rfl rfl rfl rfl ?_
   refine Cl (hl:=rfl) (hb:=fun w' ⟨O',hq⟩=>(AL (hq.agree (i:=0) (by decide)) p4 r4)) rfl rfl rfl ?_
   refine Cl (hl:=rfl) (hb:=fun w' ⟨O',hq⟩=>((r0.st hq (by decide)).1).cellsAt) rfl rfl rfl ?_
   refine As ?_
   refine Au (i:=9) (by kernel_rfl) rfl ?_
   obtain ⟨n7,o7,e0⟩:=bs e0
   refine Cc (O:=y2) (Fd z0 (Vb.ofAgg (cs:=[(.int .i64 z2.var),(.int .i64 z2.val)]) (x:=z2) rfl ⟨rfl,l7,m7⟩) (Vb.ofAgg (cs:=[(.int .i64 q0.var),(.int .i64 q0.val)]) (x:=q0) rfl ⟨rfl,k4,m4⟩) o7) rfl rfl fun gC p7 s4 a1 q7=>?_
   obtain ⟨g2,r7⟩:=q7
   obtain rfl:=r7.bool
   have hZ:=a1.lst [2] (fun _ h=>by cases h;decide)
   cases n7
   case false =>
    replace e0:=iF e0
    refine Ay [] hZ (by kernel_rfl) ?_
    refine Az (fuel:=3) [] [(10,true),(11,true),(12,true),(13,true),(14,true),(15,true),(16,true),(17,true),(18,true),(19,true),(21,true)] (by kernel_rfl) rfl ?_
    refine LK rfl rfl rfl (AH rfl rfl rfl (AB rfl rfl rfl rfl rfl (AB rfl rfl rfl rfl rfl (AB rfl rfl rfl rfl rfl (AB rfl rfl rfl rfl rfl (AB rfl rfl rfl rfl rfl (AB rfl rfl rfl rfl rfl (AB rfl rfl rfl rfl rfl (AB rfl rfl rfl rfl rfl (AB rfl rfl rfl rfl rfl (As ?_)))))))))))
    refine Au (i:=20) (by kernel_rfl) rfl ?_
    refine An rfl rfl rfl rfl (Ay [] ((St.refl nT _ _).lst [] (fun _ h=>h.elim)) (by kernel_rfl) ?_)
    refine Az (fuel:=0) [] [(22,true),(23,true)] (by kernel_rfl) rfl ?_
    refine AB rfl rfl rfl rfl rfl (Ce rfl rfl rfl rfl (As ?_))
    refine AZ (by kernel_rfl) ?_
    obtain rfl:=sm e0
    exact ⟨(),_,⟨rfl,rfl,rfl,rfl,rfl,rfl,rfl,rfl,trivial⟩,((hB.st w0).st y0).st a1,g2,((d0.st w0).st y0).st a1,r0.st a1,((v0.st w0).st y0).st a1⟩
   replace e0:=iT e0
   refine Ay [] hZ (by kernel_rfl) ?_
   refine Az (fuel:=3) [] [(10,true),(11,true),(12,true),(13,true),(14,true),(15,true),(16,true),(17,true),(18,true),(19,true),(21,true)] (by kernel_rfl) rfl ?_
   refine LJ rfl rfl rfl (AH rfl rfl rfl (Al rfl (Ak rfl rfl (BS rfl rfl (Al rfl (Ak rfl rfl (BS rfl rfl (Al rfl (Ak rfl rfl (Id rfl rfl (Al rfl (Ak rfl rfl (BD rfl rfl (Al rfl ?_))))))))))))))
   refine Ak rfl rfl ?_
   obtain ⟨hC,iC,t4,s7⟩:=Fnd.pk_list g2
   refine Da (hc:=fun w' ⟨O',hq⟩=>Fnd.kp g2 hq (by decide) t4) rfl rfl ?_
   refine Al rfl (Ak rfl rfl (BS rfl rfl (Al rfl (Ak rfl rfl ?_))))
   obtain ⟨a3,t7,e0⟩:=bs e0
   obtain ⟨u7,v7⟩:=AO t7
   obtain ⟨jC,kC,bA,u4,v4,w4,x4,rfl,w7,y7⟩:=s7.elem v7
   refine DM (hA:=u4) (hj:=(Int.toNat_of_nonneg u7).symm) (hlt:=w4) rfl rfl rfl ?_
   refine Al rfl (Ak rfl rfl (Fu (hl:=rfl) (hb:=fun w' ⟨O',hq⟩=>(AL (hq.agree (i:=0) (by decide)) v4 x4)) rfl rfl ?_))
   refine Al rfl (Ak rfl rfl ?_)
   replace r0:=r0.st a1
   refine Fu (hl:=rfl) (hb:=fun w' ⟨O',hq⟩=>((r0.st hq (by decide)).1).cellsAt) rfl rfl ?_
   refine As ?_
   refine Au (i:=20) (by kernel_rfl) rfl ?_
   refine Ar rfl rfl ?_
   obtain ⟨lC,z7,e0⟩:=bs e0
   replace d0:=((d0.st w0).st y0).st a1
   refine MN (O:=s4) (Jp (O:=fun _=>0) (Vb.all0 (d0).all) (Vb.all0 (Vb.mono (F:=Fr 0 p7 s4) (Vb.ofAgg (cs:=[(.int .i64 a3.var),(.int .i64 a3.val)]) (x:=a3) rfl ⟨rfl,w7,y7⟩) Fr.lt)) 10 (by decide) z7) rfl rfl fun mC nC oC w1 b3=>?_
   obtain ⟨pC,rfl⟩:=b3.mptr
   have hZ:=w1.lst [] (fun _ h=>h.elim)
   refine Ay [] hZ (by kernel_rfl) ?_
   refine Az (fuel:=0) [] [(22,true),(23,true)] (by kernel_rfl) rfl ?_
   refine Al rfl (Ak rfl rfl ?_)
   obtain ⟨qC,y4,a8⟩:=MapF.get b3 q0 vBool
   obtain rfl:=a8.bool
   refine RU q0 (fun w' ⟨O',hq⟩=>y4.keep (hq.agree (i:=10) (by decide) _ (MapF.at b3))) rfl rfl rfl ?_
   refine Cb rfl rfl rfl rfl (As ?_)
   refine AZ (by kernel_rfl) ?_
   obtain rfl:=sm e0
   exact ⟨(),_,⟨rfl,rfl,rfl,rfl,rfl,rfl,rfl,rfl,trivial⟩,(((hB.st w0).st y0).st a1).st w1,g2.st w1,d0.st w1,r0.st w1,(((v0.st w0).st y0).st a1).st w1⟩
  replace hB:=(hB.st w0).st y0
  replace v0:=(v0.st w0).st y0
  replace d0:=(d0.st w0).st y0
  rintro rC sC ⟨g7,b8,z4,hB,a5,d0,r0,v0⟩
  refine AE _ z4 ?_
  refine Bp rfl (fun c3=>?_) (fun c3=>?_)
  ·
   replace c0:=ip c0 c3
   refine Ck ?_
   obtain rfl:=sm c0
   exact show Exists _ from ⟨_,(f0.1,f0.2),rfl,⟨rfl,rfl,rfl,rfl,rfl,rfl,trivial⟩,_,hB,a5,d0,v0⟩
  replace c0:=im' c0 c3
  refine AI (Ab (Ab (Aa (Aj rfl rfl (Aj rfl rfl (Ba (hl:=rfl) (hc:=(r0.1).cellsAt) rfl rfl ?_))))))
  obtain ⟨u0,c8,c0⟩:=bs c0
  refine Cc (O:=b8) (GY a5 rx1 (Vb.ofAgg (cs:=[(.int .i64 q0.var),(.int .i64 q0.val)]) (x:=q0) rfl ⟨rfl,k4,m4⟩) c8) rfl rfl fun tC uC d8 d1 e8=>?_
  obtain ⟨vC,wC,y1,rfl,f8,g8⟩:=e8
  obtain ⟨cA,rfl,xC,yC,zC,rfl,h2,i2,j2⟩:=f8
  obtain ⟨b5,c5,rfl⟩:=h2.form
  obtain ⟨d5,e5,rfl⟩:=i2.form
  obtain ⟨f5,g5,rfl⟩:=j2.form
  obtain rfl:=g8.bool
  refine Aj rfl rfl (DN rfl rfl rfl (DN rfl rfl rfl (Bd 11 d8 rfl fun h8 aD i8 k0 a2=>?_)))
  refine AD a2 rfl rfl rfl (AU rfl) (allOne rfl) fun j8 m0 a2=>?_
  replace a2:Lc 11 j8 i8 h8 43 [(.slice b5 u0.1.vars.length c5),(.slice d5 u0.1.vals.length e5),(.slice f5 u0.1.ops.length g5)]:=a2
  refine Am rfl rfl (o_z ?_)
  refine Ab (Aa (Aj rfl rfl (o_z ?_)))
  obtain ⟨d3,o0,c0⟩:=bs c0
  refine Ax (fun l' w'=>∃ (b1:(Option Addr×Nat)) (O':Lab),subs l' [(0,(.pointer (some ⟨p0,0,none⟩))),(1,(.int .i64 x1)),(2,(.slice b1.1 d3.length b1.2)),(38,(.slice z3 g1.list.length a4)),(39,(.int .i64 (g1.list.length:Int))),(40,(.int .i64 (v2:Int)))]∧Bm w O0 w' O'∧Ob 2 w' O' (.pointer (some ⟨p0,0,none⟩)) u0.2.2∧Rw 3 w' O' 43 (.slice b1.1 d3.length b1.2) d3∧Vb w' (Fr 0 w' O') (.slice z3 g1.list.length a4) g1.list) ?_ ?_
  ·
   refine Bp rfl (fun e3=>?_) (fun e3=>?_)
   ·
    replace o0:=ip o0 e3
    refine Aa (Aj rfl rfl (Ba (hl:=rfl) (hc:=(a2.1).cellsAt) rfl rfl ?_))
    obtain ⟨bD,f3,o0⟩:=bs o0
    obtain ⟨f3,l8,m8⟩:=AT f3
    replace d0:=((d0.st d1).st k0).st m0
    replace h2:=(h2.st k0).st m0
    replace i2:=(i2.st k0).st m0
    replace j2:=(j2.st k0).st m0
    refine CF rfl (a:=u0.1) d0 (Vb.ofAgg (cs:=[(.slice b5 u0.1.vars.length c5),(.slice d5 u0.1.vals.length e5),(.slice f5 u0.1.ops.length g5)]) (x:=u0.1) rfl ⟨_,_,_,rfl,h2,i2,j2⟩) (fun _=>rfl) rfl (by decide) (by decide) l8 m8 ⟨rfl,rfl⟩ fun cD n8 o8 dD eD g3 h5=>?_
    rw [← f3] at h5 ⊢
    refine Am rfl rfl (o_z ?_)
    obtain rfl:=sm o0
    exact ⟨(n8,o8),_,⟨rfl,rfl,rfl,rfl,rfl,rfl,trivial⟩,(((hB.st d1).st k0).st m0).st g3,((y1.st k0).st m0).st g3,h5,(((v0.st d1).st k0).st m0).st g3⟩
   replace o0:=im' o0 e3
   refine AI ?_
   obtain rfl:=sm o0
   exact ⟨(f0.1,f0.2),_,⟨rfl,rfl,rfl,rfl,rfl,rfl,trivial⟩,((hB.st d1).st k0).st m0,(y1.st k0).st m0,((d0.st d1).st k0).st m0,((v0.st d1).st k0).st m0⟩
  replace hB:=((hB.st d1).st k0).st m0
  replace v0:=((v0.st d1).st k0).st m0
  replace y1:=(y1.st k0).st m0
  rintro fD gD ⟨b1,hD,i5,hB,y1,j5,v0⟩
  refine AE _ i5 ?_
  refine Ab (Aa (Aj rfl rfl (Eg rfl rfl ?_)))
  obtain ⟨iD,jD,kD,lD,mD,nD,oD,pD,qD,rD,sD,tD,b2,dA,h3,i3,j3,k3,m3,n3,o3,p3,q3,r3,s3,t3,k5,m5⟩:=Fnd.opn y1 2 4 5 6 7 8 (by decide)
  obtain ⟨uD,vD,rfl⟩:=i3.form
  obtain ⟨wD,xD,rfl⟩:=j3.form
  obtain ⟨yD,zD,rfl⟩:=k3.form
  obtain ⟨aE,bE,rfl⟩:=m3.form
  obtain ⟨cE,dE,rfl⟩:=n3.form
  obtain ⟨eE,fE,rfl⟩:=o3.form
  obtain ⟨gE,iE,rfl⟩:=p3.form
  obtain ⟨jE,kE,rfl⟩:=q3.form
  obtain ⟨lE,mE,rfl⟩:=r3.form
  obtain ⟨nE,oE,rfl⟩:=s3.form
  obtain ⟨pE,qE,rfl⟩:=t3.form
  refine AS rfl rfl (AJ (hc:=Blk.cell (i:=13) (h3.1) rfl) rfl rfl ?_)
  refine o_z ?_
  refine Bp rfl (fun u3=>?_) (fun u3=>?_)
  ·
   replace c0:=ip c0 u3
   refine Ck ?_
   obtain ⟨rE,n5,eA,fA,p8⟩:=Fnd.shut (x:=u0.2.2) (l0:=2) (l1:=4) (l2:=5) (l3:=6) (l4:=7) (l5:=8) (by decide) h3 i3 j3 k3 m3 n3 o3 p3 q3 r3 s3 t3 k5 m5
   obtain rfl:=sm c0
   exact show Exists _ from ⟨_,(b1.1,b1.2),f2 _ rfl,⟨rfl,rfl,rfl,trivial⟩,_,(hB.st b2).st n5,p8,(j5.st b2).st n5⟩
  replace c0:=im' c0 u3
  refine AI ?_
  obtain ⟨sE,v3,gA,iA,q8⟩:=Fnd.shut (x:=u0.2.2) (l0:=2) (l1:=4) (l2:=5) (l3:=6) (l4:=7) (l5:=8) (by decide) h3 i3 j3 k3 m3 n3 o3 p3 q3 r3 s3 t3 k5 m5
  obtain rfl:=sm c0
  exact show Exists _ from ⟨_,(b1.1,b1.2),rfl,⟨rfl,rfl,rfl,rfl,rfl,rfl,trivial⟩,_,(hB.st b2).st v3,q8,(j5.st b2).st v3,(v0.st b2).st v3⟩
 replace hB:=(hB.st y6).st e2
 rintro tE uE ⟨c1,s0,rfl,o5,r8,hB,z0,d0⟩
 replace hm:=AV hm
 refine AE _ o5 ?_
 refine Ab (Ab (Aa (Aj rfl rfl ?_)))
 obtain ⟨vE,p5,hm⟩:=bs hm
 have s8:=(BG p5)
 refine IH (he:=p5) rfl rfl rfl ?_
 refine Am rfl rfl (o_z ?_)
 obtain ⟨w3,q5,hm⟩:=bs hm
 refine Ax (aft w3 (fun (t0:Int×Fnd) (k2:Unit)=>[(2,(.slice s0.1 c1.1.length s0.2))]) (fun t0 k2 w'=>∃ O':Lab,Bm w O0 w' O'∧Rw 3 w' O' 43 (.slice s0.1 c1.1.length s0.2) c1.1∧Ob 2 w' O' (.pointer (some ⟨p0,0,none⟩)) t0.2∧inI64 t0.1)) ?_ ?_
 ·
  refine AG (DQ (σ:=Int×Fnd) (X:=Unit) q5 (fun (t0:Int×Fnd) (k2:Unit)=>[(0,(.pointer (some ⟨p0,0,none⟩))),(2,(.slice s0.1 c1.1.length s0.2)),(12,(.int .i64 t0.1))]) _ (fun t0 k2 w'=>∃ O':Lab,Bm w O0 w' O'∧Ob 2 w' O' (.pointer (some ⟨p0,0,none⟩)) t0.2∧Rw 3 w' O' 43 (.slice s0.1 c1.1.length s0.2) c1.1∧inI64 t0.1) _ () ⟨r8,hB,z0,d0,s8⟩ ⟨rfl,rfl,rfl,trivial⟩ ?_)
  rintro t0 k2 wE jA ⟨xE,hB,n2,d0,r5⟩ j0 f6 o2
  refine Ab (Ab (Aa (Aj rfl rfl (IA rfl rfl rfl (fun x3=>?_) fun x3=>?_))))
  ·
   replace j0:=ip j0 x3
   refine o_z ?_
   refine Ah rfl (AI (Ab ?_))
   obtain ⟨t8,g0,j0⟩:=bs j0
   refine Ax (fun l' w'=>∃ (u8:Unit) (O':Lab),subs l' [(0,(.pointer (some ⟨p0,0,none⟩))),(2,(.slice s0.1 c1.1.length s0.2)),(12,(.int .i64 t0.1))]∧Bm w O0 w' O'∧Ob 2 w' O' (.pointer (some ⟨p0,0,none⟩)) t8∧Rw 3 w' O' 43 (.slice s0.1 c1.1.length s0.2) c1.1) ?_ ?_
   ·
    refine AG (Ab (Aa (Aj rfl rfl (Eg rfl rfl ?_))))
    obtain ⟨v8,yE,zE,aF,bF,cF,dF,eF,fF,gF,hF,jF,p2,kA,h1,j1,k1,m1,n1,e1,o1,p1,q1,r1,s1,t1,s5,t5⟩:=Fnd.opn n2 2 4 5 6 7 8 (by decide)
    obtain ⟨kF,lF,rfl⟩:=j1.form
    obtain ⟨mF,nF,rfl⟩:=k1.form
    obtain ⟨oF,pF,rfl⟩:=m1.form
    obtain ⟨qF,rF,rfl⟩:=n1.form
    obtain ⟨sF,tF,rfl⟩:=e1.form
    obtain ⟨uF,vF,rfl⟩:=o1.form
    obtain ⟨wF,xF,rfl⟩:=p1.form
    obtain ⟨yF,zF,rfl⟩:=q1.form
    obtain ⟨aG,bG,rfl⟩:=r1.form
    obtain ⟨cG,dG,rfl⟩:=s1.form
    obtain ⟨eG,fG,rfl⟩:=t1.form
    refine AS rfl rfl (AJ (hc:=Blk.cell (i:=4) (h1.1) rfl) rfl rfl ?_)
    refine Aj rfl rfl ?_
    obtain ⟨n0,w8,g0⟩:=bs g0
    obtain ⟨x8,y8⟩:=AO w8
    obtain ⟨gG,hG,lA,u5,v5,w5,rfl,q2,r2⟩:=e1.elem' y8
    refine Bv (hA:=u5) (hj:=(Int.toNat_of_nonneg x8).symm) (hlt:=v5) rfl rfl rfl ?_
    refine Ba (hl:=rfl) (hc:=w5) rfl rfl ?_
    refine Bd 12 v8 rfl fun z8 iG a9 a0 u1=>?_
    refine AD u1 rfl rfl rfl (AU rfl) (allOne rfl) fun b9 b0 u1=>?_
    replace u1:Lc 12 b9 a9 z8 26 [(.int .i64 n0.var),(.int .i64 n0.val)]:=u1
    refine o_z ?_
    refine Aa (Aj rfl rfl (Ba (hl:=rfl) (hc:=(u1.1).cellsAt) rfl rfl ?_))
    refine Ba (hl:=rfl) (hc:=(u1.1).cellsAt) rfl rfl ?_
    refine AS rfl rfl (AJ (hc:=Blk.cell (i:=1) (u1.1) rfl) rfl rfl ?_)
    refine FK rfl rfl rfl (fun y3=>?_) fun y3=>?_
    ·
     replace g0:=ip g0 y3
     replace h1:=(h1.st a0).st b0
     replace j1:=(j1.st a0).st b0
     replace k1:=(k1.st a0).st b0
     replace m1:=(m1.st a0).st b0
     replace n1:=(n1.st a0).st b0
     replace e1:=(e1.st a0).st b0
     replace o1:=(o1.st a0).st b0
     replace p1:=(p1.st a0).st b0
     replace q1:=(q1.st a0).st b0
     replace r1:=(r1.st a0).st b0
     replace s1:=(s1.st a0).st b0
     replace t1:=(t1.st a0).st b0
     obtain ⟨c9,x5,mA,nA,d9⟩:=Fnd.shut (x:=t0.2) (l0:=2) (l1:=4) (l2:=5) (l3:=6) (l4:=7) (l5:=8) (by decide) h1 j1 k1 m1 n1 e1 o1 p1 q1 r1 s1 t1 s5 t5
     obtain ⟨jG,e9,g0⟩:=bs g0
     refine Cc (O:=c9) (Eb d9 (Vb.ofAgg (cs:=[(.int .i64 n0.var),(.int .i64 n0.val)]) (x:=n0) rfl ⟨rfl,q2,r2⟩) (Vb.ofAgg (cs:=[(.int .i64 n0.var),(.int .i64 n0.val)]) (x:=n0) rfl ⟨rfl,q2,r2⟩) e9) rfl rfl fun kG lG mG y5 f9=>?_
     refine o_z ?_
     obtain rfl:=sm g0
     exact ⟨(),_,⟨rfl,rfl,rfl,trivial⟩,((((hB.st p2).st a0).st b0).st x5).st y5,f9,((((d0.st p2).st a0).st b0).st x5).st y5⟩
    replace g0:=im g0 y3
    replace h1:=(h1.st a0).st b0
    replace j1:=(j1.st a0).st b0
    replace k1:=(k1.st a0).st b0
    replace m1:=(m1.st a0).st b0
    replace n1:=(n1.st a0).st b0
    replace e1:=(e1.st a0).st b0
    replace o1:=(o1.st a0).st b0
    replace p1:=(p1.st a0).st b0
    replace q1:=(q1.st a0).st b0
    replace r1:=(r1.st a0).st b0
    replace s1:=(s1.st a0).st b0
    replace t1:=(t1.st a0).st b0
    obtain ⟨g9,z5,oA,pA,h9⟩:=Fnd.shut (x:=t0.2) (l0:=2) (l1:=4) (l2:=5) (l3:=6) (l4:=7) (l5:=8) (by decide) h1 j1 k1 m1 n1 e1 o1 p1 q1 r1 s1 t1 s5 t5
    obtain ⟨nG,i9,g0⟩:=bs g0
    refine Cc (O:=g9) (Eb h9 (Vb.ofAgg (cs:=[(.int .i64 n0.var),(.int .i64 n0.val)]) (x:=n0) rfl ⟨rfl,q2,r2⟩) (Vb.ofAgg (cs:=[(.int .i64 n0.var),(.int .i64 n0.val)]) (x:=n0) rfl ⟨rfl,q2,r2⟩) i9) rfl rfl fun oG pG qG a6 j9=>?_
    refine o_z ?_
    obtain rfl:=sm g0
    exact ⟨(),_,⟨rfl,rfl,rfl,trivial⟩,((((hB.st p2).st a0).st b0).st z5).st a6,j9,((((d0.st p2).st a0).st b0).st z5).st a6⟩
   rintro rG sG ⟨u8,tG,b6,hB,k9,d0⟩
   refine AE _ b6 ?_
   refine Aa (Aj rfl rfl ?_)
   obtain ⟨uG,c6,j0⟩:=bs j0
   have l9:=(BG c6)
   refine IH (he:=c6) rfl rfl rfl ?_
   refine Am rfl rfl (o_z ?_)
   obtain rfl:=sm j0
   exact show Exists _ from ⟨_,(),rfl,⟨rfl,rfl,rfl,trivial⟩,_,hB,k9,d0,l9⟩
  replace j0:=im j0 x3
  refine o_z ?_
  refine Ae rfl (Ck ?_)
  obtain rfl:=sm j0
  exact show Exists _ from ⟨_,(),o2 _ rfl,⟨rfl,trivial⟩,_,hB,d0,n2,r5⟩
 rintro vG wG ⟨xG,yG,rfl,d6,zG,hB,d0,n2,r5⟩
 replace hm:=AV hm
 refine AE _ d6 ?_
 refine Ab (Aa (Aj rfl rfl (Am rfl rfl (o_z ?_))))
 refine AF ?_
 obtain rfl:=sm hm
 obtain ⟨O',hS',hz,hl⟩:=hE.leave (fun q=>if q=2 then i0 else if q=3 then i1 else 0) rfl hB
 exact ret1v rfl (AC rfl) ⟨O',hS',(Ob.leave n2 hz (hl 2 (by decide) (by decide)) b4.2),(Rw.leave d0 hz (hl 3 (by decide) (by decide)) v1.2.2)⟩
end
section
open Go Go.RowKit
structure EnI (es:List MapEntry) (ck:Nat) (m:List (Fct×Int)):Prop where
  keys:es.map (·.key)=m.map (fun p=>encK p.1)
  nodup:(es.map (·.born)).Nodup
  old:∀ e∈es,e.born < ck
  vals:es.map (·.val)=m.map (fun p=>Value.int .i64 p.2)
  rng:∀ p∈m,inI64 p.2
def IM (w:World) (q:Nat) (m:List (Fct×Int)):Prop:=∃ es ck,w.heap[q]?=some (.map es.toArray ck)∧EnI es ck m
structure MapM where
  l:List (ByteArray×List (Fct×Int))
def mgetO:List (ByteArray×List (Fct×Int))→ByteArray→Option (List (Fct×Int))
  | [],_=>none
  | p :: r,k=>if p.1=k then some p.2 else mgetO r k
def InA (w:World) (M:Nat→Prop) (L:Lab) (es:List MapEntry) (xs:List (ByteArray×List (Fct×Int))):Prop:=∀ (j:Nat) (e:MapEntry) (p:ByteArray×List (Fct×Int)),es[j]?=some e→xs[j]?=some p→∃ q,e.val=.map (some q)∧M q∧L q=j + 1∧IM w q p.2
instance:Ow MapM where
  R w _ M v x:=∃ (r:Nat) (L:Lab) (es:List MapEntry) (ck:Nat),v=.map (some r)∧w.heap[r]?=some (.map es.toArray ck)∧M r∧L r=0∧es.map (·.key)=x.l.map (fun p=>MKey.enc p.1)∧InA w M L es x.l
  agree:=by
    rintro w w' F M v x ⟨r,L,es,ck,rfl,hb,hM,hL,hk,hv⟩ _ a2
    refine ⟨r,L,es,ck,rfl,(a2 r hM).trans hb,hM,hL,hk,fun j e p h1 h2=>?_⟩
    obtain ⟨q,e1,e2,e3,es',ck',e4,e5⟩:=hv j e p h1 h2
    exact ⟨q,e1,e2,e3,es',ck',(a2 q e2).trans e4,e5⟩
  mono:=by
    rintro w F M F' M' v x ⟨r,L,es,ck,rfl,hb,hM,hL,hk,hv⟩ _ a2 _
    refine ⟨r,L,es,ck,rfl,hb,a2 r hM,hL,hk,fun j e p h1 h2=>?_⟩
    obtain ⟨q,e1,e2,e3,e4⟩:=hv j e p h1 h2
    exact ⟨q,e1,a2 q e2,e3,e4⟩
instance:OwM MapM:=⟨by rintro w F M v x ⟨r,L,es,ck,rfl,_⟩;exact ⟨r,rfl⟩⟩
def InnV (i:Nat) (w:World) (O:Lab) (x:MapM) (a:ByteArray) (v:Value):Prop:=(mhas x.l a=false∧mgetO x.l a=none∧v=.map none)∨(mhas x.l a=true∧∃ q m,v=.map (some q)∧Fr i w O q∧mgetO x.l a=some m∧IM w q m)
theorem Gi:∀ (x:List (ByteArray×List (Fct×Int))) (a:ByteArray),(midx x a=none∧mhas x a=false∧mgetO x a=none)∨∃ j p,midx x a=some j∧x[j]?=some p∧p.1=a∧mhas x a=true∧mgetO x a=some p.2
  | [],_=>.inl ⟨rfl,rfl,rfl⟩
  | p :: r,a=>by
    by_cases hp:p.1=a
    · exact .inr ⟨0,p,by simp [midx,hp],rfl,hp,by simp [mhas,hp],by simp [mgetO,hp]⟩
    · rcases Gi r a with ⟨h1,h2,h3⟩|⟨j,q,h1,h2,h3,h4,h5⟩
      · exact .inl ⟨by simp [midx,hp,h1],by simp [mhas,hp,h2],by simp [mgetO,hp,h3]⟩
      · exact .inr ⟨j + 1,q,by simp [midx,hp,h1],by simpa using h2,h3,by simp [mhas,hp,h4],by simp [mgetO,hp,h5]⟩
section
variable {i j : Nat} {w w' : World} {O O' : Lab} {r : Nat} {x : MapM} {T : Nat → Prop}
theorem MapM.at (h:Ob i w O (.map (some r)) x):Fr i w O r:=by
  obtain ⟨⟨r',L,es,ck,hv,hb,hM,_⟩,_⟩:=h
  injection hv with hv
  injection hv with hv
  subst hv
  exact hM
theorem MapM.get (h:Ob i w O (.map (some r)) x) (a:ByteArray):∃ v,LkV (MKey.desc ByteArray) (.map none) w r (MKey.enc a) v (mhas x.l a)∧InnV i w O x a v:=by
  obtain ⟨⟨r',L,es,ck,hv,hb,hM,hL,hk,hva⟩,_⟩:=h
  injection hv with hv
  injection hv with hv
  subst hv
  rcases Gi x.l a with ⟨k1,k2,k3⟩|⟨jj,pp,k1,k2,k3,k4,k5⟩
  · rcases EI a es x.l 0 hk with ⟨g0,g1,g2,g3,g4⟩|⟨q,e',p,g0,_⟩
    · exact ⟨.map none,⟨_,ck,none,hb,by simpa using g1,rfl,g2⟩,.inl ⟨k2,k3,rfl⟩⟩
    · rw [k1] at g0;cases g0
  · rcases EI a es x.l 0 hk with ⟨g0,_⟩|⟨q,e',p,g0,g1,g2,g3,g4,g5,g6,g7⟩
    · rw [k1] at g0;cases g0
    · rw [k1] at g0
      injection g0 with g0
      subst g0
      rw [k2] at g2
      injection g2 with g2
      subst g2
      obtain ⟨b,e1,e2,e3,e4⟩:=hva jj e' pp g1 k2
      exact ⟨e'.val,⟨_,ck,some (0 + jj,e'.val),hb,by simpa using g3,rfl,g5⟩,.inr ⟨k4,b,_,e1,e2,k5,e4⟩⟩
theorem InnV.some {a:ByteArray} {v:Value} {m:List (Fct×Int)} (h:InnV i w O x a v) (hm:mgetO x.l a=.some m):∃ q,v=.map (.some q)∧Fr i w O q∧IM w q m:=by
  rcases h with ⟨_,h,_⟩|⟨_,q,m',h1,h2,h3,h4⟩
  · rw [h] at hm;cases hm
  · rw [h3] at hm
    injection hm with hm
    exact ⟨q,h1,h2,hm ▸ h4⟩
theorem IM.get {q:Nat} {m:List (Fct×Int)} (h:IM w q m) (a:Fct):LkF (.int .i64 0) w q a (.int .i64 (fget 0 m a)) (fhas m a)∧inI64 (fget 0 m a):=by
  obtain ⟨es,ck,hb,he⟩:=h
  rcases DV a es m 0 he.keys with ⟨g0,g1,g2,g3,g4⟩|⟨j,e',p,g0,g1,g2,g3,g4,g5,g6,g7⟩
  · rw [g3,g2]
    exact ⟨⟨_,ck,none,hb,by simpa using g1,rfl,rfl⟩,by decide⟩
  · rw [g6,g5]
    have hval:e'.val=.int .i64 p.2:=by
      have h1:(es.map (·.val))[j]?=some e'.val:=by rw [List.getElem?_map,g1];rfl
      rw [he.vals,List.getElem?_map,g2] at h1
      injection h1 with h1
      exact h1.symm
    exact ⟨⟨_,ck,some (0 + j,e'.val),hb,by simpa using g3,hval.symm,rfl⟩,he.rng p (List.mem_of_getElem? g2)⟩
theorem IM.keep {q:Nat} {m:List (Fct×Int)} (h:IM w q m) (e:w'.heap[q]?=w.heap[q]?):IM w' q m:=by
  obtain ⟨es,ck,h1,h2⟩:=h
  exact ⟨es,ck,e.trans h1,h2⟩
theorem Pw {a b:Fct} (h:encK a=encK b):a=b:=by
  simp [encK] at h
  obtain ⟨h1,h2⟩:=h
  cases a;cases b
  simp_all
theorem sme {α:Type} {a b:α} (h:some a=some b):a=b:=by injection h
theorem KO:∀ (m:List (Fct×Int)) (k:Fct) (a b:Int),fput (fput m k a) k b=fput m k b
  | [],k,a,b=>by simp [fput]
  | p :: r,k,a,b=>by
    by_cases h:p.1=k
    · simp [fput,h]
    · simp [fput,h,KO r k a b]
theorem KP:∀ (x:List (ByteArray×List (Fct×Int))) (k:ByteArray) (a b:List (Fct×Int)),mput (mput x k a) k b=mput x k b
  | [],k,a,b=>by simp [mput]
  | p :: r,k,a,b=>by
    by_cases h:p.1=k
    · simp [mput,h]
    · simp [mput,h,KP r k a b]
theorem LW {K V:Type} [MKey K]:∀ (x:List (K×V)) (a:K) (y:V),(midx x a=none∧mput x a y=x ++ [(a,y)])∨∃ j p,midx x a=some j∧x[j]?=some p∧p.1=a∧mput x a y=x.set j (a,y)
  | [],_,_=>.inl ⟨rfl,rfl⟩
  | p :: r,a,y=>by
    by_cases hp:p.1=a
    · exact .inr ⟨0,p,by simp [midx,hp],rfl,hp,by simp [mput,hp]⟩
    · rcases LW r a y with ⟨h1,h2⟩|⟨j,q,h1,h2,h3,h4⟩
      · exact .inl ⟨by simp [midx,hp,h1],by simp [mput,hp,h2]⟩
      · exact .inr ⟨j + 1,q,by simp [midx,hp,h1],by simpa using h2,h3,by simp [mput,hp,h4]⟩
theorem KQ:∀ (x:List (ByteArray×List (Fct×Int))) (k:ByteArray) (a:List (Fct×Int)),mgetO (mput x k a) k=some a
  | [],k,a=>by simp [mput,mgetO]
  | p :: r,k,a=>by
    by_cases h:p.1=k
    · simp [mput,mgetO,h]
    · simp [mput,mgetO,h,KQ r k a]
theorem MapM.inner {a:ByteArray} {q:Nat} {b:Bool} (h:Ob i w O (.map (some r)) x) (hl:LkV (MKey.desc ByteArray) (.map none) w r (MKey.enc a) (.map (some q)) b) :
    ∃ m,mgetO x.l a=some m∧Fr i w O q∧q≠r∧IM w q m∧∀ (w':World) (m':List (Fct×Int)),w'.heap.size=w.heap.size→(∀ p,p≠q→w'.heap[p]?=w.heap[p]?)→IM w' q m'→Ob i w' O (.map (some r)) (⟨mput x.l a m'⟩:MapM)∧LkV (MKey.desc ByteArray) (.map none) w' r (MKey.enc a) (.map (some q)) b:=by
  obtain ⟨⟨r',L,es,ck,hv,hb,hM,hL,hk,hva⟩,hi⟩:=h
  injection hv with hv
  injection hv with hv
  subst hv
  obtain ⟨es',ck',o,h1,h2,h3,h4⟩:=hl
  have hl0:LkV (MKey.desc ByteArray) (.map none) w r (MKey.enc a) (.map (some q)) b:=⟨es',ck',o,h1,h2,h3,h4⟩
  rw [hb] at h1
  injection h1 with h1
  injection h1 with h1 h1'
  subst h1
  rw [List.toList_toArray] at h2
  rcases Gi x.l a with ⟨k1,k2,k3⟩|⟨jj,pp,k1,k2,k3,k4,k5⟩
  · rcases EI a es x.l 0 hk with ⟨g0,g1,g2,g3,g4⟩|⟨_,e',p,g0,_⟩
    · rw [g1] at h2
      have:=sme h2
      subst this
      cases h3
    · rw [k1] at g0;cases g0
  · rcases EI a es x.l 0 hk with ⟨g0,_⟩|⟨_,e',p,g0,g1,g2,g3,g4,g5,g6,g7⟩
    · rw [k1] at g0;cases g0
    · rw [k1] at g0
      injection g0 with g0
      subst g0
      rw [k2] at g2
      injection g2 with g2
      subst g2
      rw [g3] at h2
      have:=sme h2
      subst this
      obtain ⟨q',e1,e2,e3,e4⟩:=hva jj e' pp g1 k2
      have hqq:q=q':=by
        have:Value.map (some q)=.map (some q'):=h3.trans e1
        injection this with this
        injection this
      subst hqq
      have hqr:q≠r:=fun e=>by rw [e,hL] at e3;omega
      refine ⟨_,k5,e2,hqr,e4,fun w' m' hs hp hI=>⟨⟨⟨r,L,es,ck,rfl,(hp r (Ne.symm hqr)).trans hb,⟨by rw [hs];exact hM.1,hM.2⟩,hL,?_,?_⟩,hi⟩,hl0.keep (hp r (Ne.symm hqr))⟩⟩
      · show es.map (·.key)=(mput x.l a m').map _
        rw [g7,List.map_set,hk]
        apply List.ext_getElem?
        intro z
        rw [List.getElem?_set]
        by_cases hz:jj=z
        · subst hz
          have hlt:=Aw k2
          have hx:x.l[jj]=pp:=by rw [List.getElem?_eq_getElem hlt] at k2;injection k2
          simp [hx,k3,hlt]
        · simp [hz]
      · show InA w' _ L es (mput x.l a m')
        rw [g7]
        intro p e pr h1 h2
        rw [List.getElem?_set] at h2
        by_cases hz:jj=p
        · subst hz
          have hlt:=Aw k2
          simp [hlt] at h2
          subst h2
          rw [g1] at h1
          injection h1 with h1
          subst h1
          exact ⟨q,e1,⟨by rw [hs];exact e2.1,e2.2⟩,e3,hI⟩
        · simp [hz] at h2
          obtain ⟨b',f1,f2,f3,f4⟩:=hva p e pr h1 h2
          have hbq:b'≠q:=fun e=>by rw [e,e3] at f3;omega
          exact ⟨b',f1,⟨by rw [hs];exact f2.1,f2.2⟩,f3,f4.keep (hp b' hbq)⟩
def MapE (i:Nat) (w:World) (O:Lab) (r:Nat) (x:MapM) (a:ByteArray) (m:List (Fct×Int)) (q:Nat) (k:Fct) (s:Nat):Prop :=
  Ob i w O (.map (some r)) (⟨mput x.l a (fput m k (fget 0 m k))⟩:MapM)∧(∃ b,LkV (MKey.desc ByteArray) (.map none) w r (MKey.enc a) (.map (some q)) b)∧Fr i w O q∧∃ es ck,w.heap[q]?=some (.map es.toArray ck)∧EnI es ck (fput m k (fget 0 m k))∧∃ (j:Nat) (e:MapEntry),es[j]?=some e∧fidx (fput m k (fget 0 m k)) k=some j∧e.born=s
theorem Jq:∀ (m:List (Fct×Int)) (k:Fct) (b:Int),(fidx m k=none→fidx (fput m k b) k=some m.length)∧∀ j,fidx m k=some j→fidx (fput m k b) k=some j
  | [],k,b=>⟨fun _=>by simp [fput,fidx],fun j h=>by simp [fidx] at h⟩
  | p :: r,k,b=>by
    obtain ⟨h1,h2⟩:=Jq r k b
    by_cases h:p.1=k
    · exact ⟨fun e=>by simp [fidx,h] at e,fun j e=>by simp [fidx,h] at e;subst e;simp [fput,fidx,h]⟩
    · refine ⟨fun e=>?_,fun j e=>?_⟩
      · simp [fidx,h] at e
        simp [fput,fidx,h,h1 e]
      · simp [fidx,h] at e
        obtain ⟨j',e1,e2⟩:=e
        subst e2
        simp [fput,fidx,h,h2 j' e1]
theorem LX (z:Int):∀ (m:List (Fct×Int)) (k:Fct) (b:Int),fget z (fput m k b) k=b
  | [],k,b=>by simp [fput,fget]
  | p :: r,k,b=>by
    by_cases h:p.1=k
    · simp [fput,fget,h]
    · simp [fput,fget,h,LX z r k b]
theorem MapE.get {a:ByteArray} {m:List (Fct×Int)} {q:Nat} {k:Fct} {s:Nat} (h:MapE i w O r x a m q k s):∃ b,LkF (.int .i64 0) w q k (.int .i64 (fget 0 m k)) b∧inI64 (fget 0 m k):=by
  obtain ⟨_,_,_,es,ck,h4,h5,_⟩:=h
  have:=IM.get (⟨es,ck,h4,h5⟩:IM w q _) k
  rw [LX] at this
  exact ⟨_,this⟩
end
section
variable {n : Nat} {ops : Array Oper} {Q : Post} {rest : List Oper} {l : Env} {w : World} {d : Tmp} {ty : TypeId} {pos : String} {aft : Array Edge} {i j : Nat} {O : Lab} {r q : Nat}
theorem Px {t:TypeId} (i:Nat) (hi:i≠0) (O:Lab) (hd:Nat.blt d n=true) (h:∀ g w' O',St nT w O w' O'→Ob i w' O' (.map (some g)) (⟨[]⟩:MapM)→owp Tryz.prog n ops Q rest ((d,.map (some g)) :: l) w'):owp Tryz.prog n ops Q (⟨some d,.makeMap t none,ty,pos,aft,none⟩ :: rest) l w :=
  KL hd fun w' hE hs hb=>h _ w' _ (hE.st O fun _=>i) ⟨⟨w.heap.size,fun _=>0,[],0,rfl,hb,⟨by omega,DO (Nat.le_refl _)⟩,rfl,rfl,fun j e p h1 _=>by simp at h1⟩,hi⟩
theorem QG {x:MapM} {t k e:TypeId} [TMap Tryz.prog t k e] [TKey Tryz.prog k ByteArray] {m y u:Operand} {a:ByteArray} (hM:Ob i w O (.map (some r)) x) (hv:Ob j w O (.map (some q)) (⟨[]⟩:MapF Int)) (hij:j≠i) (hx:opv l m=some (.map (some r))) (hy:opv l y=some (MKey.enc a)) (hu:opv l u=some (.map (some q)))
    (h:∀ w' O',St (fun q=>q=i∨q=j) w O w' O'→Ob i w' O' (.map (some r)) (⟨mput x.l a []⟩:MapM)→owp Tryz.prog n ops Q rest l w'):owp Tryz.prog n ops Q (⟨none,.mapUpdate t m y u,ty,pos,aft,none⟩ :: rest) l w:=by
  obtain ⟨⟨r',L,es,ck,hv',hb,hM',hL,hk,hva⟩,hi⟩:=hM
  injection hv' with hv'
  injection hv' with hv'
  subst hv'
  obtain ⟨⟨q',es2,ck2,hq',hb2,hM2,hk2,_⟩,hj⟩:=hv
  injection hq' with hq'
  injection hq' with hq'
  subst hq'
  have hes:es2=[]:=by
    have:=congrArg List.length hk2
    simpa using this
  subst hes
  have hqr:q≠r:=fun e=>hij (by rw [← hM2.2,e,hM'.2])
  refine Pt hb hk hx hy hu fun w' ck' _ e1 e2 e3 e4 e5 e6=>?_
  have hlen:es.length=x.l.length:=by have:=congrArg List.length hk;simpa using this
  have hS:St (fun q=>q=i∨q=j) w O w' (fun k=>if O k=j then i else O k):=⟨e1,e2,e3,by omega,fun p hp hT=>⟨e6 p fun e=>hT (by rw [e];exact .inl hM'.2),if_neg fun e=>hT (.inr e)⟩⟩
  refine h w' _ hS ⟨⟨r,fun k=>if k=q then (match midx x.l a with|some jj=>jj|none=>x.l.length) + 1 else L k,_,ck',rfl,e5,⟨by rw [e4];exact hM'.1,?_⟩,?_,NB ck a (.map (some q)) [] hk,?_⟩,hi⟩
  · show (if _ then _ else _)=_
    split
    · rfl
    · exact hM'.2
  · show (if _ then _ else _)=_
    rw [if_neg (Ne.symm hqr)];exact hL
  · have hq:IM w' q []:=⟨[],ck2,(e6 q hqr).trans hb2,rfl,by simp,by simp,rfl,by simp⟩
    have hqm:Fr i w' (fun k=>if O k=j then i else O k) q:=⟨by rw [e4];exact hM2.1,by show (if _ then _ else _)=_;rw [if_pos hM2.2]⟩
    have hold:∀ (jj:Nat) (e:MapEntry) (p:ByteArray×List (Fct×Int)),es[jj]?=some e→x.l[jj]?=some p→∃ b,b≠q∧e.val=.map (some b)∧Fr i w' (fun k=>if O k=j then i else O k) b∧L b=jj + 1∧IM w' b p.2:=fun jj e p h1 h2=>by
      obtain ⟨b,g1,g2,g3,g4⟩:=hva jj e p h1 h2
      have hbq:b≠q:=fun e=>hij (by rw [← hM2.2,← e,g2.2])
      have hbr:b≠r:=fun e=>by rw [e,hL] at g3;omega
      refine ⟨b,hbq,g1,⟨by rw [e4];exact g2.1,?_⟩,g3,g4.keep (e6 b hbr)⟩
      show (if _ then _ else _)=_
      split
      · rfl
      · exact g2.2
    rcases LW x.l a ([]:List (Fct×Int)) with ⟨m1,m2⟩|⟨jj,p0,m1,m2,m3,m4⟩
    · rw [m1,m2]
      intro p e pr h1 h2
      simp only [putEs] at h1
      by_cases hp:p < es.length
      · rw [List.getElem?_append_left hp] at h1
        rw [List.getElem?_append_left (by omega)] at h2
        obtain ⟨b,b0,b1,b2,b3,b4⟩:=hold p e pr h1 h2
        exact ⟨b,b1,b2,(if_neg b0).trans b3,b4⟩
      · rw [List.getElem?_append_right (by omega)] at h1
        rw [List.getElem?_append_right (by omega)] at h2
        cases hz:p - es.length with
        | zero =>
          rw [hz] at h1
          rw [show p - x.l.length=0 from by omega] at h2
          simp at h1 h2
          subst h1;subst h2
          exact ⟨q,rfl,hqm,(if_pos rfl).trans (by simp;omega),hq⟩
        | succ z=>rw [hz] at h1;simp at h1
    · rw [m1,m4]
      intro p e pr h1 h2
      simp only [putEs] at h1
      rw [List.getElem?_modify] at h1
      rw [List.getElem?_set] at h2
      by_cases hp:jj=p
      · subst hp
        have hlt:jj < x.l.length:=Aw m2
        have hlt2:jj < es.length:=by omega
        rw [List.getElem?_eq_getElem hlt2] at h1
        simp [hlt] at h1 h2
        subst h1;subst h2
        exact ⟨q,rfl,hqm,if_pos rfl,hq⟩
      · simp [hp] at h1 h2
        obtain ⟨b,b0,b1,b2,b3,b4⟩:=hold p e pr h1 h2
        exact ⟨b,b1,b2,(if_neg b0).trans b3,b4⟩
theorem EnI.val {es:List MapEntry} {ck:Nat} {m:List (Fct×Int)} (h:EnI es ck m) {j:Nat} {e:MapEntry} {p:Fct×Int} (h1:es[j]?=some e) (h2:m[j]?=some p):e.key=encK p.1∧e.val=.int .i64 p.2:=by
  constructor
  · have h3:(es.map (·.key))[j]?=some e.key:=by rw [List.getElem?_map,h1];rfl
    rw [h.keys,List.getElem?_map,h2] at h3
    injection h3 with h3
    exact h3.symm
  · have h3:(es.map (·.val))[j]?=some e.val:=by rw [List.getElem?_map,h1];rfl
    rw [h.vals,List.getElem?_map,h2] at h3
    injection h3 with h3
    exact h3.symm
set_option maxRecDepth 100000 in
theorem Oy {x:MapM} {t e:TypeId} [ht:TMap Tryz.prog t 26 e] {size bytes:Nat} [TInfo Tryz.prog e (.int .i64 0) size bytes] {mo ko:Operand} {a:ByteArray} {m:List (Fct×Int)} {k:Fct} {b:Bool}
    (hM:Ob i w O (.map (some r)) x) (hl:LkV (MKey.desc ByteArray) (.map none) w r (MKey.enc a) (.map (some q)) b) (hm:mgetO x.l a=some m) (hx:opv l mo=some (.map (some q))) (hy:opv l ko=some (encK k)) (hd:Nat.blt d n=true)
    (h:∀ w' s v,St (eT i) w O w' O→MapE i w' O r x a m q k s→owp Tryz.prog n ops Q rest ((d,.tuple #[v,.int .i64 (s:Int)]) :: l) w'):owp Tryz.prog n ops Q (⟨some d,.mapEntry t mo ko,ty,pos,aft,none⟩ :: rest) l w:=by
  obtain ⟨m0,h1,h2,h3,⟨es,ck,hb,he⟩,h4⟩:=MapM.inner hM hl
  rw [hm] at h1
  injection h1 with h1
  subst h1
  have hi:=hM.2
  have fin:∀ (es':List MapEntry) (ck' s:Nat),EnI es' ck' (fput m k (fget 0 m k))→(∃ (j:Nat) (e:MapEntry),es'[j]?=some e∧fidx (fput m k (fget 0 m k)) k=some j∧e.born=s) →
      St (eT i) w O { w with heap:=w.heap.setIfInBounds q (.map es'.toArray ck') } O∧MapE i { w with heap:=w.heap.setIfInBounds q (.map es'.toArray ck') } O r x a m q k s:=fun es' ck' s hE hs=>by
    have hw:=MapKept.heap_set (o':=.map es'.toArray ck') hb
    have hI:IM { w with heap:=w.heap.setIfInBounds q (.map es'.toArray ck') } q (fput m k (fget 0 m k)):=⟨es',ck',hw.1,hE⟩
    obtain ⟨g1,g2⟩:=h4 { w with heap:=w.heap.setIfInBounds q (.map es'.toArray ck') } _ (by simp) (fun p hp=>hw.2 p hp) hI
    exact ⟨⟨rfl,rfl,rfl,by simp,fun p hp hT=>⟨hw.2 p fun e=>hT (by rw [e];exact h2.2),rfl⟩⟩,g1,⟨b,g2⟩,⟨by simpa using h2.1,h2.2⟩,es',ck',hw.1,hE,hs⟩
  rcases DV k es m 0 he.keys with ⟨g0,g1,g2,g3,g4⟩|⟨j,e',p,g0,g1,g2,g3,g4,g5,g6,g7⟩
  · have hE:EnI (es ++ [(⟨encK k,.int .i64 0,ck⟩:MapEntry)]) (ck + 1) (fput m k (fget 0 m k)):=by
      rw [g4,g3]
      refine ⟨by simp [he.keys],?_,?_,by simp [he.vals],?_⟩
      · rw [List.map_append,List.nodup_append]
        refine ⟨he.nodup,by simp,fun u hu v hv e=>?_⟩
        simp at hv
        obtain ⟨e0,he0,rfl⟩:=List.mem_map.1 hu
        have:=he.old e0 he0
        omega
      · intro e0 h0
        rw [List.mem_append] at h0
        rcases h0 with h0|h0
        · have:=he.old e0 h0;omega
        · simp at h0;subst h0;simp
      · intro p hp
        rw [List.mem_append] at hp
        rcases hp with hp|hp
        · exact he.rng p hp
        · simp at hp;subst hp;exact (show inI64 0 from by decide)
    obtain ⟨f1,f2⟩:=fin _ _ ck hE ⟨es.length,_,by simp;rfl,by rw [show es.length=m.length from by have:=congrArg List.length he.keys;simpa using this];exact (Jq m k _).1 g0,rfl⟩
    refine EP (w':=({ w with heap:=w.heap.setIfInBounds q (.map (es ++ [(⟨encK k,.int .i64 0,ck⟩:MapEntry)]).toArray (ck + 1)) }:World)) (fun ac z ha=>.inl ⟨.tuple #[.int .i64 0,.int .i64 (ck:Int)],z,?_,ha.put hd _⟩) (h _ ck _ f1 f2)
    have hbd:(dr w z).heap[q]?=some (.map es.toArray ck):=hb
    simp [execOp,ha.eval hx,ha.eval hy,Instr.mapEntry,run_underlying ht.eq,MapKept.run_getObj_map hbd,DT,g1.find,FB (P:=Tryz.prog) (t:=e),MapKept.run_setObj_map _ hbd,Result.andThen,goInt]
    rfl
  · have hek:=(he.val g1 g2).1
    have hpk:encK p.1=encK k:=hek.symm.trans g4
    have hset:es.modify j (fun e=>{ e with key:=encK k })=es:=by
      apply List.ext_getElem?
      intro z
      rw [List.getElem?_modify]
      by_cases hz:j=z
      · subst hz
        rw [g1]
        simp
        cases e'
        simp at g4
        simp [g4]
      · simp [hz]
    have hfe:fput m k (fget 0 m k)=m:=by
      rw [g7,g6]
      apply List.ext_getElem?
      intro z
      rw [List.getElem?_set]
      by_cases hz:j=z
      · subst hz
        have hlt:=Aw g2
        rw [g2]
        simp [hlt]
        have:p.1=k:=Pw hpk
        rw [← this]
      · simp [hz]
    obtain ⟨f1,f2⟩:=fin es ck e'.born (by rw [hfe];exact he) ⟨j,e',g1,(Jq m k _).2 j g0,rfl⟩
    refine EP (w':=({ w with heap:=w.heap.setIfInBounds q (.map es.toArray ck) }:World)) (fun ac z ha=>.inl ⟨.tuple #[e'.val,.int .i64 (e'.born:Int)],z,?_,ha.put hd _⟩) (h _ e'.born _ f1 f2)
    have hbd:(dr w z).heap[q]?=some (.map es.toArray ck):=hb
    rw [Nat.zero_add] at g3
    simp [execOp,ha.eval hx,ha.eval hy,Instr.mapEntry,run_underlying ht.eq,MapKept.run_getObj_map hbd,DT,g3.find,g1,g4,JV,MapKept.run_setObj_map _ hbd,Result.andThen,goInt,hset]
    rfl
theorem Qp {x:MapM} {t:TypeId} {mo so vo:Operand} {a:ByteArray} {m:List (Fct×Int)} {k:Fct} {s:Nat} {b:Int}
    (hE:MapE i w O r x a m q k s) (hx:opv l mo=some (.map (some q))) (hs:opv l so=some (.int .i64 (s:Int))) (hv:opv l vo=some (.int .i64 b)) (hb:inI64 b)
    (h:∀ w',St (eT i) w O w' O→Ob i w' O (.map (some r)) (⟨mput x.l a (fput m k b)⟩:MapM)→owp Tryz.prog n ops Q rest l w'):owp Tryz.prog n ops Q (⟨none,.entryStore t mo so vo,ty,pos,aft,none⟩ :: rest) l w:=by
  obtain ⟨h1,⟨b0,h2⟩,h3,es,ck,h4,h5,j,e,h6,h7,h8⟩:=hE
  obtain ⟨m0,g1,g2,g3,g4,g5⟩:=MapM.inner h1 h2
  rw [KQ] at g1
  injection g1 with g1
  subst g1
  have hfi:es.toArray.findIdx? (fun e=>(e.born:Int) == (s:Int))=some j:=by
    rw [List.findIdx?_toArray,List.findIdx?_eq_some_iff_getElem]
    have hlt:=Aw h6
    have hej:es[j]=e:=by rw [List.getElem?_eq_getElem hlt] at h6;injection h6
    refine ⟨hlt,by simp [hej,h8],fun j' hj'=>?_⟩
    have hlt':j' < es.length:=by omega
    simp
    intro hbb
    have hbb:es[j'].born=s:=by omega
    have:=(List.pairwise_iff_getElem.1 h5.nodup) j' j (by simpa using hlt') (by simpa using hlt) hj'
    simp [hej,h8] at this
    omega
  have hw:=MapKept.heap_set (o':=.map (es.toArray.modify j fun e=>{ e with val:=.int .i64 b }) ck) h4
  have hI : IM { w with heap:=w.heap.setIfInBounds q (.map (es.toArray.modify j fun e=>{ e with val:=.int .i64 b }) ck) } q (fput m k b):=by
    refine ⟨es.modify j (fun e=>{ e with val:=.int .i64 b }),ck,by rw [hw.1];congr 2;apply Array.toList_inj.1;rw [Array.toList_modify],?_⟩
    rcases DV k es (fput m k (fget 0 m k)) 0 h5.keys with ⟨z0,_⟩|⟨j2,e2,p2,z0,z1,z2,_,z4,_,_,z7⟩
    · rw [h7] at z0;cases z0
    · rw [h7] at z0
      injection z0 with z0
      subst z0
      rw [h6] at z1
      injection z1 with z1
      subst z1
      have hp2:encK p2.1=encK k:=(h5.val h6 z2).1.symm.trans z4
      rw [show fput m k b=(fput m k (fget 0 m k)).set j (k,b) from by rw [← z7 b,KO]]
      refine ⟨?_,?_,?_,?_,?_⟩
      · rw [List.map_set,← h5.keys]
        apply List.ext_getElem?
        intro z
        rw [List.getElem?_map,List.getElem?_modify,List.getElem?_set]
        by_cases hz:j=z
        · subst hz
          have hlt:=Aw h6
          have hej:es[j]=e:=by rw [List.getElem?_eq_getElem hlt] at h6;injection h6
          simp [hlt,hej,z4]
        · simp [hz]
      · rw [show (es.modify j fun e=>{ e with val:=.int .i64 b }).map (·.born)=es.map (·.born) from by
          apply List.ext_getElem?
          intro z
          rw [List.getElem?_map,List.getElem?_modify,List.getElem?_map]
          by_cases hz:j=z<;>cases es[z]?<;>simp [hz]]
        exact h5.nodup
      · intro e0 h0
        obtain ⟨z,hz⟩:=List.getElem?_of_mem h0
        rw [List.getElem?_modify] at hz
        cases hy:es[z]? with
        | none=>rw [hy] at hz;simp at hz
        | some e1 =>
          rw [hy] at hz
          have:=h5.old e1 (List.mem_of_getElem? hy)
          simp at hz
          subst hz
          by_cases hz:j=z<;>simp [hz,this]
      · rw [List.map_set,← h5.vals]
        apply List.ext_getElem?
        intro z
        rw [List.getElem?_map,List.getElem?_modify,List.getElem?_set]
        by_cases hz:j=z
        · subst hz
          have hlt:=Aw h6
          simp [h6,hlt]
        · simp [hz]
      · intro p0 hp0
        rcases List.mem_or_eq_of_mem_set hp0 with h0|h0
        · exact h5.rng _ h0
        · subst h0;exact hb
  obtain ⟨f1,f2⟩:=g5 _ _ (by simp) (fun p hp=>hw.2 p hp) hI
  rw [KP] at f1
  refine EP (w':=({ w with heap:=w.heap.setIfInBounds q (.map (es.toArray.modify j fun e=>{ e with val:=.int .i64 b }) ck) }:World)) (fun ac z ha=>.inr ⟨z,?_,ha⟩) (h _ ⟨rfl,rfl,rfl,by simp,fun p hp hT=>⟨hw.2 p fun e=>hT (by rw [e];exact h3.2),rfl⟩⟩ f1)
  have hbd:(dr w z).heap[q]?=some (.map es.toArray ck):=h4
  simp [execOp,ha.eval hx,ha.eval hs,ha.eval hv,Instr.entryStore,MapKept.run_getObj_map hbd,MapKept.run_setObj_map _ hbd,hfi,Result.andThen,asInt,asIntOf]
  rfl
theorem Kr {t k e:TypeId} [h:TMap Tryz.prog t k e] (r:Option Nat) (w:World):(Op.equal t (.map r) (.map none)).run Tryz.prog w=.ok r.isNone w:=by
  have hm:=h.eq
  have hd:∀ d:Nat,(Op.equalIn (d + 1) t (.map r) (.map none)).run Tryz.prog w=.ok r.isNone w:=fun d=>by
    cases r<;>simp [Op.equalIn,run_underlying hm]
  exact hd 9999
theorem RV {t k e u:TypeId} [TMap Tryz.prog t k e] {x:Operand} {a:ByteArray} {v:Value} {X:MapM} {dst:Option Tmp} {w0:World} (hv:InnV i w0 O X a v) (hx:opv l x=some v):Ev Tryz.prog ⟨dst,.binOp .eql t x (.const (.map none)) u,ty,pos,aft,none⟩ l w (.bool (!mhas X.l a)):=fun _ _ e ha=>by
  have hy:=ha.eval (x:=.const (.map none)) (v:=.map none) rfl
  rcases hv with ⟨h1,_,rfl⟩|⟨h1,q,m,rfl,_⟩<;>simp [execOp,ha.eval hx,hy,eqGuard,binOp,Kr (t:=t),h1]
theorem Se {t k e u:TypeId} [TMap Tryz.prog t k e] {x:Operand} {a:ByteArray} {v:Value} {X:MapM} {w0:World} (hv:InnV i w0 O X a v) (hx:opv l x=some v) (hd:Nat.blt d n=true) (h:owp Tryz.prog n ops Q rest ((d,.bool (!mhas X.l a)) :: l) w):owp Tryz.prog n ops Q (⟨some d,.binOp .eql t x (.const (.map none)) u,ty,pos,aft,none⟩ :: rest) l w:=Bw (RV hv hx) hd h
end
structure BxM where
  l:MapM
instance:Ow BxM where
  R w F M v x:=∃ (g:Nat) (L:Lab) (c0:Value),v=.pointer (some ⟨g,0,none⟩)∧Blk w g 108 [c0]∧M g∧L g=0∧Ow.R w F (fun k=>M k∧L k=1) c0 x.l
  agree:=by rintro w w' F M v x ⟨g,L,c0,rfl,hb,hM,hL,h0⟩ a1 a2;exact ⟨g,L,c0,rfl,hb.keep (a2 g hM),hM,hL,Ow.agree h0 a1 fun k hk=>a2 k hk.1⟩
  mono:=by rintro w F M F' M' v x ⟨g,L,c0,rfl,hb,hM,hL,h0⟩ a1 a2 a3;exact ⟨g,L,c0,rfl,hb,a2 g hM,hL,Ow.mono h0 a1 (fun k hk=>⟨a2 k hk.1,hk.2⟩) fun k hf hm=>a3 k hf hm.1⟩
theorem BxM.opn {i:Nat} {w:World} {O:Lab} {p:Nat} {x:BxM} (h:Ob i w O (.pointer (some ⟨p,0,none⟩)) x) (l0 l1:Nat) (hl:l0≠0∧l1≠0):∃ (O':Lab) (c0:Value),St (eT i) w O w O'∧(∀ k,Fr i w O k→∃ q,q∈[l0,l1]∧Fr q w O' k)∧Lc l0 w O' p 108 [c0]∧Ob l1 w O' c0 x.l:=by
  obtain ⟨⟨g,L,c0,hv,hb,hM,hL,h0⟩,hi⟩:=h
  obtain rfl:p=g:=by injection hv with hv;injection hv with hv;injection hv
  exact ⟨part O i L [l0,l1],c0,Kp hi,Jh (by simp),⟨hb,(EE (j:=0) rfl p ⟨hM,hL⟩).2⟩,Ow.mono h0 (De hi) (EE (j:=1) rfl) (frNe0 hl.2),hl.2⟩
theorem BxM.shut {w:World} {O:Lab} {p:Nat} {x:BxM} {l0 l1:Nat} {c0:Value} (hd:¬ 0∈[l0,l1]∧[l0,l1].idxOf l0=0∧[l0,l1].idxOf l1=1) (hb:Lc l0 w O p 108 [c0]) (h0:Ob l1 w O c0 x.l):∃ O',St (·∈[l0,l1]) w O w O'∧(∀ k,Fr 0 w O k→Fr 0 w O' k)∧(∀ q,q∈[l0,l1]→∀ k,Fr q w O k→Fr l0 w O' k)∧Ob l0 w O' (.pointer (some ⟨p,0,none⟩)) x:=by
  have hb1:l0≠0:=fun e=>hd.1 (by simp [e])
  have hg:=DZ (i:=l0) hd.2.1 (by simp) p ⟨hb.1.lt,hb.2⟩
  exact ⟨whole O l0 [l0,l1],Ji,Ct hd.1,Ig,⟨p,fun k=>[l0,l1].idxOf (O k),c0,rfl,hb.1,hg.1,hg.2,Ow.mono h0.1 (Ct hd.1) (DZ hd.2.2 (by simp)) (fun k a b=>frNe0 hb1 k a b.1)⟩,hb1⟩
end
end Go.Proofs.YtdhaelekmjgbmaaGreatDoor

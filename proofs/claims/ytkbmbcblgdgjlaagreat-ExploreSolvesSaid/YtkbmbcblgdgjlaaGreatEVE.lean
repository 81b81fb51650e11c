/- ExploreSolves returns true for every task, and it reads behind the call as before. No conditions. -/
import Derived.Test.YtkbmbcblgdgjlaaGreatEVD
import Derived.Test.YtkbmbcblgdgjlaaGreatRows
set_option linter.unusedVariables false
set_option linter.unusedSimpArgs false
namespace Go.Proofs.YtkbmbcblgdgjlaaGreat
open Go Go.RowKit
section
set_option linter.unusedVariables false
set_option linter.unusedSimpArgs false
open Go Go.RowKit
section
attribute [local irreducible] ewp owp hwp hwq hws Ev Evg Fn retPost loud loudS Res1
attribute [local irreducible] hwx loudX
noncomputable def Gd (x0:Tsk) (x1:List Int) (x2:List Int):Option ((List Int)×Int×Err) :=
  bnd (Ez x0) fun q30=>if q30.n≠0 then (some (([]:List Int),0,(⟨q30.n⟩:Err))) else (bnd (Eq x0.vars x1) fun q39=>if q39=true then if 65536 < (x2.length:Int) then (some (([]:List Int),0,(⟨5⟩:Err))) else (bnd (AW x1) fun q49=>bnd (rng (ρ:=(List Int)×Int×Err) (fun (k65:Nat) (a66:Int) (s63:(List Int)×Int)=>bnd (Dl x0 s63.1 a66) fun q90=>if q90.2.n≠0 then (some (.ret (([]:List Int),0,(⟨q90.2.n⟩:Err)))) else (bnd (atI x0.ops a66) fun a105=>bnd (chkI (s63.2 + a105.cost)) fun n126=>some (.next (q90.1,n126)))) x2 0 (q49,0)) fun res61=>fin res61 fun (s133:(List Int)×Int)=>some (s133.1,s133.2,(⟨0⟩:Err))) else some (([]:List Int),0,(⟨2⟩:Err)))
theorem MC {w:World} {A:Nat→Prop} (hA:∀ k,A k→k < w.heap.size) {vx0:Value} {x0:Tsk} (l1:Vb w A vx0 x0) {vx1:Value} {x1:List Int} (l0:Vb w A vx1 x1) {vx2:Value} {x2:List Int} (b0:Vb w A vx2 x2) {r:(List Int)×Int×Err} (hm:Gd x0 x1 x2=some r) :
    Fn Tryz.prog 65 [vx0,vx1,vx2] w fun v w'=>Ext w w'∧T3 w' (upA A w w') v r:=by
 obtain ⟨O,hB,m1⟩:=enter hA
 replace l1:=l1.mono m1
 obtain ⟨e4,rfl,v5,v6,v7,v8,rfl,h9,h0,i0,d0⟩:=l1
 obtain ⟨r0,s0,rfl⟩:=h9.form
 obtain ⟨t0,u0,rfl⟩:=h0.form
 obtain ⟨v0,w0,rfl⟩:=i0.form
 obtain ⟨y0,z0,rfl⟩:=d0.form
 replace l0:=l0.mono m1
 obtain ⟨f4,g4,rfl⟩:=l0.form
 replace b0:=b0.mono m1
 obtain ⟨n2,o2,rfl⟩:=b0.form
 refine AI Tryz.func65 rfl Tryz.ntmps65 rfl ?_
 unfold Gd at hm
 refine Al (Aj (DZ 2 O rfl rfl fun n1 o1 p1 j0 c0=>?_))
 replace c0:Lc 2 o1 p1 n1 26 [(.slice r0 x0.vars.length s0),(.slice t0 x0.init.length u0),(.slice v0 x0.goal.length w0),(.slice y0 x0.ops.length z0)]:=c0
 refine An rfl rfl (An rfl rfl (An rfl rfl (o_z ?_)))
 refine Al (Al (Aj (Bz (hl:=rfl) (hc:=(c0.1).cellsAt) rfl rfl ?_)))
 obtain ⟨u2,v2,hm⟩:=bs hm
 replace h9:=h9.st j0
 replace h0:=h0.st j0
 replace i0:=i0.st j0
 replace d0:=d0.st j0
 refine BO (O:=p1) (A:=All o1) (R:=fun w' F v=>Vb w' F v u2) (Ig (fun _ h=>h) (Vb.mono (F:=Fr 0 o1 p1) (Vb.ofAgg (cs:=[(.slice r0 x0.vars.length s0),(.slice t0 x0.init.length u0),(.slice v0 x0.goal.length w0),(.slice y0 x0.ops.length z0)]) (x:=x0) rfl ⟨_,_,_,_,rfl,h9,h0,i0,d0⟩) Fr.lt) v2) rfl rfl fun h4 i1 j1 f0 w2=>?_
 obtain ⟨rfl,y2⟩:=w2.err
 refine An rfl rfl (o_z ?_)
 refine Al (Aj (Am rfl rfl (Dd rfl rfl (fun q1=>?_) fun q1=>?_)))
 ·
  replace hm:=ip hm q1
  refine o_z ?_
  refine Ah rfl (Al (Aj (Am rfl rfl (An rfl rfl (An rfl rfl (An rfl rfl (o_z ?_)))))))
  refine AF ?_
  obtain rfl:=sm hm
  replace hB:=(hB.st j0).st f0
  exact ret3 rfl (Az rfl) (Az rfl) (Az rfl) ⟨hB.ext,_,_,_,rfl,(Vb.mono (F:=Fr 0 i1 j1) (Vb.nil _ _) hB.out),(vInt (show inI64 (0) from by decide)),(vErr y2)⟩
 replace hm:=im hm q1
 refine o_z ?_
 refine Ae rfl (AH (Al (Al (Aj (AG rfl rfl ?_)))))
 replace c0:=c0.st f0
 refine AD (hc:=Blk.cell (i:=0) (c0.1) rfl) rfl rfl ?_
 refine Am rfl rfl ?_
 obtain ⟨p2,z2,hm⟩:=bs hm
 replace l0:=(l0.st j0).st f0
 replace h9:=h9.st f0
 refine BO (O:=j1) (A:=All i1) (R:=fun w' F v=>Vb w' F v p2) (HN (fun _ h=>h) (Vb.mono (F:=Fr 0 i1 j1) h9 Fr.lt) (Vb.mono (F:=Fr 0 i1 j1) l0 Fr.lt) z2) rfl rfl fun i4 q2 r1 k0 a3=>?_
 obtain rfl:=a3.bool
 cases p2
 case false =>
  replace hm:=iF hm
  refine CL rfl rfl (o_z ?_)
  refine Ah rfl (Al (Aj (CU rfl rfl ?_)))
  refine An rfl rfl (An rfl rfl (An rfl rfl (o_z ?_)))
  refine AF ?_
  obtain rfl:=sm hm
  replace hB:=((hB.st j0).st f0).st k0
  exact ret3 rfl (Az rfl) (Az rfl) (Az rfl) ⟨hB.ext,_,_,_,rfl,(Vb.mono (F:=Fr 0 q2 r1) (Vb.nil _ _) hB.out),(vInt (show inI64 (0) from by decide)),(vErr (by decide))⟩
 replace hm:=iT hm
 refine CK rfl rfl (o_z ?_)
 refine Ae rfl (AH (Al (Al (Aj (Am rfl rfl (AQ rfl rfl ?_))))))
 replace b0:=((b0.st j0).st f0).st k0
 have b3:x2.length≤9223372036854775807:=Nat.le_trans b0.len.2.1 b0.len.2.2
 have j4:inI64 (x2.length:Int):=rngNat b3
 refine CE rfl rfl rfl (fun s1=>?_) fun s1=>?_
 ·
  replace hm:=ip hm s1
  refine o_z ?_
  refine Ah rfl (Al (Aj (CU rfl rfl ?_)))
  refine An rfl rfl (An rfl rfl (An rfl rfl (o_z ?_)))
  refine AF ?_
  obtain rfl:=sm hm
  replace hB:=((hB.st j0).st f0).st k0
  exact ret3 rfl (Az rfl) (Az rfl) (Az rfl) ⟨hB.ext,_,_,_,rfl,(Vb.mono (F:=Fr 0 q2 r1) (Vb.nil _ _) hB.out),(vInt (show inI64 (0) from by decide)),(vErr (by decide))⟩
 replace hm:=im hm s1
 refine o_z ?_
 refine Ae rfl (AH (Al (Aj (An rfl rfl (o_z ?_)))))
 refine Al (Aj (Am rfl rfl ?_))
 obtain ⟨k4,c3,hm⟩:=bs hm
 replace l0:=l0.st k0
 refine Ck 3 (by decide) (O:=r1) (Bv Fr.lt l0 c3) rfl rfl fun d3 e3 l4 m4 m0 t1=>?_
 refine An rfl rfl (o_z ?_)
 refine Al (Al (Aj (Am rfl rfl (AQ rfl rfl ?_))))
 replace b0:=b0.st m0
 have u1:x2.length≤9223372036854775807:=Nat.le_trans b0.len.2.1 b0.len.2.2
 have n4:inI64 (x2.length:Int):=rngNat u1
 refine Am rfl rfl (o_z ?_)
 obtain ⟨a1,v1,hm⟩:=bs hm
 refine AN (aft a1 (fun (e0:(List Int)×Int) (g0:(Option Addr×Nat))=>[(1,(.slice g0.1 e0.1.length g0.2)),(10,(.int .i64 e0.2))]) (fun e0 g0 w'=>∃ O':Lab,Bs w A w' O'∧Vb w' (Fr 0 w' O') (.slice g0.1 e0.1.length g0.2) e0.1∧inI64 e0.2)) ?_ ?_
 ·
  refine AR ?_
  obtain ⟨f3,o0,t1⟩:=t1.freeze
  replace hB:=((((hB.st j0).st f0).st k0).st m0).st o0
  replace b0:=b0.st o0
  replace h9:=((h9.st k0).st m0).st o0
  replace h0:=(((h0.st f0).st k0).st m0).st o0
  replace i0:=(((i0.st f0).st k0).st m0).st o0
  replace d0:=(((d0.st f0).st k0).st m0).st o0
  replace c0:=((c0.st k0).st m0).st o0
  refine Ct (σ:=(List Int)×Int) (X:=(Option Addr×Nat)) (x2.length) v1 rfl u1 (fun (e0:(List Int)×Int) (g0:(Option Addr×Nat))=>[(1,(.slice g0.1 e0.1.length g0.2)),(3,(.pointer (some ⟨n1,0,none⟩))),(10,(.int .i64 e0.2)),(32,(.slice n2 x2.length o2))]) _ (fun e0 g0 w'=>∃ O':Lab,Bs w A w' O'∧Vb w' (Fr 0 w' O') (.slice g0.1 e0.1.length g0.2) e0.1∧Lc 2 w' O' n1 26 [(.slice r0 x0.vars.length s0),(.slice t0 x0.init.length u0),(.slice v0 x0.goal.length w0),(.slice y0 x0.ops.length z0)]∧Vb w' (Fr 0 w' O') (.slice r0 x0.vars.length s0) x0.vars∧Vb w' (Fr 0 w' O') (.slice t0 x0.init.length u0) x0.init∧Vb w' (Fr 0 w' O') (.slice v0 x0.goal.length w0) x0.goal∧Vb w' (Fr 0 w' O') (.slice y0 x0.ops.length z0) x0.ops∧Vb w' (Fr 0 w' O') (.slice n2 x2.length o2) x2∧inI64 e0.2) _ (d3,e3) ⟨f3,hB,t1,c0,h9,h0,i0,d0,b0,(show inI64 (0) from by decide)⟩ ⟨rfl,rfl,rfl,rfl,rfl,rfl,trivial⟩ (fun _ _=>⟨rfl,rfl⟩) (fun _ _=>⟨rfl,rfl,trivial⟩) (fun _ _ _ ⟨O',hB,b1,c0,h9,h0,i0,d0,b0,k1⟩=>⟨O',hB,b1,k1⟩) ⟨rfl,rfl,rfl⟩ ⟨rfl,rfl⟩ ?_
  rintro g3 o4 e0 g0 p4 h3 c1 ⟨i3,hB,b1,c0,h9,h0,i0,d0,b0,k1⟩ a0 p0 w1
  have rk65:inI64 (g3:Int):=rngK c1 u1
  refine Al (Aj ?_)
  obtain ⟨q4,r4,j3,y1,z1,a2,rfl,k3⟩:=b0.elem' c1
  refine Bw (hA:=y1) (hj:=rfl) (hlt:=z1) rfl rfl rfl ?_
  refine AD (hc:=cat0 a2) rfl rfl ?_
  refine An rfl rfl (o_z ?_)
  refine Al (Aj (Bz (hl:=rfl) (hc:=(c0.1).cellsAt) rfl rfl ?_))
  refine Am rfl rfl (Am rfl rfl ?_)
  obtain ⟨l3,m3,a0⟩:=bs a0
  refine EW (O:=i3) (R:=fun w' F v=>T2 w' F v l3) (In Fr.lt (Vb.ofAgg (cs:=[(.slice r0 x0.vars.length s0),(.slice t0 x0.init.length u0),(.slice v0 x0.goal.length w0),(.slice y0 x0.ops.length z0)]) (x:=x0) rfl ⟨_,_,_,_,rfl,h9,h0,i0,d0⟩) b1 k3 m3) rfl rfl fun s4 r2 n3 n0 o3=>?_
  obtain ⟨t4,u4,rfl,s2,b2⟩:=o3
  obtain ⟨c2,d2,rfl⟩:=s2.form
  obtain ⟨rfl,e2⟩:=b2.err
  refine Am rfl rfl (AY rfl rfl rfl (AY rfl rfl rfl (An rfl rfl (An rfl rfl (o_z ?_)))))
  refine Al (Al (Aj (Am rfl rfl (Dd rfl rfl (fun q0=>?_) fun q0=>?_))))
  ·
   replace a0:=ip a0 q0
   refine o_z ?_
   refine Ah rfl (Al (Aj (Am rfl rfl (An rfl rfl (An rfl rfl (An rfl rfl (o_z ?_)))))))
   refine AF ?_
   obtain rfl:=sm a0
   obtain rfl:=p0 _ rfl
   obtain rfl:=sm (Cs hm)
   replace hB:=hB.st n0
   exact ret3 rfl (Az rfl) (Az rfl) (Az rfl) ⟨hB.ext,_,_,_,rfl,(Vb.mono (F:=Fr 0 r2 n3) (Vb.nil _ _) hB.out),(vInt (show inI64 (0) from by decide)),(vErr e2)⟩
  replace a0:=im a0 q0
  refine o_z ?_
  refine Ae rfl (AH (BU (·=r2) [(0,true),(1,true),(2,true),(3,true),(4,true),(5,true),(6,true),(7,true),(8,true),(9,true),(10,true)] (by kernel_rfl) rfl (by kernel_rfl) rfl ?_))
  refine AJ rfl rfl rfl (AJ rfl rfl rfl (AP rfl rfl rfl ?_))
  replace c0:=c0.st n0
  refine BC (hc:=Blk.cell (i:=3) (c0.1) rfl) rfl rfl rfl ?_
  refine AJ rfl rfl rfl ?_
  obtain ⟨p3,f2,a0⟩:=bs a0
  obtain ⟨g2,h2⟩:=AK f2
  replace d0:=d0.st n0
  obtain ⟨q3,r3,t2,d1,e1,f1,s3,t3,rfl,i2,j2,u3,v3⟩:=d0.elem' h2
  obtain ⟨w3,x3,rfl⟩:=i2.form
  obtain ⟨y3,z3,rfl⟩:=j2.form
  refine BP (hA:=d1) (hj:=(Int.toNat_of_nonneg g2).symm) (hlt:=e1) rfl rfl rfl rfl ?_
  refine AP rfl rfl rfl (BC (hc:=cat1 f1) rfl rfl rfl ?_)
  obtain ⟨a4,g1,a0⟩:=bs a0
  have k2:=(BR g1)
  refine Mr (he:=g1) rfl rfl rfl rfl ?_
  refine CX rfl rfl rfl (CX rfl rfl rfl (h_z ?_))
  obtain rfl:=sm a0
  exact show Exists _ from ⟨_,(c2,d2),rfl,⟨rfl,rfl,rfl,rfl,rfl,rfl,trivial⟩,_,hB.st n0,s2,c0,h9.st n0,h0.st n0,i0.st n0,d0,b0.st n0,k2⟩
 replace hB:=(((hB.st j0).st f0).st k0).st m0
 rintro b4 l2 ⟨c4,d4,rfl,h1,m2,hB,b1,k1⟩
 replace hm:=BA hm
 refine AO _ h1 ?_
 refine Al (Aj (Am rfl rfl (Am rfl rfl (An rfl rfl (An rfl rfl (An rfl rfl (o_z ?_)))))))
 refine AF ?_
 obtain rfl:=sm hm
 exact ret3 rfl (Az rfl) (Az rfl) (Az rfl) ⟨hB.ext,_,_,_,rfl,(Vb.mono (F:=Fr 0 l2 m2) b1 hB.out),(vInt k1),(vErr (show inI64 0 from by decide))⟩
noncomputable def Er (x0:Tsk) (x1:List Int):Option (Int×Err) :=
  bnd (Gd x0 x0.init x1) fun q27=>if q27.2.2.n≠0 then (some (0,(⟨q27.2.2.n⟩:Err))) else (bnd (Cc x0.goal q27.1) fun q45=>if q45=true then some (q27.2.1,(⟨0⟩:Err)) else some (0,(⟨13⟩:Err)))
theorem Kx {w:World} {A:Nat→Prop} (hA:∀ k,A k→k < w.heap.size) {vx0:Value} {x0:Tsk} (h0:Vb w A vx0 x0) {vx1:Value} {x1:List Int} (d0:Vb w A vx1 x1) {r:Int×Err} (hm:Er x0 x1=some r) :
    Fn Tryz.prog 29 [vx0,vx1] w fun v w'=>Ext w w'∧T2 w' (upA A w w') v r:=by
 obtain ⟨O,hB,l0⟩:=enter hA
 replace h0:=h0.mono l0
 obtain ⟨j1,rfl,v4,v5,v6,v7,rfl,h8,e0,b0,g0⟩:=h0
 obtain ⟨A9,m0,rfl⟩:=h8.form
 obtain ⟨n0,o0,rfl⟩:=e0.form
 obtain ⟨p0,q0,rfl⟩:=b0.form
 obtain ⟨r0,s0,rfl⟩:=g0.form
 replace d0:=d0.mono l0
 obtain ⟨k1,l1,rfl⟩:=d0.form
 refine AI Tryz.func29 rfl Tryz.ntmps29 rfl ?_
 unfold Er at hm
 refine Al (Aj (DZ 2 O rfl rfl fun y0 z0 t0 a0 c0=>?_))
 replace c0:Lc 2 z0 t0 y0 26 [(.slice A9 x0.vars.length m0),(.slice n0 x0.init.length o0),(.slice p0 x0.goal.length q0),(.slice r0 x0.ops.length s0)]:=c0
 refine An rfl rfl (An rfl rfl (o_z ?_))
 refine Al (Aj (Bz (hl:=rfl) (hc:=(c0.1).cellsAt) rfl rfl ?_))
 refine AG rfl rfl (AD (hc:=Blk.cell (i:=1) (c0.1) rfl) rfl rfl ?_)
 refine Am rfl rfl ?_
 obtain ⟨a1,b1,hm⟩:=bs hm
 replace d0:=d0.st a0
 replace h8:=h8.st a0
 replace e0:=e0.st a0
 replace b0:=b0.st a0
 replace g0:=g0.st a0
 refine EW (O:=t0) (R:=fun w' F v=>T3 w' F v a1) (MC Fr.lt (Vb.ofAgg (cs:=[(.slice A9 x0.vars.length m0),(.slice n0 x0.init.length o0),(.slice p0 x0.goal.length q0),(.slice r0 x0.ops.length s0)]) (x:=x0) rfl ⟨_,_,_,_,rfl,h8,e0,b0,g0⟩) e0 d0 b1) rfl rfl fun m1 i0 j0 f0 c1=>?_
 obtain ⟨n1,o1,p1,rfl,u0,d1,e1⟩:=c1
 obtain ⟨q1,r1,rfl⟩:=u0.form
 obtain ⟨rfl,f1⟩:=d1.int
 obtain ⟨rfl,g1⟩:=e1.err
 refine Am rfl rfl (AY rfl rfl rfl (AY rfl rfl rfl (AY rfl rfl rfl (An rfl rfl (An rfl rfl (An rfl rfl (o_z ?_)))))))
 refine Al (Al (Aj (Am rfl rfl (Dd rfl rfl (fun k0=>?_) fun k0=>?_))))
 ·
  replace hm:=ip hm k0
  refine o_z ?_
  refine Ah rfl (Al (Aj (Am rfl rfl (An rfl rfl (An rfl rfl (o_z ?_))))))
  refine AF ?_
  obtain rfl:=sm hm
  replace hB:=(hB.st a0).st f0
  exact ret2 rfl (Az rfl) (Az rfl) ⟨hB.ext,_,_,rfl,(vInt (show inI64 (0) from by decide)),(vErr g1)⟩
 replace hm:=im hm k0
 refine o_z ?_
 refine Ae rfl (AH (Al (Al (Aj (AG rfl rfl ?_)))))
 replace c0:=c0.st f0
 refine AD (hc:=Blk.cell (i:=2) (c0.1) rfl) rfl rfl ?_
 refine Am rfl rfl ?_
 obtain ⟨v0,h1,hm⟩:=bs hm
 replace b0:=b0.st f0
 refine BO (O:=j0) (A:=All i0) (R:=fun w' F v=>Vb w' F v v0) (Ey (fun _ h=>h) (Vb.mono (F:=Fr 0 i0 j0) b0 Fr.lt) (Vb.mono (F:=Fr 0 i0 j0) u0 Fr.lt) h1) rfl rfl fun s1 t1 u1 w0 i1=>?_
 obtain rfl:=i1.bool
 cases v0
 case false =>
  replace hm:=iF hm
  refine CL rfl rfl (o_z ?_)
  refine Ah rfl (Al (Aj (CU rfl rfl ?_)))
  refine An rfl rfl (An rfl rfl (o_z ?_))
  refine AF ?_
  obtain rfl:=sm hm
  replace hB:=((hB.st a0).st f0).st w0
  exact ret2 rfl (Az rfl) (Az rfl) ⟨hB.ext,_,_,rfl,(vInt (show inI64 (0) from by decide)),(vErr (by decide))⟩
 replace hm:=iT hm
 refine CK rfl rfl (o_z ?_)
 refine Ae rfl (AH (Al (Aj (Am rfl rfl (An rfl rfl (An rfl rfl (o_z ?_)))))))
 refine AF ?_
 obtain rfl:=sm hm
 replace hB:=((hB.st a0).st f0).st w0
 exact ret2 rfl (Az rfl) (Az rfl) ⟨hB.ext,_,_,rfl,(vInt f1),(vErr (show inI64 0 from by decide))⟩
noncomputable def Eh (x0:Tsk) (x1:List Int) (x2:Int):Option ((List Int)×Err) :=
  bnd (Ez x0) fun q28=>if q28.n≠0 then (some (([]:List Int),(⟨q28.n⟩:Err))) else (bnd (Dl x0 x1 x2) fun q37=>some (q37.1,(⟨q37.2.n⟩:Err)))
theorem Lq {w:World} {A:Nat→Prop} (hA:∀ k,A k→k < w.heap.size) {vx0:Value} {x0:Tsk} (h0:Vb w A vx0 x0) {vx1:Value} {x1:List Int} (f0:Vb w A vx1 x1) {x2:Int} (rx2:inI64 x2) {r:(List Int)×Err} (hm:Eh x0 x1 x2=some r) :
    Fn Tryz.prog 30 [vx0,vx1,(.int .i64 x2)] w fun v w'=>Ext w w'∧T2 w' (upA A w w') v r:=by
 obtain ⟨O,hB,t0⟩:=enter hA
 replace h0:=h0.mono t0
 obtain ⟨l1,rfl,v5,v6,v7,v8,rfl,h9,b0,c0,d0⟩:=h0
 obtain ⟨i0,j0,rfl⟩:=h9.form
 obtain ⟨k0,l0,rfl⟩:=b0.form
 obtain ⟨m0,n0,rfl⟩:=c0.form
 obtain ⟨o0,p0,rfl⟩:=d0.form
 replace f0:=f0.mono t0
 obtain ⟨m1,n1,rfl⟩:=f0.form
 refine AI Tryz.func30 rfl Tryz.ntmps30 rfl ?_
 unfold Eh at hm
 refine Al (Aj (DZ 2 O rfl rfl fun w0 q0 r0 e0 g0=>?_))
 replace g0:Lc 2 q0 r0 w0 26 [(.slice i0 x0.vars.length j0),(.slice k0 x0.init.length l0),(.slice m0 x0.goal.length n0),(.slice o0 x0.ops.length p0)]:=g0
 refine An rfl rfl (An rfl rfl (o_z ?_))
 refine Al (Al (Aj (Bz (hl:=rfl) (hc:=(g0.1).cellsAt) rfl rfl ?_)))
 obtain ⟨y0,z0,hm⟩:=bs hm
 replace h9:=h9.st e0
 replace b0:=b0.st e0
 replace c0:=c0.st e0
 replace d0:=d0.st e0
 refine BO (O:=r0) (A:=All q0) (R:=fun w' F v=>Vb w' F v y0) (Ig (fun _ h=>h) (Vb.mono (F:=Fr 0 q0 r0) (Vb.ofAgg (cs:=[(.slice i0 x0.vars.length j0),(.slice k0 x0.init.length l0),(.slice m0 x0.goal.length n0),(.slice o0 x0.ops.length p0)]) (x:=x0) rfl ⟨_,_,_,_,rfl,h9,b0,c0,d0⟩) Fr.lt) z0) rfl rfl fun o1 a1 u0 a0 b1=>?_
 obtain ⟨rfl,c1⟩:=b1.err
 refine An rfl rfl (o_z ?_)
 refine Al (Aj (Am rfl rfl (Dd rfl rfl (fun s0=>?_) fun s0=>?_)))
 ·
  replace hm:=ip hm s0
  refine o_z ?_
  refine Ah rfl (Al (Aj (Am rfl rfl (An rfl rfl (An rfl rfl (o_z ?_))))))
  refine AF ?_
  obtain rfl:=sm hm
  replace hB:=(hB.st e0).st a0
  exact ret2 rfl (Az rfl) (Az rfl) ⟨hB.ext,_,_,rfl,(Vb.mono (F:=Fr 0 a1 u0) (Vb.nil _ _) hB.out),(vErr c1)⟩
 replace hm:=im hm s0
 refine o_z ?_
 refine Ae rfl (AH (Al (Aj ?_)))
 replace g0:=g0.st a0
 refine Bz (hl:=rfl) (hc:=(g0.1).cellsAt) rfl rfl ?_
 refine Am rfl rfl (Am rfl rfl ?_)
 obtain ⟨d1,e1,hm⟩:=bs hm
 replace f0:=(f0.st e0).st a0
 replace h9:=h9.st a0
 replace b0:=b0.st a0
 replace c0:=c0.st a0
 replace d0:=d0.st a0
 refine EW (O:=u0) (R:=fun w' F v=>T2 w' F v d1) (In Fr.lt (Vb.ofAgg (cs:=[(.slice i0 x0.vars.length j0),(.slice k0 x0.init.length l0),(.slice m0 x0.goal.length n0),(.slice o0 x0.ops.length p0)]) (x:=x0) rfl ⟨_,_,_,_,rfl,h9,b0,c0,d0⟩) f0 rx2 e1) rfl rfl fun p1 f1 g1 h1 i1=>?_
 obtain ⟨q1,r1,rfl,v0,j1⟩:=i1
 obtain ⟨s1,t1,rfl⟩:=v0.form
 obtain ⟨rfl,k1⟩:=j1.err
 refine AY rfl rfl rfl (AY rfl rfl rfl (An rfl rfl (An rfl rfl (o_z ?_))))
 refine AF ?_
 obtain rfl:=sm hm
 replace hB:=((hB.st e0).st a0).st h1
 exact ret2 rfl (Az rfl) (Az rfl) ⟨hB.ext,_,_,rfl,(Vb.mono (F:=Fr 0 f1 g1) v0 hB.out),(vErr k1)⟩
end
theorem LX {t:Tsk} (h:TaskOk t) {s:List Int} (hs:StateOk t.vars s) {k:Nat} {o:Opr} (ho:t.ops[k]?=some o) (hp:holdsB o.pre s=true):Dl t s (k:Int)=some (succ o s,⟨0⟩):=by
  have hkl:=AC ho
  unfold Dl
  rw [if_neg (by omega),if_neg (by omega),Ar,Di]
  unfold Eq
  rw [Ar,Ce hs,Ef,BT,ho,Ar,Ir,Ar]
  have hc:AW s=some s:=if_pos ⟨by have:=hs.1;have:=h.1;omega,by have:=hs.1;have:=h.1;omega⟩
  rw [if_pos hp,hc,Ar,Ar,Ji (h.effs hs k o ho) Cc Ir s rfl,Ar,Dj]
  rfl
theorem Qu {t:Tsk} (h:TaskOk t) {s p s':List Int} {C:Int} (hr:PlanR t s p s' C):∀ (j:Nat) (c:Int),StateOk t.vars s→0≤c→c + p.length * 1048576≤1000000000000000 →
    rng (ρ:=(List Int)×Int×Err) (fun (_:Nat) (a66:Int) (s63:(List Int)×Int)=>bnd (Dl t s63.1 a66) fun q90=>if q90.2.n≠0 then (some (.ret (([]:List Int),0,(⟨q90.2.n⟩:Err)))) else (bnd (atI t.ops a66) fun a105=>bnd (chkI (s63.2 + a105.cost)) fun n126=>some (.next (q90.1,n126)))) p j (s,c)=some (.done (s',c + C)):=by
  induction hr with
  | nil=>intro j c _ _ _;simp [rng]
  | @cons s rest s' k o C ho hp hr ih =>
    intro j c hs hc hb
    simp only [List.length_cons] at hb
    have hoo:=h.2.2.2.2.2 k o ho
    have h1:=hoo.1
    have h2:=hoo.2.1
    have e2:(bnd (Dl t s (k:Int)) fun q90=>if q90.2.n≠0 then (some (.ret (([]:List Int),0,(⟨q90.2.n⟩:Err)))) else (bnd (atI t.ops (k:Int)) fun a105=>bnd (chkI (c + a105.cost)) fun n126=>some (.next (q90.1,n126))):Option (Ctl (List Int×Int) (List Int×Int×Err)))=some (.next (succ o s,c + o.cost)):=by
      rw [LX h hs ho hp,Ar,if_neg (by simp),BT,ho,Ar,Cm (by unfold inI64;omega),Ar]
    simp only [rng,e2]
    rw [ih (j + 1) (c + o.cost) (JV h hs ho) (by omega) (by omega),Int.add_assoc]
theorem Nr {t:Tsk} (h:TaskOk t) {p s:List Int} {C:Int} (hp:PlanR t t.init p s C) (hg:holdsB t.goal s=true) (hl:p.length≤1000):Er t p=some (C,⟨0⟩):=by
  unfold Er Gd Ez Eq
  have hs:=h.2.2.2.1
  have hc:AW t.init=some t.init:=if_pos ⟨by have:=hs.1;have:=h.1;omega,by have:=hs.1;have:=h.1;omega⟩
  rw [Ar,if_neg (by rw [FG.2 h];simp),Ar,Ce hs,Ef,if_neg (by omega),hc,Ar,Qu h hp 0 0 hs (by omega) (by omega),Ar,Dj,Ar,if_neg (by simp),Ir,Ar]
  dsimp only
  rw [if_pos hg,Int.zero_add]
end
section
set_option linter.unusedVariables false
set_option linter.unusedSimpArgs false
open Go Go.RowKit
attribute [local irreducible] ewp owp hwp hwq hws Ev Evg Fn retPost loud loudS Res1
attribute [local irreducible] hwx loudX
noncomputable def DP (x0:Int):Option Bool :=
  bnd (if x0≠x0 then (some true) else (some false):Option Bool) fun y2=>some y2
theorem GO {w:World} {A:Nat→Prop} (hA:∀ k,A k→k < w.heap.size) {x0:Int} (rx0:inI64 x0) {r:Bool} (hm:DP x0=some r) :
    Fn Tryz.prog 103 [(.int .i64 x0)] w fun v w'=>Ext w w'∧Vb w' (upA A w w') v r:=by
 obtain ⟨O,hB,c0⟩:=enter hA
 refine AI Tryz.func103 rfl Tryz.ntmps103 rfl ?_
 unfold DP at hm
 refine Al (Aj (An rfl rfl (o_z ?_)))
 refine Al ?_
 obtain ⟨y2,a0,hm⟩:=bs hm
 refine AN (fun l' w'=>∃ (x5:Unit) (O':Lab),subs l' [(2,(.bool y2))]∧Bs w A w' O') ?_ ?_
 ·
  refine Aj (Am rfl rfl (Am rfl rfl (EJ rfl rfl rfl (fun c6=>?_) fun c6=>?_)))
  ·
   replace a0:=ip a0 c6
   refine An rfl rfl (o_z ?_)
   obtain rfl:=sm a0
   exact ⟨(),_,⟨rfl,trivial⟩,hB⟩
  replace a0:=im a0 c6
  refine An rfl rfl (o_z ?_)
  obtain rfl:=sm a0
  exact ⟨(),_,⟨rfl,trivial⟩,hB⟩
 rintro l7 w8 ⟨x5,O9,b0,hB⟩
 refine AO _ b0 ?_
 refine AF ?_
 obtain rfl:=sm hm
 exact ret1v rfl (Az rfl) ⟨hB.ext,vBool⟩
noncomputable def Du (x0:Int) (x1:Int):Option Int :=
  bnd (bnd (DP x0) fun q7=>if q7=true then some true else some false:Option Bool) fun y3=>bnd (bnd (DP x1) fun q22=>if q22=true then some true else some false:Option Bool) fun y18=>if y3=true then (if y18=true then (some 0) else (some (-1))) else (if y18=true then (some 1) else (if x0 < x1 then (some (-1)) else (if x1 < x0 then (some 1) else (some 0))))
theorem IN {w:World} {A:Nat→Prop} (hA:∀ k,A k→k < w.heap.size) {x0:Int} (rx0:inI64 x0) {x1:Int} (rx1:inI64 x1) {r:Int} (hm:Du x0 x1=some r) :
    Fn Tryz.prog 73 [(.int .i64 x0),(.int .i64 x1)] w fun v w'=>Ext w w'∧Vb w' (upA A w w') v r:=by
 obtain ⟨O,hB,t0⟩:=enter hA
 refine AI Tryz.func73 rfl Tryz.ntmps73 rfl ?_
 unfold Du at hm
 refine Al (Aj (An rfl rfl (o_z ?_)))
 refine Al ?_
 obtain ⟨y3,b0,hm⟩:=bs hm
 refine AN (fun l' w'=>∃ (x6:Unit) (O':Lab),subs l' [(0,(.int .i64 x0)),(1,(.int .i64 x1)),(5,(.bool y3))]∧Bs w A w' O') ?_ ?_
 ·
  refine Aj (Am rfl rfl ?_)
  obtain ⟨q7,e8,b0⟩:=bs b0
  refine BO (O:=O) (A:=All w) (R:=fun w' F v=>Vb w' F v q7) (GO (fun _ h=>h) rx0 e8) rfl rfl fun u0 w9 v0 j0 m0=>?_
  obtain rfl:=m0.bool
  cases q7
  case false =>
   replace b0:=iF b0
   refine An rfl rfl (o_z ?_)
   obtain rfl:=sm b0
   exact ⟨(),_,⟨rfl,rfl,rfl,trivial⟩,hB.st j0⟩
  replace b0:=iT b0
  refine An rfl rfl (o_z ?_)
  obtain rfl:=sm b0
  exact ⟨(),_,⟨rfl,rfl,rfl,trivial⟩,hB.st j0⟩
 rintro w0 n0 ⟨x6,o0,c0,hB⟩
 refine AO _ c0 ?_
 refine Al ?_
 obtain ⟨p0,a0,hm⟩:=bs hm
 refine AN (fun l' w'=>∃ (q0:Unit) (O':Lab),subs l' [(0,(.int .i64 x0)),(1,(.int .i64 x1)),(5,(.bool y3)),(6,(.bool p0))]∧Bs w A w' O') ?_ ?_
 ·
  refine Aj (Am rfl rfl ?_)
  obtain ⟨k0,r0,a0⟩:=bs a0
  refine BO (O:=o0) (A:=All n0) (R:=fun w' F v=>Vb w' F v k0) (GO (fun _ h=>h) rx1 r0) rfl rfl fun y0 z0 a1 l0 s0=>?_
  obtain rfl:=s0.bool
  cases k0
  case false =>
   replace a0:=iF a0
   refine An rfl rfl (o_z ?_)
   obtain rfl:=sm a0
   exact ⟨(),_,⟨rfl,rfl,rfl,rfl,trivial⟩,hB.st l0⟩
  replace a0:=iT a0
  refine An rfl rfl (o_z ?_)
  obtain rfl:=sm a0
  exact ⟨(),_,⟨rfl,rfl,rfl,rfl,trivial⟩,hB.st l0⟩
 rintro b1 c1 ⟨q0,d1,d0,hB⟩
 refine AO _ d0 ?_
 refine Al (Al (Aj (Am rfl rfl (o_z ?_))))
 refine CJ rfl (fun e0=>?_) (fun e0=>?_)
 ·
  replace hm:=ip hm e0
  refine Al (Al (Aj (Am rfl rfl (o_z ?_))))
  refine CJ rfl (fun f0=>?_) (fun f0=>?_)
  ·
   replace hm:=ip hm f0
   refine Al (Aj (An rfl rfl (o_z ?_)))
   refine AF ?_
   obtain rfl:=sm hm
   exact ret1v rfl (Az rfl) ⟨hB.ext,(vInt (show inI64 (0) from by decide))⟩
  replace hm:=im' hm f0
  refine AH (Al (Aj (An rfl rfl (o_z ?_))))
  refine AF ?_
  obtain rfl:=sm hm
  exact ret1v rfl (Az rfl) ⟨hB.ext,(vInt (show inI64 (-1) from by decide))⟩
 replace hm:=im' hm e0
 refine AH (Al (Al (Aj (Am rfl rfl (o_z ?_)))))
 refine CJ rfl (fun g0=>?_) (fun g0=>?_)
 ·
  replace hm:=ip hm g0
  refine Al (Aj (An rfl rfl (o_z ?_)))
  refine AF ?_
  obtain rfl:=sm hm
  exact ret1v rfl (Az rfl) ⟨hB.ext,(vInt (show inI64 (1) from by decide))⟩
 replace hm:=im' hm g0
 refine AH (Al (Al (Aj (Am rfl rfl (Am rfl rfl (CT rfl rfl rfl (fun h0=>?_) fun h0=>?_))))))
 ·
  replace hm:=ip hm h0
  refine o_z ?_
  refine Ah rfl (Al (Aj (An rfl rfl (o_z ?_))))
  refine AF ?_
  obtain rfl:=sm hm
  exact ret1v rfl (Az rfl) ⟨hB.ext,(vInt (show inI64 (-1) from by decide))⟩
 replace hm:=im hm h0
 refine o_z ?_
 refine Ae rfl (AH (Al (Al (Aj (Am rfl rfl (Am rfl rfl (CE rfl rfl rfl (fun i0=>?_) fun i0=>?_)))))))
 ·
  replace hm:=ip hm i0
  refine o_z ?_
  refine Ah rfl (Al (Aj (An rfl rfl (o_z ?_))))
  refine AF ?_
  obtain rfl:=sm hm
  exact ret1v rfl (Az rfl) ⟨hB.ext,(vInt (show inI64 (1) from by decide))⟩
 replace hm:=im hm i0
 refine o_z ?_
 refine Ae rfl (AH (Al (Aj (An rfl rfl (o_z ?_)))))
 refine AF ?_
 obtain rfl:=sm hm
 exact ret1v rfl (Az rfl) ⟨hB.ext,(vInt (show inI64 (0) from by decide))⟩
noncomputable def BX (x0:Edj) (x1:Int):Option Int :=
  bnd (Du x0.src x1) fun q12=>some q12
theorem EN {w:World} {A:Nat→Prop} (hA:∀ k,A k→k < w.heap.size) {vx0:Value} {x0:Edj} (a0:Vb w A vx0 x0) {x1:Int} (rx1:inI64 x1) {r:Int} (hm:BX x0 x1=some r) :
    Fn Tryz.prog 91 [vx0,(.int .i64 x1)] w fun v w'=>Ext w w'∧Vb w' (upA A w w') v r:=by
 obtain ⟨O,hB,c0⟩:=enter hA
 replace a0:=a0.mono c0
 obtain ⟨j0,rfl,rfl,r4,r5,r6⟩:=a0
 refine AI Tryz.func91 rfl Tryz.ntmps91 rfl ?_
 unfold BX at hm
 refine Al (Aj (DZ 2 O rfl rfl fun g7 w8 O9 d0 b0=>?_))
 replace b0:Lc 2 w8 O9 g7 94 [(.int .i64 x0.src),(.int .i64 x0.label),(.int .i64 x0.dst)]:=b0
 refine An rfl rfl (o_z ?_)
 refine Al (Aj (AG rfl rfl (AD (hc:=Blk.cell (i:=0) (b0.1) rfl) rfl rfl ?_)))
 refine Am rfl rfl ?_
 obtain ⟨e0,f0,hm⟩:=bs hm
 refine BO (O:=O9) (A:=All w8) (R:=fun w' F v=>Vb w' F v e0) (IN (fun _ h=>h) r4 rx1 f0) rfl rfl fun k0 l0 m0 g0 h0=>?_
 obtain ⟨rfl,i0⟩:=h0.int
 refine An rfl rfl (o_z ?_)
 refine AF ?_
 obtain rfl:=sm hm
 replace hB:=(hB.st d0).st g0
 exact ret1v rfl (Az rfl) ⟨hB.ext,(vInt i0)⟩
noncomputable def AM (x0:List Edj) (x1:Int):Option (Int×Bool) :=
  bnd (lop (ρ:=Int×Bool) (fun (s10:Int×Int)=>if s10.1 < s10.2 then (bnd (chkI (s10.1 + s10.2)) fun n28=>bnd (shrU (BitVec.ofInt 64 n28) 1) fun n31=>bnd (atI x0 n31.toInt) fun a33=>bnd (BX a33 x1) fun q47=>if q47 < 0 then (bnd (chkI (n31.toInt + 1)) fun n56=>some (.next (n56,s10.2))) else (some (.next (s10.1,n31.toInt)))) else (some (.brk (s10.1,s10.2)))) (0,(x0.length:Int))) fun res8=>fin res8 fun (s63:Int×Int)=>bnd (if s63.1 < (x0.length:Int) then (bnd (atI x0 s63.1) fun a70=>bnd (BX a70 x1) fun q84=>if q84=0 then (some true) else (some false)) else (some false):Option Bool) fun y65=>some (s63.1,y65)
theorem CD {w:World} {A:Nat→Prop} (hA:∀ k,A k→k < w.heap.size) {vx0:Value} {x0:List Edj} (c0:Vb w A vx0 x0) {x1:Int} (rx1:inI64 x1) {r:Int×Bool} (hm:AM x0 x1=some r) :
    Fn Tryz.prog 90 [vx0,(.int .i64 x1),(.func (.func 91) #[] #[])] w fun v w'=>Ext w w'∧T2 w' (upA A w w') v r:=by
 obtain ⟨O,hB,h1⟩:=enter hA
 replace c0:=c0.mono h1
 obtain ⟨A4,c5,rfl⟩:=c0.form
 refine AI Tryz.func90 rfl Tryz.ntmps90 rfl ?_
 unfold AM at hm
 refine Al (Aj (An rfl rfl (An rfl rfl (o_z ?_))))
 refine Al (Aj (Am rfl rfl (AQ rfl rfl ?_)))
 have l7:x0.length≤9223372036854775807:=Nat.le_trans c0.len.2.1 c0.len.2.2
 have r6:inI64 (x0.length:Int):=rngNat l7
 refine An rfl rfl (o_z ?_)
 refine Al (Aj (Am rfl rfl (An rfl rfl (An rfl rfl (o_z ?_)))))
 refine Al ?_
 obtain ⟨k0,i1,hm⟩:=bs hm
 refine AN (aft k0 (fun (d0:Int×Int) (f0:Unit)=>[(0,(.slice A4 x0.length c5)),(1,(.int .i64 x1)),(2,(.func (.func 91) #[] #[])),(8,(.int .i64 (x0.length:Int))),(9,(.int .i64 d0.1))]) (fun d0 f0 w'=>∃ O':Lab,Bs w A w' O'∧Vb w' (Fr 0 w' O') (.slice A4 x0.length c5) x0∧inI64 d0.1∧inI64 d0.2)) ?_ ?_
 ·
  refine AR (FE (σ:=Int×Int) (X:=Unit) i1 (fun (d0:Int×Int) (f0:Unit)=>[(0,(.slice A4 x0.length c5)),(1,(.int .i64 x1)),(2,(.func (.func 91) #[] #[])),(8,(.int .i64 (x0.length:Int))),(9,(.int .i64 d0.1)),(10,(.int .i64 d0.2))]) _ (fun d0 f0 w'=>∃ O':Lab,Bs w A w' O'∧Vb w' (Fr 0 w' O') (.slice A4 x0.length c5) x0∧inI64 d0.1∧inI64 d0.2) _ () ⟨O,hB,c0,(show inI64 (0) from by decide),r6⟩ ⟨rfl,rfl,rfl,rfl,rfl,rfl,trivial⟩ ?_)
  rintro d0 f0 a1 j1 ⟨b1,hB,c0,g0,l0⟩ a0 m0 e0
  refine Al (Al (Aj (Am rfl rfl (Am rfl rfl (CT rfl rfl rfl (fun n0=>?_) fun n0=>?_)))))
  ·
   replace a0:=ip a0 n0
   refine o_z ?_
   refine Ah rfl (AH (AR (Al (Aj (Am rfl rfl (Am rfl rfl ?_))))))
   obtain ⟨k1,c1,a0⟩:=bs a0
   have m2:=(BR c1)
   refine EZ (he:=c1) rfl rfl rfl ?_
   refine OG rfl rfl ?_
   obtain ⟨l1,m1,a0⟩:=bs a0
   refine Mt (a:=(BitVec.ofInt 64 k1)) (he:=m1) rfl rfl rfl ?_
   refine OH (a:=l1) rfl rfl ?_
   refine An rfl rfl (o_z ?_)
   refine Al (Aj (Am rfl rfl (Am rfl rfl (Am rfl rfl ?_))))
   obtain ⟨h0,n1,a0⟩:=bs a0
   obtain ⟨o1,p1⟩:=AK n1
   obtain ⟨n2,o2,q1,o0,p0,q0,rfl,r1,s1,t1⟩:=c0.elem' p1
   refine Bw (hA:=o0) (hj:=(Int.toNat_of_nonneg o1).symm) (hlt:=p0) rfl rfl rfl ?_
   refine Bz (hl:=rfl) (hc:=q0) rfl rfl ?_
   refine Am rfl rfl ?_
   obtain ⟨u1,v1,a0⟩:=bs a0
   refine KQ (O:=b1) (A:=All a1) (R:=fun w' F v=>Vb w' F v u1) (EN (fun _ h=>h) (Vb.mono (F:=Fr 0 a1 b1) (Vb.ofAgg (cs:=[(.int .i64 h0.src),(.int .i64 h0.label),(.int .i64 h0.dst)]) (x:=h0) rfl ⟨rfl,r1,s1,t1⟩) Fr.lt) rx1 v1) rfl rfl rfl fun p2 q2 r2 i0 w1=>?_
   obtain ⟨rfl,s2⟩:=w1.int
   refine CT rfl rfl rfl (fun r0=>?_) fun r0=>?_
   ·
    replace a0:=ip a0 r0
    refine o_z ?_
    refine Ah rfl (Aj (Am rfl rfl ?_))
    obtain ⟨t2,d1,a0⟩:=bs a0
    have y1:=(BR d1)
    refine EZ (he:=d1) rfl rfl rfl ?_
    refine An rfl rfl (o_z ?_)
    obtain rfl:=sm a0
    exact show Exists _ from ⟨_,(),rfl,⟨rfl,rfl,rfl,rfl,rfl,rfl,trivial⟩,_,hB.st i0,c0.st i0,y1,l0⟩
   replace a0:=im a0 r0
   refine o_z ?_
   refine Ae rfl (Aj (Am rfl rfl (An rfl rfl (o_z ?_))))
   obtain rfl:=sm a0
   exact show Exists _ from ⟨_,(),rfl,⟨rfl,rfl,rfl,rfl,rfl,rfl,trivial⟩,_,hB.st i0,c0.st i0,g0,(toIntR _)⟩
  replace a0:=im a0 n0
  refine o_z ?_
  refine Ae rfl (Dq ?_)
  obtain rfl:=sm a0
  exact show Exists _ from ⟨_,(),e0 _ rfl,⟨rfl,rfl,rfl,rfl,rfl,trivial⟩,_,hB,c0,g0,l0⟩
 rintro u2 e1 ⟨z1,v2,rfl,s0,f1,hB,c0,g0,l0⟩
 replace hm:=BA hm
 refine AO _ s0 ?_
 refine Al ?_
 obtain ⟨a2,b0,hm⟩:=bs hm
 refine AN (fun l' w'=>∃ (b2:Unit) (O':Lab),subs l' [(6,(.int .i64 z1.1)),(7,(.bool a2))]∧Bs w A w' O') ?_ ?_
 ·
  refine Aj (Am rfl rfl (Am rfl rfl (Am rfl rfl (CT rfl rfl rfl (fun t0=>?_) fun t0=>?_))))
  ·
   replace b0:=ip b0 t0
   refine Am rfl rfl (Au rfl rfl (Am rfl rfl (Au rfl rfl (Am rfl rfl (Au rfl rfl (Am rfl rfl (Au rfl rfl ?_)))))))
   obtain ⟨j0,c2,b0⟩:=bs b0
   obtain ⟨d2,e2⟩:=AK c2
   obtain ⟨w2,x2,f2,u0,v0,w0,rfl,g2,h2,i2⟩:=c0.elem' e2
   refine Bw (hA:=u0) (hj:=(Int.toNat_of_nonneg d2).symm) (hlt:=v0) rfl rfl rfl ?_
   refine Au rfl rfl (Bz (hl:=rfl) (hc:=w0) rfl rfl ?_)
   refine Au rfl rfl (Am rfl rfl (Au rfl rfl ?_))
   obtain ⟨j2,k2,b0⟩:=bs b0
   refine KQ (O:=f1) (A:=All e1) (R:=fun w' F v=>Vb w' F v j2) (EN (fun _ h=>h) (Vb.mono (F:=Fr 0 e1 f1) (Vb.ofAgg (cs:=[(.int .i64 j0.src),(.int .i64 j0.label),(.int .i64 j0.dst)]) (x:=j0) rfl ⟨rfl,g2,h2,i2⟩) Fr.lt) rx1 k2) rfl rfl rfl fun y2 z2 a3 g1 l2=>?_
   obtain ⟨rfl,b3⟩:=l2.int
   refine Au rfl rfl (GF rfl rfl rfl (fun y0=>?_) fun y0=>?_)
   ·
    replace b0:=ip b0 y0
    refine Bk rfl rfl rfl (An rfl rfl (An rfl rfl (o_z ?_)))
    obtain rfl:=sm b0
    exact ⟨(),_,⟨rfl,rfl,trivial⟩,hB.st g1⟩
   replace b0:=im b0 y0
   refine Bk rfl rfl rfl (An rfl rfl (An rfl rfl (o_z ?_)))
   obtain rfl:=sm b0
   exact ⟨(),_,⟨rfl,rfl,trivial⟩,hB.st g1⟩
  replace b0:=im b0 t0
  refine Am rfl rfl (Aw rfl rfl rfl rfl (Aw rfl rfl rfl rfl (Aw rfl rfl rfl rfl (Aw rfl rfl rfl rfl (Aw rfl rfl rfl rfl (Aw rfl rfl rfl rfl (Aw rfl rfl rfl rfl (Aw rfl rfl rfl rfl (Bf rfl rfl rfl (An rfl rfl (An rfl rfl (o_z ?_))))))))))))
  obtain rfl:=sm b0
  exact ⟨(),_,⟨rfl,rfl,trivial⟩,hB⟩
 rintro c3 d3 ⟨b2,e3,z0,hB⟩
 refine AO _ z0 ?_
 refine AF ?_
 obtain rfl:=sm hm
 exact ret2 rfl (Az rfl) (Az rfl) ⟨hB.ext,_,_,rfl,(vInt g0),vBool⟩
noncomputable def CG (x0:Spa) (x1:Int):Option (Int×Int) :=
  bnd (AM x0.edges x1) fun q46=>bnd (cutI x0.edges q46.1 (x0.edges.length:Int)) fun u58=>bnd (rng (ρ:=Int×Int) (fun (k75:Nat) (a76:Edj) (s73:Unit)=>if a76.src≠x1 then (some (.brk ())) else (bnd (bnd (atI x0.distances a76.dst) fun a151=>bnd (atI x0.t.ops a76.label) fun a163=>bnd (chkI (a151 + a163.cost)) fun n184=>bnd (atI x0.distances x1) fun a187=>if n184=a187 then (bnd (atI x0.steps a76.dst) fun a200=>bnd (chkI (a200 + 1)) fun n212=>bnd (atI x0.steps x1) fun a215=>if n212=a215 then (some true) else (some false)) else (some false):Option Bool) fun y104=>if y104=true then (some (.ret (a76.label,a76.dst))) else (some (.next ())))) u58 0 ()) fun res71=>fin res71 fun (s252:Unit)=>some ((-1),(-1))
theorem Hz {w:World} {O:Lab} {p0 i0:Nat} {x0:Spa} (j1:Ob i0 w O (.pointer (some ⟨p0,0,none⟩)) x0) {x1:Int} (rx1:inI64 x1) {r:Int×Int} (hm:CG x0 x1=some r) :
    Fn Tryz.prog 57 [(.pointer (some ⟨p0,0,none⟩)),(.int .i64 x1)] w fun v w'=>∃ O',St (eT i0) w O w' O'∧∃ v0 v1:Value,Ob i0 w' O' (.pointer (some ⟨p0,0,none⟩)) x0∧v=.tuple #[v0,v1]∧Vb w' (Fr 0 w' O') v0 r.1∧Vb w' (Fr 0 w' O') v1 r.2:=by
 obtain ⟨O0,hE,p4,q4⟩:=ent1 (w:=w) (O:=O) j1.2
 have j1':=Ob.leave j1 p4 q4 (j:=2) (by decide)
 have hB:Bm w O0 w O0:=Bm.refl
 refine AI Tryz.func57 rfl Tryz.ntmps57 rfl ?_
 unfold CG at hm
 refine Al (Aj (An rfl rfl (An rfl rfl (o_z ?_))))
 refine Al (Aj (Am rfl rfl (BE rfl rfl ?_)))
 obtain ⟨O3,v7,c8,d8,e8,f8,g8,i8,j8,k8,l8,S4,m8,h5,h8,m2,n2,o2,p2,k1,q2,r2,s2,t2⟩:=Spa.opn j1' 2 3 (by decide)
 obtain ⟨A9,n8,rfl⟩:=h8.form
 obtain ⟨o8,p8,rfl⟩:=m2.form
 obtain ⟨q8,r8,rfl⟩:=n2.form
 obtain ⟨s8,t8,rfl⟩:=o2.form
 obtain ⟨u8,rfl⟩:=p2.ptr
 obtain ⟨v8,w8,rfl⟩:=k1.form
 obtain ⟨x8,y8,rfl⟩:=q2.form
 obtain ⟨z8,a9,rfl⟩:=r2.form
 obtain ⟨b9,c9,rfl⟩:=s2.form
 obtain ⟨d9,e9,rfl⟩:=t2.form
 refine AG rfl rfl (AD (hc:=Blk.cell (i:=5) (h5.1) rfl) rfl rfl ?_)
 refine Am rfl rfl ?_
 obtain ⟨r4,s4,hm⟩:=bs hm
 refine BO (O:=O3) (A:=All w) (R:=fun w' F v=>T2 w' F v r4) (CD (fun _ h=>h) (Vb.mono (F:=Fr 0 w O3) k1 Fr.lt) rx1 s4) rfl rfl fun f9 g9 h9 h0 t4=>?_
 obtain ⟨i9,j9,rfl,u4,v4⟩:=t4
 obtain ⟨rfl,k9⟩:=u4.int
 obtain rfl:=v4.bool
 refine Am rfl rfl (AY rfl rfl rfl (AY rfl rfl rfl (An rfl rfl (An rfl rfl (o_z ?_)))))
 refine Al (Al (Aj (Am rfl rfl (BE rfl rfl (AG rfl rfl ?_)))))
 replace h5:=h5.st h0
 refine AD (hc:=Blk.cell (i:=5) (h5.1) rfl) rfl rfl ?_
 refine Am rfl rfl ?_
 obtain ⟨o0,w4,hm⟩:=bs hm
 replace k1:=k1.st h0
 obtain ⟨u2,v2,f0,x4⟩:=cutB k1 w4
 refine PT (hc:=x4) rfl rfl rfl ?_
 refine AQ rfl rfl ?_
 have y2:o0.length≤9223372036854775807:=Nat.le_trans f0.len.2.1 f0.len.2.2
 have l9:inI64 (o0.length:Int):=rngNat y2
 refine Am rfl rfl (o_z ?_)
 replace h8:=h8.st h0
 replace m2:=m2.st h0
 replace n2:=n2.st h0
 replace o2:=o2.st h0
 replace p2:=p2.st h0
 replace q2:=q2.st h0
 replace r2:=r2.st h0
 replace s2:=s2.st h0
 replace t2:=t2.st h0
 obtain ⟨y4,z2,z4,a5,q0⟩:=Spa.shut (x:=x0) (l0:=2) (l1:=3) (by decide) h5 h8 m2 n2 o2 p2 k1 q2 r2 s2 t2
 obtain ⟨n1,a3,hm⟩:=bs hm
 refine AN (aft n1 (fun (w2:Unit) (x2:Unit)=>[]) (fun w2 x2 w'=>∃ O':Lab,Bm w O0 w' O'∧Ob 2 w' O' (.pointer (some ⟨p0,0,none⟩)) x0)) ?_ ?_
 ·
  refine AR ?_
  replace hB:=((hB.st S4).st h0).st z2
  replace f0:=f0.st z2
  refine Ct (σ:=Unit) (X:=Unit) (o0.length) a3 rfl y2 (fun (w2:Unit) (x2:Unit)=>[(0,(.pointer (some ⟨p0,0,none⟩))),(1,(.int .i64 x1)),(24,(.slice u2 o0.length v2))]) _ (fun w2 x2 w'=>∃ O':Lab,Bm w O0 w' O'∧Ob 2 w' O' (.pointer (some ⟨p0,0,none⟩)) x0∧Vb w' (Fr 0 w' O') (.slice u2 o0.length v2) o0) _ () ⟨y4,hB,q0,f0⟩ ⟨rfl,rfl,rfl,rfl,rfl,trivial⟩ (fun _ _=>⟨rfl,rfl⟩) (fun _ _=>trivial) (fun _ _ _ ⟨O',hB,q0,f0⟩=>⟨O',hB,q0⟩) ⟨rfl,rfl,rfl⟩ ⟨rfl,rfl⟩ ?_
  rintro c4 m1 w2 x2 m9 b5 o1 ⟨c5,hB,q0,f0⟩ c0 a1 b1
  have rk75:inI64 (c4:Int):=rngK o1 y2
  refine Al (Aj ?_)
  obtain ⟨n9,o9,d5,b3,c3,d3,rfl,p9,e5,f5⟩:=f0.elem' o1
  refine Bw (hA:=b3) (hj:=rfl) (hlt:=c3) rfl rfl rfl ?_
  refine Bz (hl:=rfl) (hc:=d3) rfl rfl ?_
  refine Db 4 c5 rfl fun e3 q9 g5 m0 b0=>?_
  refine Bt b0 rfl rfl rfl (Ci rfl) (allOne rfl) fun p1 d0 b0=>?_
  replace b0:Lc 4 p1 g5 e3 94 [(.int .i64 m1.src),(.int .i64 m1.label),(.int .i64 m1.dst)]:=b0
  refine o_z ?_
  refine Al (Al (Aj (AG rfl rfl (AD (hc:=Blk.cell (i:=0) (b0.1) rfl) rfl rfl ?_))))
  refine Am rfl rfl (EJ rfl rfl rfl (fun c1=>?_) fun c1=>?_)
  ·
   replace c0:=ip c0 c1
   refine o_z ?_
   refine Ah rfl (Dq ?_)
   obtain rfl:=sm c0
   exact show Exists _ from ⟨_,(),b1 _ rfl,trivial,_,(hB.st m0).st d0,(q0.st m0).st d0⟩
  replace c0:=im c0 c1
  refine o_z ?_
  refine Ae rfl (AH (Al ?_))
  obtain ⟨f3,a0,c0⟩:=bs c0
  refine AN (fun l' w'=>∃ (g3:Unit) (O':Lab),subs l' [(0,(.pointer (some ⟨p0,0,none⟩))),(1,(.int .i64 x1)),(9,(.pointer (some ⟨e3,0,none⟩))),(24,(.slice u2 o0.length v2)),(25,(.int .i64 (o0.length:Int))),(26,(.int .i64 (c4:Int))),(79,(.bool f3))]∧Bm w O0 w' O'∧Ob 2 w' O' (.pointer (some ⟨p0,0,none⟩)) x0∧Lc 4 w' O' e3 94 [(.int .i64 m1.src),(.int .i64 m1.label),(.int .i64 m1.dst)]∧Vb w' (Fr 0 w' O') (.slice u2 o0.length v2) o0) ?_ ?_
  ·
   refine BU (·=p1) [(0,true),(1,true),(2,true),(3,true),(4,true),(5,true),(6,true),(7,true),(8,true),(9,true),(10,true),(11,true),(12,true),(13,true),(14,true),(15,true),(16,true),(17,true),(18,true),(19,true),(20,true),(21,true),(22,true),(23,true),(24,true),(25,true),(26,true),(27,true),(28,true),(29,true),(30,true),(31,true),(32,true),(33,true),(34,true),(35,true),(36,true),(37,true),(38,true),(39,true),(40,true),(41,true),(42,true),(43,true),(44,true),(45,true)] (by kernel_rfl) rfl (by kernel_rfl) rfl ?_
   refine AJ rfl rfl rfl (BV rfl rfl rfl ?_)
   replace q0:=(q0.st m0).st d0
   obtain ⟨i5,j5,k5,l5,m5,n5,o5,p5,q5,r5,s5,g0,d4,e0,r0,s0,t0,n0,u0,w0,y0,z0,j0,k0⟩:=Spa.opn q0 2 3 (by decide)
   obtain ⟨t5,u5,rfl⟩:=r0.form
   obtain ⟨v5,w5,rfl⟩:=s0.form
   obtain ⟨x5,y5,rfl⟩:=t0.form
   obtain ⟨z5,a6,rfl⟩:=n0.form
   obtain ⟨b6,rfl⟩:=u0.ptr
   obtain ⟨c6,d6,rfl⟩:=w0.form
   obtain ⟨e6,f6,rfl⟩:=y0.form
   obtain ⟨g6,h6,rfl⟩:=z0.form
   obtain ⟨i6,j6,rfl⟩:=j0.form
   obtain ⟨k6,l6,rfl⟩:=k0.form
   refine AP rfl rfl rfl (BC (hc:=Blk.cell (i:=8) (e0.1) rfl) rfl rfl rfl ?_)
   refine AP rfl rfl rfl ?_
   replace b0:=b0.st g0
   refine BC (hc:=Blk.cell (i:=2) (b0.1) rfl) rfl rfl rfl ?_
   obtain ⟨m6,h3,a0⟩:=bs a0
   obtain ⟨i3,j3⟩:=AK h3
   obtain ⟨n6,o6,e4,q1,r1,s1,rfl,p6⟩:=j0.elem' j3
   refine BP (hA:=q1) (hj:=(Int.toNat_of_nonneg i3).symm) (hlt:=r1) rfl rfl rfl rfl ?_
   refine BC (hc:=cat0 s1) rfl rfl rfl ?_
   refine AJ rfl rfl rfl (BV rfl rfl rfl (AP rfl rfl rfl (AP rfl rfl rfl (BC (hc:=Blk.cell (i:=3) (e0.1) rfl) rfl rfl rfl ?_))))
   refine AP rfl rfl rfl (BC (hc:=Blk.cell (i:=1) (b0.1) rfl) rfl rfl rfl ?_)
   obtain ⟨q6,k3,a0⟩:=bs a0
   obtain ⟨l3,m3⟩:=AK k3
   obtain ⟨r6,s6,f4,t1,u1,w1,t6,u6,rfl,n3,o3,v6,w6⟩:=n0.elem' m3
   obtain ⟨x6,y6,rfl⟩:=n3.form
   obtain ⟨z6,a7,rfl⟩:=o3.form
   refine BP (hA:=t1) (hj:=(Int.toNat_of_nonneg l3).symm) (hlt:=u1) rfl rfl rfl rfl ?_
   refine AP rfl rfl rfl (BC (hc:=cat1 w1) rfl rfl rfl ?_)
   obtain ⟨b7,y1,a0⟩:=bs a0
   have c7:=(BR y1)
   refine Mr (he:=y1) rfl rfl rfl rfl ?_
   refine AJ rfl rfl rfl (BV rfl rfl rfl (AP rfl rfl rfl (BC (hc:=Blk.cell (i:=8) (e0.1) rfl) rfl rfl rfl ?_)))
   refine AJ rfl rfl rfl ?_
   obtain ⟨d7,p3,a0⟩:=bs a0
   obtain ⟨q3,r3⟩:=AK p3
   obtain ⟨e7,f7,g4,z1,a2,b2,rfl,g7⟩:=j0.elem' r3
   refine BP (hA:=z1) (hj:=(Int.toNat_of_nonneg q3).symm) (hlt:=a2) rfl rfl rfl rfl ?_
   refine BC (hc:=cat0 b2) rfl rfl rfl ?_
   refine Mi rfl rfl rfl rfl (fun d1=>?_) fun d1=>?_
   ·
    replace a0:=ip a0 d1
    refine AJ rfl rfl rfl (AA rfl (Ay rfl rfl (Ch rfl rfl (AA rfl (Ay rfl rfl (Mj rfl rfl (AA rfl (Ay rfl rfl (Cr rfl rfl (AA rfl (Ay rfl rfl (Bp (hc:=Blk.cell (i:=9) (e0.1) rfl) rfl rfl ?_))))))))))))
    refine AA rfl (Ay rfl rfl (Cr rfl rfl (AA rfl (Ay rfl rfl (Bp (hc:=Blk.cell (i:=2) (b0.1) rfl) rfl rfl ?_)))))
    refine AA rfl (Ay rfl rfl ?_)
    obtain ⟨h7,s3,a0⟩:=bs a0
    obtain ⟨t3,u3⟩:=AK s3
    obtain ⟨i7,j7,h4,c2,d2,e2,rfl,k7⟩:=k0.elem' u3
    refine JE (hA:=c2) (hj:=(Int.toNat_of_nonneg t3).symm) (hlt:=d2) rfl rfl rfl ?_
    refine AA rfl (Ay rfl rfl (Bp (hc:=cat0 e2) rfl rfl ?_))
    refine AA rfl (Ay rfl rfl ?_)
    obtain ⟨l7,f2,a0⟩:=bs a0
    have m7:=(BR f2)
    refine OD (he:=f2) rfl rfl rfl ?_
    refine AA rfl (Ay rfl rfl (Ch rfl rfl (AA rfl (Ay rfl rfl (Mj rfl rfl (AA rfl (Ay rfl rfl (Cr rfl rfl (AA rfl (Ay rfl rfl (Bp (hc:=Blk.cell (i:=9) (e0.1) rfl) rfl rfl ?_)))))))))))
    refine AA rfl (Ay rfl rfl (Ch rfl rfl (AA rfl (Ay rfl rfl ?_))))
    obtain ⟨n7,v3,a0⟩:=bs a0
    obtain ⟨w3,x3⟩:=AK v3
    obtain ⟨o7,p7,i4,g2,h2,i2,rfl,q7⟩:=k0.elem' x3
    refine JE (hA:=g2) (hj:=(Int.toNat_of_nonneg w3).symm) (hlt:=h2) rfl rfl rfl ?_
    refine AA rfl (Ay rfl rfl (Bp (hc:=cat0 i2) rfl rfl ?_))
    refine AA rfl (Ay rfl rfl (Ba (fun _ _=>Gi rfl rfl) rfl (fun e1=>?_) (fun e1=>?_)))
    ·
     replace a0:=ip a0 e1
     refine CP rfl rfl rfl rfl (h_z ?_)
     obtain ⟨r7,f1,j4,k4,y3⟩:=Spa.shut (x:=x0) (l0:=2) (l1:=3) (by decide) e0 r0 s0 t0 n0 u0 w0 y0 z0 j0 k0
     obtain rfl:=sm a0
     exact ⟨(),_,⟨rfl,rfl,rfl,rfl,rfl,rfl,rfl,trivial⟩,(((hB.st m0).st d0).st g0).st f1,y3,b0.st f1,(((f0.st m0).st d0).st g0).st f1⟩
    replace a0:=im a0 e1
    refine CP rfl rfl rfl rfl (h_z ?_)
    obtain ⟨s7,g1,l4,m4,z3⟩:=Spa.shut (x:=x0) (l0:=2) (l1:=3) (by decide) e0 r0 s0 t0 n0 u0 w0 y0 z0 j0 k0
    obtain rfl:=sm a0
    exact ⟨(),_,⟨rfl,rfl,rfl,rfl,rfl,rfl,rfl,trivial⟩,(((hB.st m0).st d0).st g0).st g1,z3,b0.st g1,(((f0.st m0).st d0).st g0).st g1⟩
   replace a0:=im a0 d1
   refine AJ rfl rfl rfl (Cn rfl rfl rfl rfl rfl (Cn rfl rfl rfl rfl rfl (Cn rfl rfl rfl rfl rfl (Cn rfl rfl rfl rfl rfl (Cn rfl rfl rfl rfl rfl (Cn rfl rfl rfl rfl rfl (Cn rfl rfl rfl rfl rfl (Cn rfl rfl rfl rfl rfl (Cn rfl rfl rfl rfl rfl (Cn rfl rfl rfl rfl rfl (Cn rfl rfl rfl rfl rfl (Cn rfl rfl rfl rfl rfl (Cn rfl rfl rfl rfl rfl (Cn rfl rfl rfl rfl rfl ?_))))))))))))))
   refine Cn rfl rfl rfl rfl rfl (Cn rfl rfl rfl rfl rfl (Cn rfl rfl rfl rfl rfl (CW rfl rfl rfl rfl (h_z ?_))))
   obtain ⟨t7,h1,n4,o4,a4⟩:=Spa.shut (x:=x0) (l0:=2) (l1:=3) (by decide) e0 r0 s0 t0 n0 u0 w0 y0 z0 j0 k0
   obtain rfl:=sm a0
   exact ⟨(),_,⟨rfl,rfl,rfl,rfl,rfl,rfl,rfl,trivial⟩,(((hB.st m0).st d0).st g0).st h1,a4,b0.st h1,(((f0.st m0).st d0).st g0).st h1⟩
  replace hB:=(hB.st m0).st d0
  replace f0:=(f0.st m0).st d0
  rintro u7 b4 ⟨g3,w7,j2,hB,k2,b0,f0⟩
  refine AO _ j2 ?_
  refine CJ rfl (fun i1=>?_) (fun i1=>?_)
  ·
   replace c0:=ip c0 i1
   refine Al (BU (·=b4) [(0,true),(1,true),(2,true),(3,true),(4,true),(5,true)] (by kernel_rfl) rfl (by kernel_rfl) rfl ?_)
   refine AP rfl rfl rfl (BC (hc:=Blk.cell (i:=1) (b0.1) rfl) rfl rfl rfl ?_)
   refine AP rfl rfl rfl (BC (hc:=Blk.cell (i:=2) (b0.1) rfl) rfl rfl rfl ?_)
   refine CX rfl rfl rfl (CX rfl rfl rfl (h_z ?_))
   refine AF ?_
   obtain rfl:=sm c0
   obtain rfl:=a1 _ rfl
   obtain rfl:=sm (Cs hm)
   obtain ⟨O',hS',hz,hl⟩:=hE.leave (fun q=>if q=2 then i0 else 0) rfl hB
   exact ret2 rfl (Az rfl) (Az rfl) ⟨O',hS',_,_,(Ob.leave k2 hz (hl 2 (by decide) (by decide)) j1.2),rfl,(vInt e5),(vInt f5)⟩
  replace c0:=im' c0 i1
  refine AH ?_
  obtain rfl:=sm c0
  exact show Exists _ from ⟨_,(),rfl,⟨rfl,rfl,rfl,rfl,rfl,trivial⟩,_,hB,k2,f0⟩
 replace hB:=((hB.st S4).st h0).st z2
 rintro x7 y7 ⟨z7,a8,rfl,l2,b8,hB,q0⟩
 replace hm:=BA hm
 refine AO _ l2 ?_
 refine Al (Aj (An rfl rfl (An rfl rfl (o_z ?_))))
 refine AF ?_
 obtain rfl:=sm hm
 obtain ⟨O',hS',hz,hl⟩:=hE.leave (fun q=>if q=2 then i0 else 0) rfl hB
 exact ret2 rfl (Az rfl) (Az rfl) ⟨O',hS',_,_,(Ob.leave q0 hz (hl 2 (by decide) (by decide)) j1.2),rfl,(vInt (show inI64 (-1) from by decide)),(vInt (show inI64 (-1) from by decide))⟩
noncomputable def CH (x0:Spa):Option ((List Int)×Int×Err) :=
  bnd (atI x0.distances 0) fun a45=>if 1125899906842624≤a45 then (some (([]:List Int),0,(⟨3⟩:Err))) else (bnd (lop (ρ:=(List Int)×Int×Err) (fun (s70:(List Int)×Int)=>bnd (atI x0.steps s70.2) fun a132=>if 0 < a132 then (bnd (CG x0 s70.2) fun q150=>if q150.2 < 0 then (some (.ret (([]:List Int),0,(⟨3⟩:Err)))) else (bnd (appI 8 s70.1 [q150.1]) fun u165=>some (.next (u165,q150.2)))) else (some (.brk (s70.1,s70.2)))) (([]:List Int),0)) fun res68=>fin res68 fun (s186:(List Int)×Int)=>bnd (atI x0.distances 0) fun a231=>some (s186.1,a231,(⟨0⟩:Err)))
theorem HA {w:World} {O:Lab} {p0 i0:Nat} {x0:Spa} (u0:Ob i0 w O (.pointer (some ⟨p0,0,none⟩)) x0) {r:(List Int)×Int×Err} (hm:CH x0=some r) :
    Fn Tryz.prog 24 [(.pointer (some ⟨p0,0,none⟩))] w fun v w'=>∃ O',St (eT i0) w O w' O'∧∃ v0 v1 v2:Value,Ob i0 w' O' (.pointer (some ⟨p0,0,none⟩)) x0∧v=.tuple #[v0,v1,v2]∧Vb w' (Fr 0 w' O') v0 r.1∧Vb w' (Fr 0 w' O') v1 r.2.1∧Vb w' (Fr 0 w' O') v2 r.2.2:=by
 obtain ⟨O0,hE,d4,e4⟩:=ent1 (w:=w) (O:=O) u0.2
 have u0':=Ob.leave u0 d4 e4 (j:=2) (by decide)
 have hB:Bm w O0 w O0:=Bm.refl
 refine AI Tryz.func24 rfl Tryz.ntmps24 rfl ?_
 unfold CH at hm
 refine Al (Aj (An rfl rfl (An rfl rfl (An rfl rfl (o_z ?_)))))
 refine Al (Al (Aj (Am rfl rfl (Ek rfl rfl ?_))))
 refine Am rfl rfl (Au rfl rfl (Am rfl rfl (Au rfl rfl (BE rfl rfl (Au rfl rfl ?_)))))
 obtain ⟨O2,v6,u7,v7,w7,x7,y7,z7,a8,b8,c8,S3,d8,h4,h7,e2,f2,g2,h2,i2,j2,k2,d2,l2⟩:=Spa.opn u0' 2 3 (by decide)
 obtain ⟨A8,c9,rfl⟩:=h7.form
 obtain ⟨e8,f8,rfl⟩:=e2.form
 obtain ⟨g8,h8,rfl⟩:=f2.form
 obtain ⟨i8,j8,rfl⟩:=g2.form
 obtain ⟨k8,rfl⟩:=h2.ptr
 obtain ⟨l8,m8,rfl⟩:=i2.form
 obtain ⟨n8,o8,rfl⟩:=j2.form
 obtain ⟨p8,q8,rfl⟩:=k2.form
 obtain ⟨r8,s8,rfl⟩:=d2.form
 obtain ⟨t8,u8,rfl⟩:=l2.form
 refine AG rfl rfl (Au rfl rfl (AD (hc:=Blk.cell (i:=8) (h4.1) rfl) rfl rfl ?_))
 refine Au rfl rfl ?_
 obtain ⟨v8,f4,hm⟩:=bs hm
 obtain ⟨g4,i4⟩:=AK f4
 obtain ⟨w8,x8,j4,m2,n2,o2,rfl,y8⟩:=d2.elem' i4
 refine Bw (hA:=m2) (hj:=(Int.toNat_of_nonneg g4).symm) (hlt:=n2) rfl rfl rfl ?_
 refine Au rfl rfl (AD (hc:=cat0 o2) rfl rfl ?_)
 refine Au rfl rfl (EY rfl rfl rfl (fun p2=>?_) fun p2=>?_)
 ·
  replace hm:=ip hm p2
  refine Bf rfl rfl rfl (o_z ?_)
  refine Ah rfl (Al (Aj (CU rfl rfl ?_)))
  refine An rfl rfl (An rfl rfl (An rfl rfl (o_z ?_)))
  refine AF ?_
  obtain ⟨z8,k4,l4,m4,n4⟩:=Spa.shut (x:=x0) (l0:=2) (l1:=3) (by decide) h4 h7 e2 f2 g2 h2 i2 j2 k2 d2 l2
  obtain rfl:=sm hm
  replace hB:=(hB.st S3).st k4
  obtain ⟨O',hS',hz,hl⟩:=hE.leave (fun q=>if q=2 then i0 else 0) rfl hB
  exact ret3 rfl (Az rfl) (Az rfl) (Az rfl) ⟨O',hS',_,_,_,(Ob.leave n4 hz (hl 2 (by decide) (by decide)) u0.2),rfl,(Vb.mono (Vb.nil _ _) hz),(vInt (show inI64 (0) from by decide)),(vErr (by decide))⟩
 replace hm:=im hm p2
 refine Bf rfl rfl rfl (o_z ?_)
 refine Ae rfl (AH (Al (Aj (An rfl rfl (o_z ?_)))))
 refine Al (Aj (An rfl rfl (o_z ?_)))
 refine Al ?_
 obtain ⟨o4,t3,p4,q4,m1⟩:=Spa.shut (x:=x0) (l0:=2) (l1:=3) (by decide) h4 h7 e2 f2 g2 h2 i2 j2 k2 d2 l2
 obtain ⟨n1,q2,hm⟩:=bs hm
 refine AN (aft n1 (fun (d0:(List Int)×Int) (c0:(Option Addr×Nat))=>[(0,(.pointer (some ⟨p0,0,none⟩))),(5,(.slice c0.1 d0.1.length c0.2))]) (fun d0 c0 w'=>∃ O':Lab,Bm w O0 w' O'∧Ob 2 w' O' (.pointer (some ⟨p0,0,none⟩)) x0∧Rw 4 w' O' 3 (.slice c0.1 d0.1.length c0.2) d0.1∧inI64 d0.2)) ?_ ?_
 ·
  refine AR ?_
  replace hB:=(hB.st S3).st t3
  refine FE (σ:=(List Int)×Int) (X:=(Option Addr×Nat)) q2 (fun (d0:(List Int)×Int) (c0:(Option Addr×Nat))=>[(0,(.pointer (some ⟨p0,0,none⟩))),(5,(.slice c0.1 d0.1.length c0.2)),(6,(.int .i64 d0.2))]) _ (fun d0 c0 w'=>∃ O':Lab,Bm w O0 w' O'∧Ob 2 w' O' (.pointer (some ⟨p0,0,none⟩)) x0∧Rw 4 w' O' 3 (.slice c0.1 d0.1.length c0.2) d0.1∧inI64 d0.2) _ (none,0) ⟨o4,hB,m1,(Rw.nil 4 (by decide)),(show inI64 (0) from by decide)⟩ ⟨rfl,rfl,rfl,trivial⟩ ?_
  rintro d0 c0 a9 r4 ⟨b9,hB,m1,e0,r2⟩ a0 w0 y0
  refine Al (Al (Aj (Am rfl rfl (BE rfl rfl ?_))))
  obtain ⟨d9,e9,f9,s4,t4,u4,v4,w4,x4,y4,z4,o1,a5,s2,t2,u2,z0,a1,b1,c1,d1,e1,f1,g0⟩:=Spa.opn m1 2 3 (by decide)
  obtain ⟨g9,h9,rfl⟩:=t2.form
  obtain ⟨i9,b5,rfl⟩:=u2.form
  obtain ⟨c5,d5,rfl⟩:=z0.form
  obtain ⟨e5,f5,rfl⟩:=a1.form
  obtain ⟨g5,rfl⟩:=b1.ptr
  obtain ⟨h5,i5,rfl⟩:=c1.form
  obtain ⟨j5,k5,rfl⟩:=d1.form
  obtain ⟨l5,m5,rfl⟩:=e1.form
  obtain ⟨n5,o5,rfl⟩:=f1.form
  obtain ⟨p5,q5,rfl⟩:=g0.form
  refine AG rfl rfl (AD (hc:=Blk.cell (i:=9) (s2.1) rfl) rfl rfl ?_)
  refine Am rfl rfl ?_
  obtain ⟨r5,w2,a0⟩:=bs a0
  obtain ⟨x2,y2⟩:=AK w2
  obtain ⟨s5,t5,u3,p1,q1,r1,rfl,u5⟩:=g0.elem' y2
  refine Bw (hA:=p1) (hj:=(Int.toNat_of_nonneg x2).symm) (hlt:=q1) rfl rfl rfl ?_
  refine AD (hc:=cat0 r1) rfl rfl ?_
  refine CE rfl rfl rfl (fun g1=>?_) fun g1=>?_
  ·
   replace a0:=ip a0 g1
   refine o_z ?_
   refine Ah rfl (AH (AR (Al (Aj (Am rfl rfl (Am rfl rfl ?_))))))
   obtain ⟨z2,h1,v3,w3,a3⟩:=Spa.shut (x:=x0) (l0:=2) (l1:=3) (by decide) s2 t2 u2 z0 a1 b1 c1 d1 e1 f1 g0
   obtain ⟨b3,c3,a0⟩:=bs a0
   refine BB (O:=z2) (Hz a3 r2 c3) rfl rfl fun v5 w5 x5 i1 d3=>?_
   obtain ⟨y5,z5,s1,rfl,e3,f3⟩:=d3
   obtain ⟨rfl,g3⟩:=e3.int
   obtain ⟨rfl,h3⟩:=f3.int
   refine Am rfl rfl (AY rfl rfl rfl (AY rfl rfl rfl (An rfl rfl (An rfl rfl (o_z ?_)))))
   refine Al (Al (Aj (Am rfl rfl (CT rfl rfl rfl (fun j1=>?_) fun j1=>?_))))
   ·
    replace a0:=ip a0 j1
    refine o_z ?_
    refine Ah rfl (Al (Aj (CU rfl rfl ?_)))
    refine An rfl rfl (An rfl rfl (An rfl rfl (o_z ?_)))
    refine AF ?_
    obtain rfl:=sm a0
    obtain rfl:=w0 _ rfl
    obtain rfl:=sm (Cs hm)
    replace hB:=((hB.st o1).st h1).st i1
    obtain ⟨O',hS',hz,hl⟩:=hE.leave (fun q=>if q=2 then i0 else 0) rfl hB
    exact ret3 rfl (Az rfl) (Az rfl) (Az rfl) ⟨O',hS',_,_,_,(Ob.leave s1 hz (hl 2 (by decide) (by decide)) u0.2),rfl,(Vb.mono (Vb.nil _ _) hz),(vInt (show inI64 (0) from by decide)),(vErr (by decide))⟩
   replace a0:=im a0 j1
   refine o_z ?_
   refine Ae rfl (AH (Al (Aj (Am rfl rfl (Am rfl rfl ?_)))))
   obtain ⟨a6,k1,a0⟩:=bs a0
   obtain ⟨k1,i3,j3⟩:=Cz k1
   replace e0:=((e0.st o1).st h1).st i1
   refine Fg rfl (a:=b3.1) e0 (vInt g3) (fun _=>rfl) rfl (by decide) (by decide) i3 j3 ⟨rfl,rfl⟩ fun b6 k3 l3 c6 d6 t1 u1=>?_
   rw [← k1] at u1 ⊢
   refine An rfl rfl (o_z ?_)
   refine Aj (Am rfl rfl (An rfl rfl (o_z ?_)))
   obtain rfl:=sm a0
   exact show Exists _ from ⟨_,(k3,l3),rfl,⟨rfl,rfl,rfl,trivial⟩,_,(((hB.st o1).st h1).st i1).st t1,s1.st t1,u1,h3⟩
  replace a0:=im a0 g1
  refine o_z ?_
  refine Ae rfl (Dq ?_)
  obtain ⟨e6,w1,x3,y3,m3⟩:=Spa.shut (x:=x0) (l0:=2) (l1:=3) (by decide) s2 t2 u2 z0 a1 b1 c1 d1 e1 f1 g0
  obtain rfl:=sm a0
  exact show Exists _ from ⟨_,(c0.1,c0.2),y0 _ rfl,⟨rfl,rfl,trivial⟩,_,(hB.st o1).st w1,m3,(e0.st o1).st w1,r2⟩
 replace hB:=(hB.st S3).st t3
 rintro f6 n3 ⟨g6,h6,rfl,x1,i6,hB,m1,e0,r2⟩
 replace hm:=BA hm
 refine AO _ x1 ?_
 refine Al (BU (·=n3) [(0,true),(1,true),(2,true),(3,true),(4,true),(5,true),(6,true),(7,true),(8,true),(9,true)] (by kernel_rfl) rfl (by kernel_rfl) rfl ?_)
 refine AJ rfl rfl rfl (AJ rfl rfl rfl (BV rfl rfl rfl ?_))
 obtain ⟨j6,k6,l6,m6,n6,o6,p6,q6,r6,s6,t6,y1,z3,h0,j0,k0,m0,n0,o0,q0,r0,s0,f0,t0⟩:=Spa.opn m1 2 3 (by decide)
 obtain ⟨u6,w6,rfl⟩:=j0.form
 obtain ⟨x6,y6,rfl⟩:=k0.form
 obtain ⟨z6,a7,rfl⟩:=m0.form
 obtain ⟨b7,c7,rfl⟩:=n0.form
 obtain ⟨d7,rfl⟩:=o0.ptr
 obtain ⟨e7,f7,rfl⟩:=q0.form
 obtain ⟨g7,i7,rfl⟩:=r0.form
 obtain ⟨j7,k7,rfl⟩:=s0.form
 obtain ⟨l7,m7,rfl⟩:=f0.form
 obtain ⟨n7,o7,rfl⟩:=t0.form
 refine AP rfl rfl rfl (BC (hc:=Blk.cell (i:=8) (h0.1) rfl) rfl rfl rfl ?_)
 obtain ⟨p7,o3,hm⟩:=bs hm
 obtain ⟨p3,q3⟩:=AK o3
 obtain ⟨q7,r7,a4,z1,a2,b2,rfl,r3⟩:=f0.elem' q3
 refine BP (hA:=z1) (hj:=(Int.toNat_of_nonneg p3).symm) (hlt:=a2) rfl rfl rfl rfl ?_
 refine BC (hc:=cat0 b2) rfl rfl rfl ?_
 refine CX rfl rfl rfl (CX rfl rfl rfl (CX rfl rfl rfl (h_z ?_)))
 refine AF ?_
 replace e0:=e0.st y1
 obtain ⟨s7,b0,e0⟩:=e0.freeze
 replace h0:=h0.st b0
 replace j0:=j0.st b0
 replace k0:=k0.st b0
 replace m0:=m0.st b0
 replace n0:=n0.st b0
 replace o0:=o0.st b0
 replace q0:=q0.st b0
 replace r0:=r0.st b0
 replace s0:=s0.st b0
 replace f0:=f0.st b0
 replace t0:=t0.st b0
 obtain ⟨t7,c2,b4,c4,s3⟩:=Spa.shut (x:=x0) (l0:=2) (l1:=3) (by decide) h0 j0 k0 m0 n0 o0 q0 r0 s0 f0 t0
 obtain rfl:=sm hm
 replace hB:=((hB.st y1).st b0).st c2
 obtain ⟨O',hS',hz,hl⟩:=hE.leave (fun q=>if q=2 then i0 else 0) rfl hB
 replace e0:=e0.st c2
 exact ret3 rfl (Az rfl) (Az rfl) (Az rfl) ⟨O',hS',_,_,_,(Ob.leave s3 hz (hl 2 (by decide) (by decide)) u0.2),rfl,(Vb.mono e0 hz),(vInt r3),(vErr (show inI64 0 from by decide))⟩
noncomputable def Dr  : Option Bool :=
  bnd (Cf (⟨([2]:List Int),([0]:List Int),([]:List Fct),[(⟨(⟨#[]⟩:ByteArray),0,([]:List Fct),[(⟨([]:List Fct),0,1⟩:Eff)]⟩:Opr)]⟩:Tsk) 5) fun q33=>bnd (if q33.2.n=0 then (if q33.1.isNone=false then (bnd q33.1 fun o53=>bnd (Dg o53) fun q57=>if q57=2 then (some true) else (some false)) else (some false)) else (some false):Option Bool) fun y47=>some y47
theorem HO {w:World} {A:Nat→Prop} (hA:∀ k,A k→k < w.heap.size)  {r:Bool} (hm:Dr  = some r) :
    Fn Tryz.prog 11 [] w fun v w'=>Ext w w'∧Vb w' (upA A w w') v r:=by
 obtain ⟨O,hB,j1⟩:=enter hA
 refine AI Tryz.func11 rfl Tryz.ntmps11 rfl ?_
 unfold Dr at hm
 refine Al (Aj (An rfl rfl (o_z ?_)))
 refine Al (Aj (Cv 2 (by decide) O (xs:=(([2]:List Int):List Int)) rfl rfl rfl rfl ⟨(vInt (show inI64 (2) from by decide)),trivial⟩ (by decide) (by decide) rfl fun g1 w2 O3 S4 h5=>?_))
 refine Cv 3 (by decide) O3 (xs:=(([0]:List Int):List Int)) rfl rfl rfl rfl ⟨(vInt (show inI64 (0) from by decide)),trivial⟩ (by decide) (by decide) rfl fun g7 w8 O9 i0 b0=>?_
 refine EP rfl rfl rfl ?_
 refine Cv 4 (by decide) O9 (xs:=([(⟨([]:List Fct),0,1⟩:Eff)]:List Eff)) rfl rfl rfl rfl ⟨(Vb.ofAgg (cs:=[(.slice none 0 0),(.int .i64 0),(.int .i64 1)]) (x:=(⟨([]:List Fct),0,1⟩:Eff)) rfl ⟨_,rfl,(Vb.nil _ _),(show inI64 (0) from by decide),(show inI64 (1) from by decide)⟩),trivial⟩ (by decide) (by decide) rfl fun t0 k1 l1 c0 m0=>?_
 refine EP rfl rfl rfl ?_
 obtain ⟨u0,d0,m0⟩:=m0.freeze
 refine Cv 5 (by decide) u0 (xs:=([(⟨(⟨#[]⟩:ByteArray),0,([]:List Fct),[(⟨([]:List Fct),0,1⟩:Eff)]⟩:Opr)]:List Opr)) rfl rfl rfl rfl ⟨(Vb.ofAgg (cs:=[(.string (⟨#[]⟩:ByteArray)),(.int .i64 0),(.slice none 0 0),(.slice (some ⟨t0,0,none⟩) [(⟨([]:List Fct),0,1⟩:Eff)].length 1)]) (x:=(⟨(⟨#[]⟩:ByteArray),0,([]:List Fct),[(⟨([]:List Fct),0,1⟩:Eff)]⟩:Opr)) rfl ⟨_,_,rfl,(Vb.nil _ _),m0,(show inI64 0 from by decide),(show (⟨#[]⟩:ByteArray).size≤9223372036854775807 from by decide)⟩),trivial⟩ (by decide) (by decide) rfl fun v0 m1 n1 e0 j0=>?_
 refine EP rfl rfl rfl ?_
 replace h5:=(((h5.st i0).st c0).st d0).st e0
 obtain ⟨o1,f0,h5⟩:=h5.freeze
 replace b0:=(((b0.st c0).st d0).st e0).st f0
 obtain ⟨p1,g0,b0⟩:=b0.freeze
 replace j0:=(j0.st f0).st g0
 obtain ⟨w0,h0,j0⟩:=j0.freeze
 obtain ⟨q1,x0,hm⟩:=bs hm
 replace h5:=(h5.st g0).st h0
 replace b0:=b0.st h0
 refine BB (O:=w0) (FX (Vb.ofAgg (cs:=[(.slice (some ⟨g1,0,none⟩) ([2]:List Int).length 1),(.slice (some ⟨g7,0,none⟩) ([0]:List Int).length 1),(.slice none 0 0),(.slice (some ⟨v0,0,none⟩) [(⟨(⟨#[]⟩:ByteArray),0,([]:List Fct),[(⟨([]:List Fct),0,1⟩:Eff)]⟩:Opr)].length 1)]) (x:=(⟨([2]:List Int),([0]:List Int),([]:List Fct),[(⟨(⟨#[]⟩:ByteArray),0,([]:List Fct),[(⟨([]:List Fct),0,1⟩:Eff)]⟩:Opr)]⟩:Tsk)) rfl ⟨_,_,_,_,rfl,h5,b0,(Vb.nil _ _),j0⟩) (show inI64 (5) from by decide) 6 (by decide) x0) rfl rfl fun r1 s1 y0 k0 z0=>?_
 obtain ⟨t1,u1,rfl,l0,a1⟩:=z0
 obtain ⟨v1,rfl,n0⟩:=Obo.ptrq l0
 obtain ⟨rfl,w1⟩:=a1.err
 refine Am rfl rfl (AY rfl rfl rfl (AY rfl rfl rfl (An rfl rfl (An rfl rfl (o_z ?_)))))
 refine Al ?_
 obtain ⟨b1,a0,hm⟩:=bs hm
 refine AN (fun l' w'=>∃ (c1:Unit) (O':Lab),subs l' [(0,(.bool b1))]∧Bs w A w' O') ?_ ?_
 ·
  refine Aj (Am rfl rfl (QH rfl rfl (fun o0=>?_) fun o0=>?_))
  ·
   replace a0:=ip a0 o0
   refine Am rfl rfl (Au rfl rfl (Am rfl rfl (Au rfl rfl (QI n0 rfl rfl (fun p0=>?_) fun p0=>?_))))
   ·
    replace a0:=ip a0 p0
    refine Bk rfl rfl rfl (Am rfl rfl (Au rfl rfl (Am rfl rfl (Au rfl rfl ?_))))
    obtain ⟨x1,d1,a0⟩:=bs a0
    rw [d1] at l0
    obtain ⟨y1,e1⟩:=Ob.ptr l0
    obtain rfl:=LO e1
    obtain ⟨z1,f1,a0⟩:=bs a0
    refine BB (O:=y0) (HU l0 f1) rfl rfl fun a2 b2 c2 s0 h1=>?_
    obtain ⟨d2,i1⟩:=h1
    obtain ⟨rfl,e2⟩:=i1.int
    refine Au rfl rfl (GF rfl rfl rfl (fun q0=>?_) fun q0=>?_)
    ·
     replace a0:=ip a0 q0
     refine Bk rfl rfl rfl (An rfl rfl (o_z ?_))
     obtain rfl:=sm a0
     exact ⟨(),_,⟨rfl,trivial⟩,(((((((((hB.st S4).st i0).st c0).st d0).st e0).st f0).st g0).st h0).st k0).st s0⟩
    replace a0:=im a0 q0
    refine Bk rfl rfl rfl (An rfl rfl (o_z ?_))
    obtain rfl:=sm a0
    exact ⟨(),_,⟨rfl,trivial⟩,(((((((((hB.st S4).st i0).st c0).st d0).st e0).st f0).st g0).st h0).st k0).st s0⟩
   replace a0:=im a0 p0
   refine Bk rfl rfl rfl (Am rfl rfl (Aw rfl rfl rfl rfl (Aw rfl rfl rfl rfl (Aw rfl rfl rfl rfl (Bf rfl rfl rfl (An rfl rfl (o_z ?_)))))))
   obtain rfl:=sm a0
   exact ⟨(),_,⟨rfl,trivial⟩,((((((((hB.st S4).st i0).st c0).st d0).st e0).st f0).st g0).st h0).st k0⟩
  replace a0:=im a0 o0
  refine Am rfl rfl (Aw rfl rfl rfl rfl (Aw rfl rfl rfl rfl (Bf rfl rfl rfl (Am rfl rfl (Aw rfl rfl rfl rfl (Aw rfl rfl rfl rfl (Aw rfl rfl rfl rfl (Bf rfl rfl rfl (An rfl rfl (o_z ?_))))))))))
  obtain rfl:=sm a0
  exact ⟨(),_,⟨rfl,trivial⟩,((((((((hB.st S4).st i0).st c0).st d0).st e0).st f0).st g0).st h0).st k0⟩
 replace hB:=((((((((hB.st S4).st i0).st c0).st d0).st e0).st f0).st g0).st h0).st k0
 rintro f2 g2 ⟨c1,h2,r0,hB⟩
 refine AO _ r0 ?_
 refine AF ?_
 obtain rfl:=sm hm
 exact ret1v rfl (Az rfl) ⟨hB.ext,vBool⟩
noncomputable def Dp (x0:Tsk):Option Bool :=
  bnd (bnd (Ee x0) fun q28=>if q28=true then bnd (Dr) fun q35=>if q35=true then some false else some true else some true:Option Bool) fun y24=>if y24=true then (bnd (bnd (Dr) fun q51=>if q51=true then some true else some false:Option Bool) fun y47=>some y47) else (bnd (Cf x0 512) fun q62=>if q62.2.n≠0 then (some false) else (bnd q62.1 fun o77=>bnd (CH o77) fun q81=>bnd (Cx o77) fun q99=>if q81.2.2.n≠0 then (bnd (bnd (It (⟨q81.2.2.n⟩:Err) 3) fun q115=>if q115=true then if 0 < (q99.length:Int) then (bnd (atI q99 0) fun a125=>if a125=1125899906842624 then (some true) else (some false)) else (some false) else some false:Option Bool) fun y111=>some y111) else (bnd (Er x0 q81.1) fun q142=>bnd (if q142.2.n≠0 then (some true) else (if q142.1≠q81.2.1 then (some true) else (if (q99.length:Int)=0 then (some true) else (bnd (atI q99 0) fun a164=>if a164≠q81.2.1 then (some true) else (some false)))):Option Bool) fun y155=>if y155=true then (some false) else (bnd (appI 8 ([]:List Int) x0.init) fun u188=>bnd (rng (ρ:=Bool) (fun (k205:Nat) (a206:Int) (s203:(List Int)×Int)=>bnd (Eh x0 s203.1 a206) fun q230=>bnd (if q230.2.n≠0 then (some true) else (if a206 < 0 then (some true) else (if (x0.ops.length:Int)≤a206 then (some true) else (some false))):Option Bool) fun y244=>if y244=true then (some (.ret false)) else (bnd (atI x0.ops a206) fun a258=>bnd (chkI (s203.2 - a258.cost)) fun n279=>bnd (Cq o77 q230.1) fun q282=>bnd (if q282.2.n≠0 then (some true) else (if q282.1 < 0 then (some true) else (if (q99.length:Int)≤q282.1 then (some true) else (bnd (atI q99 q282.1) fun a305=>if a305≠n279 then (some true) else (some false)))):Option Bool) fun y296=>if y296=true then (some (.ret false)) else (some (.next (q230.1,n279))))) q81.1 0 (u188,q81.2.1)) fun res201=>fin res201 fun (s327:(List Int)×Int)=>some true))))
theorem Hg {w:World} {A:Nat→Prop} (hA:∀ k,A k→k < w.heap.size) {vx0:Value} {x0:Tsk} (a4:Vb w A vx0 x0) {r:Bool} (hm:Dp x0=some r) :
    Fn Tryz.prog 7 [vx0] w fun v w'=>Ext w w'∧Vb w' (upA A w w') v r:=by
 obtain ⟨O,hB,z6⟩:=enter hA
 replace a4:=a4.mono z6
 obtain ⟨dB,rfl,v3,v4,v5,v6,rfl,h7,l0,m0,j0⟩:=a4
 obtain ⟨A8,c9,rfl⟩:=h7.form
 obtain ⟨g1,h1,rfl⟩:=l0.form
 obtain ⟨i1,j1,rfl⟩:=m0.form
 obtain ⟨k1,l1,rfl⟩:=j0.form
 refine AI Tryz.func7 rfl Tryz.ntmps7 rfl ?_
 unfold Dp at hm
 refine Al (Aj (DZ 2 O rfl rfl fun r1 b4 c4 p1 k0=>?_))
 replace k0:Lc 2 b4 c4 r1 26 [(.slice A8 x0.vars.length c9),(.slice g1 x0.init.length h1),(.slice i1 x0.goal.length j1),(.slice k1 x0.ops.length l1)]:=k0
 refine An rfl rfl (o_z ?_)
 refine Al (Al ?_)
 obtain ⟨a7,r0,hm⟩:=bs hm
 refine AN (fun l' w'=>∃ (b7:Unit) (O':Lab),subs l' [(1,(.pointer (some ⟨r1,0,none⟩))),(24,(.bool a7))]∧Bs w A w' O'∧Lc 2 w' O' r1 26 [(.slice A8 x0.vars.length c9),(.slice g1 x0.init.length h1),(.slice i1 x0.goal.length j1),(.slice k1 x0.ops.length l1)]∧Vb w' (Fr 0 w' O') (.slice A8 x0.vars.length c9) x0.vars∧Vb w' (Fr 0 w' O') (.slice g1 x0.init.length h1) x0.init∧Vb w' (Fr 0 w' O') (.slice i1 x0.goal.length j1) x0.goal∧Vb w' (Fr 0 w' O') (.slice k1 x0.ops.length l1) x0.ops) ?_ ?_
 ·
  refine Aj (Bz (hl:=rfl) (hc:=(k0.1).cellsAt) rfl rfl ?_)
  obtain ⟨n6,c7,r0⟩:=bs r0
  replace h7:=h7.st p1
  replace l0:=l0.st p1
  replace m0:=m0.st p1
  replace j0:=j0.st p1
  refine BO (O:=c4) (A:=All b4) (R:=fun w' F v=>Vb w' F v n6) (KX (fun _ h=>h) (Vb.mono (F:=Fr 0 b4 c4) (Vb.ofAgg (cs:=[(.slice A8 x0.vars.length c9),(.slice g1 x0.init.length h1),(.slice i1 x0.goal.length j1),(.slice k1 x0.ops.length l1)]) (x:=x0) rfl ⟨_,_,_,_,rfl,h7,l0,m0,j0⟩) Fr.lt) c7) rfl rfl fun eB d7 e7 w0 f7=>?_
  obtain rfl:=f7.bool
  cases n6
  case false =>
   replace r0:=iF r0
   refine CL rfl rfl (Am rfl rfl (Aw rfl rfl rfl rfl (Aw rfl rfl rfl rfl (Bk rfl rfl rfl (o_z ?_)))))
   obtain rfl:=sm r0
   exact ⟨(),_,⟨rfl,rfl,trivial⟩,(hB.st p1).st w0,k0.st w0,h7.st w0,l0.st w0,m0.st w0,j0.st w0⟩
  replace r0:=iT r0
  refine CK rfl rfl (Am rfl rfl (Au rfl rfl ?_))
  obtain ⟨o6,g7,r0⟩:=bs r0
  refine BO (O:=e7) (A:=All d7) (R:=fun w' F v=>Vb w' F v o6) (HO (fun _ h=>h)  g7) rfl rfl fun fB gB iB q1 i7=>?_
  obtain rfl:=i7.bool
  cases o6
  case false =>
   replace r0:=iF r0
   refine Au rfl rfl (CL rfl rfl (Bf rfl rfl rfl (o_z ?_)))
   obtain rfl:=sm r0
   exact ⟨(),_,⟨rfl,rfl,trivial⟩,((hB.st p1).st w0).st q1,(k0.st w0).st q1,(h7.st w0).st q1,(l0.st w0).st q1,(m0.st w0).st q1,(j0.st w0).st q1⟩
  replace r0:=iT r0
  refine Au rfl rfl (CK rfl rfl (Bf rfl rfl rfl (o_z ?_)))
  obtain rfl:=sm r0
  exact ⟨(),_,⟨rfl,rfl,trivial⟩,((hB.st p1).st w0).st q1,(k0.st w0).st q1,(h7.st w0).st q1,(l0.st w0).st q1,(m0.st w0).st q1,(j0.st w0).st q1⟩
 replace hB:=hB.st p1
 replace h7:=h7.st p1
 replace l0:=l0.st p1
 replace m0:=m0.st p1
 replace j0:=j0.st p1
 rintro jB j7 ⟨b7,p6,d4,hB,k0,h7,l0,m0,j0⟩
 refine AO _ d4 ?_
 refine CJ rfl (fun e4=>?_) (fun e4=>?_)
 ·
  replace hm:=ip hm e4
  refine Al ?_
  obtain ⟨k7,a1,hm⟩:=bs hm
  refine AN (fun l' w'=>∃ (l7:Unit) (O':Lab),subs l' [(2,(.bool k7))]∧Bs w A w' O') ?_ ?_
  ·
   refine Aj ?_
   obtain ⟨q6,m7,a1⟩:=bs a1
   refine BO (O:=p6) (A:=All j7) (R:=fun w' F v=>Vb w' F v q6) (HO (fun _ h=>h)  m7) rfl rfl fun kB lB mB r6 n7=>?_
   obtain rfl:=n7.bool
   cases q6
   case false =>
    replace a1:=iF a1
    refine An rfl rfl (o_z ?_)
    obtain rfl:=sm a1
    exact ⟨(),_,⟨rfl,trivial⟩,hB.st r6⟩
   replace a1:=iT a1
   refine An rfl rfl (o_z ?_)
   obtain rfl:=sm a1
   exact ⟨(),_,⟨rfl,trivial⟩,hB.st r6⟩
  rintro nB oB ⟨l7,pB,f4,hB⟩
  refine AO _ f4 ?_
  refine AF ?_
  obtain rfl:=sm hm
  exact ret1v rfl (Az rfl) ⟨hB.ext,vBool⟩
 replace hm:=im' hm e4
 refine AH (Al (Aj (Bz (hl:=rfl) (hc:=(k0.1).cellsAt) rfl rfl ?_)))
 obtain ⟨qB,o7,hm⟩:=bs hm
 refine BB (O:=p6) (FX (Vb.ofAgg (cs:=[(.slice A8 x0.vars.length c9),(.slice g1 x0.init.length h1),(.slice i1 x0.goal.length j1),(.slice k1 x0.ops.length l1)]) (x:=x0) rfl ⟨_,_,_,_,rfl,h7,l0,m0,j0⟩) (show inI64 (512) from by decide) 3 (by decide) o7) rfl rfl fun rB sB p7 b1 q7=>?_
 obtain ⟨tB,uB,rfl,x3,r7⟩:=q7
 obtain ⟨vB,rfl,s7⟩:=Obo.ptrq x3
 obtain ⟨rfl,wB⟩:=r7.err
 refine Am rfl rfl (AY rfl rfl rfl (AY rfl rfl rfl (An rfl rfl (An rfl rfl (o_z ?_)))))
 refine Al (Al (Aj (Am rfl rfl (Dd rfl rfl (fun g4=>?_) fun g4=>?_))))
 ·
  replace hm:=ip hm g4
  refine o_z ?_
  refine Ah rfl (Al (Aj (An rfl rfl (o_z ?_))))
  refine AF ?_
  obtain rfl:=sm hm
  replace hB:=hB.st b1
  exact ret1v rfl (Az rfl) ⟨hB.ext,vBool⟩
 replace hm:=im hm g4
 refine o_z ?_
 refine Ae rfl (AH (Al (Aj (Am rfl rfl ?_))))
 obtain ⟨y3,t7,hm⟩:=bs hm
 rw [t7] at x3
 obtain ⟨y1,u7⟩:=Ob.ptr x3
 obtain rfl:=LO u7
 obtain ⟨y0,v7,hm⟩:=bs hm
 refine BB (O:=p7) (HA x3 v7) rfl rfl fun xB yB w7 f1 x7=>?_
 obtain ⟨zB,aC,bC,y7,rfl,o0,z7,a8⟩:=x7
 obtain ⟨z1,a2,rfl⟩:=o0.form
 obtain ⟨rfl,b8⟩:=z7.int
 obtain ⟨rfl,c8⟩:=a8.err
 refine Am rfl rfl (AY rfl rfl rfl (AY rfl rfl rfl (AY rfl rfl rfl (An rfl rfl (An rfl rfl (An rfl rfl (o_z ?_)))))))
 refine Al (Aj (Am rfl rfl ?_))
 obtain ⟨z0,h4,hm⟩:=bs hm
 refine BB (O:=w7) (Gc y7 h4) rfl rfl fun d8 v1 w1 p0 i4=>?_
 obtain ⟨n0,c0⟩:=i4
 obtain ⟨c1,d1,rfl⟩:=c0.form
 refine An rfl rfl (o_z ?_)
 refine Al (Al (Aj (Am rfl rfl (Dd rfl rfl (fun c2=>?_) fun c2=>?_))))
 ·
  replace hm:=ip hm c2
  refine o_z ?_
  refine Ah rfl (Al ?_)
  obtain ⟨j4,h0,hm⟩:=bs hm
  refine AN (fun l' w'=>∃ (k4:Unit) (O':Lab),subs l' [(2,(.bool j4))]∧Bs w A w' O') ?_ ?_
  ·
   refine Aj (Am rfl rfl ?_)
   obtain ⟨y2,l4,h0⟩:=bs h0
   refine BO (O:=w1) (A:=All v1) (R:=fun w' F v=>Vb w' F v y2) (Nm (fun _ h=>h) c8 (show inI64 (3) from by decide) l4) rfl rfl fun e8 f8 g8 s1 m4=>?_
   obtain rfl:=m4.bool
   cases y2
   case false =>
    replace h0:=iF h0
    refine Am rfl rfl (Aw rfl rfl rfl rfl (Aw rfl rfl rfl rfl (Aw rfl rfl rfl rfl (Bf rfl rfl rfl (Am rfl rfl (Aw rfl rfl rfl rfl (Aw rfl rfl rfl rfl (Aw rfl rfl rfl rfl (Aw rfl rfl rfl rfl (Bf rfl rfl rfl (An rfl rfl (o_z ?_))))))))))))
    obtain rfl:=sm h0
    exact ⟨(),_,⟨rfl,trivial⟩,(((hB.st b1).st f1).st p0).st s1⟩
   replace h0:=iT h0
   refine Am rfl rfl (Au rfl rfl (Am rfl rfl (Au rfl rfl (AQ rfl rfl ?_))))
   replace c0:=c0.st s1
   have n4:z0.length≤9223372036854775807:=Nat.le_trans c0.len.2.1 c0.len.2.2
   have h8:inI64 (z0.length:Int):=rngNat n4
   refine Au rfl rfl (CE rfl rfl rfl (fun d2=>?_) fun d2=>?_)
   ·
    replace h0:=ip h0 d2
    refine Bk rfl rfl rfl (Am rfl rfl (Au rfl rfl (Am rfl rfl (Au rfl rfl ?_))))
    obtain ⟨i8,o4,h0⟩:=bs h0
    obtain ⟨p4,q4⟩:=AK o4
    obtain ⟨j8,k8,s6,z2,a3,b3,rfl,l8⟩:=c0.elem' q4
    refine Bw (hA:=z2) (hj:=(Int.toNat_of_nonneg p4).symm) (hlt:=a3) rfl rfl rfl ?_
    refine Au rfl rfl (AD (hc:=cat0 b3) rfl rfl ?_)
    refine Au rfl rfl (GF rfl rfl rfl (fun e2=>?_) fun e2=>?_)
    ·
     replace h0:=ip h0 e2
     refine Bk rfl rfl rfl (An rfl rfl (o_z ?_))
     obtain rfl:=sm h0
     exact ⟨(),_,⟨rfl,trivial⟩,(((hB.st b1).st f1).st p0).st s1⟩
    replace h0:=im h0 e2
    refine Bk rfl rfl rfl (An rfl rfl (o_z ?_))
    obtain rfl:=sm h0
    exact ⟨(),_,⟨rfl,trivial⟩,(((hB.st b1).st f1).st p0).st s1⟩
   replace h0:=im h0 d2
   refine Bk rfl rfl rfl (Am rfl rfl (Aw rfl rfl rfl rfl (Aw rfl rfl rfl rfl (Aw rfl rfl rfl rfl (Aw rfl rfl rfl rfl (Bf rfl rfl rfl (An rfl rfl (o_z ?_))))))))
   obtain rfl:=sm h0
   exact ⟨(),_,⟨rfl,trivial⟩,(((hB.st b1).st f1).st p0).st s1⟩
  replace hB:=((hB.st b1).st f1).st p0
  rintro m8 n8 ⟨k4,o8,c3,hB⟩
  refine AO _ c3 ?_
  refine AF ?_
  obtain rfl:=sm hm
  exact ret1v rfl (Az rfl) ⟨hB.ext,vBool⟩
 replace hm:=im hm c2
 refine o_z ?_
 refine Ae rfl (AH (Al (Al (Aj ?_))))
 replace k0:=((k0.st b1).st f1).st p0
 refine Bz (hl:=rfl) (hc:=(k0.1).cellsAt) rfl rfl ?_
 refine Am rfl rfl ?_
 obtain ⟨r4,s4,hm⟩:=bs hm
 replace h7:=((h7.st b1).st f1).st p0
 replace l0:=((l0.st b1).st f1).st p0
 replace m0:=((m0.st b1).st f1).st p0
 replace j0:=((j0.st b1).st f1).st p0
 replace o0:=o0.st p0
 refine BO (O:=w1) (A:=All v1) (R:=fun w' F v=>T2 w' F v r4) (Kx (fun _ h=>h) (Vb.mono (F:=Fr 0 v1 w1) (Vb.ofAgg (cs:=[(.slice A8 x0.vars.length c9),(.slice g1 x0.init.length h1),(.slice i1 x0.goal.length j1),(.slice k1 x0.ops.length l1)]) (x:=x0) rfl ⟨_,_,_,_,rfl,h7,l0,m0,j0⟩) Fr.lt) (Vb.mono (F:=Fr 0 v1 w1) o0 Fr.lt) s4) rfl rfl fun p8 q8 r8 a0 t4=>?_
 obtain ⟨s8,t8,rfl,u4,w4⟩:=t4
 obtain ⟨rfl,u8⟩:=u4.int
 obtain ⟨rfl,v8⟩:=w4.err
 refine Am rfl rfl (AY rfl rfl rfl (AY rfl rfl rfl (An rfl rfl (An rfl rfl (o_z ?_)))))
 refine Al ?_
 obtain ⟨x4,e0,hm⟩:=bs hm
 refine AN (fun l' w'=>∃ (y4:Unit) (O':Lab),subs l' [(1,(.pointer (some ⟨r1,0,none⟩))),(3,(.pointer (some ⟨y1,0,none⟩))),(5,(.slice z1 y0.1.length a2)),(6,(.int .i64 y0.2.1)),(7,(.slice c1 z0.length d1)),(80,(.bool x4))]∧Bs w A w' O'∧Lc 2 w' O' r1 26 [(.slice A8 x0.vars.length c9),(.slice g1 x0.init.length h1),(.slice i1 x0.goal.length j1),(.slice k1 x0.ops.length l1)]∧Vb w' (Fr 0 w' O') (.slice A8 x0.vars.length c9) x0.vars∧Vb w' (Fr 0 w' O') (.slice g1 x0.init.length h1) x0.init∧Vb w' (Fr 0 w' O') (.slice i1 x0.goal.length j1) x0.goal∧Vb w' (Fr 0 w' O') (.slice k1 x0.ops.length l1) x0.ops∧Ob 3 w' O' (.pointer (some ⟨y1,0,none⟩)) y3∧Vb w' (Fr 0 w' O') (.slice z1 y0.1.length a2) y0.1∧Vb w' (Fr 0 w' O') (.slice c1 z0.length d1) z0) ?_ ?_
 ·
  refine Aj (Am rfl rfl (Dd rfl rfl (fun f2=>?_) fun f2=>?_))
  ·
   replace e0:=ip e0 f2
   refine Am rfl rfl (Aw rfl rfl rfl rfl (Aw rfl rfl rfl rfl (Aw rfl rfl rfl rfl (Bk rfl rfl rfl (Am rfl rfl (Aw rfl rfl rfl rfl (Aw rfl rfl rfl rfl (Aw rfl rfl rfl rfl (Bk rfl rfl rfl (Am rfl rfl (Aw rfl rfl rfl rfl (Aw rfl rfl rfl rfl (Aw rfl rfl rfl rfl (Aw rfl rfl rfl rfl ?_))))))))))))))
   refine Aw rfl rfl rfl rfl (Bk rfl rfl rfl (o_z ?_))
   obtain rfl:=sm e0
   exact ⟨(),_,⟨rfl,rfl,rfl,rfl,rfl,rfl,trivial⟩,(((hB.st b1).st f1).st p0).st a0,k0.st a0,h7.st a0,l0.st a0,m0.st a0,j0.st a0,n0.st a0,o0.st a0,c0.st a0⟩
  replace e0:=im e0 f2
  refine Am rfl rfl (Au rfl rfl (Am rfl rfl (Au rfl rfl (Am rfl rfl (Au rfl rfl (EJ rfl rfl rfl (fun g2=>?_) fun g2=>?_))))))
  ·
   replace e0:=ip e0 g2
   refine Bf rfl rfl rfl (Am rfl rfl (Aw rfl rfl rfl rfl (Aw rfl rfl rfl rfl (Aw rfl rfl rfl rfl (Bk rfl rfl rfl (Am rfl rfl (Aw rfl rfl rfl rfl (Aw rfl rfl rfl rfl (Aw rfl rfl rfl rfl (Aw rfl rfl rfl rfl (Aw rfl rfl rfl rfl (Bk rfl rfl rfl (o_z ?_)))))))))))))
   obtain rfl:=sm e0
   exact ⟨(),_,⟨rfl,rfl,rfl,rfl,rfl,rfl,trivial⟩,(((hB.st b1).st f1).st p0).st a0,k0.st a0,h7.st a0,l0.st a0,m0.st a0,j0.st a0,n0.st a0,o0.st a0,c0.st a0⟩
  replace e0:=im e0 g2
  refine Bf rfl rfl rfl (Am rfl rfl (Au rfl rfl (Am rfl rfl (Au rfl rfl (AQ rfl rfl ?_)))))
  replace c0:=c0.st a0
  have z4:z0.length≤9223372036854775807:=Nat.le_trans c0.len.2.1 c0.len.2.2
  have w8:inI64 (z0.length:Int):=rngNat z4
  refine Au rfl rfl (GF rfl rfl rfl (fun h2=>?_) fun h2=>?_)
  ·
   replace e0:=ip e0 h2
   refine Bf rfl rfl rfl (Am rfl rfl (Aw rfl rfl rfl rfl (Aw rfl rfl rfl rfl (Aw rfl rfl rfl rfl (Aw rfl rfl rfl rfl (Aw rfl rfl rfl rfl (Bk rfl rfl rfl (o_z ?_))))))))
   obtain rfl:=sm e0
   exact ⟨(),_,⟨rfl,rfl,rfl,rfl,rfl,rfl,trivial⟩,(((hB.st b1).st f1).st p0).st a0,k0.st a0,h7.st a0,l0.st a0,m0.st a0,j0.st a0,n0.st a0,o0.st a0,c0⟩
  replace e0:=im e0 h2
  refine Bf rfl rfl rfl (Am rfl rfl (Au rfl rfl (Am rfl rfl (Au rfl rfl ?_))))
  obtain ⟨x8,a5,e0⟩:=bs e0
  obtain ⟨b5,c5⟩:=AK a5
  obtain ⟨y8,z8,t6,d3,e3,f3,rfl,a9⟩:=c0.elem' c5
  refine Bw (hA:=d3) (hj:=(Int.toNat_of_nonneg b5).symm) (hlt:=e3) rfl rfl rfl ?_
  refine Au rfl rfl (AD (hc:=cat0 f3) rfl rfl ?_)
  refine Au rfl rfl (Am rfl rfl (Au rfl rfl (EJ rfl rfl rfl (fun i2=>?_) fun i2=>?_)))
  ·
   replace e0:=ip e0 i2
   refine Bf rfl rfl rfl (o_z ?_)
   obtain rfl:=sm e0
   exact ⟨(),_,⟨rfl,rfl,rfl,rfl,rfl,rfl,trivial⟩,(((hB.st b1).st f1).st p0).st a0,k0.st a0,h7.st a0,l0.st a0,m0.st a0,j0.st a0,n0.st a0,o0.st a0,c0⟩
  replace e0:=im e0 i2
  refine Bf rfl rfl rfl (o_z ?_)
  obtain rfl:=sm e0
  exact ⟨(),_,⟨rfl,rfl,rfl,rfl,rfl,rfl,trivial⟩,(((hB.st b1).st f1).st p0).st a0,k0.st a0,h7.st a0,l0.st a0,m0.st a0,j0.st a0,n0.st a0,o0.st a0,c0⟩
 replace hB:=(((hB.st b1).st f1).st p0).st a0
 replace h7:=h7.st a0
 replace l0:=l0.st a0
 replace m0:=m0.st a0
 replace j0:=j0.st a0
 replace k0:=k0.st a0
 replace o0:=o0.st a0
 replace n0:=n0.st a0
 replace c0:=c0.st a0
 rintro b9 d9 ⟨y4,d5,g3,hB,k0,h7,l0,m0,j0,n0,o0,c0⟩
 refine AO _ g3 ?_
 refine CJ rfl (fun j2=>?_) (fun j2=>?_)
 ·
  replace hm:=ip hm j2
  refine Al (Aj (An rfl rfl (o_z ?_)))
  refine AF ?_
  obtain rfl:=sm hm
  exact ret1v rfl (Az rfl) ⟨hB.ext,vBool⟩
 replace hm:=im' hm j2
 refine AH (Al (Aj (Cv 4 (by decide) d5 (xs:=(([]:List Int):List Int)) rfl rfl rfl rfl trivial (by decide) (by decide) rfl fun e9 f9 g9 t0 e5=>?_)))
 refine AG rfl rfl ?_
 replace k0:=k0.st t0
 refine AD (hc:=Blk.cell (i:=1) (k0.1) rfl) rfl rfl ?_
 obtain ⟨h9,k2,hm⟩:=bs hm
 obtain ⟨k2,f5,g5⟩:=Cz k2
 replace l0:=l0.st t0
 refine Dh rfl e5 (l0.rd) rfl rfl (by decide) f5 g5 rfl fun h5 i5 i9 j9 u0 x1=>?_
 rw [← k2] at x1 ⊢
 refine Am rfl rfl (An rfl rfl (An rfl rfl (o_z ?_)))
 refine Al (Al (Aj (Am rfl rfl (AQ rfl rfl ?_))))
 replace o0:=(o0.st t0).st u0
 have l2:y0.1.length≤9223372036854775807:=Nat.le_trans o0.len.2.1 o0.len.2.2
 have k9:inI64 (y0.1.length:Int):=rngNat l2
 refine Am rfl rfl (o_z ?_)
 obtain ⟨m2,h3,hm⟩:=bs hm
 refine AN (aft m2 (fun (s0:(List Int)×Int) (e1:(Option Addr×Nat))=>[]) (fun s0 e1 w'=>∃ O':Lab,Bs w A w' O'∧inI64 s0.2)) ?_ ?_
 ·
  refine AR ?_
  obtain ⟨j5,v0,x1⟩:=x1.freeze
  replace hB:=((hB.st t0).st u0).st v0
  replace h7:=((h7.st t0).st u0).st v0
  replace l0:=(l0.st u0).st v0
  replace m0:=((m0.st t0).st u0).st v0
  replace j0:=((j0.st t0).st u0).st v0
  replace k0:=(k0.st u0).st v0
  replace o0:=o0.st v0
  replace n0:=((n0.st t0).st u0).st v0
  replace c0:=((c0.st t0).st u0).st v0
  refine Ct (σ:=(List Int)×Int) (X:=(Option Addr×Nat)) (y0.1.length) h3 rfl l2 (fun (s0:(List Int)×Int) (e1:(Option Addr×Nat))=>[(1,(.pointer (some ⟨r1,0,none⟩))),(3,(.pointer (some ⟨y1,0,none⟩))),(7,(.slice c1 z0.length d1)),(10,(.slice e1.1 s0.1.length e1.2)),(11,(.int .i64 s0.2)),(86,(.slice z1 y0.1.length a2))]) _ (fun s0 e1 w'=>∃ O':Lab,Bs w A w' O'∧Lc 2 w' O' r1 26 [(.slice A8 x0.vars.length c9),(.slice g1 x0.init.length h1),(.slice i1 x0.goal.length j1),(.slice k1 x0.ops.length l1)]∧Vb w' (Fr 0 w' O') (.slice A8 x0.vars.length c9) x0.vars∧Vb w' (Fr 0 w' O') (.slice g1 x0.init.length h1) x0.init∧Vb w' (Fr 0 w' O') (.slice i1 x0.goal.length j1) x0.goal∧Vb w' (Fr 0 w' O') (.slice k1 x0.ops.length l1) x0.ops∧Ob 3 w' O' (.pointer (some ⟨y1,0,none⟩)) y3∧Vb w' (Fr 0 w' O') (.slice c1 z0.length d1) z0∧Vb w' (Fr 0 w' O') (.slice e1.1 s0.1.length e1.2) s0.1∧Vb w' (Fr 0 w' O') (.slice z1 y0.1.length a2) y0.1∧inI64 s0.2) _ (h5,i5) ⟨j5,hB,k0,h7,l0,m0,j0,n0,c0,x1,o0,b8⟩ ⟨rfl,rfl,rfl,rfl,rfl,rfl,rfl,rfl,trivial⟩ (fun _ _=>⟨rfl,rfl⟩) (fun _ _=>trivial) (fun _ _ _ ⟨O',hB,k0,h7,l0,m0,j0,n0,c0,i3,o0,n2⟩=>⟨O',hB,n2⟩) ⟨rfl,rfl,rfl⟩ ⟨rfl,rfl⟩ ?_
  rintro o2 k5 s0 e1 l9 u6 b2 ⟨l5,hB,k0,h7,l0,m0,j0,n0,c0,i3,o0,n2⟩ f0 o1 z3
  have rk205:inI64 (o2:Int):=rngK b2 l2
  refine Al (Aj ?_)
  obtain ⟨m9,n9,w6,j3,k3,l3,rfl,m5⟩:=o0.elem' b2
  refine Bw (hA:=j3) (hj:=rfl) (hlt:=k3) rfl rfl rfl ?_
  refine AD (hc:=cat0 l3) rfl rfl ?_
  refine An rfl rfl (o_z ?_)
  refine Al (Aj (Bz (hl:=rfl) (hc:=(k0.1).cellsAt) rfl rfl ?_))
  refine Am rfl rfl (Am rfl rfl ?_)
  obtain ⟨m1,n5,f0⟩:=bs f0
  refine EW (O:=l5) (R:=fun w' F v=>T2 w' F v m1) (Lq Fr.lt (Vb.ofAgg (cs:=[(.slice A8 x0.vars.length c9),(.slice g1 x0.init.length h1),(.slice i1 x0.goal.length j1),(.slice k1 x0.ops.length l1)]) (x:=x0) rfl ⟨_,_,_,_,rfl,h7,l0,m0,j0⟩) i3 m5 n5) rfl rfl fun o9 p9 q9 d0 o5=>?_
  obtain ⟨r9,s9,rfl,q0,p5⟩:=o5
  obtain ⟨t1,u1,rfl⟩:=q0.form
  obtain ⟨rfl,t9⟩:=p5.err
  refine Am rfl rfl (AY rfl rfl rfl (AY rfl rfl rfl (An rfl rfl (An rfl rfl (o_z ?_)))))
  refine Al (Al ?_)
  obtain ⟨q5,i0,f0⟩:=bs f0
  refine AN (fun l' w'=>∃ (r5:Unit) (O':Lab),subs l' [(1,(.pointer (some ⟨r1,0,none⟩))),(3,(.pointer (some ⟨y1,0,none⟩))),(7,(.slice c1 z0.length d1)),(11,(.int .i64 s0.2)),(13,(.int .i64 k5)),(14,(.slice t1 m1.1.length u1)),(86,(.slice z1 y0.1.length a2)),(87,(.int .i64 (y0.1.length:Int))),(88,(.int .i64 (o2:Int))),(111,(.bool q5))]∧Bs w A w' O'∧Lc 2 w' O' r1 26 [(.slice A8 x0.vars.length c9),(.slice g1 x0.init.length h1),(.slice i1 x0.goal.length j1),(.slice k1 x0.ops.length l1)]∧Vb w' (Fr 0 w' O') (.slice A8 x0.vars.length c9) x0.vars∧Vb w' (Fr 0 w' O') (.slice g1 x0.init.length h1) x0.init∧Vb w' (Fr 0 w' O') (.slice i1 x0.goal.length j1) x0.goal∧Vb w' (Fr 0 w' O') (.slice k1 x0.ops.length l1) x0.ops∧Ob 3 w' O' (.pointer (some ⟨y1,0,none⟩)) y3∧Vb w' (Fr 0 w' O') (.slice c1 z0.length d1) z0∧Vb w' (Fr 0 w' O') (.slice t1 m1.1.length u1) m1.1∧Vb w' (Fr 0 w' O') (.slice z1 y0.1.length a2) y0.1) ?_ ?_
  ·
   refine Aj (Am rfl rfl (Dd rfl rfl (fun p2=>?_) fun p2=>?_))
   ·
    replace i0:=ip i0 p2
    refine Am rfl rfl (Aw rfl rfl rfl rfl (Aw rfl rfl rfl rfl (Bk rfl rfl rfl (Am rfl rfl (Aw rfl rfl rfl rfl (Aw rfl rfl rfl rfl (Aw rfl rfl rfl rfl (Aw rfl rfl rfl rfl (Aw rfl rfl rfl rfl (Bk rfl rfl rfl (o_z ?_)))))))))))
    obtain rfl:=sm i0
    exact ⟨(),_,⟨rfl,rfl,rfl,rfl,rfl,rfl,rfl,rfl,rfl,rfl,trivial⟩,hB.st d0,k0.st d0,h7.st d0,l0.st d0,m0.st d0,j0.st d0,n0.st d0,c0.st d0,q0,o0.st d0⟩
   replace i0:=im i0 p2
   refine Am rfl rfl (Au rfl rfl (Am rfl rfl (Au rfl rfl (CT rfl rfl rfl (fun q2=>?_) fun q2=>?_))))
   ·
    replace i0:=ip i0 q2
    refine Bf rfl rfl rfl (Am rfl rfl (Aw rfl rfl rfl rfl (Aw rfl rfl rfl rfl (Aw rfl rfl rfl rfl (Aw rfl rfl rfl rfl (Aw rfl rfl rfl rfl (Bk rfl rfl rfl (o_z ?_))))))))
    obtain rfl:=sm i0
    exact ⟨(),_,⟨rfl,rfl,rfl,rfl,rfl,rfl,rfl,rfl,rfl,rfl,trivial⟩,hB.st d0,k0.st d0,h7.st d0,l0.st d0,m0.st d0,j0.st d0,n0.st d0,c0.st d0,q0,o0.st d0⟩
   replace i0:=im i0 q2
   refine Bf rfl rfl rfl (Am rfl rfl (Au rfl rfl (Am rfl rfl (Au rfl rfl (AG rfl rfl (Au rfl rfl ?_))))))
   replace k0:=k0.st d0
   refine AD (hc:=Blk.cell (i:=3) (k0.1) rfl) rfl rfl ?_
   refine Au rfl rfl (AQ rfl rfl ?_)
   replace j0:=j0.st d0
   have s5:x0.ops.length≤9223372036854775807:=Nat.le_trans j0.len.2.1 j0.len.2.2
   have u9:inI64 (x0.ops.length:Int):=rngNat s5
   refine Au rfl rfl (EY rfl rfl rfl (fun r2=>?_) fun r2=>?_)
   ·
    replace i0:=ip i0 r2
    refine Bf rfl rfl rfl (o_z ?_)
    obtain rfl:=sm i0
    exact ⟨(),_,⟨rfl,rfl,rfl,rfl,rfl,rfl,rfl,rfl,rfl,rfl,trivial⟩,hB.st d0,k0,h7.st d0,l0.st d0,m0.st d0,j0,n0.st d0,c0.st d0,q0,o0.st d0⟩
   replace i0:=im i0 r2
   refine Bf rfl rfl rfl (o_z ?_)
   obtain rfl:=sm i0
   exact ⟨(),_,⟨rfl,rfl,rfl,rfl,rfl,rfl,rfl,rfl,rfl,rfl,trivial⟩,hB.st d0,k0,h7.st d0,l0.st d0,m0.st d0,j0,n0.st d0,c0.st d0,q0,o0.st d0⟩
  replace hB:=hB.st d0
  replace h7:=h7.st d0
  replace l0:=l0.st d0
  replace m0:=m0.st d0
  replace j0:=j0.st d0
  replace k0:=k0.st d0
  replace o0:=o0.st d0
  replace n0:=n0.st d0
  replace c0:=c0.st d0
  rintro v9 t5 ⟨r5,u5,m3,hB,k0,h7,l0,m0,j0,n0,c0,q0,o0⟩
  refine AO _ m3 ?_
  refine CJ rfl (fun s2=>?_) (fun s2=>?_)
  ·
   replace f0:=ip f0 s2
   refine Al (Aj (An rfl rfl (o_z ?_)))
   refine AF ?_
   obtain rfl:=sm f0
   obtain rfl:=o1 _ rfl
   obtain rfl:=sm (Cs hm)
   exact ret1v rfl (Az rfl) ⟨hB.ext,vBool⟩
  replace f0:=im' f0 s2
  refine AH (Al (BU (·=t5) [(0,true),(1,true),(2,true),(3,true),(4,true),(5,true),(6,true),(7,true),(8,true),(9,true),(10,true)] (by kernel_rfl) rfl (by kernel_rfl) rfl ?_))
  refine AJ rfl rfl rfl (AJ rfl rfl rfl (AP rfl rfl rfl (BC (hc:=Blk.cell (i:=3) (k0.1) rfl) rfl rfl rfl ?_)))
  refine AJ rfl rfl rfl ?_
  obtain ⟨w9,w5,f0⟩:=bs f0
  obtain ⟨x5,y5⟩:=AK w5
  obtain ⟨x9,y9,x6,n3,o3,p3,z9,aA,rfl,z5,a6,bA,cA⟩:=j0.elem' y5
  obtain ⟨dA,eA,rfl⟩:=z5.form
  obtain ⟨fA,gA,rfl⟩:=a6.form
  refine BP (hA:=n3) (hj:=(Int.toNat_of_nonneg x5).symm) (hlt:=o3) rfl rfl rfl rfl ?_
  refine AP rfl rfl rfl (BC (hc:=cat1 p3) rfl rfl rfl ?_)
  obtain ⟨b6,q3,f0⟩:=bs f0
  have c6:=(BR q3)
  refine OE (he:=q3) rfl rfl rfl rfl ?_
  refine CX rfl rfl rfl (CX rfl rfl rfl (h_z ?_))
  refine Al (Aj (Am rfl rfl (Am rfl rfl ?_)))
  obtain ⟨iA,d6,f0⟩:=bs f0
  refine BB (O:=u5) (Hu n0 q0 d6) rfl rfl fun jA kA lA b0 e6=>?_
  obtain ⟨mA,nA,n1,rfl,f6,g6⟩:=e6
  obtain ⟨rfl,oA⟩:=f6.int
  obtain ⟨rfl,pA⟩:=g6.err
  refine Am rfl rfl (AY rfl rfl rfl (AY rfl rfl rfl (An rfl rfl (An rfl rfl (o_z ?_)))))
  refine Al ?_
  obtain ⟨h6,g0,f0⟩:=bs f0
  refine AN (fun l' w'=>∃ (i6:Unit) (O':Lab),subs l' [(1,(.pointer (some ⟨r1,0,none⟩))),(3,(.pointer (some ⟨y1,0,none⟩))),(7,(.slice c1 z0.length d1)),(10,(.slice t1 m1.1.length u1)),(11,(.int .i64 b6)),(86,(.slice z1 y0.1.length a2)),(87,(.int .i64 (y0.1.length:Int))),(88,(.int .i64 (o2:Int))),(146,(.bool h6))]∧Bs w A w' O'∧Lc 2 w' O' r1 26 [(.slice A8 x0.vars.length c9),(.slice g1 x0.init.length h1),(.slice i1 x0.goal.length j1),(.slice k1 x0.ops.length l1)]∧Vb w' (Fr 0 w' O') (.slice A8 x0.vars.length c9) x0.vars∧Vb w' (Fr 0 w' O') (.slice g1 x0.init.length h1) x0.init∧Vb w' (Fr 0 w' O') (.slice i1 x0.goal.length j1) x0.goal∧Vb w' (Fr 0 w' O') (.slice k1 x0.ops.length l1) x0.ops∧Ob 3 w' O' (.pointer (some ⟨y1,0,none⟩)) y3∧Vb w' (Fr 0 w' O') (.slice c1 z0.length d1) z0∧Vb w' (Fr 0 w' O') (.slice t1 m1.1.length u1) m1.1∧Vb w' (Fr 0 w' O') (.slice z1 y0.1.length a2) y0.1) ?_ ?_
  ·
   refine Aj (Am rfl rfl (Dd rfl rfl (fun t2=>?_) fun t2=>?_))
   ·
    replace g0:=ip g0 t2
    refine Am rfl rfl (Aw rfl rfl rfl rfl (Aw rfl rfl rfl rfl (Bk rfl rfl rfl (Am rfl rfl (Aw rfl rfl rfl rfl (Aw rfl rfl rfl rfl (Aw rfl rfl rfl rfl (Aw rfl rfl rfl rfl (Bk rfl rfl rfl (Am rfl rfl (Aw rfl rfl rfl rfl (Aw rfl rfl rfl rfl (Aw rfl rfl rfl rfl (Aw rfl rfl rfl rfl ?_))))))))))))))
    refine Aw rfl rfl rfl rfl (Aw rfl rfl rfl rfl (Bk rfl rfl rfl (o_z ?_)))
    obtain rfl:=sm g0
    exact ⟨(),_,⟨rfl,rfl,rfl,rfl,rfl,rfl,rfl,rfl,rfl,trivial⟩,hB.st b0,k0.st b0,h7.st b0,l0.st b0,m0.st b0,j0.st b0,n1,c0.st b0,q0.st b0,o0.st b0⟩
   replace g0:=im g0 t2
   refine Am rfl rfl (Au rfl rfl (Am rfl rfl (Au rfl rfl (CT rfl rfl rfl (fun u2=>?_) fun u2=>?_))))
   ·
    replace g0:=ip g0 u2
    refine Bf rfl rfl rfl (Am rfl rfl (Aw rfl rfl rfl rfl (Aw rfl rfl rfl rfl (Aw rfl rfl rfl rfl (Aw rfl rfl rfl rfl (Bk rfl rfl rfl (Am rfl rfl (Aw rfl rfl rfl rfl (Aw rfl rfl rfl rfl (Aw rfl rfl rfl rfl (Aw rfl rfl rfl rfl (Aw rfl rfl rfl rfl (Aw rfl rfl rfl rfl (Bk rfl rfl rfl ?_))))))))))))))
    refine o_z ?_
    obtain rfl:=sm g0
    exact ⟨(),_,⟨rfl,rfl,rfl,rfl,rfl,rfl,rfl,rfl,rfl,trivial⟩,hB.st b0,k0.st b0,h7.st b0,l0.st b0,m0.st b0,j0.st b0,n1,c0.st b0,q0.st b0,o0.st b0⟩
   replace g0:=im g0 u2
   refine Bf rfl rfl rfl (Am rfl rfl (Au rfl rfl (Am rfl rfl (Au rfl rfl (Am rfl rfl (Au rfl rfl (AQ rfl rfl ?_)))))))
   replace c0:=c0.st b0
   have j6:z0.length≤9223372036854775807:=Nat.le_trans c0.len.2.1 c0.len.2.2
   have qA:inI64 (z0.length:Int):=rngNat j6
   refine Au rfl rfl (EY rfl rfl rfl (fun v2=>?_) fun v2=>?_)
   ·
    replace g0:=ip g0 v2
    refine Bf rfl rfl rfl (Am rfl rfl (Aw rfl rfl rfl rfl (Aw rfl rfl rfl rfl (Aw rfl rfl rfl rfl (Aw rfl rfl rfl rfl (Aw rfl rfl rfl rfl (Aw rfl rfl rfl rfl (Bk rfl rfl rfl (o_z ?_)))))))))
    obtain rfl:=sm g0
    exact ⟨(),_,⟨rfl,rfl,rfl,rfl,rfl,rfl,rfl,rfl,rfl,trivial⟩,hB.st b0,k0.st b0,h7.st b0,l0.st b0,m0.st b0,j0.st b0,n1,c0,q0.st b0,o0.st b0⟩
   replace g0:=im g0 v2
   refine Bf rfl rfl rfl (Am rfl rfl (Au rfl rfl (Am rfl rfl (Au rfl rfl (Am rfl rfl (Au rfl rfl ?_))))))
   obtain ⟨rA,k6,g0⟩:=bs g0
   obtain ⟨l6,m6⟩:=AK k6
   obtain ⟨sA,tA,y6,r3,s3,t3,rfl,uA⟩:=c0.elem' m6
   refine Bw (hA:=r3) (hj:=(Int.toNat_of_nonneg l6).symm) (hlt:=s3) rfl rfl rfl ?_
   refine Au rfl rfl (AD (hc:=cat0 t3) rfl rfl ?_)
   refine Au rfl rfl (Am rfl rfl (Au rfl rfl (EJ rfl rfl rfl (fun w2=>?_) fun w2=>?_)))
   ·
    replace g0:=ip g0 w2
    refine Bf rfl rfl rfl (o_z ?_)
    obtain rfl:=sm g0
    exact ⟨(),_,⟨rfl,rfl,rfl,rfl,rfl,rfl,rfl,rfl,rfl,trivial⟩,hB.st b0,k0.st b0,h7.st b0,l0.st b0,m0.st b0,j0.st b0,n1,c0,q0.st b0,o0.st b0⟩
   replace g0:=im g0 w2
   refine Bf rfl rfl rfl (o_z ?_)
   obtain rfl:=sm g0
   exact ⟨(),_,⟨rfl,rfl,rfl,rfl,rfl,rfl,rfl,rfl,rfl,trivial⟩,hB.st b0,k0.st b0,h7.st b0,l0.st b0,m0.st b0,j0.st b0,n1,c0,q0.st b0,o0.st b0⟩
  replace hB:=hB.st b0
  replace h7:=h7.st b0
  replace l0:=l0.st b0
  replace m0:=m0.st b0
  replace j0:=j0.st b0
  replace k0:=k0.st b0
  replace o0:=o0.st b0
  replace c0:=c0.st b0
  replace q0:=q0.st b0
  rintro vA wA ⟨i6,xA,u3,hB,k0,h7,l0,m0,j0,n1,c0,q0,o0⟩
  refine AO _ u3 ?_
  refine CJ rfl (fun x2=>?_) (fun x2=>?_)
  ·
   replace f0:=ip f0 x2
   refine Al (Aj (An rfl rfl (o_z ?_)))
   refine AF ?_
   obtain rfl:=sm f0
   obtain rfl:=o1 _ rfl
   obtain rfl:=sm (Cs hm)
   exact ret1v rfl (Az rfl) ⟨hB.ext,vBool⟩
  replace f0:=im' f0 x2
  refine AH ?_
  obtain rfl:=sm f0
  exact show Exists _ from ⟨_,(t1,u1),rfl,⟨rfl,rfl,rfl,rfl,rfl,rfl,rfl,rfl,trivial⟩,_,hB,k0,h7,l0,m0,j0,n1,c0,q0,o0,c6⟩
 replace hB:=(hB.st t0).st u0
 rintro yA zA ⟨aB,bB,rfl,w3,cB,hB,n2⟩
 replace hm:=BA hm
 refine AO _ w3 ?_
 refine Al (Aj (An rfl rfl (o_z ?_)))
 refine AF ?_
 obtain rfl:=sm hm
 exact ret1v rfl (Az rfl) ⟨hB.ext,vBool⟩
end
section
open Go Go.RowKit
def Le {α:Type} (x y:Option α):Prop:=∀ r,x=some r→y=some r
theorem Le.rf {α:Type} {x:Option α}:Le x x:=fun _ h=>h
theorem Le.bnd {α β:Type} {x x':Option α} {f f':α→Option β} (h:Le x x') (hf:∀ a,Le (f a) (f' a)):Le (bnd x f) (bnd x' f'):=fun r hr=>by
  obtain ⟨a,ha,hb⟩:=bs hr
  rw [h a ha,Ar]
  exact hf a r hb
theorem Le.ite {α:Type} {p:Prop} [Decidable p] {x x' y y':Option α} (h:Le x x') (k:Le y y'):Le (if p then x else y) (if p then x' else y'):=by
  by_cases hp:p
  · rw [if_pos hp,if_pos hp];exact h
  · rw [if_neg hp,if_neg hp];exact k
theorem Le.fin {σ κ:Type} {y:Fin σ κ} {f f':σ→Option κ} (hf:∀ a,Le (f a) (f' a)):Le (fin y f) (fin y f'):=by
  cases y with
  | done s=>exact hf s
  | ret c=>exact Le.rf
theorem Le.rng {α σ ρ:Type} {f f':Nat→α→σ→Option (Ctl σ ρ)} (hf:∀ k a s,Le (f k a s) (f' k a s)):∀ {xs:List α} {k:Nat} {s:σ},Le (rng f xs k s) (rng f' xs k s)
  | [],_,_=>Le.rf
  | x :: xs,k,s=>fun r hr=>by
    simp only [Proofs.YtkbmbcblgdgjlaaGreat.rng] at hr ⊢
    cases hc:f k x s with
    | none=>rw [hc] at hr;cases hr
    | some c =>
      rw [hc] at hr
      rw [hf k x s c hc]
      cases c with
      | next s'=>exact Le.rng hf r hr
      | brk s'=>exact hr
      | ret q=>exact hr
theorem Le.rngN {σ ρ:Type} {f f':Nat→σ→Option (Ctl σ ρ)} {n:Nat} {s:σ} (hf:∀ k s,Le (f k s) (f' k s)):Le (rngN f n s) (rngN f' n s):=Le.rng fun _ k s=>hf k s
theorem Le.itr {σ ρ:Type} {f f':σ→Option (Ctl σ ρ)} (hf:∀ s,Le (f s) (f' s)):∀ (n:Nat) (s:σ),Le (itr f n s) (itr f' n s)
  | 0,_=>Le.rf
  | n + 1,s=>fun r hr=>by
    simp only [Proofs.YtkbmbcblgdgjlaaGreat.itr] at hr ⊢
    cases hc:f s with
    | none=>rw [hc] at hr;cases hr
    | some c =>
      rw [hc] at hr
      rw [hf s c hc]
      cases c with
      | next s'=>exact Le.itr hf n s' r hr
      | brk s'=>exact hr
      | ret q=>exact hr
def lopE {σ ρ:Type} (f:σ→Option (Ctl σ ρ)) (s:σ):Option (Fin σ ρ):=itr f 600 s
theorem Le.lop {σ ρ:Type} {f f':σ→Option (Ctl σ ρ)} {s:σ} (hf:∀ s,Le (f s) (f' s)):Le (lopE f s) (lop f' s):=fun r hr=>Gs.2 ⟨600,Le.itr hf 600 s r hr⟩
end
section
open Go Go.RowKit
def factB (vars:List Int) (x:Fct):Bool:=decide (0≤x.var) && (decide (0≤x.val) && (match vars[x.var.toNat]? with|some y=>decide (x.val < y)|none=>false))
theorem Lr {vars:List Int} {x:Fct} (h:factB vars x=true):FactOk vars x:=by
  unfold factB at h
  simp only [Bool.and_eq_true,decide_eq_true_eq] at h
  obtain ⟨h1,h2,h3⟩:=h
  cases hv:vars[x.var.toNat]? with
  | none=>rw [hv] at h3;cases h3
  | some y=>rw [hv] at h3;exact ⟨h1,h2,y,hv,by simpa using h3⟩
def ascB:List Fct→Bool
  | x :: y :: r=>decide (x.var < y.var) && ascB (y :: r)
  | _=>true
theorem LY:∀ {f:List Fct},ascB f=true→∀ (i:Nat) x y,f[i]?=some x→f[i + 1]?=some y→x.var < y.var
  | [],_,i,x,y,h,_=>by simp at h
  | [_],_,i,x,y,_,h=>by simp at h
  | a :: b :: r,h,i,x,y,h1,h2=>by
    simp only [ascB,Bool.and_eq_true,decide_eq_true_eq] at h
    cases i with
    | zero=>simp at h1 h2;subst h1;subst h2;exact h.1
    | succ i=>exact LY h.2 i x y (by simpa using h1) (by simpa using h2)
def factsB (vars:List Int) (f:List Fct):Bool:=f.all (factB vars) && ascB f
theorem Ix {vars:List Int} {f:List Fct} (h:factsB vars f=true):FactsOk vars f:=by
  unfold factsB at h
  rw [Bool.and_eq_true,List.all_eq_true] at h
  exact ⟨fun i x hx=>Lr (h.1 x (List.mem_of_getElem? hx)),LY h.2⟩
def stateB:List Int→List Int→Bool
  | [],[]=>true
  | y :: vars,x :: s=>decide (0≤x) && (decide (x < y) && stateB vars s)
  | _,_=>false
theorem Iy:∀ {vars s:List Int},stateB vars s=true→StateOk vars s
  | [],[],_=>⟨rfl,fun i x y h=>by simp at h⟩
  | y :: vars,x :: s,h=>by
    simp only [stateB,Bool.and_eq_true,decide_eq_true_eq] at h
    obtain ⟨h1,h2⟩:=Iy h.2.2
    refine ⟨by simp [h1],fun i a b ha hb=>?_⟩
    cases i with
    | zero=>simp at ha hb;subst ha;subst hb;exact ⟨h.1,h.2.1⟩
    | succ i=>exact h2 i a b (by simpa using ha) (by simpa using hb)
  | [],_ :: _,h=>by simp [stateB] at h
  | _ :: _,[],h=>by simp [stateB] at h
def nameB (s:ByteArray):Bool:=decide (s.size≤256) && s.data.toList.all fun c=>decide (32≤c.toNat) && decide (c.toNat≤126)
theorem Om {s:ByteArray} (h:nameB s=true):NameOk s:=by
  unfold nameB at h
  simp only [Bool.and_eq_true,decide_eq_true_eq,List.all_eq_true] at h
  refine ⟨h.1,fun i hi=>h.2 _ ?_⟩
  show s.data[i]∈_
  simp
def opB (vars:List Int) (o:Opr):Bool:=decide (0≤o.cost) && (decide (o.cost≤1048576) && (decide (o.effs.length≤64) && (nameB o.name && (factsB vars o.pre && o.effs.all fun e=>factsB vars e.cond && factB vars ⟨e.var,e.val⟩))))
theorem Qv {vars:List Int} {o:Opr} (h:opB vars o=true):OpOk vars o:=by
  unfold opB at h
  simp only [Bool.and_eq_true,decide_eq_true_eq,List.all_eq_true] at h
  obtain ⟨h1,h2,h3,h4,h5,h6⟩:=h
  exact ⟨h1,h2,h3,Om h4,Ix h5,fun i e he=>⟨Ix (h6 e (List.mem_of_getElem? he)).1,Lr (h6 e (List.mem_of_getElem? he)).2⟩⟩
def taskB (t:Tsk):Bool:=decide (t.vars.length≤64) && (decide (t.ops.length≤4096) && ((t.vars.all fun n=>decide (1≤n) && decide (n≤64)) && (stateB t.vars t.init && (factsB t.vars t.goal && t.ops.all (opB t.vars)))))
theorem On {t:Tsk} (h:taskB t=true):TaskOk t:=by
  unfold taskB at h
  simp only [Bool.and_eq_true,decide_eq_true_eq,List.all_eq_true] at h
  obtain ⟨h1,h2,h3,h4,h5,h6⟩:=h
  exact ⟨h1,h2,fun i n hn=>h3 n (List.mem_of_getElem? hn),Iy h4,Ix h5,fun i o ho=>Qv (h6 o (List.mem_of_getElem? ho))⟩
def Gx (f:List Fct) (s:List Int):Option Bool:=Cc f s
theorem HP (f:List Fct) (s:List Int):Le (Gx f s) (Cc f s):=Le.rf
def De (x:List Int):Option (List Int):=AW x
theorem EB (x:List Int):Le (De x) (AW x):=Le.rf
end
section
open Go Go.RowKit
set_option maxRecDepth 20000
attribute [local irreducible] bnd fin rng rngN chkI mkI appI atI quoI Bc AW BJ
def DY (x:List U64):Option (List U64):=BJ x
theorem Fw (x:List U64):Le (DY x) (BJ x):=Le.rf
def Cj (x:List Fct):Option (List Fct):=Bc x
theorem EQ (x:List Fct):Le (Cj x) (Bc x):=Le.rf
def FY (x:List (List Arc)) (y z:List Int):Option (List Int×List Int):=Dt x y z
theorem Iz (x:List (List Arc)) (y z:List Int):Le (FY x y z) (Dt x y z):=Le.rf
def IX (x y:Err):Option Bool:=DX x y
theorem Ls (x y:Err):Le (IX x y) (DX x y):=Le.rf
def HQ (t:Tsk):Option (Option Gnr×Err):=if taskB t=true then some (some ⟨t⟩,⟨0⟩) else none
theorem Kb (t:Tsk):Le (HQ t) (DL t):=fun r h=>by
  obtain ⟨h1,rfl⟩:=Fa h
  exact MW (On h1)
def CZ (x:Option Gnr) (s:List Int):Option (List Int):=match x with
  | some g=>if stateB g.t.vars s=true then (if s.length≤1000000 then some (appl g.t s) else none) else none
  | none=>none
theorem Fk (x:Option Gnr) (s:List Int):Le (CZ x s) (Cd x s):=fun r h=>by
  cases x with
  | none=>cases h
  | some g =>
    unfold CZ at h
    dsimp only at h
    split at h
    · rename_i h1
      obtain ⟨h3,rfl⟩:=Fa h
      unfold Cd
      rw [if_pos h3]
      show some (appS g.t s)=_
      rw [Ha (Iy h1)]
    · cases h
noncomputable def HB (x0:List Int):Option ((Option Pkr)×Err) :=
  if 64 < (x0.length:Int) then (some (none,(⟨5⟩:Err))) else (bnd (rng (ρ:=(Option Pkr)×Err) (fun (k25:Nat) (a26:Int) (s23:Int×Pkr)=>bnd (if a26 < 1 then (some true) else (if 64 < a26 then (some true) else (some false)):Option Bool) fun y48=>if y48=true then (some (.ret (none,(⟨1⟩:Err)))) else (bnd (lopE (ρ:=Ctl (Int×Pkr) ((Option Pkr)×Err)) (fun (s61:Int)=>bnd (shlI 1 s61) fun n76=>if n76 < a26 then (bnd (chkI (s61 + 1)) fun n80=>some (.next n80)) else (some (.brk s61))) 0) fun res59=>fin res59 fun (s87:Int)=>bnd (bnd (chkI (s23.1 + s87)) fun n95=>if 64 < n95 then (bnd (chkI (s23.2.words + 1)) fun n109=>some (0,(⟨s23.2.fields,n109⟩:Pkr))) else (some (s23.1,s23.2)):Option (Int×Pkr)) fun y89=>bnd (chkI (y89.2.words - 1)) fun n133=>bnd (appI 32 y89.2.fields [(⟨n133,y89.1,s87,a26⟩:PFd)]) fun u142=>bnd (chkI (y89.1 + s87)) fun n155=>some (.next (n155,(⟨u142,y89.2.words⟩:Pkr))))) x0 0 (0,(⟨([]:List PFd),1⟩:Pkr))) fun res21=>fin res21 fun (s167:Int×Pkr)=>some ((some s167.2),(⟨0⟩:Err)))
theorem LG (x0:List Int):Le (HB x0) (Em x0):=by
  unfold HB Em
  repeat' (first|apply Le.ite|apply Le.bnd|apply Le.fin|apply Le.rng|apply Le.rngN|apply Le.lop|exact Le.rf|intro _)
noncomputable def Eb (x0:PFd):Option U64 :=
  bnd (shlU (1:U64) x0.width) fun n12=>bnd (shlU (n12 - (1:U64)) x0.bit) fun n14=>some n14
theorem FS (x0:PFd):Le (Eb x0) (Cu x0):=by
  unfold Eb Cu
  repeat' (first|apply Le.ite|apply Le.bnd|apply Le.fin|apply Le.rng|apply Le.rngN|apply Le.lop|exact Le.rf|intro _)
noncomputable def Fb (x0:PFd) (x1:List U64):Option Int :=
  bnd (atI x1 x0.word) fun a15=>bnd (Eb x0) fun q26=>bnd (shrU (a15 &&& q26) x0.bit) fun n33=>some n33.toInt
theorem IO (x0:PFd) (x1:List U64):Le (Fb x0 x1) (CR x0 x1):=by
  unfold Fb CR
  repeat' (first|apply FS|apply Le.ite|apply Le.bnd|apply Le.fin|apply Le.rng|apply Le.rngN|apply Le.lop|exact Le.rf|intro _)
noncomputable def EC (x0:Pkr) (x1:List Int):Option ((List U64)×Err) :=
  if (x1.length:Int)≠(x0.fields.length:Int) then (some (([]:List U64),(⟨2⟩:Err))) else (bnd (mkI 8 ((0:U64):U64) x0.words) fun u25=>bnd (rng (ρ:=(List U64)×Err) (fun (k50:Nat) (a51:PFd) (s48:(List U64))=>bnd (bnd (x1[k50]?) fun a87=>if a87 < 0 then (some true) else (bnd (x1[k50]?) fun a98=>if a51.size≤a98 then (some true) else (some false)):Option Bool) fun y83=>if y83=true then (some (.ret (([]:List U64),(⟨2⟩:Err)))) else (bnd (atI s48 a51.word) fun a114=>bnd (x1[k50]?) fun a125=>bnd (shlU (BitVec.ofInt 64 a125) a51.bit) fun n135=>bnd (atI s48 a51.word) fun a137=>some (.next (s48.set (a51.word:Int).toNat (a114 ||| n135))))) x0.fields 0 u25) fun res46=>fin res46 fun (s154:(List U64))=>some (s154,(⟨0⟩:Err)))
theorem HV (x0:Pkr) (x1:List Int):Le (EC x0 x1) (BD x0 x1):=by
  unfold EC BD
  repeat' (first|apply Le.ite|apply Le.bnd|apply Le.fin|apply Le.rng|apply Le.rngN|apply Le.lop|exact Le.rf|intro _)
noncomputable def En (x0:Pkr) (x1:List U64):Option ((List Int)×Err) :=
  if (x1.length:Int)≠x0.words then (some (([]:List Int),(⟨2⟩:Err))) else (bnd (mkI 8 (0:Int) (x0.fields.length:Int)) fun u25=>bnd (DY x1) fun q38=>bnd (rng (ρ:=(List Int)×Err) (fun (k60:Nat) (a61:PFd) (s58:(List Int)×(List U64))=>bnd (Fb a61 x1) fun q97=>bnd (s58.1[k60]?) fun a105=>bnd ((s58.1.set k60 q97)[k60]?) fun a117=>if a61.size≤a117 then (some (.ret (([]:List Int),(⟨2⟩:Err)))) else (bnd (atI s58.2 a61.word) fun a128=>bnd (Eb a61) fun q139=>bnd (atI s58.2 a61.word) fun a146=>some (.next ((s58.1.set k60 q97),(s58.2.set (a61.word:Int).toNat (a128 &&& ~~~q139)))))) x0.fields 0 (u25,q38)) fun res56=>fin res56 fun (s163:(List Int)×(List U64))=>bnd (rng (ρ:=(List Int)×Err) (fun (k171:Nat) (a172:U64) (s169:Unit)=>bnd (s163.2[k171]?) fun a182=>if (a182.toNat:Int)≠((0:U64).toNat:Int) then (some (.ret (([]:List Int),(⟨2⟩:Err)))) else (some (.next ()))) q38 0 ()) fun res167=>fin res167 fun (s196:Unit)=>some (s163.1,(⟨0⟩:Err)))
theorem Hh (x0:Pkr) (x1:List U64):Le (En x0 x1) (Cp x0 x1):=by
  unfold En Cp
  repeat' (first|apply IO|apply FS|apply Fw|apply Le.ite|apply Le.bnd|apply Le.fin|apply Le.rng|apply Le.rngN|apply Le.lop|exact Le.rf|intro _)
noncomputable def ED (x0:Pkr) (x1:List U64):Option Int :=
  bnd (rng (ρ:=Int) (fun (k13:Nat) (a14:U64) (s11:U64)=>bnd (shrU ((s11 ^^^ a14) * (13787848793156543929:U64)) 29) fun n31=>some (.next (((s11 ^^^ a14) * (13787848793156543929:U64)) ^^^ n31))) x1 0 ((BitVec.ofInt 64 (x1.length:Int)) + (11400714819323198485:U64))) fun res9=>fin res9 fun (s37:U64)=>bnd (shrU s37 2) fun n39=>some n39.toInt
theorem HW (x0:Pkr) (x1:List U64):Le (ED x0 x1) (BM x0 x1):=by
  unfold ED BM
  repeat' (first|apply Le.ite|apply Le.bnd|apply Le.fin|apply Le.rng|apply Le.rngN|apply Le.lop|exact Le.rf|intro _)
noncomputable def Dc (x0:List U64) (x1:List U64):Option Bool :=
  if (x0.length:Int)≠(x1.length:Int) then (some false) else (bnd (rng (ρ:=Bool) (fun (k18:Nat) (a19:U64) (s16:Unit)=>bnd (x1[k18]?) fun a36=>if (a19.toNat:Int)≠(a36.toNat:Int) then (some (.ret false)) else (some (.next ()))) x0 0 ()) fun res14=>fin res14 fun (s50:Unit)=>some true)
theorem Fx (x0:List U64) (x1:List U64):Le (Dc x0 x1) (Br x0 x1):=by
  unfold Dc Br
  repeat' (first|apply Le.ite|apply Le.bnd|apply Le.fin|apply Le.rng|apply Le.rngN|apply Le.lop|exact Le.rf|intro _)
noncomputable def FJ (x0:List Int):Option ((Option Reg)×Err) :=
  bnd (HB x0) fun q4=>if q4.2.n≠0 then (some (none,(⟨q4.2.n⟩:Err))) else (bnd q4.1 fun o22=>some ((some (⟨o22,([]:List REn),(⟨[]⟩:MapR 3 Int Int)⟩:Reg)),(⟨0⟩:Err)))
theorem JN (x0:List Int):Le (FJ x0) (CS x0):=by
  unfold FJ CS
  repeat' (first|apply LG|apply Le.ite|apply Le.bnd|apply Le.fin|apply Le.rng|apply Le.rngN|apply Le.lop|exact Le.rf|intro _)
noncomputable def DE (x0:Reg) (x1:List Int):Option ((List U64)×Int×Int×Err) :=
  bnd (EC x0.packer x1) fun q20=>if q20.2.n≠0 then (some (([]:List U64),0,(-1),(⟨2⟩:Err))) else (bnd (ED x0.packer q20.1) fun q41=>bnd (rng (ρ:=(List U64)×Int×Int×Err) (fun (k66:Nat) (a67:Int) (s64:Unit)=>bnd (atI x0.entries a67) fun a100=>bnd (Dc a100.words q20.1) fun q118=>if q118=true then some (.ret (q20.1,q41,a67,(⟨0⟩:Err))) else some (.next ())) (mget ([]:List Int) x0.table.l q41) 0 ()) fun res62=>fin res62 fun (s139:Unit)=>some (q20.1,q41,(-1),(⟨0⟩:Err)))
theorem Ge (x0:Reg) (x1:List Int):Le (DE x0 x1) (Bl x0 x1):=by
  unfold DE Bl
  repeat' (first|apply HW|apply HV|apply Fx|apply Le.ite|apply Le.bnd|apply Le.fin|apply Le.rng|apply Le.rngN|apply Le.lop|exact Le.rf|intro _)
noncomputable def Df (x0:Reg) (x1:List Int):Option (Int×Bool×Err×Reg) :=
  bnd (DE x0 x1) fun q5=>if q5.2.2.2.n≠0 then (some (0,false,(⟨q5.2.2.2.n⟩:Err),x0)) else (if 0≤q5.2.2.1 then (some (q5.2.2.1,false,(⟨0⟩:Err),x0)) else (if 65536≤(x0.entries.length:Int) then (some (0,false,(⟨10⟩:Err),x0)) else (bnd (appI 48 x0.entries [(⟨q5.1,(⟨(-1),(-1),0⟩:RLk)⟩:REn)]) fun u53=>bnd (appI 8 (mget ([]:List Int) x0.table.l q5.2.1) ([(x0.entries.length:Int)]:List Int)) fun u82=>some ((x0.entries.length:Int),true,(⟨0⟩:Err),(⟨x0.packer,u53,(⟨mput x0.table.l q5.2.1 u82⟩:MapR 3 Int Int)⟩:Reg)))))
theorem Gy (x0:Reg) (x1:List Int):Le (Df x0 x1) (Bh x0 x1):=by
  unfold Df Bh
  repeat' (first|apply Ge|apply Le.ite|apply Le.bnd|apply Le.fin|apply Le.rng|apply Le.rngN|apply Le.lop|exact Le.rf|intro _)
noncomputable def CI (x0:Reg):Option Int :=
  some (x0.entries.length:Int)
theorem DF (x0:Reg):Le (CI x0) (Bb x0):=by
  unfold CI Bb
  repeat' (first|apply Le.ite|apply Le.bnd|apply Le.fin|apply Le.rng|apply Le.rngN|apply Le.lop|exact Le.rf|intro _)
noncomputable def DJ (x0:Reg) (x1:Int):Option Bool :=
  bnd (if 0≤x1 then (if x1 < (x0.entries.length:Int) then (some true) else (some false)) else (some false):Option Bool) fun y3=>some y3
theorem Gz (x0:Reg) (x1:Int):Le (DJ x0 x1) (BW x0 x1):=by
  unfold DJ BW
  repeat' (first|apply Le.ite|apply Le.bnd|apply Le.fin|apply Le.rng|apply Le.rngN|apply Le.lop|exact Le.rf|intro _)
noncomputable def Dx (x0:Reg) (x1:Int):Option ((List Int)×Err) :=
  bnd (DJ x0 x1) fun q3=>if q3=true then bnd (atI x0.entries x1) fun a27=>bnd (En x0.packer a27.words) fun q45=>some (q45.1,(⟨q45.2.n⟩:Err)) else some (([]:List Int),(⟨1⟩:Err))
theorem FV (x0:Reg) (x1:Int):Le (Dx x0 x1) (By x0 x1):=by
  unfold Dx By
  repeat' (first|apply Hh|apply Gz|apply Le.ite|apply Le.bnd|apply Le.fin|apply Le.rng|apply Le.rngN|apply Le.lop|exact Le.rf|intro _)
noncomputable def Da (x0:Option Gnr) (x1:List Int):Option (List Suc) :=
  bnd (CZ x0 x1) fun q7=>bnd (rng (ρ:=(List Suc)) (fun (k23:Nat) (a24:Int) (s21:(List Suc))=>bnd (De x1) fun q46=>bnd (x0) fun o56=>bnd (atI o56.t.ops a24) fun a88=>bnd (rng (ρ:=Ctl (List Suc) (List Suc)) (fun (k115:Nat) (a116:Eff) (s113:(List Int))=>bnd (Gx a116.cond x1) fun q150=>if q150=true then bnd (atI s113 a116.var) fun a157=>some (.next (s113.set (a116.var:Int).toNat a116.val)) else some (.next s113)) a88.effs 0 q46) fun res111=>fin res111 fun (s175:(List Int))=>bnd (appI 32 s21 [(⟨a24,s175⟩:Suc)]) fun u179=>some (.next u179)) q7 0 ([]:List Suc)) fun res19=>fin res19 fun (s195:(List Suc))=>some s195
theorem Fl (x0:Option Gnr) (x1:List Int):Le (Da x0 x1) (Bj x0 x1):=by
  unfold Da Bj
  repeat' (first|apply EB|apply Fk|apply HP|apply Le.ite|apply Le.bnd|apply Le.fin|apply Le.rng|apply Le.rngN|apply Le.lop|exact Le.rf|intro _)
noncomputable def GA  : Option (Option Que) :=
  some (some (⟨([]:List QEn),0⟩:Que))
theorem Ky  : Le (GA ) (DD ):=by
  unfold GA DD
  repeat' (first|apply Le.ite|apply Le.bnd|apply Le.fin|apply Le.rng|apply Le.rngN|apply Le.lop|exact Le.rf|intro _)
noncomputable def DQ (x0:QEn) (x1:QEn):Option Bool :=
  if x0.key≠x1.key then (bnd (if x0.key < x1.key then (some true) else (some false):Option Bool) fun y24=>some y24) else (if x0.tie≠x1.tie then (bnd (if x0.tie < x1.tie then (some true) else (some false):Option Bool) fun y34=>some y34) else (bnd (if x0.number < x1.number then (some true) else (some false):Option Bool) fun y43=>some y43))
theorem GB (x0:QEn) (x1:QEn):Le (DQ x0 x1) (BQ x0 x1):=by
  unfold DQ BQ
  repeat' (first|apply Le.ite|apply Le.bnd|apply Le.fin|apply Le.rng|apply Le.rngN|apply Le.lop|exact Le.rf|intro _)
noncomputable def EE (x0:Que):Option Int :=
  some (x0.heap.length:Int)
theorem HX (x0:Que):Le (EE x0) (CB x0):=by
  unfold EE CB
  repeat' (first|apply Le.ite|apply Le.bnd|apply Le.fin|apply Le.rng|apply Le.rngN|apply Le.lop|exact Le.rf|intro _)
noncomputable def Eu (x0:Que):Option (Int×Int×Int×Err) :=
  if (x0.heap.length:Int)=0 then (some (0,0,0,(⟨3⟩:Err))) else (bnd (atI x0.heap 0) fun a20=>some (a20.key,a20.tie,a20.item,(⟨0⟩:Err)))
theorem HC (x0:Que):Le (Eu x0) (CO x0):=by
  unfold Eu CO
  repeat' (first|apply Le.ite|apply Le.bnd|apply Le.fin|apply Le.rng|apply Le.rngN|apply Le.lop|exact Le.rf|intro _)
noncomputable def ER (x0:Que) (x1:Int):Option Que :=
  bnd (lopE (ρ:=Que) (fun (s5:Int×Que)=>if 0 < s5.1 then (bnd (chkI (s5.1 - 1)) fun n23=>bnd (quoI n23 2) fun n26=>bnd (atI s5.2.heap s5.1) fun a39=>bnd (atI s5.2.heap n26) fun a54=>bnd (DQ a39 a54) fun q69=>if q69=true then bnd (atI s5.2.heap n26) fun a81=>bnd (atI s5.2.heap s5.1) fun a96=>bnd (atI s5.2.heap s5.1) fun a111=>bnd (atI (s5.2.heap.set (s5.1:Int).toNat a81) n26) fun a128=>some (.next (n26,(⟨((s5.2.heap.set (s5.1:Int).toNat a81).set (n26:Int).toNat a96),s5.2.next⟩:Que))) else some (.ret s5.2)) else (some (.brk (s5.1,s5.2)))) (x1,x0)) fun res3=>fin res3 fun (s154:Int×Que)=>some s154.2
theorem IA (x0:Que) (x1:Int):Le (ER x0 x1) (CM x0 x1):=by
  unfold ER CM
  repeat' (first|apply GB|apply Le.ite|apply Le.bnd|apply Le.fin|apply Le.rng|apply Le.rngN|apply Le.lop|exact Le.rf|intro _)
noncomputable def Ew (x0:Que) (x1:Int):Option Que :=
  bnd (lopE (ρ:=Que) (fun (s5:Int×Que)=>bnd (chkI (2 * s5.1)) fun n22=>bnd (chkI (n22 + 1)) fun n25=>if (s5.2.heap.length:Int)≤n25 then (some (.ret s5.2)) else (bnd (bnd (bnd (chkI (n25 + 1)) fun n55=>if n55 < (s5.2.heap.length:Int) then (bnd (chkI (n25 + 1)) fun n61=>bnd (atI s5.2.heap n61) fun a64=>bnd (atI s5.2.heap n25) fun a79=>bnd (DQ a64 a79) fun q94=>if q94=true then some true else some false) else (some false):Option Bool) fun y51=>if y51=true then (bnd (chkI (n25 + 1)) fun n121=>some n121) else (some n25):Option Int) fun y46=>bnd (atI s5.2.heap y46) fun a138=>bnd (atI s5.2.heap s5.1) fun a153=>bnd (DQ a138 a153) fun q168=>if q168=true then bnd (atI s5.2.heap y46) fun a180=>bnd (atI s5.2.heap s5.1) fun a195=>bnd (atI s5.2.heap s5.1) fun a210=>bnd (atI (s5.2.heap.set (s5.1:Int).toNat a180) y46) fun a227=>some (.next (y46,(⟨((s5.2.heap.set (s5.1:Int).toNat a180).set (y46:Int).toNat a195),s5.2.next⟩:Que))) else some (.ret s5.2))) (x1,x0)) fun res3=>fin res3 fun (_:Int×Que)=>none
theorem HD (x0:Que) (x1:Int):Le (Ew x0 x1) (Cw x0 x1):=by
  unfold Ew Cw
  repeat' (first|apply GB|apply Le.ite|apply Le.bnd|apply Le.fin|apply Le.rng|apply Le.rngN|apply Le.lop|exact Le.rf|intro _)
noncomputable def DH (x0:Que) (x1:Int) (x2:Int) (x3:Int):Option (Err×Que) :=
  if 65536≤(x0.heap.length:Int) then (some ((⟨10⟩:Err),x0)) else (bnd (appI 32 x0.heap [(⟨x1,x2,x3,x0.next⟩:QEn)]) fun u29=>bnd (chkI (x0.next + 1)) fun n42=>bnd (chkI ((u29.length:Int) - 1)) fun n49=>bnd (ER (⟨u29,n42⟩:Que) n49) fun q57=>some ((⟨0⟩:Err),q57))
theorem HE (x0:Que) (x1:Int) (x2:Int) (x3:Int):Le (DH x0 x1 x2 x3) (BG x0 x1 x2 x3):=by
  unfold DH BG
  repeat' (first|apply IA|apply Le.ite|apply Le.bnd|apply Le.fin|apply Le.rng|apply Le.rngN|apply Le.lop|exact Le.rf|intro _)
noncomputable def EF (x0:Que):Option (Int×Int×Int×Err×Que) :=
  bnd (Eu x0) fun q2=>if q2.2.2.2.n≠0 then (some (0,0,0,(⟨q2.2.2.2.n⟩:Err),x0)) else (bnd (chkI ((x0.heap.length:Int) - 1)) fun n35=>bnd (atI x0.heap n35) fun a38=>bnd (atI x0.heap 0) fun a53=>bnd (cutI (x0.heap.set (0:Int).toNat a38) 0 n35) fun u70=>bnd (Ew (⟨u70,x0.next⟩:Que) 0) fun q82=>some (q2.1,q2.2.1,q2.2.2.1,(⟨0⟩:Err),q82))
theorem HY (x0:Que):Le (EF x0) (Cl x0):=by
  unfold EF Cl
  repeat' (first|apply HC|apply HD|apply Le.ite|apply Le.bnd|apply Le.fin|apply Le.rng|apply Le.rngN|apply Le.lop|exact Le.rf|intro _)
noncomputable def Fc (x0:Tsk):Option Tsk :=
  bnd (De x0.vars) fun q29=>bnd (De x0.init) fun q31=>bnd (Cj x0.goal) fun q33=>bnd (some (q29,q31,q33):Option ((List Int)×(List Int)×(List Fct))) fun y35=>bnd (rng (ρ:=Tsk) (fun (k156:Nat) (a157:Opr) (s154:(List Opr))=>bnd (Cj a157.pre) fun q195=>bnd (rng (ρ:=Ctl (List Opr) Tsk) (fun (k213:Nat) (a214:Eff) (s211:(List Eff))=>bnd (Cj a214.cond) fun q248=>bnd (appI 40 s211 [(⟨q248,a214.var,a214.val⟩:Eff)]) fun u262=>some (.next u262)) a157.effs 0 ([]:List Eff)) fun res209=>fin res209 fun (s278:(List Eff))=>bnd (appI 72 s154 [(⟨a157.name,a157.cost,q195,s278⟩:Opr)]) fun u286=>some (.next u286)) x0.ops 0 ([]:List Opr)) fun res152=>fin res152 fun (s304:(List Opr))=>some (⟨y35.1,y35.2.1,y35.2.2,s304⟩:Tsk)
theorem IP (x0:Tsk):Le (Fc x0) (CC x0):=by
  unfold Fc CC
  repeat' (first|apply EQ|apply EB|apply Le.ite|apply Le.bnd|apply Le.fin|apply Le.rng|apply Le.rngN|apply Le.lop|exact Le.rf|intro _)
noncomputable def DR (x0:List (List Arc)) (x1:List Int):Option ((List Int)×(List Int)) :=
  bnd (mkI 8 (0:Int) (x0.length:Int)) fun u7=>bnd (mkI 8 (0:Int) (x0.length:Int)) fun u9=>bnd (some (u7,u9):Option ((List Int)×(List Int))) fun y11=>bnd (rngN (ρ:=(List Int)×(List Int)) (fun (k77:Nat) (s75:(List Int)×(List Int))=>bnd (s75.1[k77]?) fun a104=>bnd (s75.2[k77]?) fun a116=>some (.next ((s75.1.set k77 1125899906842624),(s75.2.set k77 1125899906842624)))) y11.1.length (y11.1,y11.2)) fun res73=>fin res73 fun (s132:(List Int)×(List Int))=>bnd (GA) fun q134=>bnd q134 fun o144=>bnd (rng (ρ:=(List Int)×(List Int)) (fun (k151:Nat) (a152:Int) (s149:(List Int)×(List Int)×Que)=>bnd (atI s149.1 a152) fun a180=>bnd (atI s149.2.1 a152) fun a194=>bnd (DH s149.2.2 0 0 a152) fun q208=>some (.next ((s149.1.set (a152:Int).toNat 0),(s149.2.1.set (a152:Int).toNat 0),q208.2))) x1 0 (s132.1,s132.2,o144)) fun res147=>fin res147 fun (s222:(List Int)×(List Int)×Que)=>bnd (lopE (ρ:=(List Int)×(List Int)) (fun (s226:(List Int)×(List Int)×Que)=>bnd (EE s226.2.2) fun q249=>if 0 < q249 then (bnd (EF s226.2.2) fun q260=>if q260.2.2.2.1.n≠0 then (some (.brk (s226.1,s226.2.1,q260.2.2.2.2))) else (bnd (bnd (atI s226.1 q260.2.2.1) fun a285=>if q260.1≠a285 then (some true) else (bnd (atI s226.2.1 q260.2.2.1) fun a298=>if q260.2.1≠a298 then (some true) else (some false)):Option Bool) fun y281=>if y281=true then (some (.next (s226.1,s226.2.1,q260.2.2.2.2))) else (bnd (atI x0 q260.2.2.1) fun a316=>bnd (rng (ρ:=Ctl ((List Int)×(List Int)×Que) ((List Int)×(List Int))) (fun (k337:Nat) (a338:Arc) (s335:(List Int)×(List Int)×Que)=>bnd (chkI (q260.1 + a338.weight)) fun n375=>bnd (chkI (q260.2.1 + 1)) fun n378=>bnd (bnd (atI s335.1 a338.dst) fun a385=>if a385 < n375 then (some true) else (bnd (atI s335.1 a338.dst) fun a398=>if n375=a398 then (bnd (atI s335.2.1 a338.dst) fun a411=>if a411≤n378 then (some true) else (some false)) else (some false)):Option Bool) fun y381=>if y381=true then (some (.next (s335.1,s335.2.1,s335.2.2))) else (bnd (atI s335.1 a338.dst) fun a429=>bnd (atI s335.2.1 a338.dst) fun a443=>bnd (DH s335.2.2 n375 n378 a338.dst) fun q457=>if q457.1.n≠0 then (bnd (FY x0 (s335.1.set (a338.dst:Int).toNat n375) (s335.2.1.set (a338.dst:Int).toNat n378)) fun q472=>some (.ret (.ret (q472.1,q472.2)))) else (some (.next ((s335.1.set (a338.dst:Int).toNat n375),(s335.2.1.set (a338.dst:Int).toNat n378),q457.2))))) a316 0 (s226.1,s226.2.1,q260.2.2.2.2)) fun res333=>fin res333 fun (s491:(List Int)×(List Int)×Que)=>some (.next (s491.1,s491.2.1,s491.2.2))))) else (some (.brk (s226.1,s226.2.1,s226.2.2)))) (s222.1,s222.2.1,s222.2.2)) fun res224=>fin res224 fun (s497:(List Int)×(List Int)×Que)=>some (s497.1,s497.2.1)
theorem HZ (x0:List (List Arc)) (x1:List Int):Le (DR x0 x1) (BN x0 x1):=by
  unfold DR BN
  repeat' (first|apply Iz|apply Ky|apply HX|apply HY|apply HE|apply Le.ite|apply Le.bnd|apply Le.fin|apply Le.rng|apply Le.rngN|apply Le.lop|exact Le.rf|intro _)
noncomputable def DK (x0:Spa):Option Spa :=
  bnd (CI x0.states) fun q45=>bnd (mkI 24 ([]:List Arc) q45) fun u55=>bnd (mkI 24 ([]:List Arc) q45) fun u57=>bnd (some (u55,u57):Option ((List (List Arc))×(List (List Arc)))) fun y59=>bnd (rng (ρ:=Spa) (fun (k179:Nat) (a180:Edj) (s177:(List (List Arc))×(List (List Arc)))=>bnd (atI x0.t.ops a180.label) fun a258=>bnd (atI s177.1 a180.src) fun a279=>bnd (appI 24 a279 [(⟨a180.src,a180.dst,a258.cost⟩:Arc)]) fun u304=>bnd (atI s177.1 a180.src) fun a315=>bnd (atI s177.2 a180.dst) fun a330=>bnd (appI 24 a330 [(⟨a180.dst,a180.src,a258.cost⟩:Arc)]) fun u355=>bnd (atI s177.2 a180.dst) fun a366=>some (.next ((s177.1.set (a180.src:Int).toNat u304),(s177.2.set (a180.dst:Int).toNat u355)))) x0.edges 0 (y59.1,y59.2)) fun res175=>fin res175 fun (s390:(List (List Arc))×(List (List Arc)))=>bnd (rng (ρ:=Spa) (fun (k446:Nat) (a447:Bool) (s444:(List Int))=>if a447=true then (bnd (appI 8 s444 [(k446:Int)]) fun u469=>some (.next u469)) else (some (.next s444))) x0.goals 0 ([]:List Int)) fun res442=>fin res442 fun (s485:(List Int))=>bnd (DR s390.1 ([0]:List Int)) fun q497=>bnd (DR s390.2 s485) fun q561=>some (⟨(⟨x0.t.vars,x0.t.init,x0.t.goal,x0.t.ops⟩:Tsk),x0.states,x0.edges,x0.goals,q497.1,q561.1,q561.2⟩:Spa)
theorem GC (x0:Spa):Le (DK x0) (BI x0):=by
  unfold DK BI
  repeat' (first|apply HZ|apply DF|apply Le.ite|apply Le.bnd|apply Le.fin|apply Le.rng|apply Le.rngN|apply Le.lop|exact Le.rf|intro _)
noncomputable def ES (x0:Tsk) (x1:Int):Option ((Option Spa)×Err) :=
  bnd (HQ x0) fun q25=>if q25.2.n≠0 then (some (none,(⟨q25.2.n⟩:Err))) else (bnd (FJ x0.vars) fun q40=>if q40.2.n≠0 then (some (none,(⟨q40.2.n⟩:Err))) else (if (max 0 (min x1 65536)) < 1 then (some (none,(⟨10⟩:Err))) else (bnd q40.1 fun o54=>bnd (Df o54 x0.init) fun q57=>if q57.2.2.1.n≠0 then (some (none,(⟨q57.2.2.1.n⟩:Err))) else (bnd (Fc x0) fun q74=>bnd (lopE (ρ:=(Option Spa)×Err) (fun (s105:Int×(List Edj)×(List Bool)×Reg)=>bnd (CI s105.2.2.2) fun q130=>if s105.1 < q130 then (bnd (Dx s105.2.2.2 s105.1) fun q141=>if q141.2.n≠0 then (some (.ret (none,(⟨q141.2.n⟩:Err)))) else (bnd (bnd (Gx x0.goal q141.1) fun q163=>if q163=true then bnd (appI 1 s105.2.2.1 [true]) fun u195=>some u195 else bnd (appI 1 s105.2.2.1 [false]) fun u176=>some u176:Option (List Bool)) fun y157=>bnd (Da q25.1 q141.1) fun q212=>bnd (rng (ρ:=Ctl (Int×(List Edj)×(List Bool)×Reg) ((Option Spa)×Err)) (fun (k227:Nat) (a228:Suc) (s225:(List Edj)×Reg)=>bnd (Df s225.2 a228.state) fun q263=>bnd (bnd (IX (⟨q263.2.2.1.n⟩:Err) (⟨10⟩:Err)) fun q283=>if q283=true then some true else if q263.2.1=true then (if (max 0 (min x1 65536))≤q263.1 then (some true) else (some false)) else (some false):Option Bool) fun y279=>if y279=true then (some (.ret (.ret (none,(⟨10⟩:Err))))) else (if q263.2.2.1.n≠0 then (some (.ret (.ret (none,(⟨q263.2.2.1.n⟩:Err))))) else (bnd (appI 24 s225.1 [(⟨s105.1,a228.op,q263.1⟩:Edj)]) fun u304=>some (.next (u304,q263.2.2.2))))) q212 0 (s105.2.1,s105.2.2.2)) fun res223=>fin res223 fun (s321:(List Edj)×Reg)=>bnd (chkI (s105.1 + 1)) fun n323=>some (.next (n323,s321.1,y157,s321.2)))) else (some (.brk (s105.1,s105.2.1,s105.2.2.1,s105.2.2.2)))) (0,([]:List Edj),([]:List Bool),q57.2.2.2)) fun res103=>fin res103 fun (s330:Int×(List Edj)×(List Bool)×Reg)=>bnd (DK (⟨(⟨q74.vars,q74.init,q74.goal,q74.ops⟩:Tsk),s330.2.2.2,s330.2.1,s330.2.2.1,([]:List Int),([]:List Int),([]:List Int)⟩:Spa)) fun q341=>some ((some q341),(⟨0⟩:Err))))))
theorem IB (x0:Tsk) (x1:Int):Le (ES x0 x1) (Cf x0 x1):=by
  unfold ES Cf
  repeat' (first|apply Ls|apply GC|apply IP|apply JN|apply Gy|apply DF|apply FV|apply Fl|apply Kb|apply HP|apply Le.ite|apply Le.bnd|apply Le.fin|apply Le.rng|apply Le.rngN|apply Le.lop|exact Le.rf|intro _)
noncomputable def Ex (x0:Spa):Option Int :=
  bnd (CI x0.states) fun q45=>some q45
theorem HF (x0:Spa):Le (Ex x0) (Dg x0):=by
  unfold Ex Dg
  repeat' (first|apply DF|apply Le.ite|apply Le.bnd|apply Le.fin|apply Le.rng|apply Le.rngN|apply Le.lop|exact Le.rf|intro _)
noncomputable def HR  : Option Bool :=
  bnd (ES (⟨([2]:List Int),([0]:List Int),([]:List Fct),[(⟨(⟨#[]⟩:ByteArray),0,([]:List Fct),[(⟨([]:List Fct),0,1⟩:Eff)]⟩:Opr)]⟩:Tsk) 5) fun q33=>bnd (if q33.2.n=0 then (if q33.1.isNone=false then (bnd q33.1 fun o53=>bnd (Ex o53) fun q57=>if q57=2 then (some true) else (some false)) else (some false)) else (some false):Option Bool) fun y47=>some y47
theorem Kc  : Le (HR ) (Dr ):=by
  unfold HR Dr
  repeat' (first|apply IB|apply HF|apply Le.ite|apply Le.bnd|apply Le.fin|apply Le.rng|apply Le.rngN|apply Le.lop|exact Le.rf|intro _)
set_option maxRecDepth 100000 in
theorem awake25:Dr=some true:=Kc true (by kernel_rfl)
end
section
set_option linter.unusedVariables false
set_option linter.unusedSimpArgs false
open Go Go.RowKit
theorem Po {t:Tsk} (h:SmallOk t):Ee t=some true:=by unfold Ee;rw [Ce h]
theorem Pp {t:Tsk} (h:¬ SmallOk t):Ee t=some false:=by unfold Ee;rw [Bn h]
theorem lim512:512≤limE 512:=by unfold limE;omega
theorem SpX.dists {t:Tsk} {L:List (List Int)} {x:Spa} (h:SpX t L x) (hl:L.length≤600):Cx x=some x.distances:=by
  unfold Cx
  rw [Hs (by rw [h.sp.dl];omega),Ar]
theorem SpX.find {t:Tsk} {L:List (List Int)} {x:Spa} (h:SpX t L x) (hok:TaskOk t) {s:List Int} (hs:StateOk t.vars s):(∃ i:Nat,L[i]?=some s∧Cq x s=some ((i:Int),⟨0⟩))∨(¬ s∈L∧Cq x s=some (0,⟨3⟩)):=by
  unfold Cq CY
  obtain ⟨ws,hh,_,_,hf⟩:=JL hok.1 h.reg hs
  rcases hf with ⟨i,hi,hf⟩|⟨hno,hf⟩
  · rw [hf,Ar]
    refine .inl ⟨i,hi,?_⟩
    dsimp only
    rw [if_neg (by simp),if_neg (by omega),Ar]
  · rw [hf,Ar]
    refine .inr ⟨fun hm=>?_,?_⟩
    · obtain ⟨i,hi⟩:=List.getElem?_of_mem hm
      exact hno i hi
    · dsimp only
      rw [if_neg (by simp),if_pos (by omega),Ar]
end
section
set_option linter.unusedVariables false
set_option linter.unusedSimpArgs false
open Go Go.RowKit
theorem LZ (a b:Int):∃ c,Du a b=some c∧(c < 0↔a < b)∧(c=0↔a=b):=by
  unfold Du DP
  by_cases h:a < b
  · exact ⟨-1,by simp [bnd,h],by simp [h],by simp;omega⟩
  · by_cases h2:b < a
    · exact ⟨1,by simp [bnd,h,h2],by simp;omega,by simp;omega⟩
    · exact ⟨0,by simp [bnd,h,h2],by simp;omega,by simp;omega⟩
theorem Pq {m:Nat} (h:m≤1000000000):∃ v:U64,shrU (BitVec.ofInt 64 (m:Int)) 1=some v∧v.toInt=((m / 2:Nat):Int):=by
  refine ⟨BitVec.ofInt 64 (m:Int) >>> 1,rfl,?_⟩
  have e:BitVec.ofInt 64 (m:Int)=BitVec.ofNat 64 m:=by simp
  have e2:(BitVec.ofNat 64 m >>> 1).toNat=m / 2:=by
    rw [BitVec.toNat_ushiftRight,BitVec.toNat_ofNat,Nat.mod_eq_of_lt (by omega),Nat.shiftRight_eq_div_pow]
  rw [e,BitVec.toInt_eq_toNat_of_lt (by rw [e2];omega),e2]
theorem MD {es:List Edj} (hl:es.length≤100000) (hsrt:∀ (i j:Nat) a b,i < j→es[i]?=some a→es[j]?=some b→a.src≤b.src) (x:Int) :
    ∃ (f:Nat) (b:Bool),AM es x=some ((f:Int),b)∧f≤es.length∧(∀ (i:Nat) a,i < f→es[i]?=some a→a.src < x)∧∀ (i:Nat) a,f≤i→es[i]?=some a→x≤a.src:=by
  unfold AM
  have key:=Qh (ρ:=Int×Bool) (f:=fun (s10:Int×Int)=>if s10.1 < s10.2 then (bnd (chkI (s10.1 + s10.2)) fun n28=>bnd (shrU (BitVec.ofInt 64 n28) 1) fun n31=>bnd (atI es n31.toInt) fun a33=>bnd (BX a33 x) fun q47=>if q47 < 0 then (bnd (chkI (n31.toInt + 1)) fun n56=>some (.next (n56,s10.2))) else (some (.next (s10.1,n31.toInt)))) else (some (.brk (s10.1,s10.2))))
    (fun s=>∃ i j:Nat,s=((i:Int),(j:Int))∧i≤j∧j≤es.length∧(∀ (k:Nat) a,k < i→es[k]?=some a→a.src < x)∧∀ (k:Nat) a,j≤k→es[k]?=some a→x≤a.src)
    (fun s=>∃ i:Nat,s=((i:Int),(i:Int))∧i≤es.length∧(∀ (k:Nat) a,k < i→es[k]?=some a→a.src < x)∧∀ (k:Nat) a,i≤k→es[k]?=some a→x≤a.src)
    (fun s=>(s.2 - s.1).toNat) (fun s ⟨i,j,hs,h1,h2,h3,h4⟩=>by
      subst hs
      dsimp only
      by_cases hij:i < j
      · obtain ⟨v,v1,v2⟩:=Pq (m:=i + j) (by omega)
        obtain ⟨a,ha⟩:=AE (l:=es) (k:=(i + j) / 2) (by omega)
        obtain ⟨c,c1,c2,_⟩:=LZ a.src x
        rw [if_pos (by omega),Cm (by unfold inI64;omega),Ar,show (i:Int) + (j:Int)=((i + j:Nat):Int) from by omega,v1,Ar,v2,BT,ha,Ar]
        unfold BX
        rw [c1,Ar,Ar]
        by_cases hc:c < 0
        · rw [if_pos hc,Cm (by unfold inI64;omega),Ar]
          refine .inl ⟨_,rfl,⟨(i + j) / 2 + 1,j,by simp,by omega,h2,fun k b hk hb=>?_,h4⟩,by dsimp only;omega⟩
          have hax:=c2.1 hc
          by_cases e:k=(i + j) / 2
          · subst e;rw [ha] at hb;obtain rfl:=Option.some.inj hb;exact hax
          · have:=hsrt k ((i + j) / 2) b a (by omega) hb ha;omega
        · rw [if_neg hc]
          refine .inl ⟨_,rfl,⟨i,(i + j) / 2,rfl,by omega,by omega,h3,fun k b hk hb=>?_⟩,by dsimp only;omega⟩
          have hax:x≤a.src:=by
            refine Int.not_lt.1 fun hh=>hc (c2.2 hh)
          by_cases e:k=(i + j) / 2
          · subst e;rw [ha] at hb;obtain rfl:=Option.some.inj hb;exact hax
          · have:=hsrt ((i + j) / 2) k a b (by omega) ha hb;omega
      · obtain rfl:i=j:=by omega
        rw [if_neg (by omega)]
        exact .inr ⟨_,rfl,i,rfl,h2,h3,h4⟩) (0,(es.length:Int)) ⟨0,es.length,rfl,by omega,by omega,fun k a hk=>by omega,fun k a hk ha=>by have:=AC ha;omega⟩
  obtain ⟨s,k1,i,rfl,k2,k3,k4⟩:=key
  rw [k1,Ar,Dj]
  dsimp only
  by_cases hi:i < es.length
  · obtain ⟨a,ha⟩:=AE (l:=es) (k:=i) hi
    obtain ⟨c,c1,_,_⟩:=LZ a.src x
    rw [if_pos (by omega),BT,ha,Ar]
    unfold BX
    rw [c1,Ar,Ar]
    by_cases hc:c=0
    · rw [if_pos hc,Ar];exact ⟨i,true,rfl,k2,k3,k4⟩
    · rw [if_neg hc,Ar];exact ⟨i,false,rfl,k2,k3,k4⟩
  · rw [if_neg (by omega),Ar]
    exact ⟨i,false,rfl,k2,k3,k4⟩
def tightB (t:Tsk) (d k:List Int) (i:Nat) (e:Edj):Bool:=decide (e.src=(i:Int)) && decide (gI d e.dst.toNat + costE t e=gI d i) && decide (gI k e.dst.toNat + 1=gI k i)
theorem EL {t:Tsk} {d k:List Int} {i:Nat} {e:Edj}:tightB t d k i e=true↔e.src=(i:Int)∧gI d e.dst.toNat + costE t e=gI d i∧gI k e.dst.toNat + 1=gI k i:=by unfold tightB;simp [and_assoc]
theorem Lt {t:Tsk} {L:List (List Int)}:∀ (n:Nat),(edgL t L n).Pairwise fun a b=>a.src≤b.src
  | 0=>by simp [edgL]
  | n + 1=>by
    have ih:=Lt (t:=t) (L:=L) n
    cases hs:L[n]? with
    | none =>
      have e:edgL t L (n + 1)=edgL t L n:=by
        unfold edgL
        rw [List.range_succ,List.flatMap_append,List.flatMap_singleton,hs]
        simp
      rw [e];exact ih
    | some s =>
      have hk:∀ e∈edgK t L s n (appN t s t.ops.length),e.src=(n:Int):=fun e he=>by
        obtain ⟨k,_,rfl⟩:=List.mem_map.1 he;rfl
      rw [Ku hs,List.pairwise_append]
      refine ⟨ih,?_,fun a ha b hb=>?_⟩
      · rw [List.pairwise_iff_getElem]
        intro i j hi hj _
        rw [hk _ (List.getElem_mem hi),hk _ (List.getElem_mem hj)];exact Int.le_refl _
      · obtain ⟨j,k,s,h1,_,_,rfl⟩:=Jm.1 ha
        rw [hk b hb];dsimp only;omega
theorem Pr {es:List Edj} (h:es.Pairwise fun a b=>a.src≤b.src) (i j:Nat) (a b:Edj) (hij:i < j) (ha:es[i]?=some a) (hb:es[j]?=some b):a.src≤b.src:=by
  obtain ⟨a1,b1⟩:=List.getElem?_eq_some_iff.1 ha
  obtain ⟨a2,b2⟩:=List.getElem?_eq_some_iff.1 hb
  have:=(List.pairwise_iff_getElem.1 h) i j a1 a2 hij
  rwa [b1,b2] at this
structure PlI (t:Tsk) (L:List (List Int)) (d k:List Int):Prop where
  ok:Mid t
  bl:BL t L
  clo:CloL t L.length L
  eo:EdgesOk t L.length (edgL t L L.length)
  dl:d.length=L.length
  kl:k.length=L.length
  lex:LexP L.length (bwdA t (edgL t L L.length)) (fun i=>(goalsL t L)[i]?=some true) (gI d) (gI k)
  bnd:∀ i,gI d i≠Inf→i < L.length∧0≤gI d i∧gI d i≤600 * 1048576∧0≤gI k i∧gI k i≤600
section
variable {t : Tsk} {L : List (List Int)} {d k : List Int}
theorem PlI.of {lim:Int} (hs:Mid t) (h:EndL t lim L) {x:Spa} (hx:SpX t L x):PlI t L x.distances x.steps:=⟨hs,h.bl,h.clo,h.edges hs,hx.sp.dl,hx.sp.sl,hx.sp.dist,hx.sp.bnd⟩
theorem PlI.find (h:PlI t L d k) {i:Nat} (hd:gI d i≠Inf) (hk:0 < gI k i):∃ e,(edgL t L L.length).find? (tightB t d k i)=some e∧e∈edgL t L L.length∧tightB t d k i e=true∧gI d e.dst.toNat≠Inf:=by
  have hI:Inf=1125899906842624:=rfl
  have hex:∃ e∈edgL t L L.length,tightB t d k i e=true:=by
    rcases h.lex.tight hd with ⟨_,_,h0⟩|⟨j,w,hm,hj,h1,h2⟩
    · omega
    · obtain ⟨e,e1,e2,e3,e4⟩:=NZ.1 hm
      have:=h.eo.ok e e1
      refine ⟨e,e1,EL.2 ⟨by omega,?_,?_⟩⟩
      · rw [e2,Int.toNat_natCast,e4];exact h1.symm
      · rw [e2,Int.toNat_natCast];exact h2.symm
  cases hf:(edgL t L L.length).find? (tightB t d k i) with
  | none =>
    obtain ⟨e,e1,e2⟩:=hex
    have:=List.find?_eq_none.1 hf e e1
    exact (this e2).elim
  | some e =>
    have h1:=List.find?_some hf
    have h2:=List.mem_of_find?_eq_some hf
    obtain ⟨_,e2,_⟩:=EL.1 h1
    obtain ⟨o,_,_,c1,_⟩:=Gv h.ok.ok h.eo h2
    have:=h.bnd i hd
    exact ⟨e,rfl,h2,h1,by omega⟩
inductive Pl (t:Tsk) (L:List (List Int)) (d k:List Int):Nat→List Int→Prop
  | nil {i:Nat}:gI d i≠Inf→gI k i=0→Pl t L d k i []
  | cons {i:Nat} {e:Edj} {p:List Int}:gI d i≠Inf→0 < gI k i→(edgL t L L.length).find? (tightB t d k i)=some e→Pl t L d k e.dst.toNat p→Pl t L d k i (e.label :: p)
theorem OK (h:PlI t L d k):∀ (n i:Nat),gI d i≠Inf→gI k i=(n:Int)→∃ p,Pl t L d k i p∧p.length=n
  | 0,i,hd,hk=>⟨[],.nil hd hk,rfl⟩
  | n + 1,i,hd,hk=>by
    obtain ⟨e,e1,e2,e3,e4⟩:=h.find hd (by omega)
    obtain ⟨_,_,t3⟩:=EL.1 e3
    obtain ⟨p,p1,p2⟩:=OK h n e.dst.toNat e4 (by omega)
    exact ⟨e.label :: p,.cons hd (by omega) e1 p1,by simp [p2]⟩
theorem PlI.plan (h:PlI t L d k) {i:Nat} (hd:gI d i≠Inf):∃ p,Pl t L d k i p∧p.length≤600:=by
  have:=h.bnd i hd
  obtain ⟨p,h1,h2⟩:=OK h (gI k i).toNat i hd (by omega)
  exact ⟨p,h1,by omega⟩
end
-- the program
noncomputable def nxF (x0:Spa) (x1:Int):Edj→Option (Ctl Unit (Int×Int)):=fun a76=>if a76.src≠x1 then (some (.brk ())) else (bnd (bnd (atI x0.distances a76.dst) fun a151=>bnd (atI x0.t.ops a76.label) fun a163=>bnd (chkI (a151 + a163.cost)) fun n184=>bnd (atI x0.distances x1) fun a187=>if n184=a187 then (bnd (atI x0.steps a76.dst) fun a200=>bnd (chkI (a200 + 1)) fun n212=>bnd (atI x0.steps x1) fun a215=>if n212=a215 then (some true) else (some false)) else (some false):Option Bool) fun y104=>if y104=true then (some (.ret (a76.label,a76.dst))) else (some (.next ())))
theorem Qw (x0:Spa) (x1:Int):CG x0 x1=bnd (AM x0.edges x1) fun q46=>bnd (cutI x0.edges q46.1 (x0.edges.length:Int)) fun u58=>bnd (rng (ρ:=Int×Int) (fun (_:Nat) (a76:Edj) (_:Unit)=>nxF x0 x1 a76) u58 0 ()) fun res71=>fin res71 fun (s252:Unit)=>some ((-1),(-1)):=rfl
theorem ME {t:Tsk} {L:List (List Int)} {d k st:List Int} (h:PlI t L d k) (hst:st.length=L.length) (hse:∀ i,gI d i≠Inf→gI st i=gI k i) {i:Nat} (hi:gI d i≠Inf) {e:Edj} (he:e∈edgL t L L.length) (hsrc:e.src=(i:Int)) {ops:List Opr} (ho:ops=t.ops) :
    (bnd (atI d e.dst) fun a151=>bnd (atI ops e.label) fun a163=>bnd (chkI (a151 + a163.cost)) fun n184=>bnd (atI d (i:Int)) fun a187=>if n184=a187 then (bnd (atI st e.dst) fun a200=>bnd (chkI (a200 + 1)) fun n212=>bnd (atI st (i:Int)) fun a215=>if n212=a215 then (some true) else (some false)) else (some false):Option Bool)=some (tightB t d k i e):=by
  subst ho
  have hI:Inf=1125899906842624:=rfl
  obtain ⟨s1,s2,d1,d2,_,_⟩:=h.eo.ok e he
  obtain ⟨o,o1,o2,c1,c2⟩:=Gv h.ok.ok h.eo he
  obtain ⟨j,hj⟩:∃ j:Nat,e.dst=(j:Int):=⟨e.dst.toNat,by omega⟩
  have hb:=h.bnd i hi
  have hdl:=h.dl
  have hkl:=h.kl
  have hin:inI64 (gI d j + costE t e):=by
    unfold inI64
    by_cases e1:gI d j=Inf
    · omega
    · have:=h.bnd j e1;omega
  rw [hj,Ea (by omega),Ar,o1,Ar,← o2,Cm hin,Ar,Ea (by omega),Ar,Ea (by omega),Ar,Ea (by omega)]
  have et:tightB t d k i e=(decide (gI d j + costE t e=gI d i) && decide (gI k j + 1=gI k i)):=by
    unfold tightB;rw [hsrc,hj,Int.toNat_natCast];simp
  rw [et]
  by_cases h1:gI d j + costE t e=gI d i
  · have hjn:gI d j≠Inf:=by omega
    have hbj:=h.bnd j hjn
    rw [if_pos h1,hse j hjn,Cm (by unfold inI64;omega),Ar,hse i hi,Ar]
    by_cases h2:gI k j + 1=gI k i
    · rw [if_pos h2];simp [h1,h2]
    · rw [if_neg h2];simp [h1,h2]
  · rw [if_neg h1];simp [h1]
theorem Ma {t:Tsk} {L:List (List Int)} {x:Spa} (hx:SpX t L x) (h:PlI t L x.distances x.steps) {i:Nat} (hi:gI x.distances i≠Inf):∀ (l:List Edj) (j:Nat),(∀ e∈l,e∈edgL t L L.length)→(∀ e∈l,(i:Int)≤e.src)→l.Pairwise (fun a b=>a.src≤b.src) →
    rng (ρ:=Int×Int) (fun (_:Nat) (a76:Edj) (_:Unit)=>nxF x (i:Int) a76) l j ()=some (match l.find? (tightB t x.distances x.steps i) with|some e=>.ret (e.label,e.dst)|none=>.done ())
  | [],_,_,_,_=>rfl
  | e :: l,j,h1,h2,h3=>by
    have he:=h1 e List.mem_cons_self
    have hpw:=List.pairwise_cons.1 h3
    simp only [rng]
    by_cases hs:e.src=(i:Int)
    · have hne:¬ e.src≠(i:Int):=fun hh=>hh hs
      have ht:=ME h h.kl (fun _ _=>rfl) hi he hs (ops:=x.t.ops) (by rw [hx.sp.t_])
      have ef:nxF x (i:Int) e=some (if tightB t x.distances x.steps i e=true then .ret (e.label,e.dst) else .next ()):=by
        unfold nxF
        rw [if_neg hne,ht,Ar]
        split<;>rfl
      rw [ef]
      cases hb:tightB t x.distances x.steps i e with
      | true=>rw [List.find?_cons,hb];rfl
      | false =>
        rw [List.find?_cons,hb]
        exact Ma hx h hi l (j + 1) (fun a ha=>h1 a (List.mem_cons_of_mem _ ha)) (fun a ha=>h2 a (List.mem_cons_of_mem _ ha)) hpw.2
    · have ef:nxF x (i:Int) e=some (.brk ()):=by unfold nxF;rw [if_pos hs]
      rw [ef]
      have hlt:(i:Int) < e.src:=by have:=h2 e List.mem_cons_self;omega
      have hn:(e :: l).find? (tightB t x.distances x.steps i)=none:=by
        rw [List.find?_eq_none]
        intro a ha hta
        have hs2:=(EL.1 hta).1
        rcases List.mem_cons.1 ha with rfl|ha
        · exact hs hs2
        · have:=hpw.1 a ha;omega
      rw [hn]
theorem Ps {t:Tsk} {L:List (List Int)} {x:Spa} (hx:SpX t L x) (h:PlI t L x.distances x.steps) {i:Nat} (hi:gI x.distances i≠Inf) {e:Edj} (he:(edgL t L L.length).find? (tightB t x.distances x.steps i)=some e):CG x (i:Int)=some (e.label,e.dst):=by
  have hsrt:=Lt (t:=t) (L:=L) L.length
  have hfew:=h.eo.few
  obtain ⟨f,b,f1,f2,f3,f4⟩:=MD (es:=edgL t L L.length) (by omega) (Pr hsrt) (i:Int)
  rw [Qw,hx.sp.ed,f1,Ar]
  dsimp only
  rw [OP f2 (Nat.le_refl _),Ar,List.take_length,Ma hx h hi ((edgL t L L.length).drop f) 0 (fun e he=>List.mem_of_mem_drop he) (fun e he=>by
    obtain ⟨q,hq⟩:=List.getElem?_of_mem he
    rw [List.getElem?_drop] at hq
    exact f4 (f + q) e (by omega) hq) (hsrt.sublist (List.drop_sublist _ _))]
  have hsplit:(edgL t L L.length).find? (tightB t x.distances x.steps i)=((edgL t L L.length).drop f).find? (tightB t x.distances x.steps i):=by
    conv=>lhs;rw [← List.take_append_drop f (edgL t L L.length)]
    rw [List.find?_append]
    have:((edgL t L L.length).take f).find? (tightB t x.distances x.steps i)=none:=by
      rw [List.find?_eq_none]
      intro a ha hta
      obtain ⟨q,hq⟩:=List.getElem?_of_mem ha
      have hql:=AC hq
      rw [List.length_take] at hql
      have:=f3 q a (by omega) (GN hq)
      have:=(EL.1 hta).1
      omega
    rw [this];rfl
  rw [← hsplit,he,Ar]
  rfl
noncomputable def plF (x0:Spa):List Int×Int→Option (Ctl (List Int×Int) (List Int×Int×Err)):=fun s70=>bnd (atI x0.steps s70.2) fun a132=>if 0 < a132 then (bnd (CG x0 s70.2) fun q150=>if q150.2 < 0 then (some (.ret (([]:List Int),0,(⟨3⟩:Err)))) else (bnd (appI 8 s70.1 [q150.1]) fun u165=>some (.next (u165,q150.2)))) else (some (.brk (s70.1,s70.2)))
theorem Ns (x0:Spa):CH x0=bnd (atI x0.distances 0) fun a45=>if 1125899906842624≤a45 then (some (([]:List Int),0,(⟨3⟩:Err))) else (bnd (lop (plF x0) (([]:List Int),0)) fun res68=>fin res68 fun (s186:(List Int)×Int)=>bnd (atI x0.distances 0) fun a231=>some (s186.1,a231,(⟨0⟩:Err))):=rfl
theorem Pt {t:Tsk} {L:List (List Int)} {x:Spa} (hx:SpX t L x) (h:PlI t L x.distances x.steps) {i:Nat} {p:List Int} (hp:Pl t L x.distances x.steps i p):∀ acc:List Int,acc.length + p.length≤1000000→∃ q,lop (plF x) (acc,(i:Int))=some (.done (acc ++ p,q)):=by
  induction hp with
  | @nil i hd hk =>
    intro acc _
    have hi:=(h.bnd i hd).1
    rw [Fp]
    unfold plF
    dsimp only
    rw [Ea (by rw [h.kl];exact hi),Ar,hk,if_neg (by omega)]
    exact ⟨_,by rw [List.append_nil]⟩
  | @cons i e p hd hk hf _ ih =>
    intro acc hacc
    have hi:=(h.bnd i hd).1
    have he:=List.mem_of_find?_eq_some hf
    obtain ⟨_,_,d1,d2,_,_⟩:=h.eo.ok e he
    simp only [List.length_cons] at hacc
    rw [Fp]
    unfold plF
    dsimp only
    rw [Ea (by rw [h.kl];exact hi),Ar,if_pos hk,Ps hx h hd hf,Ar]
    dsimp only
    rw [if_neg (by omega),CF (by rw [List.length_singleton];omega) (by rw [List.length_singleton];omega),Ar]
    dsimp only
    obtain ⟨q,hq⟩:=ih (acc ++ [e.label]) (by rw [List.length_append,List.length_singleton];omega)
    rw [show ((e.dst.toNat:Nat):Int)=e.dst from by omega] at hq
    exact ⟨q,by rw [show acc ++ e.label :: p=acc ++ [e.label] ++ p from by simp];exact hq⟩
theorem Nt {t:Tsk} {L:List (List Int)} {x:Spa} (hx:SpX t L x) (h:PlI t L x.distances x.steps) (hd:gI x.distances 0=Inf):CH x=some ([],0,⟨3⟩):=by
  have h0:=AC h.bl.root
  rw [Ns,show (0:Int)=((0:Nat):Int) from rfl,Ea (by rw [h.dl];exact h0),Ar,hd,if_pos (by unfold Inf;omega)]
theorem Nu {t:Tsk} {L:List (List Int)} {x:Spa} (hx:SpX t L x) (h:PlI t L x.distances x.steps) (hd:gI x.distances 0≠Inf) {p:List Int} (hp:Pl t L x.distances x.steps 0 p) (hl:p.length≤600):CH x=some (p,gI x.distances 0,⟨0⟩):=by
  have h0:=AC h.bl.root
  have hb:=h.bnd 0 hd
  obtain ⟨q,hq⟩:=Pt hx h hp [] (by simp;omega)
  have hat:atI x.distances 0=some (gI x.distances 0):=Ea (i:=0) (by rw [h.dl];exact h0)
  rw [Ns,hat,Ar,if_neg (by omega)]
  have hq':lop (plF x) ([],0)=some (.done (p,q)):=hq
  rw [hq',Ar,Dj,Ar]
-- the document
abbrev LI:=List Int×Int
end
section
set_option linter.unusedVariables false
set_option linter.unusedSimpArgs false
open Go Go.RowKit
section
variable {t : Tsk} {L : List (List Int)} {d k : List Int}
theorem PlI.step (h:PlI t L d k) {i:Nat} {s:List Int} (hs:L[i]?=some s) {e:Edj} (he:e∈edgL t L L.length) (hsrc:e.src=(i:Int)):∃ (q:Nat) (o:Opr),e.label=(q:Int)∧t.ops[q]?=some o∧holdsB o.pre s=true∧L[e.dst.toNat]?=some (succ o s)∧costE t e=o.cost∧e.dst=idxE L (succ o s):=by
  obtain ⟨j,q,s',hj,hsj,hk,rfl⟩:=Jm.1 he
  obtain rfl:j=i:=by dsimp only at hsrc;omega
  rw [hs] at hsj
  obtain rfl:=Option.some.inj hsj
  obtain ⟨o,ho,hp,hsu⟩:=Fj hk
  obtain ⟨i',e1,e2⟩:=JZ (h.clo j s q hj hs hk)
  refine ⟨q,o,rfl,ho,hp,?_,?_,?_⟩
  · dsimp only;rw [e1,Int.toNat_natCast,← hsu];exact e2
  · unfold costE;dsimp only;rw [Int.toNat_natCast,ho]
  · dsimp only;rw [hsu]
theorem PlI.tight (h:PlI t L d k) {i:Nat} {s:List Int} (hs:L[i]?=some s) {e:Edj} (hf:(edgL t L L.length).find? (tightB t d k i)=some e):∃ (q:Nat) (o:Opr),e.label=(q:Int)∧t.ops[q]?=some o∧holdsB o.pre s=true∧L[e.dst.toNat]?=some (succ o s)∧gI d i=o.cost + gI d e.dst.toNat∧e.dst=idxE L (succ o s):=by
  obtain ⟨t1,t2,t3⟩:=EL.1 (List.find?_some hf)
  obtain ⟨q,o,q1,q2,q3,q4,q5,q6⟩:=h.step hs (List.mem_of_find?_eq_some hf) t1
  exact ⟨q,o,q1,q2,q3,q4,by rw [← q5];omega,q6⟩
theorem Pl.plan (h:PlI t L d k) {i:Nat} {p:List Int} (hp:Pl t L d k i p):∀ {s:List Int},L[i]?=some s→∃ s',PlanR t s p s' (gI d i)∧holdsB t.goal s'=true:=by
  induction hp with
  | @nil i hd hk =>
    intro s hs
    rcases h.lex.tight hd with ⟨h1,h2,_⟩|⟨j,w,_,hj,_,h2⟩
    · rw [h2]
      refine ⟨s,.nil,?_⟩
      unfold goalsL at h1
      rw [List.getElem?_map,hs] at h1
      exact Option.some.inj h1
    · have:=h.bnd j hj;omega
  | @cons i e p hd hk hf _ ih =>
    intro s hs
    obtain ⟨q,o,q1,q2,q3,q4,q5,_⟩:=h.tight hs hf
    obtain ⟨s',r1,r2⟩:=ih q4
    rw [q1,q5]
    exact ⟨s',.cons q2 q3 r1,r2⟩
end
noncomputable def svG (x0:Tsk) (o77:Spa) (q99:List Int):Int→LI→Option (Ctl LI Bool):=fun a206 s203=>bnd (Eh x0 s203.1 a206) fun q230=>bnd (if q230.2.n≠0 then (some true) else (if a206 < 0 then (some true) else (if (x0.ops.length:Int)≤a206 then (some true) else (some false))):Option Bool) fun y244=>if y244=true then (some (.ret false)) else (bnd (atI x0.ops a206) fun a258=>bnd (chkI (s203.2 - a258.cost)) fun n279=>bnd (Cq o77 q230.1) fun q282=>bnd (if q282.2.n≠0 then (some true) else (if q282.1 < 0 then (some true) else (if (q99.length:Int)≤q282.1 then (some true) else (bnd (atI q99 q282.1) fun a305=>if a305≠n279 then (some true) else (some false)))):Option Bool) fun y296=>if y296=true then (some (.ret false)) else (some (.next (q230.1,n279))))
theorem Pu {t:Tsk} {L:List (List Int)} {x:Spa} (hx:SpX t L x) (h:PlI t L x.distances x.steps) {i:Nat} {p:List Int} (hp:Pl t L x.distances x.steps i p):∀ (j:Nat) {s:List Int},L[i]?=some s→∃ z,rng (ρ:=Bool) (fun (_:Nat) (a206:Int) (s203:LI)=>svG t x x.distances a206 s203) p j (s,gI x.distances i)=some (.done z):=by
  induction hp with
  | @nil i hd hk=>intro j s hs;exact ⟨_,rfl⟩
  | @cons i e p hd hk hf hp' ih =>
    intro j s hs
    obtain ⟨q,o,q1,q2,q3,q4,q5,q6⟩:=h.tight hs hf
    have hok:=h.ok.ok
    have hsok:=h.bl.ok hok (List.mem_of_getElem? hs)
    have hb:=h.bnd i hd
    have hoo:=hok.2.2.2.2.2 q o q2
    have ho1:=hoo.1
    have ho2:=hoo.2.1
    have hap:Eh t s (q:Int)=some (succ o s,⟨0⟩):=by
      unfold Eh Ez
      rw [Ar,FG.2 hok,if_neg (by simp),LX hok hsok q2 q3,Ar]
    have hql:=AC q2
    have hdl:=h.dl
    have hlt:=AC q4
    have ef:svG t x x.distances e.label (s,gI x.distances i)=some (.next (succ o s,gI x.distances e.dst.toNat)):=by
      unfold svG
      dsimp only
      rw [q1,hap,Ar]
      dsimp only
      rw [if_neg (by simp),if_neg (by omega),if_neg (by omega),Ar,Di,BT,q2,Ar,Cm (by unfold inI64;omega),Ar]
      rcases hx.find hok (h.bl.ok hok (List.mem_of_getElem? q4)) with ⟨i',hi',hfi⟩|⟨hno,_⟩
      · obtain rfl:=Lm h.bl.nodup hi' q4
        rw [hfi,Ar]
        dsimp only
        rw [if_neg (by simp),if_neg (by omega),if_neg (by omega),Ea (by omega),Ar,if_neg (by omega),Ar,Di]
        rw [show gI x.distances i - o.cost=gI x.distances e.dst.toNat from by omega]
      · exact (hno (List.mem_of_getElem? q4)).elim
    simp only [rng,ef]
    exact ih (j + 1) q4
theorem MF (t:Tsk):Dp t=some true:=by
  unfold Dp
  by_cases hs:SmallOk t
  · obtain ⟨L,x,e1,e2,e3,e4⟩:=LF hs lim512
    have hP:=PlI.of hs.mid e3 e2
    have h0:=AC hP.bl.root
    have hl:=e3.bl.few hs.mid
    have hat:atI x.distances 0=some (gI x.distances 0):=Ea (i:=0) (by rw [hP.dl];exact h0)
    simp only [Po hs,awake25,Ar,if_true,e1,ne_eq,not_true_eq_false,if_false,Bool.false_eq_true,e2.dists hl]
    by_cases hd:gI x.distances 0=Inf
    · have hpos:(0:Int) < (x.distances.length:Int):=by rw [hP.dl];omega
      rw [Nt e2 hP hd,Ar,hat]
      simp only [Ar,if_pos hpos,if_pos (show gI x.distances 0=1125899906842624 from hd)]
      rfl
    · obtain ⟨p,p1,p2⟩:=hP.plan hd
      obtain ⟨s',r1,r2⟩:=p1.plan hP hP.bl.root
      obtain ⟨z,hz⟩:=Pu e2 hP p1 0 hP.bl.root
      have hinit:StateOk t.vars t.init:=hs.ok.2.2.2.1
      have hil:t.init.length≤1000:=by have:=hinit.1;have:=hs.ok.1;omega
      have hz':rng (ρ:=Bool) (fun (_:Nat) (a206:Int) (s203:LI)=>svG t x x.distances a206 s203) p 0 (t.init,gI x.distances 0)=some (.done z):=hz
      rw [Nu e2 hP hd p1 p2,Ar]
      dsimp only
      rw [if_neg (by simp),Nr hs.ok r1 r2 (by omega),Ar]
      dsimp only
      rw [if_neg (by simp),if_neg (by simp),if_neg (by rw [hP.dl];omega),hat,Ar,if_neg (by simp),Ar,Di,CF (by simp;omega) (by simp;omega),Ar,List.nil_append]
      show bnd (rng (ρ:=Bool) (fun (_:Nat) (a206:Int) (s203:LI)=>svG t x x.distances a206 s203) p 0 (t.init,gI x.distances 0)) _=_
      rw [hz',Ar]
      rfl
  · simp only [Pp hs,awake25,Ar,if_true,Bool.false_eq_true,if_false]
end
section
open Go Go.RowKit Go.ChangeShapes Go.WideShapes Go.Deep
theorem lawESolves {w:World} {v0:Value} {a0:Tsk} (h0:V w v0 a0):Fn Tryz.prog 7 [v0] w fun v w'=>v=.bool true∧Ext w w':=by
  exact (Hg (fun _ h=>h) h0 (MF a0)).mono fun _ _ h=>⟨h.2.bool,h.1⟩
set_option maxRecDepth 100000 in
theorem HG (os:Os) (started:os.Started) (H:Type) (enc:TypeId×Value→H) :
    ReturnsInHanded {} Tryz.checked os 7 .any (Rows.exploreSolvesSpec.pre6 enc Tryz.prog Tryz.f7 Rows.exploreSolvesRow.domain false) (Rows.exploreSolvesSpec.post enc Tryz.prog Tryz.f7 false true false false):=by
  refine returnsInHanded_of_change (C:=Tryz.checked) ownTry started (by kernel_rfl) Tryz.func7 (ChangeSpec.witness6 (enc:=enc) (C:=Tryz.checked) false ⟨#[],#[(.agg #[.slice none 0 0,.slice none 0 0,.slice none 0 0,.slice none 0 0])],[]⟩ 8 (by kernel_rfl) (by kernel_rfl) (by kernel_rfl) (by kernel_rfl)) ?_
  intro W base args ds gs before hval hW _ _
  have hopen:∀ p,DataW.TrodAll enc Tryz.prog W 0 (fun _=>true) true Tryz.f7.params.toList args.toList ds p→∃ v0 d0,args=#[v0]∧ds=[d0]∧(∃ a:Tsk,V W v0 a):=by
    intro p hA
    rw [Tryz.params7] at hA
    replace hval:∀ (j:Nat) t v,(#[26]:Array TypeId)[j]?=some t→args[j]?=some v→Value.okWide Tryz.prog W .any base t v:=by rw [← Tryz.params7];exact hval
    obtain ⟨v0,vs0,d0,ds0,p0,q0,g0,e0,_,h0,r0⟩:=trodAll_cons hA
    obtain ⟨g,e,_⟩:=trodAll_nil r0
    rw [g] at g0;rw [e] at e0
    obtain rfl:args=#[v0]:=by cases args;simp_all
    exact ⟨v0,d0,rfl,e0,(by first|exact openAgg rfl (hval 0 26 v0 rfl rfl) h0|exact openOne rfl (hval 0 26 v0 rfl rfl) h0)⟩
  refine lawPost rfl (by kernel_rfl) (by rw [Tryz.params7];exact of_decide_eq_true (by kernel_rfl)) hW ?_ ?_
  · intro p hA
    obtain ⟨v0,d0,_,rfl,_⟩:=hopen p hA
    rfl
  · intro p hA
    obtain ⟨v0,d0,rfl,_,⟨a0,h0⟩⟩:=hopen p hA
    exact lawESolves h0
theorem exploreSolves_holds:Rows.ExploreSolvesSaid :=
  OpenClaim.holds_of_wide 7 Tryz.f7 rfl rfl rfl rfl rfl rfl rfl ⟨rfl,rfl,rfl,rfl,rfl⟩ rfl rfl rfl rfl rfl (by kernel_rfl) Tryz.func7 (by kernel_rfl)
    (of_decide_eq_true (by kernel_rfl)) (by unfold Func.isWrapper;first|(rw [if_pos (by decide +kernel)];kernel_rfl)|(rw [if_neg (by decide +kernel)];exact ⟨rfl,rfl⟩))
    (fun os started H enc _=>HG os started H enc)
#print axioms exploreSolves_holds
end
end Go.Proofs.YtkbmbcblgdgjlaaGreat

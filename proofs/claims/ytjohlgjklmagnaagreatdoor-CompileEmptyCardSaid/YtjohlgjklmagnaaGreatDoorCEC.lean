/- Own text: what the proof of compileEmpty_holds uses, part 3: rules, models and their proofs, plain laws. -/
import Derived.Test.YtjohlgjklmagnaaGreatDoorCEB
set_option linter.unusedVariables false
set_option linter.unusedSimpArgs false
namespace Go.Proofs.YtjohlgjklmagnaaGreatDoor
open Go Go.RowKit
section
open Go Go.RowKit
attribute [local irreducible] ewp owp hwp hwq Ev Evg Fn retPost Res1
attribute [local irreducible] hwx loudX
noncomputable def Cn (x0:Tpl) (x1:List Lch):Option ((MapR 182 Int Hap)×(List Int)) :=
  bnd (rng (ρ:=(MapR 182 Int Hap)×(List Int)) (fun (k38:Nat) (a39:Lch) (s36:(MapR 182 Int Hap))=>bnd (appI 16 (mget ([]:List Hap) s36.l a39.tm) [(⟨a39.job,false⟩:Hap)]) fun u82=>bnd (CY x0 a39) fun q97=>bnd (appI 16 (mget ([]:List Hap) (⟨mput s36.l a39.tm u82⟩:MapR 182 Int Hap).l q97) [(⟨a39.job,true⟩:Hap)]) fun u99=>some (.next (⟨mput (⟨mput s36.l a39.tm u82⟩:MapR 182 Int Hap).l q97 u99⟩:MapR 182 Int Hap))) x1 0 (⟨[]⟩:MapR 182 Int Hap)) fun res34=>fin res34 fun (s219:(MapR 182 Int Hap))=>bnd (keysI s219) fun u221=>bnd (BS u221) fun q235=>some (s219,q235)
theorem If {w:World} {O:Lab} {vx0:Value} {x0:Tpl} (j3:Vb w (Fr 0 w O) vx0 x0) {vx1:Value} {x1:List Lch} (i1:Vb w (Fr 0 w O) vx1 x1) (j0:Nat) (hj0:j0≠0) {r:(MapR 182 Int Hap)×(List Int)} (hm:Cn x0 x1=some r) :
    Fn Tryz.prog 71 [vx0,vx1] w fun v w'=>∃ O',St nT w O w' O'∧∃ v0 v1:Value,v=.tuple #[v0,v1]∧Ob j0 w' O' v0 (r.1:MapR 182 Int Hap)∧Vb w' (Fr 0 w' O') v1 r.2:=by
 obtain ⟨O0,hE,u4⟩:=ent0 (w:=w) (O:=O)
 have hB:Bm w O0 w O0:=Bm.refl
 replace j3:=j3.mono u4
 obtain ⟨d8,rfl,v4,v5,v6,v7,rfl,h8,c0,d0,e0⟩:=j3
 obtain ⟨A9,q1,rfl⟩:=h8.form
 obtain ⟨r1,s1,rfl⟩:=c0.form
 obtain ⟨t1,u1,rfl⟩:=d0.form
 obtain ⟨w1,y1,rfl⟩:=e0.form
 replace i1:=i1.mono u4
 obtain ⟨w4,x4,rfl⟩:=i1.form
 refine AD Tryz.func71 rfl Tryz.ntmps71 rfl ?_
 unfold Cn at hm
 refine Ab (Aa (BX 2 O0 rfl rfl fun k3 b5 y4 c2 j1=>?_))
 replace j1:Lc 2 b5 y4 k3 26 [(.slice A9 x0.vars.length q1),(.slice r1 x0.init.length s1),(.slice t1 x0.goal.length u1),(.slice w1 x0.jobs.length y1)]:=j1
 refine Al rfl rfl (Al rfl rfl (o_z ?_))
 refine Ab (Aa (Nz (K:=Int) (V:=Hap) 182 3 (by decide) y4 rfl fun h3 e8 c5 z1 d5=>?_))
 refine Al rfl rfl (o_z ?_)
 refine Ab (Ab (Aa (Aj rfl rfl (AT rfl rfl ?_))))
 replace i1:=(i1.st c2).st z1
 have l3:x1.length≤9223372036854775807:=Nat.le_trans i1.len.2.1 i1.len.2.2
 have f8:inI64 (x1.length:Int):=rngNat l3
 refine Aj rfl rfl (o_z ?_)
 obtain ⟨s2,m3,hm⟩:=bs hm
 refine Ax (aft s2 (fun (r2:(MapR 182 Int Hap)) (i3:Unit)=>[(6,(.map (some h3)))]) (fun r2 i3 w'=>∃ O':Lab,Bm w O0 w' O'∧Ob 3 w' O' (.map (some h3)) r2)) ?_ ?_
 ·
  refine AN ?_
  replace hB:=(hB.st c2).st z1
  replace h8:=(h8.st c2).st z1
  replace c0:=(c0.st c2).st z1
  replace d0:=(d0.st c2).st z1
  replace e0:=(e0.st c2).st z1
  replace j1:=j1.st z1
  refine Bn (σ:=(MapR 182 Int Hap)) (X:=Unit) (x1.length) m3 rfl l3 (fun (r2:(MapR 182 Int Hap)) (i3:Unit)=>[(2,(.pointer (some ⟨k3,0,none⟩))),(6,(.map (some h3))),(12,(.slice w4 x1.length x4))]) _ (fun r2 i3 w'=>∃ O':Lab,Bm w O0 w' O'∧Lc 2 w' O' k3 26 [(.slice A9 x0.vars.length q1),(.slice r1 x0.init.length s1),(.slice t1 x0.goal.length u1),(.slice w1 x0.jobs.length y1)]∧Vb w' (Fr 0 w' O') (.slice A9 x0.vars.length q1) x0.vars∧Vb w' (Fr 0 w' O') (.slice r1 x0.init.length s1) x0.init∧Vb w' (Fr 0 w' O') (.slice t1 x0.goal.length u1) x0.goal∧Vb w' (Fr 0 w' O') (.slice w1 x0.jobs.length y1) x0.jobs∧Ob 3 w' O' (.map (some h3)) r2∧Vb w' (Fr 0 w' O') (.slice w4 x1.length x4) x1) _ () ⟨c5,hB,j1,h8,c0,d0,e0,d5,i1⟩ ⟨rfl,rfl,rfl,rfl,rfl,trivial⟩ (fun _ _=>⟨rfl,rfl⟩) (fun _ _=>⟨rfl,trivial⟩) (fun _ _ _ ⟨O',hB,j1,h8,c0,d0,e0,e1,i1⟩=>⟨O',hB,e1⟩) ⟨rfl,rfl,rfl⟩ ⟨rfl,rfl⟩ ?_
  rintro e5 b0 r2 i3 g8 f5 t2 ⟨g5,hB,j1,h8,c0,d0,e0,e1,i1⟩ l0 n3 o3
  have rk38:inI64 (e5:Int):=rngK t2 l3
  refine Ab (Aa ?_)
  obtain ⟨i8,j8,h5,p3,q3,r3,rfl,u2,n1⟩:=i1.elem' t2
  refine Bz (hA:=p3) (hj:=rfl) (hlt:=q3) rfl rfl rfl ?_
  refine Bp (hl:=rfl) (hc:=r3) rfl rfl ?_
  refine AS 4 g5 rfl fun i5 k8 s3 b1 l1=>?_
  refine Ay l1 rfl rfl rfl (AJ rfl) (allOne rfl) fun j5 c1 l1=>?_
  replace l1:Lc 4 j5 s3 i5 52 [(.int .i64 b0.tm),(.int .i64 b0.job)]:=l1
  refine o_z ?_
  refine Ab (BD [(11,[3,6])] s3 ?_)
  refine AK (fuel:=6) [] [(3,true),(4,true),(5,true),(6,true),(7,true),(8,true),(9,true)] (by kernel_rfl) rfl ?_
  refine Bt rfl rfl rfl (Ba rfl rfl rfl (By (hc:=fun w' ⟨O',hq⟩=>Blk.cell (i:=0) ((l1.st hq (by decide)).1) rfl) rfl rfl rfl ?_))
  replace e1:=(e1.st b1).st c1
  obtain ⟨l8,m8,o1,z4⟩:=MapR.get e1 b0.tm
  refine MH b0.tm (fun w' ⟨O',hq⟩=>o1.keep (hq.agree (i:=3) (by decide) _ (MapR.at e1))) rfl rfl rfl rfl ?_
  refine Ba rfl rfl rfl (By (hc:=fun w' ⟨O',hq⟩=>Blk.cell (i:=1) ((l1.st hq (by decide)).1) rfl) rfl rfl rfl ?_)
  refine Cf rfl rfl rfl rfl ?_
  refine At ?_
  refine AK (fuel:=3) [3,6] [(0,true),(1,true),(2,true)] (by kernel_rfl) rfl ?_
  refine Bt rfl rfl rfl (Ba rfl rfl rfl (By (hc:=fun w' ⟨O',hq⟩=>Blk.cell (i:=0) ((l1.st hq (by decide)).1) rfl) rfl rfl rfl ?_))
  refine At ?_
  refine Ar (i:=10) (by kernel_rfl) rfl ?_
  refine AL 5 (by decide) s3 (xs:=([(⟨b0.job,false⟩:Hap)]:List Hap)) rfl rfl rfl rfl ⟨(Vb.ofAgg (cs:=[(.int .i64 b0.job),(.bool false)]) (x:=(⟨b0.job,false⟩:Hap)) rfl ⟨rfl,n1⟩),trivial⟩ (by decide) (by decide) rfl fun n8 o8 p8 k0 t3=>?_
  have hZ:=k0.lst [] (fun _ h=>h.elim)
  replace o1:=o1.keep (k0.agree (i:=3) id _ (MapR.at e1))
  replace z4:=z4.stS k0 id (fun _ _=>id)
  refine Az [(11,[3,6])] hZ (by kernel_rfl) ?_
  refine Ar (i:=11) (by kernel_rfl) rfl ?_
  replace e1:=e1.st k0
  obtain ⟨q8,y0,u3,k5⟩:=MapR.take e1 o1 6 (by decide) (by decide)
  have hZ:=y0.lst [3] (fun _ h=>by cases h;decide)
  obtain ⟨r8,v3,l0⟩:=bs l0
  obtain ⟨v3,l5,m5⟩:=AR v3
  replace t3:=t3.st y0
  refine Bo rfl k5 (t3.rd) rfl rfl (by decide) l5 m5 rfl fun s8 t8 u8 v8 z0 a5=>?_
  rw [← v3] at a5 ⊢
  replace hZ:=hZ.cmp z0 [3,6] (fun _ h=>by cases h;decide) rfl
  refine Az [] hZ (by kernel_rfl) ?_
  refine Ar (i:=12) (by kernel_rfl) rfl ?_
  replace u3:=u3.st z0
  refine Jo u3 a5 (by decide) rfl rfl rfl fun w3 v2 d1 a1=>?_
  refine BA (by kernel_rfl) ?_
  refine Bu (by kernel_rfl) ?_
  obtain ⟨m1,w2,l0⟩:=bs l0
  obtain ⟨w8,m0,l0⟩:=bs l0
  refine BD [(13,[3,6])] v2 ?_
  refine AK (fuel:=7) [] [(1,true),(2,true),(4,true),(5,true),(6,true),(9,true),(10,true),(11,true)] (by kernel_rfl) rfl ?_
  replace j1:=(((((j1.st b1).st c1).st k0).st y0).st z0).st d1
  refine Cw (hl:=rfl) (hb:=fun w' ⟨O',hq⟩=>((j1.st hq (by decide)).1).cellsAt) rfl rfl rfl ?_
  replace l1:=(((l1.st k0).st y0).st z0).st d1
  refine Cw (hl:=rfl) (hb:=fun w' ⟨O',hq⟩=>((l1.st hq (by decide)).1).cellsAt) rfl rfl rfl ?_
  refine Bt rfl rfl rfl (Cw (hl:=rfl) (hb:=fun w' ⟨O',hq⟩=>((j1.st hq (by decide)).1).cellsAt) rfl rfl rfl ?_)
  refine Cw (hl:=rfl) (hb:=fun w' ⟨O',hq⟩=>((l1.st hq (by decide)).1).cellsAt) rfl rfl rfl ?_
  refine Ba rfl rfl rfl (By (hc:=fun w' ⟨O',hq⟩=>Blk.cell (i:=1) ((l1.st hq (by decide)).1) rfl) rfl rfl rfl ?_)
  refine Cf rfl rfl rfl rfl ?_
  refine At ?_
  refine AK (fuel:=6) [3,6] [(0,true)] (by kernel_rfl) rfl ?_
  refine Bt rfl rfl rfl (At ?_)
  refine DB (i:=3) (j:=12) (by kernel_rfl) rfl rfl ?_ ?_
  ·
   replace h8:=(((((h8.st b1).st c1).st k0).st y0).st z0).st d1
   replace c0:=(((((c0.st b1).st c1).st k0).st y0).st z0).st d1
   replace d0:=(((((d0.st b1).st c1).st k0).st y0).st z0).st d1
   replace e0:=(((((e0.st b1).st c1).st k0).st y0).st z0).st d1
   refine AF (O:=v2) (A:=All w3) (R:=fun w' F v=>Vb w' F v m1) (CZ (fun _ h=>h) (Vb.mono (F:=Fr 0 w3 v2) (Vb.ofAgg (cs:=[(.slice A9 x0.vars.length q1),(.slice r1 x0.init.length s1),(.slice t1 x0.goal.length u1),(.slice w1 x0.jobs.length y1)]) (x:=x0) rfl ⟨_,_,_,_,rfl,h8,c0,d0,e0⟩) Fr.lt) (Vb.mono (F:=Fr 0 w3 v2) (Vb.ofAgg (cs:=[(.int .i64 b0.tm),(.int .i64 b0.job)]) (x:=b0) rfl ⟨rfl,u2,n1⟩) Fr.lt) w2) rfl rfl fun n5 d2 p1 a0 x3=>?_
   obtain ⟨rfl,o5⟩:=x3.int
   have hZ:=a0.lst [] (fun _ h=>h.elim)
   refine Az [(13,[3,6])] hZ (by kernel_rfl) ?_
   refine DB (i:=7) (j:=12) (by kernel_rfl) rfl rfl ?_ ?_
   ·
    replace h8:=h8.st a0
    replace c0:=c0.st a0
    replace d0:=d0.st a0
    replace e0:=e0.st a0
    refine AF (O:=p1) (A:=All d2) (R:=fun w' F v=>Vb w' F v m1) (CZ (fun _ h=>h) (Vb.mono (F:=Fr 0 d2 p1) (Vb.ofAgg (cs:=[(.slice A9 x0.vars.length q1),(.slice r1 x0.init.length s1),(.slice t1 x0.goal.length u1),(.slice w1 x0.jobs.length y1)]) (x:=x0) rfl ⟨_,_,_,_,rfl,h8,c0,d0,e0⟩) Fr.lt) (Vb.mono (F:=Fr 0 d2 p1) (Vb.ofAgg (cs:=[(.int .i64 b0.tm),(.int .i64 b0.job)]) (x:=b0) rfl ⟨rfl,u2,n1⟩) Fr.lt) w2) rfl rfl fun p5 q5 y3 n0 z3=>?_
    obtain ⟨rfl,r5⟩:=z3.int
    have hZ:=n0.lst [] (fun _ h=>h.elim)
    refine Az [(13,[3,6])] hZ (by kernel_rfl) ?_
    refine AK (fuel:=3) [] [(8,true)] (by kernel_rfl) rfl ?_
    replace a1:=(a1.st a0).st n0
    obtain ⟨s5,t5,k1,x2⟩:=MapR.get a1 m1
    refine MH m1 (fun w' ⟨O',hq⟩=>k1.keep (hq.agree (i:=3) (by decide) _ (MapR.at a1))) rfl rfl rfl rfl ?_
    refine At ?_
    refine Ar (i:=12) (by kernel_rfl) rfl ?_
    refine AL 7 (by decide) y3 (xs:=([(⟨b0.job,true⟩:Hap)]:List Hap)) rfl rfl rfl rfl ⟨(Vb.ofAgg (cs:=[(.int .i64 b0.job),(.bool true)]) (x:=(⟨b0.job,true⟩:Hap)) rfl ⟨rfl,n1⟩),trivial⟩ (by decide) (by decide) rfl fun u5 w5 x5 f0 e2=>?_
    have hZ:=f0.lst [] (fun _ h=>h.elim)
    replace k1:=k1.keep (f0.agree (i:=3) id _ (MapR.at a1))
    replace x2:=x2.stS f0 id (fun _ _=>id)
    refine Az [(13,[3,6])] hZ (by kernel_rfl) ?_
    refine Ar (i:=13) (by kernel_rfl) rfl ?_
    replace a1:=a1.st f0
    obtain ⟨y5,o0,f2,a4⟩:=MapR.take a1 k1 6 (by decide) (by decide)
    have hZ:=o0.lst [3] (fun _ h=>by cases h;decide)
    obtain ⟨m0,b4,c4⟩:=AR m0
    replace e2:=e2.st o0
    refine Bo rfl a4 (e2.rd) rfl rfl (by decide) b4 c4 rfl fun z5 a6 b6 c6 p0 y2=>?_
    rw [← m0] at y2 ⊢
    replace hZ:=hZ.cmp p0 [3,6] (fun _ h=>by cases h;decide) rfl
    refine Az [] hZ (by kernel_rfl) ?_
    refine Ar (i:=14) (by kernel_rfl) rfl ?_
    replace f2:=f2.st p0
    refine Jo f2 y2 (by decide) rfl rfl rfl fun d6 e6 f1 d4=>?_
    refine BA (by kernel_rfl) ?_
    refine Bu (by kernel_rfl) ?_
    obtain rfl:=sm l0
    exact show Exists _ from ⟨_,(),rfl,⟨rfl,rfl,rfl,rfl,rfl,trivial⟩,_,(((((((((((hB.st b1).st c1).st k0).st y0).st z0).st d1).st a0).st n0).st f0).st o0).st p0).st f1,(((((j1.st a0).st n0).st f0).st o0).st p0).st f1,((((h8.st n0).st f0).st o0).st p0).st f1,((((c0.st n0).st f0).st o0).st p0).st f1,((((d0.st n0).st f0).st o0).st p0).st f1,((((e0.st n0).st f0).st o0).st p0).st f1,d4,(((((((((((i1.st b1).st c1).st k0).st y0).st z0).st d1).st a0).st n0).st f0).st o0).st p0).st f1⟩
   refine AL 7 (by decide) p1 (xs:=([(⟨b0.job,true⟩:Hap)]:List Hap)) rfl rfl rfl rfl ⟨(Vb.ofAgg (cs:=[(.int .i64 b0.job),(.bool true)]) (x:=(⟨b0.job,true⟩:Hap)) rfl ⟨rfl,n1⟩),trivial⟩ (by decide) (by decide) rfl fun f6 g2 h2 q0 i2=>?_
   have hZ:=q0.lst [] (fun _ h=>h.elim)
   refine Az [(13,[3,6])] hZ (by kernel_rfl) ?_
   refine Ar (i:=7) (by kernel_rfl) rfl ?_
   replace h8:=(h8.st a0).st q0
   replace c0:=(c0.st a0).st q0
   replace d0:=(d0.st a0).st q0
   replace e0:=(e0.st a0).st q0
   refine AF (O:=h2) (A:=All g2) (R:=fun w' F v=>Vb w' F v m1) (CZ (fun _ h=>h) (Vb.mono (F:=Fr 0 g2 h2) (Vb.ofAgg (cs:=[(.slice A9 x0.vars.length q1),(.slice r1 x0.init.length s1),(.slice t1 x0.goal.length u1),(.slice w1 x0.jobs.length y1)]) (x:=x0) rfl ⟨_,_,_,_,rfl,h8,c0,d0,e0⟩) Fr.lt) (Vb.mono (F:=Fr 0 g2 h2) (Vb.ofAgg (cs:=[(.int .i64 b0.tm),(.int .i64 b0.job)]) (x:=b0) rfl ⟨rfl,u2,n1⟩) Fr.lt) w2) rfl rfl fun g6 h6 i6 g0 e4=>?_
   obtain ⟨rfl,j6⟩:=e4.int
   have hZ:=g0.lst [] (fun _ h=>h.elim)
   refine Az [(13,[3,6])] hZ (by kernel_rfl) ?_
   refine AK (fuel:=2) [] [(8,true)] (by kernel_rfl) rfl ?_
   replace a1:=((a1.st a0).st q0).st g0
   obtain ⟨k6,l6,a2,m6⟩:=MapR.get a1 m1
   refine MH m1 (fun w' ⟨O',hq⟩=>a2.keep (hq.agree (i:=3) (by decide) _ (MapR.at a1))) rfl rfl rfl rfl ?_
   refine At ?_
   refine Ar (i:=13) (by kernel_rfl) rfl ?_
   obtain ⟨n6,r0,j2,f4⟩:=MapR.take a1 a2 6 (by decide) (by decide)
   have hZ:=r0.lst [3] (fun _ h=>by cases h;decide)
   obtain ⟨m0,g4,h4⟩:=AR m0
   replace i2:=(i2.st g0).st r0
   refine Bo rfl f4 (i2.rd) rfl rfl (by decide) g4 h4 rfl fun o6 p6 q6 r6 s0 z2=>?_
   rw [← m0] at z2 ⊢
   replace hZ:=hZ.cmp s0 [3,6] (fun _ h=>by cases h;decide) rfl
   refine Az [] hZ (by kernel_rfl) ?_
   refine Ar (i:=14) (by kernel_rfl) rfl ?_
   replace j2:=j2.st s0
   refine Jo j2 z2 (by decide) rfl rfl rfl fun s6 t6 g1 i4=>?_
   refine BA (by kernel_rfl) ?_
   refine Bu (by kernel_rfl) ?_
   obtain rfl:=sm l0
   exact show Exists _ from ⟨_,(),rfl,⟨rfl,rfl,rfl,rfl,rfl,trivial⟩,_,(((((((((((hB.st b1).st c1).st k0).st y0).st z0).st d1).st a0).st q0).st g0).st r0).st s0).st g1,(((((j1.st a0).st q0).st g0).st r0).st s0).st g1,(((h8.st g0).st r0).st s0).st g1,(((c0.st g0).st r0).st s0).st g1,(((d0.st g0).st r0).st s0).st g1,(((e0.st g0).st r0).st s0).st g1,i4,(((((((((((i1.st b1).st c1).st k0).st y0).st z0).st d1).st a0).st q0).st g0).st r0).st s0).st g1⟩
  refine AL 7 (by decide) v2 (xs:=([(⟨b0.job,true⟩:Hap)]:List Hap)) rfl rfl rfl rfl ⟨(Vb.ofAgg (cs:=[(.int .i64 b0.job),(.bool true)]) (x:=(⟨b0.job,true⟩:Hap)) rfl ⟨rfl,n1⟩),trivial⟩ (by decide) (by decide) rfl fun u6 k2 l2 t0 m2=>?_
  have hZ:=t0.lst [] (fun _ h=>h.elim)
  refine Az [(13,[3,6])] hZ (by kernel_rfl) ?_
  refine Ar (i:=3) (by kernel_rfl) rfl ?_
  replace h8:=((((((h8.st b1).st c1).st k0).st y0).st z0).st d1).st t0
  replace c0:=((((((c0.st b1).st c1).st k0).st y0).st z0).st d1).st t0
  replace d0:=((((((d0.st b1).st c1).st k0).st y0).st z0).st d1).st t0
  replace e0:=((((((e0.st b1).st c1).st k0).st y0).st z0).st d1).st t0
  refine AF (O:=l2) (A:=All k2) (R:=fun w' F v=>Vb w' F v m1) (CZ (fun _ h=>h) (Vb.mono (F:=Fr 0 k2 l2) (Vb.ofAgg (cs:=[(.slice A9 x0.vars.length q1),(.slice r1 x0.init.length s1),(.slice t1 x0.goal.length u1),(.slice w1 x0.jobs.length y1)]) (x:=x0) rfl ⟨_,_,_,_,rfl,h8,c0,d0,e0⟩) Fr.lt) (Vb.mono (F:=Fr 0 k2 l2) (Vb.ofAgg (cs:=[(.int .i64 b0.tm),(.int .i64 b0.job)]) (x:=b0) rfl ⟨rfl,u2,n1⟩) Fr.lt) w2) rfl rfl fun w6 n2 o2 h0 j4=>?_
  obtain ⟨rfl,x6⟩:=j4.int
  have hZ:=h0.lst [] (fun _ h=>h.elim)
  refine Az [(13,[3,6])] hZ (by kernel_rfl) ?_
  refine Ar (i:=7) (by kernel_rfl) rfl ?_
  replace h8:=h8.st h0
  replace c0:=c0.st h0
  replace d0:=d0.st h0
  replace e0:=e0.st h0
  refine AF (O:=o2) (A:=All n2) (R:=fun w' F v=>Vb w' F v m1) (CZ (fun _ h=>h) (Vb.mono (F:=Fr 0 n2 o2) (Vb.ofAgg (cs:=[(.slice A9 x0.vars.length q1),(.slice r1 x0.init.length s1),(.slice t1 x0.goal.length u1),(.slice w1 x0.jobs.length y1)]) (x:=x0) rfl ⟨_,_,_,_,rfl,h8,c0,d0,e0⟩) Fr.lt) (Vb.mono (F:=Fr 0 n2 o2) (Vb.ofAgg (cs:=[(.int .i64 b0.tm),(.int .i64 b0.job)]) (x:=b0) rfl ⟨rfl,u2,n1⟩) Fr.lt) w2) rfl rfl fun y6 z6 a7 i0 k4=>?_
  obtain ⟨rfl,b7⟩:=k4.int
  have hZ:=i0.lst [] (fun _ h=>h.elim)
  refine Az [(13,[3,6])] hZ (by kernel_rfl) ?_
  refine AK (fuel:=2) [] [(8,true)] (by kernel_rfl) rfl ?_
  replace a1:=((a1.st t0).st h0).st i0
  obtain ⟨c7,d7,b2,e7⟩:=MapR.get a1 m1
  refine MH m1 (fun w' ⟨O',hq⟩=>b2.keep (hq.agree (i:=3) (by decide) _ (MapR.at a1))) rfl rfl rfl rfl ?_
  refine At ?_
  refine Ar (i:=13) (by kernel_rfl) rfl ?_
  obtain ⟨f7,u0,p2,l4⟩:=MapR.take a1 b2 6 (by decide) (by decide)
  have hZ:=u0.lst [3] (fun _ h=>by cases h;decide)
  obtain ⟨m0,m4,n4⟩:=AR m0
  replace m2:=((m2.st h0).st i0).st u0
  refine Bo rfl l4 (m2.rd) rfl rfl (by decide) m4 n4 rfl fun g7 h7 i7 j7 w0 a3=>?_
  rw [← m0] at a3 ⊢
  replace hZ:=hZ.cmp w0 [3,6] (fun _ h=>by cases h;decide) rfl
  refine Az [] hZ (by kernel_rfl) ?_
  refine Ar (i:=14) (by kernel_rfl) rfl ?_
  replace p2:=p2.st w0
  refine Jo p2 a3 (by decide) rfl rfl rfl fun k7 l7 h1 o4=>?_
  refine BA (by kernel_rfl) ?_
  refine Bu (by kernel_rfl) ?_
  obtain rfl:=sm l0
  exact show Exists _ from ⟨_,(),rfl,⟨rfl,rfl,rfl,rfl,rfl,trivial⟩,_,(((((((((((hB.st b1).st c1).st k0).st y0).st z0).st d1).st t0).st h0).st i0).st u0).st w0).st h1,(((((j1.st t0).st h0).st i0).st u0).st w0).st h1,(((h8.st i0).st u0).st w0).st h1,(((c0.st i0).st u0).st w0).st h1,(((d0.st i0).st u0).st w0).st h1,(((e0.st i0).st u0).st w0).st h1,o4,(((((((((((i1.st b1).st c1).st k0).st y0).st z0).st d1).st t0).st h0).st i0).st u0).st w0).st h1⟩
 replace hB:=(hB.st c2).st z1
 rintro m7 n7 ⟨o7,p7,rfl,b3,q7,hB,e1⟩
 replace hm:=AX hm
 refine AC _ b3 ?_
 refine Ab (Aa (Al rfl rfl (o_z ?_)))
 refine Ab ?_
 obtain ⟨r7,p4,hm⟩:=bs hm
 obtain ⟨q4,rfl⟩:=MK p4
 refine Ng (q:=8) (j:=10) e1 q4 (by decide) (by decide) (by decide) (by decide) (by decide) rfl rfl (h:=fun s7 t7 u7 w7 r4 x7 c3 d3 s4 e3=>?_)
 rw [Nh c3] at hm
 refine AC _ e3 ?_
 refine Ab (Aa (Aj rfl rfl ?_))
 obtain ⟨y7,t4,hm⟩:=bs hm
 refine KO (O:=r4) (HS s4 t4) rfl rfl fun z7 a8 b8 f3 q2=>?_
 refine o_z ?_
 refine Ab (Aa (Aj rfl rfl (Aj rfl rfl (Al rfl rfl (Al rfl rfl (o_z ?_))))))
 refine AB ?_
 obtain ⟨c8,g3,q2⟩:=q2.freeze
 obtain rfl:=sm hm
 replace hB:=((hB.st d3).st f3).st g3
 obtain ⟨O',hS',hz,hl⟩:=hE.leave (fun q=>if q=3 then j0 else 0) rfl hB
 replace e1:=((e1.st d3).st f3).st g3
 exact ret2 rfl (Au rfl) (Au rfl) ⟨O',hS',_,_,rfl,(Ob.leave e1 hz (hl 3 (by decide) (by decide)) hj0),(Vb.mono q2 hz)⟩
noncomputable def Cy (x0:Tpl) (x1:List Lch):Option (Int×Err) :=
  bnd (Ds x0 x1) fun q27=>if q27.n≠0 then (some (0,(⟨q27.n⟩:Err))) else (bnd (Cn x0 x1) fun q36=>bnd (rng (ρ:=Int×Err) (fun (k58:Nat) (a59:Int) (s56:(List Int))=>bnd (EI x0 x1 a59 s56 (mget ([]:List Hap) q36.1.l a59)) fun q83=>if q83.2.n≠0 then (some (.ret (0,(⟨q83.2.n⟩:Err)))) else (some (.next q83.1))) q36.2 0 x0.init) fun res54=>fin res54 fun (s102:(List Int))=>bnd (Et x0.goal s102) fun q104=>if q104=true then bnd (CP x0 x1) fun q111=>some (q111,(⟨0⟩:Err)) else some (0,(⟨13⟩:Err)))
theorem IN {w:World} {A:Nat→Prop} (hA:∀ k,A k→k < w.heap.size) {vx0:Value} {x0:Tpl} (n1:Vb w A vx0 x0) {vx1:Value} {x1:List Lch} (a0:Vb w A vx1 x1) {r:Int×Err} (hm:Cy x0 x1=some r) :
    Fn Tryz.prog 23 [vx0,vx1] w fun v w'=>Ext w w'∧T2 w' (upA A w w') v r:=by
 obtain ⟨O,hB,g2⟩:=enter hA
 replace n1:=n1.mono g2
 obtain ⟨n3,rfl,v4,v5,v6,v7,rfl,h8,b0,c0,e0⟩:=n1
 obtain ⟨A9,p0,rfl⟩:=h8.form
 obtain ⟨k0,l0,rfl⟩:=b0.form
 obtain ⟨q0,r0,rfl⟩:=c0.form
 obtain ⟨s0,t0,rfl⟩:=e0.form
 replace a0:=a0.mono g2
 obtain ⟨j1,k1,rfl⟩:=a0.form
 refine AD Tryz.func23 rfl Tryz.ntmps23 rfl ?_
 unfold Cy at hm
 refine Ab (Aa (BX 2 O rfl rfl fun d1 l1 m1 v0 d0=>?_))
 replace d0:Lc 2 l1 m1 d1 26 [(.slice A9 x0.vars.length p0),(.slice k0 x0.init.length l0),(.slice q0 x0.goal.length r0),(.slice s0 x0.jobs.length t0)]:=d0
 refine Al rfl rfl (Al rfl rfl (o_z ?_))
 refine Ab (Ab (Aa (Bp (hl:=rfl) (hc:=(d0.1).cellsAt) rfl rfl ?_)))
 refine Aj rfl rfl ?_
 obtain ⟨m2,n2,hm⟩:=bs hm
 replace a0:=a0.st v0
 replace h8:=h8.st v0
 replace b0:=b0.st v0
 replace c0:=c0.st v0
 replace e0:=e0.st v0
 refine AF (O:=m1) (A:=All l1) (R:=fun w' F v=>Vb w' F v m2) (Jr (fun _ h=>h) (Vb.mono (F:=Fr 0 l1 m1) (Vb.ofAgg (cs:=[(.slice A9 x0.vars.length p0),(.slice k0 x0.init.length l0),(.slice q0 x0.goal.length r0),(.slice s0 x0.jobs.length t0)]) (x:=x0) rfl ⟨_,_,_,_,rfl,h8,b0,c0,e0⟩) Fr.lt) (Vb.mono (F:=Fr 0 l1 m1) a0 Fr.lt) n2) rfl rfl fun o3 p3 o2 u0 p2=>?_
 obtain ⟨rfl,q2⟩:=p2.err
 refine Al rfl rfl (o_z ?_)
 refine Ab (Aa (Aj rfl rfl (GP rfl rfl (fun o1=>?_) fun o1=>?_)))
 ·
  replace hm:=ip hm o1
  refine o_z ?_
  refine Ah rfl (Ab (Aa (Aj rfl rfl (Al rfl rfl (Al rfl rfl (o_z ?_))))))
  refine AB ?_
  obtain rfl:=sm hm
  replace hB:=(hB.st v0).st u0
  exact ret2 rfl (Au rfl) (Au rfl) ⟨hB.ext,_,_,rfl,(vInt (show inI64 (0) from by decide)),(vErr q2)⟩
 replace hm:=im hm o1
 refine o_z ?_
 refine Ae rfl (AQ (Ab (Aa (AA rfl rfl ?_))))
 replace d0:=d0.st u0
 refine Aw (hc:=Blk.cell (i:=1) (d0.1) rfl) rfl rfl ?_
 refine Al rfl rfl (o_z ?_)
 refine Ab (Aa (Bp (hl:=rfl) (hc:=(d0.1).cellsAt) rfl rfl ?_))
 refine Aj rfl rfl ?_
 obtain ⟨y0,r2,hm⟩:=bs hm
 replace a0:=a0.st u0
 replace h8:=h8.st u0
 replace b0:=b0.st u0
 replace c0:=c0.st u0
 replace e0:=e0.st u0
 refine KO (O:=o2) (If (Vb.ofAgg (cs:=[(.slice A9 x0.vars.length p0),(.slice k0 x0.init.length l0),(.slice q0 x0.goal.length r0),(.slice s0 x0.jobs.length t0)]) (x:=x0) rfl ⟨_,_,_,_,rfl,h8,b0,c0,e0⟩) a0 3 (by decide) r2) rfl rfl fun q3 r3 s3 i0 s2=>?_
 obtain ⟨t3,u3,rfl,w0,m0⟩:=s2
 obtain ⟨h2,rfl⟩:=w0.mptr
 obtain ⟨i2,j2,rfl⟩:=m0.form
 obtain ⟨t2,h0,w0⟩:=MapR.freeze w0
 refine Aj rfl rfl (DH rfl rfl rfl (DH rfl rfl rfl (Al rfl rfl (Al rfl rfl (o_z ?_)))))
 refine Ab (Ab (Aa (Aj rfl rfl (AT rfl rfl ?_))))
 replace m0:=m0.st h0
 have p1:y0.2.length≤9223372036854775807:=Nat.le_trans m0.len.2.1 m0.len.2.2
 have v3:inI64 (y0.2.length:Int):=rngNat p1
 refine Aj rfl rfl (o_z ?_)
 obtain ⟨e1,q1,hm⟩:=bs hm
 refine Ax (aft e1 (fun (n0:(List Int)) (j0:(Option Addr×Nat))=>[(1,(.slice j1 x1.length k1)),(2,(.pointer (some ⟨d1,0,none⟩))),(7,(.slice j0.1 n0.length j0.2))]) (fun n0 j0 w'=>∃ O':Lab,Bs w A w' O'∧Vb w' (Fr 0 w' O') (.slice j1 x1.length k1) x1∧Lc 2 w' O' d1 26 [(.slice A9 x0.vars.length p0),(.slice k0 x0.init.length l0),(.slice q0 x0.goal.length r0),(.slice s0 x0.jobs.length t0)]∧Vb w' (Fr 0 w' O') (.slice A9 x0.vars.length p0) x0.vars∧Vb w' (Fr 0 w' O') (.slice k0 x0.init.length l0) x0.init∧Vb w' (Fr 0 w' O') (.slice q0 x0.goal.length r0) x0.goal∧Vb w' (Fr 0 w' O') (.slice s0 x0.jobs.length t0) x0.jobs∧Vb w' (Fr 0 w' O') (.slice j0.1 n0.length j0.2) n0)) ?_ ?_
 ·
  refine AN ?_
  replace hB:=(((hB.st v0).st u0).st i0).st h0
  replace a0:=(a0.st i0).st h0
  replace h8:=(h8.st i0).st h0
  replace b0:=(b0.st i0).st h0
  replace c0:=(c0.st i0).st h0
  replace e0:=(e0.st i0).st h0
  replace d0:=(d0.st i0).st h0
  refine Bn (σ:=(List Int)) (X:=(Option Addr×Nat)) (y0.2.length) q1 rfl p1 (fun (n0:(List Int)) (j0:(Option Addr×Nat))=>[(1,(.slice j1 x1.length k1)),(2,(.pointer (some ⟨d1,0,none⟩))),(7,(.slice j0.1 n0.length j0.2)),(8,(.map (some h2))),(28,(.slice i2 y0.2.length j2))]) _ (fun n0 j0 w'=>∃ O':Lab,Bs w A w' O'∧Vb w' (Fr 0 w' O') (.slice j1 x1.length k1) x1∧Lc 2 w' O' d1 26 [(.slice A9 x0.vars.length p0),(.slice k0 x0.init.length l0),(.slice q0 x0.goal.length r0),(.slice s0 x0.jobs.length t0)]∧Vb w' (Fr 0 w' O') (.slice A9 x0.vars.length p0) x0.vars∧Vb w' (Fr 0 w' O') (.slice k0 x0.init.length l0) x0.init∧Vb w' (Fr 0 w' O') (.slice q0 x0.goal.length r0) x0.goal∧Vb w' (Fr 0 w' O') (.slice s0 x0.jobs.length t0) x0.jobs∧Vb w' (Fr 0 w' O') (.slice j0.1 n0.length j0.2) n0∧MapZ w' O' h2 182 y0.1∧Vb w' (Fr 0 w' O') (.slice i2 y0.2.length j2) y0.2) _ (k0,l0) ⟨t2,hB,a0,d0,h8,b0,c0,e0,b0,w0,m0⟩ ⟨rfl,rfl,rfl,rfl,rfl,rfl,rfl,trivial⟩ (fun _ _=>⟨rfl,rfl⟩) (fun _ _=>⟨rfl,rfl,rfl,trivial⟩) (fun _ _ _ ⟨O',hB,a0,d0,h8,b0,c0,e0,f1,w0,m0⟩=>⟨O',hB,a0,d0,h8,b0,c0,e0,f1⟩) ⟨rfl,rfl,rfl⟩ ⟨rfl,rfl⟩ ?_
  rintro u2 k2 n0 j0 w3 v2 g1 ⟨w2,hB,a0,d0,h8,b0,c0,e0,f1,w0,m0⟩ f0 z0 r1
  have rk58:inI64 (u2:Int):=rngK g1 p1
  refine Ab (Aa ?_)
  obtain ⟨x3,y3,x2,s1,t1,u1,rfl,y2⟩:=m0.elem' g1
  refine Bz (hA:=s1) (hj:=rfl) (hlt:=t1) rfl rfl rfl ?_
  refine Aw (hc:=cat0 u1) rfl rfl ?_
  refine Al rfl rfl (o_z ?_)
  refine Ab (Aa (Bp (hl:=rfl) (hc:=(d0.1).cellsAt) rfl rfl ?_))
  refine Aj rfl rfl (Aj rfl rfl (Aj rfl rfl (Aj rfl rfl (Aj rfl rfl ?_))))
  obtain ⟨z3,a4,v1,z2⟩:=MapZ.get w0 k2
  refine Pt k2 v1 rfl rfl rfl ?_
  obtain ⟨a3,b3,f0⟩:=bs f0
  refine Cc (O:=w2) (R:=fun w' F v=>T2 w' F v a3) (Kx Fr.lt (Vb.ofAgg (cs:=[(.slice A9 x0.vars.length p0),(.slice k0 x0.init.length l0),(.slice q0 x0.goal.length r0),(.slice s0 x0.jobs.length t0)]) (x:=x0) rfl ⟨_,_,_,_,rfl,h8,b0,c0,e0⟩) a0 y2 f1 z2 b3) rfl rfl fun b4 c4 d4 o0 c3=>?_
  obtain ⟨e4,f4,rfl,l2,d3⟩:=c3
  obtain ⟨e3,f3,rfl⟩:=l2.form
  obtain ⟨rfl,g3⟩:=d3.err
  refine Aj rfl rfl (DH rfl rfl rfl (DH rfl rfl rfl (Al rfl rfl (Al rfl rfl (o_z ?_)))))
  refine Ab (Ab (Aa (Aj rfl rfl (GP rfl rfl (fun w1=>?_) fun w1=>?_))))
  ·
   replace f0:=ip f0 w1
   refine o_z ?_
   refine Ah rfl (Ab (Aa (Aj rfl rfl (Al rfl rfl (Al rfl rfl (o_z ?_))))))
   refine AB ?_
   obtain rfl:=sm f0
   obtain rfl:=z0 _ rfl
   obtain rfl:=sm (Cq hm)
   replace hB:=hB.st o0
   exact ret2 rfl (Au rfl) (Au rfl) ⟨hB.ext,_,_,rfl,(vInt (show inI64 (0) from by decide)),(vErr g3)⟩
  replace f0:=im f0 w1
  refine o_z ?_
  refine Ae rfl (AQ (Aa (Aj rfl rfl (Al rfl rfl (o_z ?_)))))
  obtain rfl:=sm f0
  exact show Exists _ from ⟨_,(e3,f3),rfl,⟨rfl,rfl,rfl,rfl,rfl,rfl,rfl,trivial⟩,_,hB.st o0,a0.st o0,d0.st o0,h8.st o0,b0.st o0,c0.st o0,e0.st o0,l2,w0.st o0,m0.st o0⟩
 replace hB:=(((hB.st v0).st u0).st i0).st h0
 replace a0:=(a0.st i0).st h0
 replace h8:=(h8.st i0).st h0
 replace b0:=(b0.st i0).st h0
 replace c0:=(c0.st i0).st h0
 replace e0:=(e0.st i0).st h0
 replace d0:=(d0.st i0).st h0
 rintro g4 y1 ⟨h3,i3,rfl,h1,a1,hB,a0,d0,h8,b0,c0,e0,f1⟩
 replace hm:=AX hm
 refine AC _ h1 ?_
 refine Ab (Ab (Aa (AA rfl rfl (Aw (hc:=Blk.cell (i:=2) (d0.1) rfl) rfl rfl ?_))))
 refine Aj rfl rfl ?_
 obtain ⟨i1,z1,hm⟩:=bs hm
 refine AF (O:=a1) (A:=All y1) (R:=fun w' F v=>Vb w' F v i1) (Hx (fun _ h=>h) (Vb.mono (F:=Fr 0 y1 a1) c0 Fr.lt) (Vb.mono (F:=Fr 0 y1 a1) f1 Fr.lt) z1) rfl rfl fun j3 b1 c1 g0 a2=>?_
 obtain rfl:=a2.bool
 cases i1
 case false =>
  replace hm:=iF hm
  refine FC rfl rfl (o_z ?_)
  refine Ah rfl (Ab (Aa (FL rfl rfl ?_)))
  refine Al rfl rfl (Al rfl rfl (o_z ?_))
  refine AB ?_
  obtain rfl:=sm hm
  replace hB:=hB.st g0
  exact ret2 rfl (Au rfl) (Au rfl) ⟨hB.ext,_,_,rfl,(vInt (show inI64 (0) from by decide)),(vErr (by decide))⟩
 replace hm:=iT hm
 refine FB rfl rfl (o_z ?_)
 refine Ae rfl (AQ (Ab (Aa ?_)))
 replace d0:=d0.st g0
 refine Bp (hl:=rfl) (hc:=(d0.1).cellsAt) rfl rfl ?_
 refine Aj rfl rfl ?_
 obtain ⟨b2,c2,hm⟩:=bs hm
 replace a0:=a0.st g0
 replace h8:=h8.st g0
 replace b0:=b0.st g0
 replace c0:=c0.st g0
 replace e0:=e0.st g0
 refine AF (O:=c1) (A:=All b1) (R:=fun w' F v=>Vb w' F v b2) (IM (fun _ h=>h) (Vb.mono (F:=Fr 0 b1 c1) (Vb.ofAgg (cs:=[(.slice A9 x0.vars.length p0),(.slice k0 x0.init.length l0),(.slice q0 x0.goal.length r0),(.slice s0 x0.jobs.length t0)]) (x:=x0) rfl ⟨_,_,_,_,rfl,h8,b0,c0,e0⟩) Fr.lt) (Vb.mono (F:=Fr 0 b1 c1) a0 Fr.lt) c2) rfl rfl fun k3 l3 m3 d2 e2=>?_
 obtain ⟨rfl,f2⟩:=e2.int
 refine Al rfl rfl (Al rfl rfl (o_z ?_))
 refine AB ?_
 obtain rfl:=sm hm
 replace hB:=(hB.st g0).st d2
 exact ret2 rfl (Au rfl) (Au rfl) ⟨hB.ext,_,_,rfl,(vInt f2),(vErr (show inI64 0 from by decide))⟩
end
section
open Go Go.RowKit
def itoaB (i:Nat):ByteArray:=if i < 10 then ⟨#[UInt8.ofNat (48 + i)]⟩ else ⟨#[UInt8.ofNat (48 + i / 10),UInt8.ofNat (48 + i % 10)]⟩
def itoD:ByteArray:=⟨((List.range 10).map fun i=>UInt8.ofNat (48 + i)).toArray ++ ((List.range 26).map fun i=>UInt8.ofNat (97 + i)).toArray⟩
def itoS:ByteArray:=⟨(List.range 100).flatMap (fun i=>[UInt8.ofNat (48 + i / 10),UInt8.ofNat (48 + i % 10)]) |>.toArray⟩
theorem ND:((List.range 10).all fun i=>(itoD.extract i (i + 1)).data.toList == (itoaB i).data.toList)=true:=by decide +kernel
theorem NE:((List.range 100).all fun i=>decide (i < 10) || (itoS.extract (i * 2) (i * 2 + 2)).data.toList == (itoaB i).data.toList)=true:=by decide +kernel
theorem Nj {a b:ByteArray} (h:a.data.toList=b.data.toList):a=b:=by
  cases a;cases b;simp only [ByteArray.mk.injEq];exact Array.toList_inj.1 h
theorem On (i:Nat) (h:i < 10):itoD.extract i (i + 1)=itoaB i:=Nj (by
  have:=List.all_eq_true.1 ND i (List.mem_range.2 h)
  simpa using this)
theorem Oo (i:Nat) (h:i < 100) (h0:10≤i):itoS.extract (i * 2) (i * 2 + 2)=itoaB i:=Nj (by
  have:=List.all_eq_true.1 NE i (List.mem_range.2 h)
  have h1:¬ i < 10:=by omega
  simpa [h1] using this)
theorem Nk:itoD.size=36:=by decide +kernel
theorem Nl:itoS.size=200:=by decide +kernel
theorem Kz (i:Nat):(itoaB i).size≤2:=by unfold itoaB;split<;>simp [ByteArray.size]
section
variable {P : Program} {l : Env} {w : World} {dst : Option Tmp} {ty : TypeId} {pos : String} {aft : Array Edge}
theorem LS {t:TypeId} [h:TStr P t] {x lo hi:Operand} {s:ByteArray} {a b:Int} (hx:opv l x=some (.string s)) (hlo:opv l lo=some (.int .i64 a)) (hhi:opv l hi=some (.int .i64 b)) (h0:0≤a) (hab:a≤b) (hb:b≤s.size) :
    Ev P ⟨dst,.slice t x (some lo) (some hi) none,ty,pos,aft,none⟩ l w (.string (s.extract a.toNat b.toNat)):=fun _ _ e ha=>by
  have:=run_slice_string (P:=P) (dr w e) t s .i64 .i64 a b h.eq h0 hab hb
  simp [execOp,ha.eval hx,ha.eval hlo,ha.eval hhi,Instr.sliceAt,run_underlying h.eq,this]
end
attribute [local irreducible] ewp owp hwp hwq Ev Evg Fn retPost Res1
attribute [local irreducible] hwx loudX
noncomputable def Hy (x0:Int):Option ByteArray:=if 0≤x0∧x0 < 100 then some (itoaB x0.toNat) else none
set_option maxRecDepth 100000 in
theorem Hz {w:World} {A:Nat→Prop} (hA:∀ k,A k→k < w.heap.size) {x0:Int} (rx0:inI64 x0) {r:ByteArray} (hm:Hy x0=some r) :
    Fn Tryz.prog 171 [.int .i64 x0] w fun v w'=>Ext w w'∧Vb w' (upA A w w') v r:=by
  obtain ⟨⟨h0,h1⟩,rfl⟩:=CC hm
  obtain ⟨k,rfl⟩:∃ k:Nat,x0=(k:Int):=⟨x0.toNat,by omega⟩
  refine AD Tryz.func171 rfl Tryz.ntmps171 rfl ?_
  have e1:chkI ((k:Int) + 1)=some ((k:Int) + 1):=if_pos ⟨by omega,by omega⟩
  have e2:chkI ((k:Int) * 2)=some ((k:Int) * 2):=if_pos ⟨by omega,by omega⟩
  have e3:chkI ((k:Int) * 2 + 2)=some ((k:Int) * 2 + 2):=if_pos ⟨by omega,by omega⟩
  repeat (first|refine An ?_|refine Ah rfl ?_|refine Ae rfl ?_)
  refine Al rfl rfl (o_z ?_)
  repeat (first|refine An ?_|refine Ah rfl ?_|refine Ae rfl ?_)
  refine Aj rfl rfl (EB rfl rfl rfl (fun h=>?_) fun h=>?_)
  · refine o_z ?_
    repeat (first|refine An ?_|refine Ah rfl ?_|refine Ae rfl ?_)
    refine Aj rfl rfl (Aj rfl rfl ?_)
    refine DM rfl rfl rfl ?_ e1
    refine Bk (LS (s:=itoD) rfl rfl rfl (by omega) (by omega) (by rw [Nk];omega)) rfl ?_
    refine Al rfl rfl (o_z ?_)
    repeat (first|refine An ?_|refine Ah rfl ?_|refine Ae rfl ?_)
    refine ret1v rfl (Au rfl) ⟨Below.refl _ _,?_⟩
    have:=On k (by omega)
    have e:itoD.extract (k:Int).toNat ((k:Int) + 1).toNat=itoaB k:=by rw [← this];congr 1
    rw [e]
    exact vStr (Nat.le_trans (Kz k) (by decide))
  · refine o_z ?_
    repeat (first|refine An ?_|refine Ah rfl ?_|refine Ae rfl ?_)
    refine Aj rfl rfl ?_
    refine HM rfl rfl rfl ?_ e2
    refine Aj rfl rfl ?_
    refine HM rfl rfl rfl ?_ e2
    refine DM rfl rfl rfl ?_ e3
    refine Bk (LS (s:=itoS) rfl rfl rfl (by omega) (by omega) (by rw [Nl];omega)) rfl ?_
    refine Al rfl rfl (o_z ?_)
    repeat (first|refine An ?_|refine Ah rfl ?_|refine Ae rfl ?_)
    refine ret1v rfl (Au rfl) ⟨Below.refl _ _,?_⟩
    have:=Oo k (by omega) (by omega)
    have e:itoS.extract ((k:Int) * 2).toNat ((k:Int) * 2 + 2).toNat=itoaB k:=by rw [← this];congr 1
    rw [e]
    exact vStr (Nat.le_trans (Kz k) (by decide))
noncomputable def DI (x0:Int) (x1:Int):Option ByteArray:=if x1=10∧0≤x0∧x0 < 100 then some (itoaB x0.toNat) else none
theorem GL {w:World} {A:Nat→Prop} (hA:∀ k,A k→k < w.heap.size) {x0:Int} (rx0:inI64 x0) {x1:Int} (rx1:inI64 x1) {r:ByteArray} (hm:DI x0 x1=some r) :
    Fn Tryz.prog 142 [.int .i64 x0,.int .i64 x1] w fun v w'=>Ext w w'∧Vb w' (upA A w w') v r:=by
  obtain ⟨⟨rfl,h0,h1⟩,rfl⟩:=CC hm
  refine AD Tryz.func142 rfl Tryz.ntmps142 rfl ?_
  repeat (first|refine An ?_|refine Ah rfl ?_|refine Ae rfl ?_)
  refine Al rfl rfl (o_z ?_)
  repeat (first|refine An ?_|refine Ah rfl ?_|refine Ae rfl ?_)
  refine Aj rfl rfl (Ga rfl rfl rfl (fun _=>?_) fun h=>absurd rfl h)
  refine o_z ?_
  repeat (first|refine An ?_|refine Ah rfl ?_|refine Ae rfl ?_)
  refine Aj rfl rfl (Kj rfl rfl rfl (fun _=>?_) fun h=>absurd h0 h)
  refine Aj rfl rfl ?_
  refine Am rfl rfl ?_
  refine Aj rfl rfl ?_
  refine Am rfl rfl ?_
  refine EB rfl rfl rfl (fun _=>?_) fun h=>absurd h1 h
  refine Bv rfl rfl rfl ?_
  refine o_z ?_
  repeat (first|refine An ?_|refine Ah rfl ?_|refine Ae rfl ?_)
  refine Aj rfl rfl ?_
  refine CH (R:=fun v w'=>Ext w w'∧Vb w' (upA A w w') v (itoaB x0.toNat)) rfl rfl (Hz hA rx0 (if_pos ⟨h0,h1⟩)) fun v w' ⟨hE,hv⟩=>?_
  refine Al rfl rfl (o_z ?_)
  repeat (first|refine An ?_|refine Ah rfl ?_|refine Ae rfl ?_)
  exact ret1v rfl (Au rfl) ⟨hE,hv⟩
noncomputable def DC (x0:Int):Option ByteArray :=
  bnd (DI x0 10) fun q2=>some q2
theorem HD {w:World} {A:Nat→Prop} (hA:∀ k,A k→k < w.heap.size) {x0:Int} (rx0:inI64 x0) {r:ByteArray} (hm:DC x0=some r) :
    Fn Tryz.prog 109 [(.int .i64 x0)] w fun v w'=>Ext w w'∧Vb w' (upA A w w') v r:=by
 obtain ⟨O,hB,a0⟩:=enter hA
 refine AD Tryz.func109 rfl Tryz.ntmps109 rfl ?_
 unfold DC at hm
 refine Ab (Aa (Al rfl rfl (o_z ?_)))
 refine Ab (Aa (Aj rfl rfl ?_))
 obtain ⟨q2,e3,hm⟩:=bs hm
 refine AF (O:=O) (A:=All w) (R:=fun w' F v=>Vb w' F v q2) (GL (fun _ h=>h) rx0 (show inI64 (10) from by decide) e3) rfl rfl fun v8 w4 O5 S6 h7=>?_
 obtain ⟨rfl,z9⟩:=h7.str
 refine Al rfl rfl (o_z ?_)
 refine AB ?_
 obtain rfl:=sm hm
 replace hB:=hB.st S6
 exact ret1v rfl (Au rfl) ⟨hB.ext,(vStr z9)⟩
noncomputable def DJ (x0:Int):Option ByteArray :=
  bnd (DC x0) fun q2=>some q2
theorem Ig {w:World} {A:Nat→Prop} (hA:∀ k,A k→k < w.heap.size) {x0:Int} (rx0:inI64 x0) {r:ByteArray} (hm:DJ x0=some r) :
    Fn Tryz.prog 54 [(.int .i64 x0)] w fun v w'=>Ext w w'∧Vb w' (upA A w w') v r:=by
 obtain ⟨O,hB,a0⟩:=enter hA
 refine AD Tryz.func54 rfl Tryz.ntmps54 rfl ?_
 unfold DJ at hm
 refine Ab (Aa (Al rfl rfl (o_z ?_)))
 refine Ab (Aa (Aj rfl rfl ?_))
 obtain ⟨q2,e3,hm⟩:=bs hm
 refine AF (O:=O) (A:=All w) (R:=fun w' F v=>Vb w' F v q2) (HD (fun _ h=>h) rx0 e3) rfl rfl fun v8 w4 O5 S6 h7=>?_
 obtain ⟨rfl,z9⟩:=h7.str
 refine Al rfl rfl (o_z ?_)
 refine AB ?_
 obtain rfl:=sm hm
 replace hB:=hB.st S6
 exact ret1v rfl (Au rfl) ⟨hB.ext,(vStr z9)⟩
end
section
open Go.Shelf
def Tryz.laysS_f101_ren:Go.Shelf.Ren:=⟨fun|6=>101|15=>139|14=>138|28=>169|29=>170|20=>161|21=>162|22=>163|23=>164|24=>165|25=>166|26=>167|27=>168|46=>192|47=>193|48=>194|49=>195|50=>196|57=>213|n=>n,fun|22=>23|24=>78|25=>170|3=>3|39=>224|0=>0|53=>258|55=>239|4=>4|46=>252|45=>251|50=>48|5=>5|9=>9|66=>280|70=>283|76=>296|77=>297|n=>n,fun|n=>n⟩
theorem Tryz.laysS_f101:Go.Proofs.SlLaysF0.n6 Tryz.prog Tryz.laysS_f101_ren:={
  mixed:=by kernel_rfl
  f6:=⟨Tryz.f101.name,by decide,Tryz.func101.trans (congrArg some (by kernel_rfl))⟩
  f14:=⟨Tryz.f138.name,by decide,Tryz.func138.trans (congrArg some (by kernel_rfl))⟩
  f15:=Tryz.func139.trans (congrArg some (by kernel_rfl))
  f20:=⟨Tryz.f161.name,by decide,Tryz.func161.trans (congrArg some (by kernel_rfl))⟩
  f21:=⟨Tryz.f162.name,by decide,Tryz.func162.trans (congrArg some (by kernel_rfl))⟩
  f22:=⟨Tryz.f163.name,by decide,Tryz.func163.trans (congrArg some (by kernel_rfl))⟩
  f23:=⟨Tryz.f164.name,by decide,Tryz.func164.trans (congrArg some (by kernel_rfl))⟩
  f24:=⟨Tryz.f165.name,by decide,Tryz.func165.trans (congrArg some (by kernel_rfl))⟩
  f25:=⟨Tryz.f166.name,by decide,Tryz.func166.trans (congrArg some (by kernel_rfl))⟩
  f26:=⟨Tryz.f167.name,by decide,Tryz.func167.trans (congrArg some (by kernel_rfl))⟩
  f27:=⟨Tryz.f168.name,by decide,Tryz.func168.trans (congrArg some (by kernel_rfl))⟩
  f28:=Tryz.func169.trans (congrArg some (by kernel_rfl))
  f29:=Tryz.func170.trans (congrArg some (by kernel_rfl))
  f46:=⟨Tryz.f192.name,by decide,Tryz.func192.trans (congrArg some (by kernel_rfl))⟩
  f47:=Tryz.func193.trans (congrArg some (by kernel_rfl))
  f48:=Tryz.func194.trans (congrArg some (by kernel_rfl))
  f49:=⟨Tryz.f195.name,by decide,Tryz.func195.trans (congrArg some (by kernel_rfl))⟩
  f50:=⟨Tryz.f196.name,by decide,Tryz.func196.trans (congrArg some (by kernel_rfl))⟩
  f57:=⟨Tryz.f213.name,by decide,Tryz.func213.trans (congrArg some (by kernel_rfl))⟩
  t0:=Tryz.underlying0
  a0:=Tryz.isAgg0
  z0:=Tryz.sizeOf0
  v0:=Tryz.zeroValue0
  t3:=Tryz.underlying3
  a3:=Tryz.isAgg3
  z3:=Tryz.sizeOf3
  v3:=Tryz.zeroValue3
  t4:=Tryz.underlying4
  a4:=Tryz.isAgg4
  z4:=Tryz.sizeOf4
  v4:=Tryz.zeroValue4
  t5:=Tryz.underlying5
  a5:=Tryz.isAgg5
  z5:=Tryz.sizeOf5
  v5:=Tryz.zeroValue5
  t9:=Tryz.underlying9
  a9:=Tryz.isAgg9
  z9:=Tryz.sizeOf9
  v9:=Tryz.zeroValue9
  t22:=Tryz.underlying23
  a22:=Tryz.isAgg23
  z22:=Tryz.sizeOf23
  v22:=Tryz.zeroValue23
  t25:=Tryz.underlying170
  a25:=Tryz.isAgg170
  z25:=Tryz.sizeOf170
  v25:=Tryz.zeroValue170
  t39:=Tryz.underlying224
  a39:=Tryz.isAgg224
  z39:=Tryz.sizeOf224
  v39:=Tryz.zeroValue224
  t45:=Tryz.underlying251
  a45:=Tryz.isAgg251
  z45:=Tryz.sizeOf251
  v45:=Tryz.zeroValue251
  t46:=Tryz.underlying252
  a46:=Tryz.isAgg252
  z46:=Tryz.sizeOf252
  v46:=Tryz.zeroValue252
  t50:=Tryz.underlying48
  a50:=Tryz.isAgg48
  z50:=Tryz.sizeOf48
  v50:=Tryz.zeroValue48
  t53:=Tryz.underlying258
  a53:=Tryz.isAgg258
  z53:=Tryz.sizeOf258
  v53:=Tryz.zeroValue258
  t55:=Tryz.underlying239
  a55:=Tryz.isAgg239
  z55:=Tryz.sizeOf239
  v55:=Tryz.zeroValue239
  t66:=Tryz.underlying280
  a66:=Tryz.isAgg280
  z66:=Tryz.sizeOf280
  v66:=Tryz.zeroValue280
  t70:=Tryz.underlying283
  a70:=Tryz.isAgg283
  z70:=Tryz.sizeOf283
  v70:=Tryz.zeroValue283
  t76:=Tryz.underlying296
  a76:=Tryz.isAgg296
  z76:=Tryz.sizeOf296
  v76:=Tryz.zeroValue296
  t77:=Tryz.underlying297
  a77:=Tryz.isAgg297
  z77:=Tryz.sizeOf297
  v77:=Tryz.zeroValue297 }
open Go.RowKit Go.Lib Go.Sort in
theorem Tryz.sortF_eq {α:Type} [Inhabited α] (k:Nat) (aE:∀ w,(isAgg 78).run Tryz.prog w=.ok true w) (zE:∀ w,(Go.sizeOf 78).run Tryz.prog w=.ok k w) (enc:α→List Value) (hk:∀ x,(enc x).length=k) (h1:∀ x,∀ v∈enc x,v.oneCell'=true) (cf:α→α→Int) (hO:SWO (ltOf cf)) (g:Nat) (cb:Array Value) (blk off cap:Nat) (d:Array α) (w:World) (eg:∀ args w,(callFunc g args).run Tryz.prog w=.ok (.enter g args) w) (hcmp:CmpLays Tryz.prog g cb enc k cf blk off d.size w) (hH:HoldsK enc k w blk off d) (hblk:blk < w.heap.size) (hsz:d.size < 4611686018427387904) :
    Calls Tryz.prog 101 #[.slice (some ⟨blk,off,none⟩) d.size cap,.func (.func g) #[] cb] w fun e w' =>
      e=.returned (.tuple #[])∧∃ n os,w'=sortWorldK enc k w blk off n (pdq (ltOf cf) d 0 d.size (Lib.bitLen d.size) true true) os:=AnyQ.slices_SortFunc_eq Tryz.laysS_f101 k aE zE enc hk h1 cf hO g cb blk off cap d w eg hcmp hH hblk hsz
open Go.RowKit Go.Lib Go.Sort in
theorem Tryz.sortF_none {α:Type} [Inhabited α] (p:Option Addr) (cap:Nat) (fv:Value) (w:World) :
    Calls Tryz.prog 101 #[.slice p 0 cap,fv] w fun e w'=>e=.returned (.tuple #[])∧w'=w:=AnyF.slices_SortFunc_none Tryz.laysS_f101 p cap fv w
end
section
open Go Go.RowKit Go.Lib Go.Sort
instance:Inhabited Fct:=⟨⟨0,0⟩⟩
def encF (x:Fct):List Value:=[.int .i64 x.var,.int .i64 x.val]
def cfF (x y:Fct):Int:=Lib.compareInt x.var y.var
theorem ltF (x y:Fct):ltOf cfF x y=decide (x.var < y.var):=by
  unfold ltOf cfF Lib.compareInt
  by_cases h:x.var < y.var
  · simp [h]
  · by_cases h2:y.var < x.var<;>simp [h,h2]
theorem swoF:SWO (ltOf cfF) where
  irrefl x:=by rw [ltF];simp
  trans x y z h1 h2:=by rw [ltF] at *;simp at *;omega
  ntrans x y z h1 h2:=by rw [ltF] at *;simp at *;omega
theorem compareI (a b:Int) (W:World):Calls Tryz.prog 103 #[.int .i64 a,.int .i64 b] W fun e w'=>e=.returned (.int .i64 (Lib.compareInt a b))∧w'=W:=by
  go_enter Tryz.func103,Tryz.ntmps103
  go_wp2
  · go_ret
    have h:a < b:=by assumption
    exact ⟨by simp [Lib.compareInt,h],rfl⟩
  · go_ret
    have h:b < a:=by assumption
    have h2:¬ a < b:=by omega
    exact ⟨by simp [Lib.compareInt,h,h2],rfl⟩
  · go_ret
    have h1:b≤a:=by assumption
    have h2:a≤b:=by assumption
    have h3:¬ a < b:=by omega
    have h4:¬ b < a:=by omega
    exact ⟨by simp [Lib.compareInt,h3,h4],rfl⟩
theorem closureF (x y:Fct) (W:World):Calls Tryz.prog 102 #[.agg #[.int .i64 x.var,.int .i64 x.val],.agg #[.int .i64 y.var,.int .i64 y.val]] W fun e w'=>e=.returned (.int .i64 (cfF x y))∧∃ q os',w'=grow (W.drewN q) os':=by
  have hcon:=fun W'=>compareI x.var y.var W'
  unfold cfF
  generalize Lib.compareInt x.var y.var=r at hcon ⊢
  go_enter Tryz.func102,Tryz.ntmps102
  go_wp2_with (go_at_call 103;refine (hcon _).mono ?_;rintro e w' ⟨rfl,rfl⟩)
  go_ret
  exact ⟨rfl,0,_,by rw [alloc_eq_grow,alloc_eq_grow,grow_grow];rfl⟩
theorem cmpLaysF (blk off size:Nat) (w:World):CmpLays Tryz.prog 102 #[] encF 2 cfF blk off size w:=fun _ _ _ _ x y=>closureF x y _
def AI (xs:List Fct):List Fct:=(pdq (ltOf cfF) xs.toArray 0 xs.length (Lib.bitLen xs.length) true true).toList
theorem Mp (xs:List Fct):PermIn 0 xs.toArray.size xs.toArray (AI xs).toArray∧SortedIn (ltOf cfF) 0 xs.toArray.size (AI xs).toArray:=by
  have:=pdq_sorts (ltOf cfF) swoF xs.toArray 0 xs.toArray.size (Lib.bitLen xs.length) true true (Nat.zero_le _) (Nat.le_refl _) (Or.inl rfl)
  simpa [AI] using this
theorem Ja (xs:List Fct):(AI xs).Perm xs:=by
  obtain ⟨⟨hsz,_,hperm⟩,_⟩:=Mp xs
  have e1:(AI xs).toArray.extract 0 xs.toArray.size=(AI xs).toArray:=by rw [← hsz];exact Array.extract_size
  rw [e1,Array.extract_size] at hperm
  simpa using hperm
theorem CF (xs:List Fct):(AI xs).length=xs.length:=(Ja xs).length_eq
theorem Mg (xs:List Fct):(AI xs).Pairwise fun x y=>x.var≤y.var:=by
  obtain ⟨_,hs⟩:=Mp xs
  have hl:=CF xs
  rw [List.pairwise_iff_getElem]
  intro i j hi hj hij
  have:=hs i j (Nat.zero_le _) hij (by simp;omega)
  rw [getElem!_pos _ j (by simpa using hj),getElem!_pos _ i (by simpa using hi),ltF] at this
  simpa using this
theorem flatF:∀ (xs:List Fct),(flatK encF 2 xs.toArray).toList=xs.flatMap encF:=fun xs=>by
  apply List.ext_getElem?
  intro t
  have key:∀ (l:List Fct) (t:Nat),(l.flatMap encF)[t]?=(l[t / 2]?).bind fun x=>(encF x)[t % 2]?:=by
    intro l
    induction l with
    | nil=>intro t;simp
    | cons x l ih =>
      intro t
      rw [List.flatMap_cons]
      match t with
      | 0=>rfl
      | 1=>rfl
      | t + 2 =>
        rw [List.getElem?_append_right (by simp [encF]),show t + 2 - (encF x).length=t from by simp [encF],ih]
        rw [show (t + 2) / 2=t / 2 + 1 from by omega,show (t + 2) % 2=t % 2 from by omega]
        simp
  rw [key]
  by_cases ht:t < xs.length * 2
  · have h1:t / 2 < xs.length:=by omega
    have hsz:t < (flatK encF 2 xs.toArray).size:=by simpa using ht
    rw [Array.getElem?_toList,Array.getElem?_eq_getElem hsz,List.getElem?_eq_getElem h1,Option.bind_some]
    have:=get_flatK encF 2 xs.toArray t (by simpa using ht)
    rw [getElem!_pos (flatK encF 2 xs.toArray) t hsz,getElem!_pos xs.toArray (t / 2) (by simpa using h1)] at this
    rw [this]
    have h2:t % 2 < (encF xs[t / 2]).length:=by simp [encF];omega
    rw [List.getElem?_eq_getElem h2,List.getElem_toArray,getElem!_pos (encF xs[t / 2]) (t % 2) h2]
  · have h1:(flatK encF 2 xs.toArray).size≤t:=by rw [size_flatK];simpa using (by omega:xs.length * 2≤t)
    have h2:xs[t / 2]?=none:=List.getElem?_eq_none (by omega)
    rw [Array.getElem?_toList,Array.getElem?_eq_none h1,h2]
    rfl
theorem KA {w:World} {F:Nat→Prop}:∀ {xs:List Fct} {cells:List Value},Chunks w F cells xs→cells=xs.flatMap encF∧∀ x∈xs,inI64 x.var∧inI64 x.val
  | [],_,h=>⟨h,fun _ hx=>by simp at hx⟩
  | x :: xs,cells,⟨cs,rest,he,hr,hc⟩=>by
    obtain ⟨h1,h2⟩:=KA hc
    obtain ⟨h3,h4⟩:=hr
    refine ⟨by rw [he,h3,h1];rfl,fun y hy=>?_⟩
    rcases List.mem_cons.1 hy with rfl|hy
    · exact h4
    · exact h2 y hy
theorem KB {w:World} {F:Nat→Prop}:∀ {xs:List Fct},(∀ x∈xs,inI64 x.var∧inI64 x.val)→Chunks w F (xs.flatMap encF) xs
  | [],_=>rfl
  | x :: xs,h=>⟨encF x,xs.flatMap encF,rfl,⟨rfl,h x (by simp)⟩,KB fun y hy=>h y (by simp [hy])⟩
theorem Fb (xs:List Fct):(xs.flatMap encF).length=xs.length * 2:=by rw [← flatF,Array.length_toList,size_flatK];simp
theorem GC {i:Nat} {w:World} {O:Lab} {v:Value} {xs:List Fct} (hR:Rw i w O 78 v xs) (hl:xs.length < 4611686018427387904) :
    Fn Tryz.prog 101 [v,.func (.func 102) #[] #[]] w fun _ w'=>∃ O',St (eT i) w O w' O'∧Rw i w' O' 78 v (AI xs):=by
  intro d
  rcases Nat.eq_zero_or_pos xs.length with h0|h0
  · have hx:xs=[]:=List.eq_nil_of_length_eq_zero h0
    subst hx
    obtain ⟨p,c,rfl⟩:=hR.form
    have hs:AI []=[]:=List.eq_nil_of_length_eq_zero (CF [])
    exact (Tryz.sortF_none (α:=Fct) p c _ (dr w d)).mono fun e w' ⟨he,hw⟩=>⟨_,w,d,he,hw,O,St.refl _ _ _,by rw [hs];exact hR⟩
  · obtain ⟨g,cap,cells,sp,rfl,hg,hFg,hb,hc,hlen,hnc,hcm,htot⟩:=hR.1.open h0
    obtain ⟨rfl,hin⟩:=KA hc
    have hfl:=flatF xs
    have hH:HoldsK encF 2 (dr w d) g 0 xs.toArray:=fun j hj=>by
      have hj':j < xs.length * 2:=by simpa using hj
      refine ⟨?_,by rw [Nat.zero_add];exact hb.frozen j⟩
      rw [Nat.zero_add]
      refine hb.cell ?_
      rw [List.getElem?_append_left (by rw [Fb];exact hj'),← hfl,Array.getElem?_toList,Array.getElem?_eq_getElem hj,getElem!_pos _ j hj]
      rfl
    have aE:∀ w,(isAgg 78).run Tryz.prog w=.ok true w:=fun w=>FY w
    have zE:∀ w,(Go.sizeOf 78).run Tryz.prog w=.ok 2 w:=fun w=>Dk w
    have eg:∀ args w,(callFunc 102 args).run Tryz.prog w=.ok (.enter 102 args) w:=enters_of Tryz.func102 (by kernel_rfl) rfl
    have hcall:=Tryz.sortF_eq 2 aE zE encF (fun _=>rfl) (fun x v hv=>by simp [encF] at hv;rcases hv with rfl|rfl<;>rfl) cfF swoF 102 #[] g 0 cap xs.toArray (dr w d) eg (cmpLaysF g 0 _ _) hH hb.lt (by simpa using hl)
    have e1:xs.toArray.size=xs.length:=by simp
    rw [e1] at hcall
    refine hcall.mono fun e w' ⟨he,n,os,hw⟩=>⟨_,w',w'.drawn,he,rfl,upO O w.heap.size (fun _=>0),?_,?_⟩
    · subst hw
      refine ⟨rfl,rfl,rfl,?_,fun k hk hne=>⟨?_,El hk⟩⟩
      · show w.heap.size≤((w.heap.modify g _) ++ os).size
        simp
      · have hkg:g≠k:=fun e=>hne (by rw [← e];exact hR.2.1 g rfl)
        show ((w.heap.modify g _) ++ os)[k]?=_
        rw [Array.getElem?_append_left (by simpa using hk),Array.getElem?_modify,if_neg hkg]
    · have hpd:pdq (ltOf cfF) xs.toArray 0 xs.length (Lib.bitLen xs.length) true true=(AI xs).toArray:=by simp [AI]
      rw [hpd] at hw
      have hsl:=CF xs
      have hf2:=flatF (AI xs)
      have hblk:Blk w' g 78 ((AI xs).flatMap encF ++ sp):=by
        subst hw
        unfold Blk at hb ⊢
        have hsz:g < w.heap.size:=Blk.lt hb
        show ((w.heap.modify g _) ++ os)[g]?=_
        rw [Array.getElem?_append_left (by simpa using hsz),Array.getElem?_modify,if_pos rfl,hb]
        simp only [Option.map_some,Go.Sort.onCells]
        congr 2
        apply Array.ext
        · simp only [Go.Sort.putCells,Array.size_mapIdx,List.size_toArray,List.length_append,Fb,hsl]
        · intro i h1 h2
          simp only [Go.Sort.putCells,Array.getElem_mapIdx,Nat.zero_add,Nat.sub_zero,Nat.zero_le,true_and]
          have e2:(flatK encF 2 (AI xs).toArray).size=xs.length * 2:=by rw [size_flatK];simp [hsl]
          by_cases hi:i < xs.length * 2
          · rw [if_pos (by rw [e2];exact hi)]
            simp only [List.getElem_toArray]
            rw [List.getElem_append_left (by rw [Fb,hsl];exact hi)]
            rw [getElem!_pos _ _ (by rw [e2];exact hi)]
            have:=congrArg (·[i]?) hf2
            simp only [Array.getElem?_toList] at this
            rw [Array.getElem?_eq_getElem (by rw [e2];exact hi),List.getElem?_eq_getElem (by rw [Fb,hsl];exact hi)] at this
            exact Option.some.inj this
          · rw [if_neg (by rw [e2];exact hi)]
            simp only [List.getElem_toArray]
            rw [List.getElem_append_right (by rw [Fb];omega),List.getElem_append_right (by rw [Fb,hsl];omega)]
            simp only [Fb,hsl]
      have hS:∀ k,Fr 0 w O k→Fr 0 w' (upO O w.heap.size fun _=>0) k:=fun k hk=>⟨by subst hw;show k < ((w.heap.modify g _) ++ os).size;have:=hk.1;simp;omega,(El hk.1).trans hk.2⟩
      have:=Own.close (w:=w') (base:=0) (F:=Fr 0 w O) (cap:=cap) (Nat.zero_le _) hFg hblk (KB (F:=Fr 0 w O) (w:=w') fun x hx=>hin x ((Ja xs).mem_iff.1 hx)) (by rw [hsl];exact hnc) hcm (by rw [List.length_append,Fb] at htot ⊢;rw [hsl];exact htot)
      rw [hsl] at this
      exact this.rw hS (fun g' hg'=>by
        have:g=g':=by simpa [Value.ownBlock] using hg'
        subst this
        exact (El hb.lt).trans (hR.2.1 g rfl)) hR.2.2
end
end Go.Proofs.YtjohlgjklmagnaaGreatDoor
